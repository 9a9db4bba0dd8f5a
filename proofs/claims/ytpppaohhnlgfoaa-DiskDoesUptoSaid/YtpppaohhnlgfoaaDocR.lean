/-
  The document's disks: written.
-/
import Derived.Test.YtpppaohhnlgfoaaDocQ
namespace Go.Sl
theorem setD_get {ds : List Dk} {d : Nat} {g : Dk → Dk} {i : Nat} {x : Dk} (h : ds[i]? = some x) : (setD ds d g)[i]? = some (if x.d = d then g x else x) := by
  rw [setD, List.getElem?_map, h]; rfl
theorem setD_inv {ds : List Dk} {d : Nat} {g : Dk → Dk} {i : Nat} {z : Dk} (h : (setD ds d g)[i]? = some z) : ∃ x, ds[i]? = some x ∧ z = if x.d = d then g x else x := by
  rw [setD, List.getElem?_map] at h
  cases hq : ds[i]? with
  | none => rw [hq] at h; cases h
  | some x => rw [hq] at h; exact ⟨x, rfl, (Option.some.inj h).symm⟩
end Go.Sl
namespace Go.Proofs.Ytpppaohhnlgfoaa
open Go.Sl
set_option maxRecDepth 10000
/-- Disks of which only what is seen turns. -/
theorem dd_now {J : Chunk} {ds : List Dk} {ys : List Dd} (h : All2 (DdOk J) ds ys) (d : Nat) (g : Dk → Dk) (hg : ∀ x, (g x).failed = x.failed ∧ (g x).pl = x.pl) : All2 (DdOk J) (setD ds d g) ys := by
  refine ⟨by rw [setD, List.length_map]; exact h.1, fun i z y hz hy => ?_⟩
  obtain ⟨x, hx, rfl⟩ := setD_inv hz
  have := h.2 i x y hx hy
  split
  · obtain ⟨h1, h2⟩ := hg x
    unfold DdOk at *; rw [h1, h2]; exact this
  · exact this
theorem dw_set {J : Chunk} {ds : List Dk} {ws : List Wt} {us : List Dw} (h : All2 (DwOk J ds) ws us) (d : Nat) (g : Dk → Dk) (hg : ∀ x, (g x).d = x.d) : All2 (DwOk J (setD ds d g)) ws us :=
  h.imp fun w u ⟨⟨x, h1, h2⟩, h3, h4⟩ => ⟨⟨_, setD_get h1, by split; rw [hg]; exact h2; exact h2⟩, h3, h4⟩

theorem qwrite_ret (q : Nat) (R : Rk) (C : Chunk) (hC : RfC q R C) (hok : DkOk R.ds) (n : Nat) (x : Dk) (hx : R.ds[n]? = some x) (hmod : x.pl.length % 128 = 0) (hws : R.ws.length + 8192 ≤ 244335861110) (hwr : R.pw.wr ≤ 1000000000000000000) (hlf : R.pw.left ≤ 9223372036854775807)
    (at_ : Int) (ha : -9223372036854775808 ≤ at_ ∧ at_ ≤ 9223372036854775807) (v : Value) (b : List UInt8) (D : Chunk) (hD : Rd D 1 v b.length (byt b)) (hcap : ∃ ad c, v = .slice ad b.length c ∧ b.length ≤ c) (w0 : World) (H : Hp w0 [C, D]) :
    Ret Try.prog 44 #[ptr q, .int .i64 n, .int .i64 at_, v] w0 fun u w' => ∃ C', u = .int .i64 (R.writeE x at_ b) ∧ RfC q (R.write x at_ b) C' ∧ Trs w0 w' [C, D] [C', D] := by
  obtain ⟨vd, vw, Cd, Cw, J, ys, us, h1, h2, h3, h4, rfl⟩ := hC
  obtain ⟨adb, cb, rfl, hcb⟩ := hcap
  have S := rf_open (St.begin H)
  obtain ⟨y, hy, hyo⟩ := h3.at hx
  have hxm : x ∈ R.ds := List.mem_of_getElem? hx
  have hxl := hok.2 x hxm
  have hbl := hD.2.2.1
  simp only [maxLen] at hbl
  obtain ⟨y1, y2, y3, y4⟩ := hyo
  obtain ⟨A, B, rfl, hAl⟩ := get_split hy
  have S := rf_out S
  obtain ⟨add, cd, rfl⟩ := h1.slice
  obtain ⟨adp, cp, hvp⟩ := y2.slice
  obtain ⟨gd, rfl⟩ := h1.addr (by simp; omega)
  obtain ⟨s, ws, ds⟩ := R
  simp only at h3 h4 hok hx hxm hxl S hws hwr hlf
  have hnlt : n < (A ++ y :: B).length := by simp; omega
  have hpt : ((A ++ y :: B).map fun y => ptr y.b)[n]? = some (ptr y.b) := by rw [List.getElem?_map, hy]; rfl
  have hdd1 : dd1 y = [(y.b, cel [.slice adp y.vs.length cp, .bool x.failed] 80)] := by show [(y.b, cel [y.vp, .bool y.f] _)] = _; rw [hvp, y1]
  obtain ⟨C0, hC0⟩ : ∃ C0, C0 = (RfL q s (.slice (some ⟨gd, 0, none⟩) (A ++ y :: B).length cd) vw Cd Cw J (A ++ y :: B)).flatten := ⟨_, rfl⟩
  rw [← hC0] at S ⊢
  obtain ⟨fin, hfin⟩ : ∃ fin, fin = wrS x.d x.pl.length at_ b s x.failed x.now ws := ⟨_, rfl⟩
  -- what is to be shown at the end
  have done : ∀ {w' : World} {s' : Pw} {vw' : Value} {Cw' J' : Chunk} {us' : List Dw} {nw' : List UInt8} {ws' : List Wt} {e : Int}, fin = (s', nw', ws', e) → Buf Cw' 84 3 vw' us'.length (us'.flatMap Dw.lay) → All2 (DdOk J') ds (A ++ y :: B) → All2 (DwOk J' ds) ws' us' →
      St w0 [C0, D] w' ([(q, qcl s' (.slice (some ⟨gd, 0, none⟩) (A ++ y :: B).length cd) vw')] :: Cd :: Cw' :: J' :: dd1 y :: y.C :: (dch (A ++ B) ++ [D])) →
      ∃ C', Value.int .i64 e = .int .i64 (Rk.writeE ⟨s, ws, ds⟩ x at_ b) ∧ RfC q (Rk.write ⟨s, ws, ds⟩ x at_ b) C' ∧ Trs w0 w' [C0, D] [C', D] := by
    intro w' s' vw' Cw' J' us' nw' ws' e hf hB hA2 hW2 S
    have S := rf_close (Ls := [D]) (rf_in S)
    rw [hf] at hfin
    refine ⟨_, by rw [Rk.writeE, ← hfin], ⟨_, vw', Cd, Cw', J', A ++ y :: B, us', h1, hB, ?_, ?_, rfl⟩, ?_⟩
    · rw [Rk.write, ← hfin]; exact dd_now hA2 _ _ fun _ => ⟨rfl, rfl⟩
    · rw [Rk.write, ← hfin]; exact dw_set hW2 _ _ fun _ => rfl
    · rw [Rk.write, ← hfin]; exact S.tr
  refine enter4 112 Try.func44 rfl rfl (by decide) ?_; intro a E
  refine wp_seq_k ?_; intro K hK
  refine region_list ?_
  refine list_pure E rfl rfl (by decide) (rn_assign E rfl rfl) ?_; clear E a; intro a E
  refine wpList_nil ?_
  refine then_k hK ?_; clear hK; clear K
  refine wp_seq_k ?_; intro K hK
  refine region_list ?_
  refine list_pure E rfl rfl (by decide) (rn_move E rfl rfl) ?_; clear E a; intro a E
  refine list_pure E rfl rfl (by decide) (rn_move E rfl rfl) ?_; clear E a; intro a E
  refine list_call E rfl rfl (by decide) rfl Try.func45 rfl (by kernel_rfl) rfl (qdown_ret q s _ _ Cd _ h1 n y hy _ (S.hp.sel (sel_cons (by repeat (first | exact pk1 | apply pick_tail)) (sel_cons (by repeat (first | exact pk1 | apply pick_tail)) (sel_cons (by repeat (first | exact pk1 | apply pick_tail)) (sel_nil _)))))) ?_
  rintro v15 w ⟨rfl, hT⟩; clear E a; intro a E
  have S := (S.call3 (sel_cons (by repeat (first | exact pk1 | apply pick_tail)) (sel_cons (by repeat (first | exact pk1 | apply pick_tail)) (sel_cons (by repeat (first | exact pk1 | apply pick_tail)) (sel_nil _)))) hT).front6 (A := [(q, _)]) (by repeat (first | exact pk1 | apply pick_tail)) (B := Cd) (by repeat (first | exact pk1 | apply pick_tail)) (C := Cw) (by repeat (first | exact pk1 | apply pick_tail)) (D := J) (by repeat (first | exact pk1 | apply pick_tail)) (F := dd1 y) (by repeat (first | exact pk1 | apply pick_tail)) (G := y.C) (by repeat (first | exact pk1 | apply pick_tail)); rw [y1] at E
  refine list_pure E rfl rfl (by decide) (rn_assign E rfl rfl) ?_; clear E a; intro a E
  refine wpList_nil ?_
  refine then_k hK ?_; clear hK; clear K
  refine wp_seq_k ?_; intro K hK
  refine wp_seq_k ?_; intro K hK
  refine region_list ?_
  refine list_pure E rfl rfl (by decide) (rn_move E rfl rfl) ?_; clear E a; intro a E
  refine list_pure E rfl rfl (by decide) (by first | exact rn_neq E rfl rfl rfl | exact rn_neq_ptr_nil E rfl rfl rfl rfl | exact rn_neq_bool E rfl rfl rfl rfl | exact rn_neq_string E rfl rfl rfl) ?_; clear E a; intro a E
  refine wpList_nil ?_
  refine then_k hK ?_; clear hK; clear K
  refine if_bool E rfl (fun hb => ?_) (fun hb => ?_)
  · replace hb := Nrm.nrm hb
    refine wp_seq_k ?_; intro K hK
    refine region_list ?_
    refine list_pure E rfl rfl (by decide) (rn_move E rfl rfl) ?_; clear E a; intro a E
    refine list_pure E rfl rfl (by decide) (rn_assign E rfl rfl) ?_; clear E a; intro a E
    refine wpList_nil ?_
    refine then_k hK ?_; clear hK; clear K
    refine wp_ret ?_
    refine then_ret ?_; clear hK; clear K
    refine ret1 E rfl rfl ?_
    have hfe : fin = (s, x.now, ws, flE s x.failed) := by
      rw [hfin]; unfold wrS flE
      by_cases hs : s.off = true
      · rw [if_pos hs, if_pos hs]
      · by_cases hf : x.failed = true
        · rw [if_neg hs, if_pos hf, if_neg hs, if_pos hf]
        · unfold flE at hb; rw [if_neg hs, if_neg hf] at hb; exact absurd rfl hb
    obtain ⟨C', e1, e2, e3⟩ := done hfe h2 h3 h4 S
    exact ⟨_, rfl, C', e1, e2, e3⟩
  · replace hb := Nrm.nrm hb
    refine wp_skip ?_
    refine then_k hK ?_; clear hK; clear K
    refine wp_seq_k ?_; intro K hK
    have hs : s.off = false := by cases h : s.off; rfl; simp [flE, h] at hb
    have hf : x.failed = false := by cases h : x.failed; rfl; simp [flE, hs, h] at hb
    rw [hdd1] at S
    refine region_list ?_
    refine list_pure E rfl rfl (by decide) (rn_move E rfl rfl) ?_; clear E a; intro a E
    refine list_pure E rfl rfl (by decide) (rn_nilCheck E rfl rfl) ?_; clear E a; intro a E
    refine list_pure E rfl rfl (by decide) (by first | exact rn_fieldAddr0 (q := 0) E rfl rfl rfl | exact rn_fieldAddr (q := 0) E rfl rfl rfl) ?_; clear E a; intro a E
    refine list_pure E rfl rfl (by decide) (by first | exact rn_load E rfl rfl rfl (S.get (by repeat (first | exact pk1 | apply pick_tail))) rfl | exact rn_loadc E rfl rfl rfl (by assumption)) ?_; clear E a; intro a E
    refine list_pure E rfl rfl (by decide) (rn_move E rfl rfl) ?_; clear E a; intro a E
    refine list_pure E rfl rfl (by decide) (rn_indexAddr1 (i := n) E rfl rfl rfl rfl rfl rfl (by omega)) ?_; clear E a; intro a E
    refine list_pure E rfl rfl (by decide) (rn_loadc E rfl rfl rfl (h1.rd.cells (S.stab.at (by repeat (first | exact mm1 | assumption | apply List.Mem.tail))) rfl n _ hpt)) ?_; clear E a; intro a E
    refine list_pure E rfl rfl (by decide) (rn_nilCheck E rfl rfl) ?_; clear E a; intro a E
    refine list_pure E rfl rfl (by decide) (by first | exact rn_fieldAddr0 (q := 0) E rfl rfl rfl | exact rn_fieldAddr (q := 0) E rfl rfl rfl) ?_; clear E a; intro a E
    refine list_pure E rfl rfl (by decide) (by first | exact rn_load E rfl rfl rfl (S.get (by repeat (first | exact pk1 | apply pick_tail))) rfl | exact rn_loadc E rfl rfl rfl (by assumption)) ?_; clear E a; intro a E
    refine list_pure E rfl rfl (by decide) (by first | exact rn_len E rfl rfl rfl | exact rn_len_str E rfl rfl rfl | exact rn_len_string E rfl rfl rfl) ?_; clear E a; intro a E
    refine list_pure E rfl rfl (by decide) (rn_assign E rfl rfl) ?_; clear E a; intro a E
    refine wpList_nil ?_
    refine then_k hK ?_; clear hK; clear K
    refine wp_seq_k ?_; intro K hK
    refine wp_seq_k ?_; intro K hK
    refine wp_join (fun (a : Act) (w' : World) => ∃ c : Bool, c = decide (¬ wrMay x.pl.length at_ b) ∧ St w0 [C0, D] w' ([(q, qcl s (.slice (some ⟨gd, 0, none⟩) (A ++ y :: B).length cd) vw)] :: Cd :: Cw :: J :: dd1 y :: y.C :: (dch (A ++ B) ++ [D])) ∧ Fr a 112 [(0, ptr q), (1, .int .i64 n), (2, .int .i64 at_), (3, .slice adb b.length cb), (51, .bool c)]) ?_ ?_
    · skip
      refine region_list ?_
      refine list_pure E rfl rfl (by decide) (rn_move E rfl rfl) ?_; clear E a; intro a E
      refine list_pure E rfl rfl (by decide) (by first | exact rn_len E rfl rfl rfl | exact rn_len_str E rfl rfl rfl | exact rn_len_string E rfl rfl rfl) ?_; clear E a; intro a E
      refine list_pure E rfl rfl (by decide) (rn_rem E rfl rfl rfl (by decide) (by first | exact wr_lit (y := 128) | exact rfl)) ?_; clear E a; intro a E
      refine list_pure E rfl rfl (by decide) (by first | exact rn_neq E rfl rfl rfl | exact rn_neq_ptr_nil E rfl rfl rfl rfl | exact rn_neq_bool E rfl rfl rfl rfl | exact rn_neq_string E rfl rfl rfl) ?_; clear E a; intro a E
      refine list_pure E rfl rfl (by decide) (rn_move E rfl rfl) ?_; clear E a; intro a E
      refine guard_split E (t := 34) rfl (fun hb34 => ?_) (fun hb34 => ?_)
      · have hb34n := hb34; replace hb34n := Nrm.nrm hb34n
        refine list_guard_no E rfl rfl rfl rfl hb34 rfl (by decide) ?_; clear E a; intro a E
        refine list_guard_no E rfl rfl rfl rfl hb34 rfl (by decide) ?_; clear E a; intro a E
        refine list_pure E rfl rfl (by decide) (rn_pick_yes' E rfl rfl hb34 rfl) ?_; clear E a; intro a E
        refine list_pure E rfl rfl (by decide) (rn_move E rfl rfl) ?_; clear E a; intro a E
        refine list_guard_no E rfl rfl rfl rfl rfl rfl (by decide) ?_; clear E a; intro a E
        refine list_guard_no E rfl rfl rfl rfl rfl rfl (by decide) ?_; clear E a; intro a E
        refine list_guard_no E rfl rfl rfl rfl rfl rfl (by decide) ?_; clear E a; intro a E
        refine list_pure E rfl rfl (by decide) (rn_pick_yes' E rfl rfl rfl rfl) ?_; clear E a; intro a E
        refine list_pure E rfl rfl (by decide) (rn_move E rfl rfl) ?_; clear E a; intro a E
        refine list_guard_no E rfl rfl rfl rfl rfl rfl (by decide) ?_; clear E a; intro a E
        refine list_guard_no E rfl rfl rfl rfl rfl rfl (by decide) ?_; clear E a; intro a E
        refine list_guard_no E rfl rfl rfl rfl rfl rfl (by decide) ?_; clear E a; intro a E
        refine list_guard_no E rfl rfl rfl rfl rfl rfl (by decide) ?_; clear E a; intro a E
        refine list_guard_no E rfl rfl rfl rfl rfl rfl (by decide) ?_; clear E a; intro a E
        refine list_guard_no E rfl rfl rfl rfl rfl rfl (by decide) ?_; clear E a; intro a E
        refine list_guard_no E rfl rfl rfl rfl rfl rfl (by decide) ?_; clear E a; intro a E
        refine list_pure E rfl rfl (by decide) (rn_pick_yes' E rfl rfl rfl rfl) ?_; clear E a; intro a E
        refine wpList_nil ?_
        refine joined_here ?_
        refine ⟨_, ?_, by rw [hdd1]; exact S, E.keep (keep_cons rfl (keep_cons rfl (keep_cons rfl (keep_cons rfl (keep_cons rfl keep_nil)))))⟩
        rw [Bool.eq_iff_iff]; simp only [decide_eq_true_eq, eq_self, true_iff]; unfold wrMay; rw [← y3, Nat.mul_div_cancel_left _ (by decide : 0 < 128)]; omega
      · have hb34n := hb34; replace hb34n := Nrm.nrm hb34n
        refine list_guard_yes E rfl rfl rfl rfl hb34 rfl (by decide) (rn_move E rfl rfl) ?_; clear E a; intro a E
        refine list_guard_yes E rfl rfl rfl rfl hb34 rfl (by decide) (rn_lss E rfl rfl rfl) ?_; clear E a; intro a E
        refine list_pure E rfl rfl (by decide) (rn_pick_no' E rfl rfl hb34 rfl) ?_; clear E a; intro a E
        refine list_pure E rfl rfl (by decide) (rn_move E rfl rfl) ?_; clear E a; intro a E
        refine guard_split E (t := 38) rfl (fun hb38 => ?_) (fun hb38 => ?_)
        · have hb38n := hb38; replace hb38n := Nrm.nrm hb38n
          refine list_guard_no E rfl rfl rfl rfl hb38 rfl (by decide) ?_; clear E a; intro a E
          refine list_guard_no E rfl rfl rfl rfl hb38 rfl (by decide) ?_; clear E a; intro a E
          refine list_guard_no E rfl rfl rfl rfl hb38 rfl (by decide) ?_; clear E a; intro a E
          refine list_pure E rfl rfl (by decide) (rn_pick_yes' E rfl rfl hb38 rfl) ?_; clear E a; intro a E
          refine list_pure E rfl rfl (by decide) (rn_move E rfl rfl) ?_; clear E a; intro a E
          refine list_guard_no E rfl rfl rfl rfl rfl rfl (by decide) ?_; clear E a; intro a E
          refine list_guard_no E rfl rfl rfl rfl rfl rfl (by decide) ?_; clear E a; intro a E
          refine list_guard_no E rfl rfl rfl rfl rfl rfl (by decide) ?_; clear E a; intro a E
          refine list_guard_no E rfl rfl rfl rfl rfl rfl (by decide) ?_; clear E a; intro a E
          refine list_guard_no E rfl rfl rfl rfl rfl rfl (by decide) ?_; clear E a; intro a E
          refine list_guard_no E rfl rfl rfl rfl rfl rfl (by decide) ?_; clear E a; intro a E
          refine list_guard_no E rfl rfl rfl rfl rfl rfl (by decide) ?_; clear E a; intro a E
          refine list_pure E rfl rfl (by decide) (rn_pick_yes' E rfl rfl rfl rfl) ?_; clear E a; intro a E
          refine wpList_nil ?_
          refine joined_here ?_
          refine ⟨_, ?_, by rw [hdd1]; exact S, E.keep (keep_cons rfl (keep_cons rfl (keep_cons rfl (keep_cons rfl (keep_cons rfl keep_nil)))))⟩
          rw [Bool.eq_iff_iff]; simp only [decide_eq_true_eq, eq_self, true_iff]; unfold wrMay; rw [← y3, Nat.mul_div_cancel_left _ (by decide : 0 < 128)]; omega
        · have hb38n := hb38; replace hb38n := Nrm.nrm hb38n
          refine list_guard_yes E rfl rfl rfl rfl hb38 rfl (by decide) (rn_move E rfl rfl) ?_; clear E a; intro a E
          refine list_guard_yes E rfl rfl rfl rfl hb38 rfl (by decide) (rn_move E rfl rfl) ?_; clear E a; intro a E
          refine list_guard_yes E rfl rfl rfl rfl hb38 rfl (by decide) (rn_gtr E rfl rfl rfl) ?_; clear E a; intro a E
          refine list_pure E rfl rfl (by decide) (rn_pick_no' E rfl rfl hb38 rfl) ?_; clear E a; intro a E
          refine list_pure E rfl rfl (by decide) (rn_move E rfl rfl) ?_; clear E a; intro a E
          refine guard_split E (t := 43) rfl (fun hb43 => ?_) (fun hb43 => ?_)
          · have hb43n := hb43; replace hb43n := Nrm.nrm hb43n
            refine list_guard_no E rfl rfl rfl rfl hb43 rfl (by decide) ?_; clear E a; intro a E
            refine list_guard_no E rfl rfl rfl rfl hb43 rfl (by decide) ?_; clear E a; intro a E
            refine list_guard_no E rfl rfl rfl rfl hb43 rfl (by decide) ?_; clear E a; intro a E
            refine list_guard_no E rfl rfl rfl rfl hb43 rfl (by decide) ?_; clear E a; intro a E
            refine list_guard_no E rfl rfl rfl rfl hb43 rfl (by decide) ?_; clear E a; intro a E
            refine list_guard_no E rfl rfl rfl rfl hb43 rfl (by decide) ?_; clear E a; intro a E
            refine list_guard_no E rfl rfl rfl rfl hb43 rfl (by decide) ?_; clear E a; intro a E
            refine list_pure E rfl rfl (by decide) (rn_pick_yes' E rfl rfl hb43 rfl) ?_; clear E a; intro a E
            refine wpList_nil ?_
            refine joined_here ?_
            refine ⟨_, ?_, by rw [hdd1]; exact S, E.keep (keep_cons rfl (keep_cons rfl (keep_cons rfl (keep_cons rfl (keep_cons rfl keep_nil)))))⟩
            rw [Bool.eq_iff_iff]; simp only [decide_eq_true_eq, eq_self, true_iff]; unfold wrMay; rw [← y3, Nat.mul_div_cancel_left _ (by decide : 0 < 128)]; omega
          · have hb43n := hb43; replace hb43n := Nrm.nrm hb43n
            refine list_guard_yes E rfl rfl rfl rfl hb43 rfl (by decide) (rn_move E rfl rfl) ?_; clear E a; intro a E
            refine list_guard_yes E rfl rfl rfl rfl hb43 rfl (by decide) (by first | exact rn_len E rfl rfl rfl | exact rn_len_str E rfl rfl rfl | exact rn_len_string E rfl rfl rfl) ?_; clear E a; intro a E
            refine list_guard_yes E rfl rfl rfl rfl hb43 rfl (by decide) (rn_quo E rfl rfl rfl (by decide) (by first | exact wq_lit (y := 128) (by omega) | exact wq_litu (y := 128) (by omega) | exact rfl)) ?_; clear E a; intro a E
            refine list_guard_yes E rfl rfl rfl rfl hb43 rfl (by decide) (rn_move E rfl rfl) ?_; clear E a; intro a E
            refine list_guard_yes E rfl rfl rfl rfl hb43 rfl (by decide) (rn_move E rfl rfl) ?_; clear E a; intro a E
            refine list_guard_yes E rfl rfl rfl rfl hb43 rfl (by decide) (rn_sub E rfl rfl rfl (w_in (by omega))) ?_; clear E a; intro a E
            refine list_guard_yes E rfl rfl rfl rfl hb43 rfl (by decide) (rn_gtr E rfl rfl rfl) ?_; clear E a; intro a E
            refine list_pure E rfl rfl (by decide) (rn_pick_no' E rfl rfl hb43 rfl) ?_; clear E a; intro a E
            refine wpList_nil ?_
            refine joined_here ?_
            refine ⟨_, ?_, by rw [hdd1]; exact S, E.keep (keep_cons rfl (keep_cons rfl (keep_cons rfl (keep_cons rfl (keep_cons rfl keep_nil)))))⟩
            rw [Bool.eq_iff_iff]; simp only [decide_eq_true_eq, eq_self, true_iff]; unfold wrMay; rw [← y3, Nat.mul_div_cancel_left _ (by decide : 0 < 128)]; omega
    · clear E S a; intro a w J; obtain ⟨c, hc, S, E⟩ := J
      refine then_k hK ?_; clear hK; clear K
      refine if_bool E rfl (fun hb => ?_) (fun hb => ?_)
      · replace hb := Nrm.nrm hb
        have hno : ¬ wrMay x.pl.length at_ b := (by rw [hb] at hc; exact of_decide_eq_true hc.symm)
        refine wp_seq_k ?_; intro K hK
        refine region_list ?_
        refine list_pure E rfl rfl (by decide) (rn_assign E rfl rfl) ?_; clear E a; intro a E
        refine wpList_nil ?_
        refine then_k hK ?_; clear hK; clear K
        refine wp_ret ?_
        refine then_ret ?_; clear hK; clear K
        refine ret1 E rfl rfl ?_
        have hfe : fin = (s, x.now, ws, 1) := by rw [hfin]; unfold wrS; rw [if_neg (by simp [hs]), if_neg (by simp [hf]), if_pos hno]
        obtain ⟨C', e1, e2, e3⟩ := done hfe h2 h3 h4 S
        exact ⟨_, rfl, C', e1, e2, e3⟩
      · replace hb := Nrm.nrm hb
        have hyes : wrMay x.pl.length at_ b := (by rw [hb] at hc; exact Decidable.not_not.1 (of_decide_eq_false hc.symm))
        refine wp_skip ?_
        refine then_k hK ?_; clear hK; clear K
        refine wp_seq_k ?_; intro K hK
        refine wp_seq_k ?_; intro K hK
        have hfe : fin = wrN x.d at_.toNat b (b.length / 128) 0 s x.now ws := by rw [hfin]; unfold wrS; rw [if_neg (by simp [hs]), if_neg (by simp [hf]), if_neg (fun q => q hyes)]
        obtain ⟨m1, m2, m3, m4⟩ := hyes
        rw [← y3, Nat.mul_div_cancel_left _ (by decide : 0 < 128)] at m3 m4
        obtain ⟨an, rfl⟩ : ∃ an : Nat, at_ = an := ⟨at_.toNat, by omega⟩
        rw [Int.toNat_natCast] at hfe
        obtain ⟨N, hN⟩ : ∃ N, N = b.length / 128 := ⟨_, rfl⟩
        rw [← hN] at hfe m4
        have hwl0 := h4.1
        refine region_list ?_
        refine list_pure E rfl rfl (by decide) (rn_assign E rfl rfl) ?_; clear E a; intro a E
        refine wpList_nil ?_
        refine then_k hK ?_; clear hK; clear K
        refine wp_block ?_
        refine wp_loop_ghost (fun (m : Nat) (a : Act) (w' : World) => ∃ (i : Nat) (s' : Pw) (nw' : List UInt8) (ws' : List Wt) (us' : List Dw) (vw' : Value) (Cw' J' : Chunk), m = N - i ∧ i ≤ N ∧ wrN x.d an b (N - i) i s' nw' ws' = fin ∧ ws'.length ≤ ws.length + i ∧ s'.wr ≤ s.wr + i ∧ s'.left ≤ 9223372036854775807 ∧ Buf Cw' 84 3 vw' us'.length (us'.flatMap Dw.lay) ∧ All2 (DdOk J') ds (A ++ y :: B) ∧ All2 (DwOk J' ds) ws' us' ∧
         St w0 [C0, D] w' ([(q, qcl s' (.slice (some ⟨gd, 0, none⟩) (A ++ y :: B).length cd) vw')] :: Cd :: Cw' :: J' :: dd1 y :: y.C :: (dch (A ++ B) ++ [D])) ∧ Fr a 112 [(0, ptr q), (1, .int .i64 n), (2, .int .i64 an), (3, .slice adb b.length cb), (11, .int .i64 i)]) (N - 0) ?_ ?_
        · exact ⟨0, s, x.now, ws, us, vw, Cw, J, rfl, by omega, hfe.symm, by omega, by omega, hlf, h2, h3, h4, S, E.keep (keep_cons rfl (keep_cons rfl (keep_cons rfl (keep_cons rfl (keep_cons rfl keep_nil)))))⟩
        clear E; clear a; (try clear S); rintro m a w ⟨i, s', nw', ws', us', vw', Cw', J', rfl, hi, hrest, hwl, hwr', hlf', h2', h3', h4', S, E⟩
        refine wp_seq_k ?_; intro K hK
        refine wp_seq_k ?_; intro K hK
        refine region_list ?_
        refine list_pure E rfl rfl (by decide) (rn_move E rfl rfl) ?_; clear E a; intro a E
        refine list_pure E rfl rfl (by decide) (rn_move E rfl rfl) ?_; clear E a; intro a E
        refine list_pure E rfl rfl (by decide) (by first | exact rn_len E rfl rfl rfl | exact rn_len_str E rfl rfl rfl | exact rn_len_string E rfl rfl rfl) ?_; clear E a; intro a E
        refine list_pure E rfl rfl (by decide) (rn_quo E rfl rfl rfl (by decide) (by first | exact wq_lit (y := 128) (by omega) | exact wq_litu (y := 128) (by omega) | exact rfl)) ?_; clear E a; intro a E
        rw [← hN] at E
        refine list_pure E rfl rfl (by decide) (rn_lss E rfl rfl rfl) ?_; clear E a; intro a E
        refine wpList_nil ?_
        refine then_k hK ?_; clear hK; clear K
        refine if_bool E rfl (fun hb => ?_) (fun hb => ?_)
        · replace hb := Nrm.nrm hb
          refine wp_skip ?_
          refine then_k hK ?_; clear hK; clear K
          refine wp_seq_k ?_; intro K hK
          refine wp_block ?_
          refine wp_seq_k ?_; intro K hK
          refine wp_seq_k ?_; intro K hK
          have hiN : i < N := by omega
          rw [show N - i = (N - i - 1) + 1 by omega, wrN] at hrest
          refine region_list ?_
          refine list_pure E rfl rfl (by decide) (rn_move E rfl rfl) ?_; clear E a; intro a E
          refine list_pure E rfl rfl (by decide) (rn_nilCheck E rfl rfl) ?_; clear E a; intro a E
          refine list_pure E rfl rfl (by decide) (by first | exact rn_fieldAddr0 (q := 2) E rfl rfl rfl | exact rn_fieldAddr (q := 2) E rfl rfl rfl) ?_; clear E a; intro a E
          refine list_pure E rfl rfl (by decide) (by first | exact rn_load E rfl rfl rfl (S.get (by repeat (first | exact pk1 | apply pick_tail))) rfl | exact rn_loadc E rfl rfl rfl (by assumption)) ?_; clear E a; intro a E
          refine list_pure E rfl rfl (by decide) (by first | exact rn_eql E rfl rfl rfl | exact rn_eql_ptr_nil E rfl rfl rfl rfl | exact rn_eql_bool E rfl rfl rfl rfl | exact rn_eql_string E rfl rfl rfl) ?_; clear E a; intro a E
          refine wpList_nil ?_
          refine then_k hK ?_; clear hK; clear K
          refine if_bool E rfl (fun hb => ?_) (fun hb => ?_)
          · replace hb := Nrm.nrm hb
            rw [if_pos hb] at hrest
            refine wp_seq_k ?_; intro K hK
            refine region_list ?_
            refine list_pure E rfl rfl (by decide) (rn_move E rfl rfl) ?_; clear E a; intro a E
            refine list_pure E rfl rfl (by decide) (rn_nilCheck E rfl rfl) ?_; clear E a; intro a E
            refine list_pure E rfl rfl (by decide) (by first | exact rn_fieldAddr0 (q := 3) E rfl rfl rfl | exact rn_fieldAddr (q := 3) E rfl rfl rfl) ?_; clear E a; intro a E
            refine list_wp rfl (wp_store1 E S rfl rfl rfl rfl rfl rfl (by repeat (first | exact pk1 | apply pick_tail)) (by first | exact Nat.le_of_ble_eq_true rfl | (simp; done) | (simp; omega)) ?_); clear E S a; intro a w E S; try dsimp only [List.set] at S
            refine wpList_nil ?_
            refine then_k hK ?_; clear hK; clear K
            refine wp_seq_k ?_; intro K hK
            refine region_list ?_
            refine list_pure E rfl rfl (by decide) (rn_move E rfl rfl) ?_; clear E a; intro a E
            refine list_pure E rfl rfl (by decide) (rn_nilCheck E rfl rfl) ?_; clear E a; intro a E
            refine list_pure E rfl rfl (by decide) (by first | exact rn_fieldAddr0 (q := 2) E rfl rfl rfl | exact rn_fieldAddr (q := 2) E rfl rfl rfl) ?_; clear E a; intro a E
            refine list_wp rfl (wp_store1 E S rfl rfl rfl rfl rfl rfl (by repeat (first | exact pk1 | apply pick_tail)) (by first | exact Nat.le_of_ble_eq_true rfl | (simp; done) | (simp; omega)) ?_); clear E S a; intro a w E S; try dsimp only [List.set] at S
            refine wpList_nil ?_
            refine then_k hK ?_; clear hK; clear K
            refine wp_seq_k ?_; intro K hK
            refine region_list ?_
            refine list_pure E rfl rfl (by decide) (rn_assign E rfl rfl) ?_; clear E a; intro a E
            refine wpList_nil ?_
            refine then_k hK ?_; clear hK; clear K
            refine wp_ret ?_
            refine then_ret ?_; clear hK; clear K
            refine in_ret ?_
            refine then_ret ?_; clear hK; clear K
            refine then_ret ?_
            refine in_ret ?_
            refine then_ret ?_; clear hK; clear K
            refine ret1 E rfl rfl ?_
            obtain ⟨C', e1, e2, e3⟩ := done hrest.symm h2' h3' h4' (s' := { s' with left := -1, off := true }) S
            exact ⟨_, rfl, C', e1, e2, e3⟩
          · replace hb := Nrm.nrm hb
            rw [if_neg hb] at hrest
            refine wp_skip ?_
            refine then_k hK ?_; clear hK; clear K
            refine wp_seq_k ?_; intro K hK
            refine wp_seq_k ?_; intro K hK
            refine region_list ?_
            refine list_pure E rfl rfl (by decide) (rn_move E rfl rfl) ?_; clear E a; intro a E
            refine list_pure E rfl rfl (by decide) (rn_nilCheck E rfl rfl) ?_; clear E a; intro a E
            refine list_pure E rfl rfl (by decide) (by first | exact rn_fieldAddr0 (q := 2) E rfl rfl rfl | exact rn_fieldAddr (q := 2) E rfl rfl rfl) ?_; clear E a; intro a E
            refine list_pure E rfl rfl (by decide) (by first | exact rn_load E rfl rfl rfl (S.get (by repeat (first | exact pk1 | apply pick_tail))) rfl | exact rn_loadc E rfl rfl rfl (by assumption)) ?_; clear E a; intro a E
            refine list_pure E rfl rfl (by decide) (rn_gtr E rfl rfl rfl) ?_; clear E a; intro a E
            refine wpList_nil ?_
            refine then_k hK ?_; clear hK; clear K
            refine wp_join (fun (a : Act) (w' : World) => ∃ lf : Int, lf = (if 0 < s'.left then s'.left - 1 else s'.left) ∧ St w0 [C0, D] w' ([(q, qcl { s' with left := lf } (.slice (some ⟨gd, 0, none⟩) (A ++ y :: B).length cd) vw')] :: Cd :: Cw' :: J' :: dd1 y :: y.C :: (dch (A ++ B) ++ [D])) ∧ Fr a 112 [(0, ptr q), (1, .int .i64 n), (2, .int .i64 an), (3, .slice adb b.length cb), (11, .int .i64 i)]) ?_ ?_
            · skip
              refine if_bool E rfl (fun hb => ?_) (fun hb => ?_)
              · replace hb := Nrm.nrm hb
                refine region_list ?_
                refine list_pure E rfl rfl (by decide) (rn_move E rfl rfl) ?_; clear E a; intro a E
                refine list_pure E rfl rfl (by decide) (rn_nilCheck E rfl rfl) ?_; clear E a; intro a E
                refine list_pure E rfl rfl (by decide) (by first | exact rn_fieldAddr0 (q := 2) E rfl rfl rfl | exact rn_fieldAddr (q := 2) E rfl rfl rfl) ?_; clear E a; intro a E
                refine list_pure E rfl rfl (by decide) (by first | exact rn_load E rfl rfl rfl (S.get (by repeat (first | exact pk1 | apply pick_tail))) rfl | exact rn_loadc E rfl rfl rfl (by assumption)) ?_; clear E a; intro a E
                refine list_pure E rfl rfl (by decide) (rn_sub E rfl rfl rfl (by first | exact ws_lit (y := 1) (by omega) (by omega) | exact w_in (by omega) | exact w_inu (by omega) | exact rfl)) ?_; clear E a; intro a E
                refine list_pure E rfl rfl (by decide) (rn_nilCheck E rfl rfl) ?_; clear E a; intro a E
                refine list_pure E rfl rfl (by decide) (by first | exact rn_fieldAddr0 (q := 2) E rfl rfl rfl | exact rn_fieldAddr (q := 2) E rfl rfl rfl) ?_; clear E a; intro a E
                refine list_wp rfl (wp_store1 E S rfl rfl rfl rfl rfl rfl (by repeat (first | exact pk1 | apply pick_tail)) (by first | exact Nat.le_of_ble_eq_true rfl | (simp; done) | (simp; omega)) ?_); clear E S a; intro a w E S; try dsimp only [List.set] at S
                refine wpList_nil ?_
                refine joined_here ?_
                exact ⟨s'.left - 1, by rw [if_pos hb], S, E.keep (keep_cons rfl (keep_cons rfl (keep_cons rfl (keep_cons rfl (keep_cons rfl keep_nil)))))⟩
              · replace hb := Nrm.nrm hb
                refine wp_skip ?_
                refine joined_here ?_
                exact ⟨s'.left, by rw [if_neg hb], S, E.keep (keep_cons rfl (keep_cons rfl (keep_cons rfl (keep_cons rfl (keep_cons rfl keep_nil)))))⟩
            · clear S E a; intro a w J; obtain ⟨lf, hlf2, S, E⟩ := J
              refine then_k hK ?_; clear hK; clear K
              refine wp_seq_k ?_; intro K hK
              refine region_list ?_
              refine list_pure E rfl rfl (by decide) (rn_move E rfl rfl) ?_; clear E a; intro a E
              refine list_pure E rfl rfl (by decide) (rn_nilCheck E rfl rfl) ?_; clear E a; intro a E
              refine list_pure E rfl rfl (by decide) (by first | exact rn_fieldAddr0 (q := 4) E rfl rfl rfl | exact rn_fieldAddr (q := 4) E rfl rfl rfl) ?_; clear E a; intro a E
              refine list_pure E rfl rfl (by decide) (by first | exact rn_load E rfl rfl rfl (S.get (by repeat (first | exact pk1 | apply pick_tail))) rfl | exact rn_loadc E rfl rfl rfl (by assumption)) ?_; clear E a; intro a E
              dsimp only at E S
              refine list_pure E rfl rfl (by decide) (rn_add E rfl rfl rfl (by first | exact wa_lit (y := 1) (by omega) | exact w_in (by omega) | exact w_inu (by omega) | exact rfl)) ?_; clear E a; intro a E
              refine list_pure E rfl rfl (by decide) (rn_nilCheck E rfl rfl) ?_; clear E a; intro a E
              refine list_pure E rfl rfl (by decide) (by first | exact rn_fieldAddr0 (q := 4) E rfl rfl rfl | exact rn_fieldAddr (q := 4) E rfl rfl rfl) ?_; clear E a; intro a E
              refine list_wp rfl (wp_store1 E S rfl rfl rfl rfl rfl rfl (by repeat (first | exact pk1 | apply pick_tail)) (by first | exact Nat.le_of_ble_eq_true rfl | (simp; done) | (simp; omega)) ?_); clear E S a; intro a w E S; try dsimp only [List.set] at S
              refine wpList_nil ?_
              refine then_k hK ?_; clear hK; clear K
              refine wp_seq_k ?_; intro K hK
              have hbi : 128 * i + 128 ≤ b.length := by omega
              have hsl := secB_length hbi
              refine region_list ?_
              refine list_pure E rfl rfl (by decide) (rn_move E rfl rfl) ?_; clear E a; intro a E
              refine list_pure E rfl rfl (by decide) (rn_move E rfl rfl) ?_; clear E a; intro a E
              refine list_pure E rfl rfl (by decide) (rn_mul E rfl rfl rfl (by first | exact wm_lit2 (y := 128) (by omega) | exact w_in (by omega) | exact rfl)) ?_; clear E a; intro a E
              refine list_pure E rfl rfl (by decide) (rn_move E rfl rfl) ?_; clear E a; intro a E
              refine list_pure E rfl rfl (by decide) (rn_add E rfl rfl rfl (by first | exact wa_lit (y := 1) (by omega) | exact w_in (by omega) | exact w_inu (by omega) | exact rfl)) ?_; clear E a; intro a E
              refine list_pure E rfl rfl (by decide) (rn_mul E rfl rfl rfl (by first | exact wm_lit2 (y := 128) (by omega) | exact w_in (by omega) | exact rfl)) ?_; clear E a; intro a E
              refine list_pure E rfl rfl (by decide) (rn_slice_lh (s := 1) (lo := i * 128) (hi := i * 128 + 128) E rfl rfl rfl rfl rfl rfl (by omega) (by omega) (by omega) (by omega)) ?_; clear E a; intro a E
              obtain ⟨ad95, c95, he95, hR95⟩ := hD.cut (lo := i * 128) (hi := i * 128 + 128) (by omega) (by omega) (by omega)
              rw [he95] at E
              rw [Nat.mul_one, Nat.mul_one, byt_drop, byt_take, Nat.add_sub_cancel_left, Nat.mul_comm i 128] at hR95
              rw [Nat.add_sub_cancel_left] at E
              have S := S.addNil
              have hDm : D ∈ dch (A ++ B) ++ [D] := List.mem_append_right _ (List.mem_singleton.2 rfl)
              have hR95 : Rd D 1 (.slice ad95 128 c95) 128 (byt (secB b i)) := hR95
              refine list_wp rfl (wp_append (by' := 1) E S rfl rfl (by decide) rfl rfl (Buf.nil 5 1) (by repeat (first | exact pk1 | apply pick_tail)) (hR95.src (S.stab.at (by repeat (first | exact mm1 | assumption | apply List.Mem.tail))) rfl) rfl rfl rfl rfl rfl rfl (by simp only [maxLen]; omega) (by omega) ?_); clear E S a; intro a w v96 C96 E S hB96
              rw [Nat.zero_add, List.nil_append] at hB96
              refine list_pure E rfl rfl (by decide) (rn_assign E rfl rfl) ?_; clear E a; intro a E
              refine wpList_nil ?_
              refine then_k hK ?_; clear hK; clear K
              obtain ⟨adw, cw, rfl⟩ := h2'.slice
              have hul := h4'.1
              obtain ⟨ad96, c96, rfl⟩ := hB96.slice
              obtain ⟨u, hu⟩ : ∃ u : Dw, u = ⟨n, an + i, .slice ad96 128 c96⟩ := ⟨_, rfl⟩
              refine region_list ?_
              refine list_pure E rfl rfl (by decide) (rn_move E rfl rfl) ?_; clear E a; intro a E
              refine list_pure E rfl rfl (by decide) (rn_move E rfl rfl) ?_; clear E a; intro a E
              refine list_pure E rfl rfl (by decide) (rn_nilCheck E rfl rfl) ?_; clear E a; intro a E
              refine list_pure E rfl rfl (by decide) (by first | exact rn_fieldAddr0 (q := 1) E rfl rfl rfl | exact rn_fieldAddr (q := 1) E rfl rfl rfl) ?_; clear E a; intro a E
              refine list_pure E rfl rfl (by decide) (by first | exact rn_load E rfl rfl rfl (S.get (by repeat (first | exact pk1 | apply pick_tail))) rfl | exact rn_loadc E rfl rfl rfl (by assumption)) ?_; clear E a; intro a E
              refine list_pure E rfl rfl (by decide) (rn_move E rfl rfl) ?_; clear E a; intro a E
              refine list_pure E rfl rfl (by decide) (rn_move E rfl rfl) ?_; clear E a; intro a E
              refine list_pure E rfl rfl (by decide) (rn_move E rfl rfl) ?_; clear E a; intro a E
              refine list_pure E rfl rfl (by decide) (rn_add E rfl rfl rfl (by first | exact wa1 (by omega) | exact w_in (by omega) | exact w_inu (by omega) | exact rfl)) ?_; clear E a; intro a E
              refine list_pure E rfl rfl (by decide) (rn_move E rfl rfl) ?_; clear E a; intro a E
              refine list_pure E rfl rfl (by decide) (rn_build (cells := [_, _, _]) E rfl rfl rfl) ?_; clear E a; intro a E
              refine list_wp rfl (wp_bslice (cells := [_, _, _]) E S rfl rfl (by decide) rfl rfl rfl rfl rfl (by decide) rfl ?_); clear E S a; intro a w b108 E S
              rw [show [Value.int .i64 (n : Int), .int .i64 (an + i : Nat), .slice ad96 128 c96] = u.lay by rw [hu]; rfl] at S
              refine list_wp rfl (wp_append (by' := 40) E S rfl rfl (by decide) rfl rfl h2' (by repeat (first | exact pk1 | apply pick_tail)) ((rd_cells (g := b108) (T := 84) (xs := u.lay) (s := 3) (m := 1) (Dw.lay_len u) (by rw [hu]; intro w hw; simp [Dw.lay] at hw; rcases hw with rfl | rfl | rfl <;> rfl) (by omega) 1).src (S.stab.at (by repeat (first | exact mm1 | assumption | apply List.Mem.tail))) rfl) rfl rfl rfl rfl rfl rfl (by simp only [maxLen]; omega) (by omega) ?_); clear E S a; intro a w v109 C109 E S hB109
              obtain ⟨ad109, c109, rfl⟩ := hB109.slice
              refine list_pure E rfl rfl (by decide) (rn_nilCheck E rfl rfl) ?_; clear E a; intro a E
              refine list_pure E rfl rfl (by decide) (by first | exact rn_fieldAddr0 (q := 1) E rfl rfl rfl | exact rn_fieldAddr (q := 1) E rfl rfl rfl) ?_; clear E a; intro a E
              refine list_wp rfl (wp_store1 E S rfl rfl rfl rfl rfl rfl (by repeat (first | exact pk1 | apply pick_tail)) (by first | exact Nat.le_of_ble_eq_true rfl | (simp; done) | (simp; omega)) ?_); clear E S a; intro a w E S; try dsimp only [List.set] at S
              refine wpList_nil ?_
              refine in_normal ?_
              refine then_k hK ?_; clear hK; clear K
              refine region_list ?_
              refine list_pure E rfl rfl (by decide) (rn_move E rfl rfl) ?_; clear E a; intro a E
              refine list_pure E rfl rfl (by decide) (rn_add E rfl rfl rfl (by first | exact wa_lit (y := 1) (by omega) | exact w_in (by omega) | exact w_inu (by omega) | exact rfl)) ?_; clear E a; intro a E
              refine list_pure E rfl rfl (by decide) (rn_assign E rfl rfl) ?_; clear E a; intro a E
              refine wpList_nil ?_
              refine then_normal ?_
              have S := (S.del (A := [(b108, _)]) (by repeat (first | exact pk1 | apply pick_tail))).gather (A := C96) (B := J') (by repeat (first | exact pk1 | apply pick_tail)) (by repeat (first | exact pk1 | apply pick_tail))
              have hsubJ : ∀ c ∈ J', c ∈ C96 ++ J' := fun c hc => List.mem_append_right _ hc
              refine ⟨_, by omega, i + 1, ⟨lf, s'.off, s'.wr + 1⟩, _, _, us' ++ [u], .slice ad109 (us'.length + 1) c109, C109, C96 ++ J', rfl, by omega, by rw [show N - (i + 1) = N - i - 1 by omega, hlf2]; exact hrest, by rw [List.length_append, List.length_singleton]; omega, by simp only; omega, by simp only; rw [hlf2]; split <;> omega, ?_, h3'.imp fun _ _ h => h.sub hsubJ, ?_, ?_, E.keep (keep_cons rfl (keep_cons rfl (keep_cons rfl (keep_cons rfl (keep_cons rfl keep_nil)))))⟩
              · rw [List.length_append, List.length_singleton, List.flatMap_append]; simpa using hB109
              · refine (h4'.imp fun _ _ h => h.sub hsubJ).snoc ⟨⟨x, by rw [hu]; exact hx, rfl⟩, by rw [hu]; rfl, ?_⟩
                rw [hu]; simp only [mkW]; rw [pad_id hsl]; exact hB96.rd.sub fun c hc => List.mem_append_left _ hc
              · exact S.front6 (A := [(q, _)]) (by repeat (first | exact pk1 | apply pick_tail)) (B := Cd) (by repeat (first | exact pk1 | apply pick_tail)) (C := C109) (by repeat (first | exact pk1 | apply pick_tail)) (D := C96 ++ J') (by repeat (first | exact pk1 | apply pick_tail)) (F := dd1 y) (by repeat (first | exact pk1 | apply pick_tail)) (G := y.C) (by repeat (first | exact pk1 | apply pick_tail))
        · replace hb := Nrm.nrm hb
          refine wp_exit ?_
          refine then_exit ?_; clear hK; clear K
          refine then_exit ?_
          refine in_exit ?_
          refine then_k hK ?_; clear hK; clear K
          refine wp_seq_k ?_; intro K hK
          refine region_list ?_
          refine list_pure E rfl rfl (by decide) (rn_assign E rfl rfl) ?_; clear E a; intro a E
          refine wpList_nil ?_
          refine then_k hK ?_; clear hK; clear K
          refine wp_ret ?_
          refine ret1 E rfl rfl ?_
          obtain rfl : i = N := by omega
          rw [Nat.sub_self, wrN] at hrest
          obtain ⟨C', e1, e2, e3⟩ := done hrest.symm h2' h3' h4' S
          exact ⟨_, rfl, C', e1, e2, e3⟩
end Go.Proofs.Ytpppaohhnlgfoaa
