/-
  The document's disks: bits of a sector turned about.
-/
import Derived.Test.YtpppaohhnlgfoaaDocU
namespace Go.Sl
theorem lay3_set (v : Value) : ∀ (us : List Dw) (i : Nat) (u : Dw), us[i]? = some u → (us.flatMap Dw.lay).set (i * 3 + 2) v = (us.set i { u with v := v }).flatMap Dw.lay
  | [], i, u, h => by simp at h
  | a :: r, 0, u, h => by simp at h; subst h; rfl
  | a :: r, i + 1, u, h => by
    have ih := lay3_set v r i u (by simpa using h)
    rw [List.flatMap_cons, List.set_cons_succ, List.flatMap_cons, ← ih]
    show ([Value.int .i64 a.k, .int .i64 a.at_, a.v] ++ r.flatMap Dw.lay).set ((i + 1) * 3 + 2) v = [Value.int .i64 a.k, .int .i64 a.at_, a.v] ++ (r.flatMap Dw.lay).set (i * 3 + 2) v
    rw [show (i + 1) * 3 + 2 = (i * 3 + 2) + 1 + 1 + 1 by omega]
    rfl
theorem mid_get {α : Type} {A B : List α} {a : α} : (A ++ a :: B)[A.length]? = some a := by simp
end Go.Sl
namespace Go.Proofs.Ytpppaohhnlgfoaa
open Go.Sl
set_option maxRecDepth 10000

theorem qcorrupt_ret (q : Nat) (R : Rk) (C : Chunk) (hC : RfC q R C) (hok : DkOk R.ds) (hwsl : R.ws.length ≤ 244335861110) (n : Nat) (x : Dk) (hx : R.ds[n]? = some x) (at_ : Int) (v : Value) (mask : List UInt8) (D : Chunk) (hD : Rd D 1 v mask.length (byt mask)) (w0 : World) (H : Hp w0 [C, D]) :
    Ret Try.prog 39 #[ptr q, .int .i64 n, .int .i64 at_, v] w0 fun u w' => u = .int .i64 (coE x.failed x.pl.length at_ mask) ∧ ∃ C', RfC q (R.corrupt x at_ mask) C' ∧ Trs w0 w' [C, D] [C', D] := by
  obtain ⟨vd, vw, Cd, Cw, J, ys, us, h1, h2, h3, h4, rfl⟩ := hC
  have S := rf_open (St.begin H)
  obtain ⟨y, hy, hyo⟩ := h3.at hx
  have hxm : x ∈ R.ds := List.mem_of_getElem? hx
  have hxl := hok.2 x hxm
  obtain ⟨y1, y2, y3, y4⟩ := hyo
  obtain ⟨A, B, rfl, hAl⟩ := get_split hy
  have S := rf_out S
  obtain ⟨s, ws, ds⟩ := R
  simp only at h3 h4 hok hx hxm hwsl
  have hwl := h4.1
  have hpt : ((A ++ y :: B).map fun y => ptr y.b)[n]? = some (ptr y.b) := by rw [List.getElem?_map, hy]; rfl
  have hnl : n < (A ++ y :: B).length := by simp; omega
  obtain ⟨add, cd, rfl⟩ := h1.slice
  obtain ⟨gd, rfl⟩ := h1.addr (by simp; omega)
  obtain ⟨adp, cp, hvp⟩ := y2.slice
  obtain ⟨adw, cw, rfl⟩ := h2.slice
  obtain ⟨ad, c, rfl⟩ := hD.slice
  have hdd1 : dd1 y = [(y.b, cel [.slice adp y.vs.length cp, .bool y.f] 80)] := by show [(y.b, cel [y.vp, .bool y.f] _)] = _; rw [hvp]
  obtain ⟨C0, hC0⟩ : ∃ C0, C0 = (RfL q s (.slice (some ⟨gd, 0, none⟩) (A ++ y :: B).length cd) (.slice adw us.length cw) Cd Cw J (A ++ y :: B)).flatten := ⟨_, rfl⟩
  have S : St w0 [C0, D] w0 ([(q, qcl s (.slice (some ⟨gd, 0, none⟩) (A ++ y :: B).length cd) (.slice adw us.length cw))] :: Cd :: Cw :: J :: dd1 y :: y.C :: (dch (A ++ B) ++ [D])) := by rw [hC0]; exact S
  show Ret _ _ _ _ fun u w' => u = .int .i64 (coE x.failed x.pl.length at_ mask) ∧ ∃ C', RfC q (Rk.corrupt ⟨s, ws, ds⟩ x at_ mask) C' ∧ Trs w0 w' [(RfL q s (.slice (some ⟨gd, 0, none⟩) (A ++ y :: B).length cd) (.slice adw us.length cw) Cd Cw J (A ++ y :: B)).flatten, D] [C', D]
  rw [← hC0]
  have hset : ∀ g : Dk → Dk, setD ds x.d g = ds.set n (g x) := fun g => setD_set g hok.1 hx
  have nothing : coE x.failed x.pl.length at_ mask ≠ 0 → ∀ {w' : World}, St w0 [C0, D] w' ([(q, qcl s (.slice (some ⟨gd, 0, none⟩) (A ++ y :: B).length cd) (.slice adw us.length cw))] :: Cd :: Cw :: J :: dd1 y :: y.C :: (dch (A ++ B) ++ [D])) →
      ∃ C', RfC q (Rk.corrupt ⟨s, ws, ds⟩ x at_ mask) C' ∧ Trs w0 w' [C0, D] [C', D] := fun h w' S => by
    have e : Rk.corrupt ⟨s, ws, ds⟩ x at_ mask = ⟨s, ws, ds⟩ := by
      simp only [Rk.corrupt, coWs, coB, if_neg h]
      rw [hset]; simp only [set_self hx]
    rw [e]
    exact ⟨_, ⟨_, _, Cd, Cw, J, A ++ y :: B, us, h1, h2, h3, h4, rfl⟩, (rf_close (Ls := [D]) (rf_in S)).tr⟩
  rw [hdd1] at S
  rw [y1] at S
  have hdd2 : dd1 y = [(y.b, cel [.slice adp y.vs.length cp, .bool x.failed] 80)] := by rw [hdd1, y1]
  refine enter4 117 Try.func39 rfl rfl (by decide) ?_; intro a E
  refine wp_seq_k ?_; intro K hK
  refine region_list ?_
  refine list_pure E rfl rfl (by decide) (rn_assign E rfl rfl) ?_; clear E a; intro a E
  refine wpList_nil ?_
  refine then_k hK ?_; clear hK; clear K
  refine wp_seq_k ?_; intro K hK
  refine wp_seq_k ?_; intro K hK
  refine region_list ?_
  refine list_pure E rfl rfl (by decide) (rn_move E rfl rfl) ?_; clear E a; intro a E
  refine list_pure E rfl rfl (by decide) (rn_nilCheck E rfl rfl) ?_; clear E a; intro a E
  refine list_pure E rfl rfl (by decide) (by first | exact rn_fieldAddr0 (q := 0) E rfl rfl rfl | exact rn_fieldAddr (q := 0) E rfl rfl rfl) ?_; clear E a; intro a E
  refine list_pure E rfl rfl (by decide) (by first | exact rn_load E rfl rfl rfl (S.get (by repeat (first | exact pk1 | apply pick_tail))) rfl | exact rn_loadc E rfl rfl rfl (by assumption)) ?_; clear E a; intro a E
  refine list_pure E rfl rfl (by decide) (rn_move E rfl rfl) ?_; clear E a; intro a E
  refine list_pure E rfl rfl (by decide) (rn_indexAddr1 (i := n) E rfl rfl rfl rfl rfl rfl (by omega)) ?_; clear E a; intro a E
  refine list_pure E rfl rfl (by decide) (rn_loadc E rfl rfl rfl (h1.rd.cells (S.stab.at (by repeat (first | exact mm1 | assumption | apply List.Mem.tail))) rfl n _ hpt)) ?_; clear E a; intro a E
  refine list_pure E rfl rfl (by decide) (rn_nilCheck E rfl rfl) ?_; clear E a; intro a E
  refine list_pure E rfl rfl (by decide) (by first | exact rn_fieldAddr0 (q := 1) E rfl rfl rfl | exact rn_fieldAddr (q := 1) E rfl rfl rfl) ?_; clear E a; intro a E
  refine list_pure E rfl rfl (by decide) (by first | exact rn_load E rfl rfl rfl (S.get (by repeat (first | exact pk1 | apply pick_tail))) rfl | exact rn_loadc E rfl rfl rfl (by assumption)) ?_; clear E a; intro a E
  refine wpList_nil ?_
  refine then_k hK ?_; clear hK; clear K
  refine if_bool E rfl (fun hb => ?_) (fun hb => ?_)
  · replace hb := Nrm.nrm hb
    refine wp_seq_k ?_; intro K hK
    refine region_list ?_
    refine list_pure E rfl rfl (by decide) (rn_assign E rfl rfl) ?_; clear E a; intro a E
    refine wpList_nil ?_
    refine then_k hK ?_; clear hK; clear K
    refine wp_ret ?_
    refine then_ret ?_; clear hK; clear K
    refine ret1 E rfl rfl ?_
    have hE : coE x.failed x.pl.length at_ mask = 30 := by rw [coE, if_pos (by simpa using hb)]
    exact ⟨_, rfl, by rw [hE], nothing (by rw [hE]; decide) (by rw [hdd2]; exact S)⟩
  · replace hb := Nrm.nrm hb
    refine wp_skip ?_
    refine then_k hK ?_; clear hK; clear K
    refine wp_seq_k ?_; intro K hK
    refine wp_seq_k ?_; intro K hK
    have hf : x.failed = false := by simpa using hb
    refine wp_join (fun (a : Act) (w' : World) => ∃ c2 : Bool, c2 = decide (¬ coMay x.pl.length at_ mask) ∧ St w0 [C0, D] w' ([(q, qcl s (.slice (some ⟨gd, 0, none⟩) (A ++ y :: B).length cd) (.slice adw us.length cw))] :: Cd :: Cw :: J :: [(y.b, cel [.slice adp y.vs.length cp, .bool x.failed] 80)] :: y.C :: (dch (A ++ B) ++ [D])) ∧ Fr a 117 [(0, ptr q), (1, .int .i64 n), (2, .int .i64 at_), (3, .slice ad mask.length c), (41, .bool c2)]) ?_ ?_
    · skip
      refine region_list ?_
      refine list_pure E rfl rfl (by decide) (rn_move E rfl rfl) ?_; clear E a; intro a E
      refine list_pure E rfl rfl (by decide) (rn_lss E rfl rfl rfl) ?_; clear E a; intro a E
      refine list_pure E rfl rfl (by decide) (rn_move E rfl rfl) ?_; clear E a; intro a E
      refine guard_split E (t := 22) rfl (fun hb22 => ?_) (fun hb22 => ?_)
      · have hb22n := hb22; replace hb22n := Nrm.nrm hb22n
        refine list_guard_no E rfl rfl rfl rfl hb22 rfl (by decide) ?_; clear E a; intro a E
        refine list_guard_no E rfl rfl rfl rfl hb22 rfl (by decide) ?_; clear E a; intro a E
        refine list_guard_no E rfl rfl rfl rfl hb22 rfl (by decide) ?_; clear E a; intro a E
        refine list_guard_no E rfl rfl rfl rfl hb22 rfl (by decide) ?_; clear E a; intro a E
        refine list_guard_no E rfl rfl rfl rfl hb22 rfl (by decide) ?_; clear E a; intro a E
        refine list_guard_no E rfl rfl rfl rfl hb22 rfl (by decide) ?_; clear E a; intro a E
        refine list_guard_no E rfl rfl rfl rfl hb22 rfl (by decide) ?_; clear E a; intro a E
        refine list_guard_no E rfl rfl rfl rfl hb22 rfl (by decide) ?_; clear E a; intro a E
        refine list_guard_no E rfl rfl rfl rfl hb22 rfl (by decide) ?_; clear E a; intro a E
        refine list_guard_no E rfl rfl rfl rfl hb22 rfl (by decide) ?_; clear E a; intro a E
        refine list_guard_no E rfl rfl rfl rfl hb22 rfl (by decide) ?_; clear E a; intro a E
        refine list_guard_no E rfl rfl rfl rfl hb22 rfl (by decide) ?_; clear E a; intro a E
        refine list_guard_no E rfl rfl rfl rfl hb22 rfl (by decide) ?_; clear E a; intro a E
        refine list_pure E rfl rfl (by decide) (rn_pick_yes' E rfl rfl hb22 rfl) ?_; clear E a; intro a E
        refine list_pure E rfl rfl (by decide) (rn_move E rfl rfl) ?_; clear E a; intro a E
        refine list_guard_no E rfl rfl rfl rfl rfl rfl (by decide) ?_; clear E a; intro a E
        refine list_guard_no E rfl rfl rfl rfl rfl rfl (by decide) ?_; clear E a; intro a E
        refine list_guard_no E rfl rfl rfl rfl rfl rfl (by decide) ?_; clear E a; intro a E
        refine list_pure E rfl rfl (by decide) (rn_pick_yes' E rfl rfl rfl rfl) ?_; clear E a; intro a E
        refine wpList_nil ?_
        refine joined_here ?_
        refine ⟨_, ?_, S, E.keep (keep_cons rfl (keep_cons rfl (keep_cons rfl (keep_cons rfl (keep_cons rfl keep_nil)))))⟩
        rw [Bool.eq_iff_iff]; simp only [decide_eq_true_eq, eq_self, true_iff]; unfold coMay; rw [← y3, Nat.mul_div_cancel_left _ (by decide : 0 < 128)]; omega
      · have hb22n := hb22; replace hb22n := Nrm.nrm hb22n
        refine list_guard_yes E rfl rfl rfl rfl hb22 rfl (by decide) (rn_move E rfl rfl) ?_; clear E a; intro a E
        refine list_guard_yes E rfl rfl rfl rfl hb22 rfl (by decide) (rn_move E rfl rfl) ?_; clear E a; intro a E
        refine list_guard_yes E rfl rfl rfl rfl hb22 rfl (by decide) (rn_nilCheck E rfl rfl) ?_; clear E a; intro a E
        refine list_guard_yes E rfl rfl rfl rfl hb22 rfl (by decide) (by first | exact rn_fieldAddr0 (q := 0) E rfl rfl rfl | exact rn_fieldAddr (q := 0) E rfl rfl rfl) ?_; clear E a; intro a E
        refine list_guard_yes E rfl rfl rfl rfl hb22 rfl (by decide) (by first | exact rn_load E rfl rfl rfl (S.get (by repeat (first | exact pk1 | apply pick_tail))) rfl | exact rn_loadc E rfl rfl rfl (by assumption)) ?_; clear E a; intro a E
        refine list_guard_yes E rfl rfl rfl rfl hb22 rfl (by decide) (rn_move E rfl rfl) ?_; clear E a; intro a E
        refine list_guard_yes E rfl rfl rfl rfl hb22 rfl (by decide) (rn_indexAddr1 (i := n) E rfl rfl rfl rfl rfl rfl (by omega)) ?_; clear E a; intro a E
        refine list_guard_yes E rfl rfl rfl rfl hb22 rfl (by decide) (rn_loadc E rfl rfl rfl (h1.rd.cells (S.stab.at (by repeat (first | exact mm1 | assumption | apply List.Mem.tail))) rfl n _ hpt)) ?_; clear E a; intro a E
        refine list_guard_yes E rfl rfl rfl rfl hb22 rfl (by decide) (rn_nilCheck E rfl rfl) ?_; clear E a; intro a E
        refine list_guard_yes E rfl rfl rfl rfl hb22 rfl (by decide) (by first | exact rn_fieldAddr0 (q := 0) E rfl rfl rfl | exact rn_fieldAddr (q := 0) E rfl rfl rfl) ?_; clear E a; intro a E
        refine list_guard_yes E rfl rfl rfl rfl hb22 rfl (by decide) (by first | exact rn_load E rfl rfl rfl (S.get (by repeat (first | exact pk1 | apply pick_tail))) rfl | exact rn_loadc E rfl rfl rfl (by assumption)) ?_; clear E a; intro a E
        refine list_guard_yes E rfl rfl rfl rfl hb22 rfl (by decide) (by first | exact rn_len E rfl rfl rfl | exact rn_len_str E rfl rfl rfl | exact rn_len_string E rfl rfl rfl) ?_; clear E a; intro a E
        refine list_guard_yes E rfl rfl rfl rfl hb22 rfl (by decide) (rn_geq E rfl rfl rfl) ?_; clear E a; intro a E
        refine list_pure E rfl rfl (by decide) (rn_pick_no' E rfl rfl hb22 rfl) ?_; clear E a; intro a E
        refine list_pure E rfl rfl (by decide) (rn_move E rfl rfl) ?_; clear E a; intro a E
        refine guard_split E (t := 37) rfl (fun hb37 => ?_) (fun hb37 => ?_)
        · have hb37n := hb37; replace hb37n := Nrm.nrm hb37n
          refine list_guard_no E rfl rfl rfl rfl hb37 rfl (by decide) ?_; clear E a; intro a E
          refine list_guard_no E rfl rfl rfl rfl hb37 rfl (by decide) ?_; clear E a; intro a E
          refine list_guard_no E rfl rfl rfl rfl hb37 rfl (by decide) ?_; clear E a; intro a E
          refine list_pure E rfl rfl (by decide) (rn_pick_yes' E rfl rfl hb37 rfl) ?_; clear E a; intro a E
          refine wpList_nil ?_
          refine joined_here ?_
          refine ⟨_, ?_, S, E.keep (keep_cons rfl (keep_cons rfl (keep_cons rfl (keep_cons rfl (keep_cons rfl keep_nil)))))⟩
          rw [Bool.eq_iff_iff]; simp only [decide_eq_true_eq, eq_self, true_iff]; unfold coMay; rw [← y3, Nat.mul_div_cancel_left _ (by decide : 0 < 128)]; omega
        · have hb37n := hb37; replace hb37n := Nrm.nrm hb37n
          refine list_guard_yes E rfl rfl rfl rfl hb37 rfl (by decide) (rn_move E rfl rfl) ?_; clear E a; intro a E
          refine list_guard_yes E rfl rfl rfl rfl hb37 rfl (by decide) (by first | exact rn_len E rfl rfl rfl | exact rn_len_str E rfl rfl rfl | exact rn_len_string E rfl rfl rfl) ?_; clear E a; intro a E
          refine list_guard_yes E rfl rfl rfl rfl hb37 rfl (by decide) (rn_gtr E rfl rfl rfl) ?_; clear E a; intro a E
          refine list_pure E rfl rfl (by decide) (rn_pick_no' E rfl rfl hb37 rfl) ?_; clear E a; intro a E
          refine wpList_nil ?_
          refine joined_here ?_
          refine ⟨_, ?_, S, E.keep (keep_cons rfl (keep_cons rfl (keep_cons rfl (keep_cons rfl (keep_cons rfl keep_nil)))))⟩
          rw [Bool.eq_iff_iff]; simp only [decide_eq_true_eq, eq_self, true_iff]; unfold coMay; rw [← y3, Nat.mul_div_cancel_left _ (by decide : 0 < 128)]; omega
    · clear E S a; intro a w J; obtain ⟨c2, hc, S, E⟩ := J
      refine then_k hK ?_; clear hK; clear K
      refine if_bool E rfl (fun hb => ?_) (fun hb => ?_)
      · replace hb := Nrm.nrm hb
        have hno : ¬ coMay x.pl.length at_ mask := (by rw [hb] at hc; exact of_decide_eq_true hc.symm)
        refine wp_seq_k ?_; intro K hK
        refine region_list ?_
        refine list_pure E rfl rfl (by decide) (rn_assign E rfl rfl) ?_; clear E a; intro a E
        refine wpList_nil ?_
        refine then_k hK ?_; clear hK; clear K
        refine wp_ret ?_
        refine then_ret ?_; clear hK; clear K
        refine ret1 E rfl rfl ?_
        have hE : coE x.failed x.pl.length at_ mask = 1 := by rw [coE, if_neg (by simp [hf]), if_neg hno]
        exact ⟨_, rfl, by rw [hE], nothing (by rw [hE]; decide) (by rw [hdd2]; exact S)⟩
      · replace hb := Nrm.nrm hb
        have hyes : coMay x.pl.length at_ mask := (by rw [hb] at hc; exact Decidable.not_not.1 (of_decide_eq_false hc.symm))
        refine wp_skip ?_
        refine then_k hK ?_; clear hK; clear K
        refine wp_seq_k ?_; intro K hK
        have hE : coE x.failed x.pl.length at_ mask = 0 := by rw [coE, if_neg (by simp [hf]), if_pos hyes]
        obtain ⟨m1, m2, m3⟩ := hyes
        rw [← y3, Nat.mul_div_cancel_left _ (by decide : 0 < 128)] at m2
        obtain ⟨an, rfl⟩ : ∃ an : Nat, at_ = an := ⟨at_.toNat, by omega⟩
        have hva := List.getElem?_eq_getElem (show an < y.vs.length by omega)
        obtain ⟨va, hva2⟩ : ∃ va, va = y.vs[an]'(by omega) := ⟨_, rfl⟩
        rw [← hva2] at hva
        have hrva := y4 an va hva
        have hsl : (secB x.pl an).length = 128 := secB_length (by omega)
        rw [← hsl] at hrva
        rw [hvp] at y2
        obtain ⟨gp, rfl⟩ := y2.addr (by omega)
        have hDm : D ∈ dch (A ++ B) ++ [D] := List.mem_append_right _ (List.mem_singleton.2 rfl)
        refine region_mix0 S (.ofL [(0, 0), (1, 0), (2, 0), (3, 0), (4, 0), (5, 0), (6, 0), (7, 0), (8, 0), (9, 0), (10, 0), (11, 0), (12, 0), (13, 0), (14, 0), (15, 0), (16, 0), (17, 0), (18, 0), (19, 0), (20, 0), (21, 0), (22, 0), (23, 0), (24, 0), (25, 1), (26, 0), (27, 3)]) (by kernel_rfl) (by kernel_rfl) ?_
        clear S; intro w S
        refine mix_pure E rfl rfl rfl (by decide) (fun w h => rn_move E rfl rfl) ?_; clear E a; intro a E
        refine mix_pure E rfl rfl rfl (by decide) (fun w h => rn_nilCheck E rfl rfl) ?_; clear E a; intro a E
        refine mix_pure E rfl rfl rfl (by decide) (fun w h => by first | exact rn_fieldAddr0 (q := 0) E rfl rfl rfl | exact rn_fieldAddr (q := 0) E rfl rfl rfl) ?_; clear E a; intro a E
        refine mix_pure E rfl rfl rfl (by decide) (fun w h => by first | exact rn_load E rfl rfl rfl (h.one (by repeat (first | exact mm1 | assumption | apply List.Mem.tail))) rfl | exact rn_loadc E rfl rfl rfl (by assumption)) ?_; clear E a; intro a E
        refine mix_pure E rfl rfl rfl (by decide) (fun w h => rn_move E rfl rfl) ?_; clear E a; intro a E
        refine mix_pure E rfl rfl rfl (by decide) (fun w h => rn_indexAddr1 (i := n) E rfl rfl rfl rfl rfl rfl (by omega)) ?_; clear E a; intro a E
        refine mix_pure E rfl rfl rfl (by decide) (fun w h => rn_loadc E rfl rfl rfl (h1.rd.cells (h.at (by repeat (first | exact mm1 | assumption | apply List.Mem.tail))) rfl n _ hpt)) ?_; clear E a; intro a E
        refine mix_pure E rfl rfl rfl (by decide) (fun w h => rn_nilCheck E rfl rfl) ?_; clear E a; intro a E
        refine mix_pure E rfl rfl rfl (by decide) (fun w h => by first | exact rn_fieldAddr0 (q := 0) E rfl rfl rfl | exact rn_fieldAddr (q := 0) E rfl rfl rfl) ?_; clear E a; intro a E
        refine mix_pure E rfl rfl rfl (by decide) (fun w h => by first | exact rn_load E rfl rfl rfl (h.one (by repeat (first | exact mm1 | assumption | apply List.Mem.tail))) rfl | exact rn_loadc E rfl rfl rfl (by assumption)) ?_; clear E a; intro a E
        refine mix_pure E rfl rfl rfl (by decide) (fun w h => rn_move E rfl rfl) ?_; clear E a; intro a E
        refine mix_pure E rfl rfl rfl (by decide) (fun w h => rn_move E rfl rfl) ?_; clear E a; intro a E
        refine mix_pure E rfl rfl rfl (by decide) (fun w h => rn_nilCheck E rfl rfl) ?_; clear E a; intro a E
        refine mix_pure E rfl rfl rfl (by decide) (fun w h => by first | exact rn_fieldAddr0 (q := 0) E rfl rfl rfl | exact rn_fieldAddr (q := 0) E rfl rfl rfl) ?_; clear E a; intro a E
        refine mix_pure E rfl rfl rfl (by decide) (fun w h => by first | exact rn_load E rfl rfl rfl (h.one (by repeat (first | exact mm1 | assumption | apply List.Mem.tail))) rfl | exact rn_loadc E rfl rfl rfl (by assumption)) ?_; clear E a; intro a E
        refine mix_pure E rfl rfl rfl (by decide) (fun w h => rn_move E rfl rfl) ?_; clear E a; intro a E
        refine mix_pure E rfl rfl rfl (by decide) (fun w h => rn_indexAddr1 (i := n) E rfl rfl rfl rfl rfl rfl (by omega)) ?_; clear E a; intro a E
        refine mix_pure E rfl rfl rfl (by decide) (fun w h => rn_loadc E rfl rfl rfl (h1.rd.cells (h.at (by repeat (first | exact mm1 | assumption | apply List.Mem.tail))) rfl n _ hpt)) ?_; clear E a; intro a E
        refine mix_pure E rfl rfl rfl (by decide) (fun w h => rn_nilCheck E rfl rfl) ?_; clear E a; intro a E
        refine mix_pure E rfl rfl rfl (by decide) (fun w h => by first | exact rn_fieldAddr0 (q := 0) E rfl rfl rfl | exact rn_fieldAddr (q := 0) E rfl rfl rfl) ?_; clear E a; intro a E
        refine mix_pure E rfl rfl rfl (by decide) (fun w h => by first | exact rn_load E rfl rfl rfl (h.one (by repeat (first | exact mm1 | assumption | apply List.Mem.tail))) rfl | exact rn_loadc E rfl rfl rfl (by assumption)) ?_; clear E a; intro a E
        refine mix_pure E rfl rfl rfl (by decide) (fun w h => rn_move E rfl rfl) ?_; clear E a; intro a E
        refine mix_pure E rfl rfl rfl (by decide) (fun w h => rn_is00 (i := an) E rfl rfl rfl rfl rfl rfl (by omega)) ?_; clear E a; intro a E
        refine mix_pure E rfl rfl rfl (by decide) (fun w h => rn_loadc E rfl rfl rfl (by have := y2.rd.cells (h.at (by repeat (first | exact mm1 | assumption | apply List.Mem.tail))) rfl an _ hva; rwa [Nat.zero_add] at this)) ?_; clear E a; intro a E
        refine mix_pure E rfl rfl rfl (by decide) (fun w h => rn_move E rfl rfl) ?_; clear E a; intro a E
        refine mix_call E rfl rfl rfl (by decide) rfl Try.func48 rfl (by kernel_rfl) rfl (qturned_ret va (secB x.pl an) J hrva _ mask D hD (by rw [hsl]; exact m3) (by omega) _ (show J ∈ _ from (by repeat (first | exact mm1 | assumption | apply List.Mem.tail))) (show D ∈ _ from (by repeat (first | exact mm1 | assumption | apply List.Mem.tail))) _ S.hp) ?_
        rintro v67 w ⟨vt, Ct, rfl, ht, hT⟩; clear E a; intro a E
        have S := S.all hT; rw [hsl] at ht; obtain ⟨adt, ct, rfl⟩ := ht.slice
        refine ⟨S.stab.sub (by first | (simp; done) | (simp +contextual; done)), ?_⟩
        refine mix_pure E rfl rfl rfl (by decide) (fun w h => rn_is00 (i := an) E rfl rfl rfl rfl rfl rfl (by omega)) ?_; clear E a; intro a E
        refine mix_last rfl rfl (wp_elem1 E S rfl rfl rfl rfl rfl rfl y2 (by repeat (first | exact pk1 | apply pick_tail)) (i := an) (by omega) rfl ?_); clear E S a; intro a w Cs27 E hBs27 S
        refine mix_nil ?_
        refine then_k hK ?_; clear hK; clear K
        refine wp_seq_k ?_; intro K hK
        refine wp_seq_k ?_; intro K hK
        replace E := E.keep (e' := [(0, _), (1, _), (2, _), (3, _)]) (keep_cons rfl (keep_cons rfl (keep_cons rfl (keep_cons rfl (keep_nil)))))
        have S := S.gather (A := Ct) (B := J) (by repeat (first | exact pk1 | apply pick_tail)) (by repeat (first | exact pk1 | apply pick_tail))
        have S := S.front6 (A := [(q, _)]) (by repeat (first | exact pk1 | apply pick_tail)) (B := Cd) (by repeat (first | exact pk1 | apply pick_tail)) (C := Cw) (by repeat (first | exact pk1 | apply pick_tail)) (D := Ct ++ J) (by repeat (first | exact pk1 | apply pick_tail)) (F := [(y.b, _)]) (by repeat (first | exact pk1 | apply pick_tail)) (G := Cs27) (by repeat (first | exact pk1 | apply pick_tail))
        have hsJ : ∀ c ∈ J, c ∈ Ct ++ J := fun c hc => List.mem_append_right _ hc
        obtain ⟨J1, hJ1⟩ : ∃ J1, J1 = Ct ++ J := ⟨_, rfl⟩
        have htR : Rd J1 1 (.slice adt 128 ct) 128 (byt (xorB (secB x.pl an) mask)) := by rw [hJ1]; exact ht.rd.sub fun c hc => List.mem_append_left _ hc
        rw [← hJ1] at S hsJ
        refine region_list ?_
        refine list_pure E rfl rfl (by decide) (rn_assign E rfl rfl) ?_; clear E a; intro a E
        refine wpList_nil ?_
        refine then_k hK ?_; clear hK; clear K
        refine wp_block ?_
        refine wp_loop_ghost (fun (m : Nat) (a : Act) (w' : World) => ∃ (i : Nat) (us' : List Dw) (Cx J2 : Chunk), m = us.length - i ∧ i ≤ us.length ∧ Buf Cx 84 3 (.slice adw us.length cw) us.length (us'.flatMap Dw.lay) ∧ us'.length = us.length ∧ (∀ c ∈ J1, c ∈ J2) ∧ All2 (DwOk J2 ds) (coW x.d an mask (ws.take i) ++ ws.drop i) us' ∧ (∀ j, i ≤ j → us'[j]? = us[j]?) ∧
         St w0 [C0, D] w' ([(q, qcl s (.slice (some ⟨gd, 0, none⟩) (A ++ y :: B).length cd) (.slice adw us.length cw))] :: Cd :: Cx :: J2 :: [(y.b, cel [.slice (some ⟨gp, 0, none⟩) y.vs.length cp, .bool x.failed] 80)] :: Cs27 :: (dch (A ++ B) ++ [D])) ∧ Fr a 117 [(0, ptr q), (1, .int .i64 n), (2, .int .i64 an), (3, .slice ad mask.length c), (9, .int .i64 i)]) (us.length - 0) ?_ ?_
        · exact ⟨0, us, Cw, J1, rfl, by omega, h2, rfl, fun c h => h, by simpa [coW] using h4.imp fun _ _ h => h.sub hsJ, fun j _ => rfl, S, E.keep (keep_cons rfl (keep_cons rfl (keep_cons rfl (keep_cons rfl (keep_cons rfl keep_nil)))))⟩
        clear E; clear a; (try clear S); rintro m a w ⟨i, us', Cx, J2, rfl, hi, hCx, hul, hJ2, hW, hsame, S, E⟩
        refine wp_seq_k ?_; intro K hK
        refine wp_seq_k ?_; intro K hK
        refine region_list ?_
        refine list_pure E rfl rfl (by decide) (rn_move E rfl rfl) ?_; clear E a; intro a E
        refine list_pure E rfl rfl (by decide) (rn_move E rfl rfl) ?_; clear E a; intro a E
        refine list_pure E rfl rfl (by decide) (rn_nilCheck E rfl rfl) ?_; clear E a; intro a E
        refine list_pure E rfl rfl (by decide) (by first | exact rn_fieldAddr0 (q := 1) E rfl rfl rfl | exact rn_fieldAddr (q := 1) E rfl rfl rfl) ?_; clear E a; intro a E
        refine list_pure E rfl rfl (by decide) (by first | exact rn_load E rfl rfl rfl (S.get (by repeat (first | exact pk1 | apply pick_tail))) rfl | exact rn_loadc E rfl rfl rfl (by assumption)) ?_; clear E a; intro a E
        refine list_pure E rfl rfl (by decide) (by first | exact rn_len E rfl rfl rfl | exact rn_len_str E rfl rfl rfl | exact rn_len_string E rfl rfl rfl) ?_; clear E a; intro a E
        refine list_pure E rfl rfl (by decide) (rn_lss E rfl rfl rfl) ?_; clear E a; intro a E
        refine wpList_nil ?_
        refine then_k hK ?_; clear hK; clear K
        refine if_bool E rfl (fun hb => ?_) (fun hb => ?_)
        · replace hb := Nrm.nrm hb
          refine wp_skip ?_
          refine then_k hK ?_; clear hK; clear K
          refine wp_seq_k ?_; intro K hK
          refine wp_block ?_
          refine wp_seq_k ?_; intro K hK
          have hiu : i < us.length := by omega
          obtain ⟨wt, u, g1, g2, ⟨z, hz, hzd⟩, g3, g4⟩ := h4.get (show i < ws.length by omega)
          obtain ⟨hiw, hwe⟩ := List.getElem?_eq_some_iff.1 g1
          have g2' : us'[i]? = some u := by rw [hsame i (Nat.le_refl _)]; exact g2
          obtain ⟨hiu2, hu⟩ := List.getElem?_eq_some_iff.1 g2'
          have htk := coW_take x.d an mask ws hiw
          rw [hwe] at htk
          rw [List.drop_eq_getElem_cons hiw, hwe] at hW
          obtain ⟨gw, rfl⟩ := hCx.addr (by omega)
          have hel := fun (w : World) (h : ∀ x ∈ Cx, w.heap[x.1]? = some x.2) => hCx.rd.elem (lay := Dw.lay) (w := w) Dw.lay_len h hiu2
          rw [hu] at hel
          have hkn : u.k = n → wt.d = x.d := fun q => by rw [q] at hz; rw [← hzd]; rw [hz] at hx; cases hx; rfl
          have hnk : wt.d = x.d → u.k = n := fun q => idx_one hok.1 hz hx (hzd.trans q)
          have hcl : (coW x.d an mask (ws.take i)).length = i := by rw [coW_length, List.length_take]; omega
          refine region_list ?_
          refine list_pure E rfl rfl (by decide) (rn_move E rfl rfl) ?_; clear E a; intro a E
          refine list_pure E rfl rfl (by decide) (rn_nilCheck E rfl rfl) ?_; clear E a; intro a E
          refine list_pure E rfl rfl (by decide) (by first | exact rn_fieldAddr0 (q := 1) E rfl rfl rfl | exact rn_fieldAddr (q := 1) E rfl rfl rfl) ?_; clear E a; intro a E
          refine list_pure E rfl rfl (by decide) (by first | exact rn_load E rfl rfl rfl (S.get (by repeat (first | exact pk1 | apply pick_tail))) rfl | exact rn_loadc E rfl rfl rfl (by assumption)) ?_; clear E a; intro a E
          refine list_pure E rfl rfl (by decide) (rn_move E rfl rfl) ?_; clear E a; intro a E
          refine list_pure E rfl rfl (by decide) (rn_indexAddr (i := i) (s := 3) E rfl rfl rfl rfl rfl rfl (by omega)) ?_; clear E a; intro a E
          refine list_pure E rfl rfl (by decide) (by first | exact rn_fieldAddr0 (q := 0) E rfl rfl rfl | exact rn_fieldAddr (q := 0) E rfl rfl rfl) ?_; clear E a; intro a E
          refine list_pure E rfl rfl (by decide) (rn_loadc E rfl rfl rfl (hel _ (S.stab.at (by repeat (first | exact mm1 | assumption | apply List.Mem.tail))) 0 _ rfl)) ?_; clear E a; intro a E
          refine list_pure E rfl rfl (by decide) (rn_move E rfl rfl) ?_; clear E a; intro a E
          refine list_pure E rfl rfl (by decide) (by first | exact rn_eql E rfl rfl rfl | exact rn_eql_ptr_nil E rfl rfl rfl rfl | exact rn_eql_bool E rfl rfl rfl rfl | exact rn_eql_string E rfl rfl rfl) ?_; clear E a; intro a E
          refine list_pure E rfl rfl (by decide) (rn_move E rfl rfl) ?_; clear E a; intro a E
          refine guard_split E (t := 88) rfl (fun hb88 => ?_) (fun hb88 => ?_)
          · have hb88n := hb88; replace hb88n := Nrm.nrm hb88n
            refine list_guard_yes E rfl rfl rfl rfl hb88 rfl (by decide) (rn_move E rfl rfl) ?_; clear E a; intro a E
            refine list_guard_yes E rfl rfl rfl rfl hb88 rfl (by decide) (rn_nilCheck E rfl rfl) ?_; clear E a; intro a E
            refine list_guard_yes E rfl rfl rfl rfl hb88 rfl (by decide) (by first | exact rn_fieldAddr0 (q := 1) E rfl rfl rfl | exact rn_fieldAddr (q := 1) E rfl rfl rfl) ?_; clear E a; intro a E
            refine list_guard_yes E rfl rfl rfl rfl hb88 rfl (by decide) (by first | exact rn_load E rfl rfl rfl (S.get (by repeat (first | exact pk1 | apply pick_tail))) rfl | exact rn_loadc E rfl rfl rfl (by assumption)) ?_; clear E a; intro a E
            refine list_guard_yes E rfl rfl rfl rfl hb88 rfl (by decide) (rn_move E rfl rfl) ?_; clear E a; intro a E
            refine list_guard_yes E rfl rfl rfl rfl hb88 rfl (by decide) (rn_indexAddr (i := i) (s := 3) E rfl rfl rfl rfl rfl rfl (by omega)) ?_; clear E a; intro a E
            refine list_guard_yes E rfl rfl rfl rfl hb88 rfl (by decide) (by first | exact rn_fieldAddr0 (q := 1) E rfl rfl rfl | exact rn_fieldAddr (q := 1) E rfl rfl rfl) ?_; clear E a; intro a E
            refine list_guard_yes E rfl rfl rfl rfl hb88 rfl (by decide) (rn_loadc E rfl rfl rfl (hel _ (S.stab.at (by repeat (first | exact mm1 | assumption | apply List.Mem.tail))) 1 _ rfl)) ?_; clear E a; intro a E
            refine list_guard_yes E rfl rfl rfl rfl hb88 rfl (by decide) (rn_move E rfl rfl) ?_; clear E a; intro a E
            refine list_guard_yes E rfl rfl rfl rfl hb88 rfl (by decide) (by first | exact rn_eql E rfl rfl rfl | exact rn_eql_ptr_nil E rfl rfl rfl rfl | exact rn_eql_bool E rfl rfl rfl rfl | exact rn_eql_string E rfl rfl rfl) ?_; clear E a; intro a E
            refine list_pure E rfl rfl (by decide) (rn_pick_yes' E rfl rfl hb88 rfl) ?_; clear E a; intro a E
            refine wpList_nil ?_
            refine then_k hK ?_; clear hK; clear K
            refine if_bool E rfl (fun hb => ?_) (fun hb => ?_)
            · replace hb := Nrm.nrm hb
              have hT1 : wt.d = x.d ∧ wt.at_ = an := by refine ⟨hkn (by omega), by omega⟩
              have g5 : Rd J2 1 u.v wt.b.length (byt wt.b) := by rw [wt.hb]; exact g4.sub fun c hc => hJ2 c (hsJ c hc)
              have hDm : D ∈ dch (A ++ B) ++ [D] := List.mem_append_right _ (List.mem_singleton.2 rfl)
              refine region_mix0 S (.ofL [(0, 0), (1, 0), (2, 0), (3, 0), (4, 0), (5, 0), (6, 0), (7, 0), (8, 0), (9, 0), (10, 0), (11, 0), (12, 0), (13, 0), (14, 1), (15, 0), (16, 0), (17, 3)]) (by kernel_rfl) (by kernel_rfl) ?_
              clear S; intro w S
              refine mix_pure E rfl rfl rfl (by decide) (fun w h => rn_move E rfl rfl) ?_; clear E a; intro a E
              refine mix_pure E rfl rfl rfl (by decide) (fun w h => rn_nilCheck E rfl rfl) ?_; clear E a; intro a E
              refine mix_pure E rfl rfl rfl (by decide) (fun w h => by first | exact rn_fieldAddr0 (q := 1) E rfl rfl rfl | exact rn_fieldAddr (q := 1) E rfl rfl rfl) ?_; clear E a; intro a E
              refine mix_pure E rfl rfl rfl (by decide) (fun w h => by first | exact rn_load E rfl rfl rfl (h.one (by repeat (first | exact mm1 | assumption | apply List.Mem.tail))) rfl | exact rn_loadc E rfl rfl rfl (by assumption)) ?_; clear E a; intro a E
              refine mix_pure E rfl rfl rfl (by decide) (fun w h => rn_move E rfl rfl) ?_; clear E a; intro a E
              refine mix_pure E rfl rfl rfl (by decide) (fun w h => rn_move E rfl rfl) ?_; clear E a; intro a E
              refine mix_pure E rfl rfl rfl (by decide) (fun w h => rn_nilCheck E rfl rfl) ?_; clear E a; intro a E
              refine mix_pure E rfl rfl rfl (by decide) (fun w h => by first | exact rn_fieldAddr0 (q := 1) E rfl rfl rfl | exact rn_fieldAddr (q := 1) E rfl rfl rfl) ?_; clear E a; intro a E
              refine mix_pure E rfl rfl rfl (by decide) (fun w h => by first | exact rn_load E rfl rfl rfl (h.one (by repeat (first | exact mm1 | assumption | apply List.Mem.tail))) rfl | exact rn_loadc E rfl rfl rfl (by assumption)) ?_; clear E a; intro a E
              refine mix_pure E rfl rfl rfl (by decide) (fun w h => rn_move E rfl rfl) ?_; clear E a; intro a E
              refine mix_pure E rfl rfl rfl (by decide) (fun w h => rn_indexAddr (i := i) (s := 3) E rfl rfl rfl rfl rfl rfl (by omega)) ?_; clear E a; intro a E
              refine mix_pure E rfl rfl rfl (by decide) (fun w h => by first | exact rn_fieldAddr0 (q := 2) E rfl rfl rfl | exact rn_fieldAddr (q := 2) E rfl rfl rfl) ?_; clear E a; intro a E
              refine mix_pure E rfl rfl rfl (by decide) (fun w h => rn_loadc E rfl rfl rfl (hel _ (h.at (by repeat (first | exact mm1 | assumption | apply List.Mem.tail))) 2 _ rfl)) ?_; clear E a; intro a E
              refine mix_pure E rfl rfl rfl (by decide) (fun w h => rn_move E rfl rfl) ?_; clear E a; intro a E
              refine mix_call E rfl rfl rfl (by decide) rfl Try.func48 rfl (by kernel_rfl) rfl (qturned_ret u.v wt.b J2 g5 _ mask D hD (by rw [wt.hb]; exact m3) (by rw [wt.hb]; omega) _ (show J2 ∈ _ from (by repeat (first | exact mm1 | assumption | apply List.Mem.tail))) (show D ∈ _ from (by repeat (first | exact mm1 | assumption | apply List.Mem.tail))) _ S.hp) ?_
              rintro v114 w ⟨vt2, Ct2, rfl, ht2, hT⟩; clear E a; intro a E
              have S := S.all hT; rw [wt.hb] at ht2; obtain ⟨adt2, ct2, rfl⟩ := ht2.slice
              refine ⟨S.stab.sub (by first | (simp; done) | (simp +contextual; done)), ?_⟩
              refine mix_pure E rfl rfl rfl (by decide) (fun w h => rn_indexAddr (i := i) (s := 3) E rfl rfl rfl rfl rfl rfl (by omega)) ?_; clear E a; intro a E
              refine mix_pure E rfl rfl rfl (by decide) (fun w h => by first | exact rn_fieldAddr0 (q := 2) E rfl rfl rfl | exact rn_fieldAddr (q := 2) E rfl rfl rfl) ?_; clear E a; intro a E
              refine mix_last rfl rfl (wp_elem1 E S rfl rfl rfl rfl rfl rfl hCx (by repeat (first | exact pk1 | apply pick_tail)) (i := i * 3 + 2) (by rw [flat_len Dw.lay_len]; omega) (by omega) ?_); clear E S a; intro a w Cs17 E hBs17 S
              refine mix_nil ?_
              refine in_normal ?_
              refine then_k hK ?_; clear hK; clear K
              refine region_list ?_
              refine list_pure E rfl rfl (by decide) (rn_move E rfl rfl) ?_; clear E a; intro a E
              refine list_pure E rfl rfl (by decide) (rn_add E rfl rfl rfl (by first | exact wa_lit (y := 1) (by omega) | exact w_in (by omega) | exact w_inu (by omega) | exact rfl)) ?_; clear E a; intro a E
              refine list_pure E rfl rfl (by decide) (rn_assign E rfl rfl) ?_; clear E a; intro a E
              refine wpList_nil ?_
              refine then_normal ?_
              first
              | (rw [lay3_set _ _ _ _ g2'] at hBs17
                 have S := S.gather (A := Ct2) (B := J2) (by repeat (first | exact pk1 | apply pick_tail)) (by repeat (first | exact pk1 | apply pick_tail))
                 have S := S.front6 (A := [(q, _)]) (by repeat (first | exact pk1 | apply pick_tail)) (B := Cd) (by repeat (first | exact pk1 | apply pick_tail)) (C := Cs17) (by repeat (first | exact pk1 | apply pick_tail)) (D := Ct2 ++ J2) (by repeat (first | exact pk1 | apply pick_tail)) (F := [(y.b, _)]) (by repeat (first | exact pk1 | apply pick_tail)) (G := Cs27) (by repeat (first | exact pk1 | apply pick_tail))
                 have hs2 : ∀ c ∈ J2, c ∈ Ct2 ++ J2 := fun c hc => List.mem_append_right _ hc
                 have hW2 := (hW.imp fun _ _ h => h.sub hs2).set (a := turnW wt mask) (b := { u with v := .slice adt2 128 ct2 }) i ⟨⟨z, hz, hzd⟩, g3, ht2.rd.sub fun c hc => List.mem_append_left _ hc⟩
                 rw [if_pos hT1] at htk
                 have e : (coW x.d an mask (ws.take i) ++ wt :: ws.drop (i + 1)).set i (turnW wt mask) = coW x.d an mask (ws.take (i + 1)) ++ ws.drop (i + 1) := by
                   rw [htk, List.append_assoc]
                   conv => lhs; arg 2; rw [← hcl]
                   rw [set_mid]; rfl
                 rw [e] at hW2
                 exact ⟨_, by omega, i + 1, _, Cs17, _, rfl, by omega, hBs17, by rw [List.length_set]; exact hul, fun c hc => hs2 c (hJ2 c hc), hW2, fun j hj => by rw [List.getElem?_set_ne (by omega)]; exact hsame j (by omega), S, E.keep (keep_cons rfl (keep_cons rfl (keep_cons rfl (keep_cons rfl (keep_cons rfl keep_nil)))))⟩)
              | (have hT0 : ¬ (wt.d = x.d ∧ wt.at_ = an) := fun q => by have := hnk q.1; have := q.2; omega
                 rw [if_neg hT0] at htk
                 have e : coW x.d an mask (ws.take i) ++ wt :: ws.drop (i + 1) = coW x.d an mask (ws.take (i + 1)) ++ ws.drop (i + 1) := by rw [htk, List.append_assoc]; rfl
                 rw [e] at hW
                 exact ⟨_, by omega, i + 1, us', Cx, J2, rfl, by omega, hCx, hul, hJ2, hW, fun j hj => hsame j (by omega), S, E.keep (keep_cons rfl (keep_cons rfl (keep_cons rfl (keep_cons rfl (keep_cons rfl keep_nil)))))⟩)
            · replace hb := Nrm.nrm hb
              refine wp_skip ?_
              refine in_normal ?_
              refine then_k hK ?_; clear hK; clear K
              refine region_list ?_
              refine list_pure E rfl rfl (by decide) (rn_move E rfl rfl) ?_; clear E a; intro a E
              refine list_pure E rfl rfl (by decide) (rn_add E rfl rfl rfl (by first | exact wa_lit (y := 1) (by omega) | exact w_in (by omega) | exact w_inu (by omega) | exact rfl)) ?_; clear E a; intro a E
              refine list_pure E rfl rfl (by decide) (rn_assign E rfl rfl) ?_; clear E a; intro a E
              refine wpList_nil ?_
              refine then_normal ?_
              first
              | (rw [lay3_set _ _ _ _ g2'] at hBs17
                 have S := S.gather (A := Ct2) (B := J2) (by repeat (first | exact pk1 | apply pick_tail)) (by repeat (first | exact pk1 | apply pick_tail))
                 have S := S.front6 (A := [(q, _)]) (by repeat (first | exact pk1 | apply pick_tail)) (B := Cd) (by repeat (first | exact pk1 | apply pick_tail)) (C := Cs17) (by repeat (first | exact pk1 | apply pick_tail)) (D := Ct2 ++ J2) (by repeat (first | exact pk1 | apply pick_tail)) (F := [(y.b, _)]) (by repeat (first | exact pk1 | apply pick_tail)) (G := Cs27) (by repeat (first | exact pk1 | apply pick_tail))
                 have hs2 : ∀ c ∈ J2, c ∈ Ct2 ++ J2 := fun c hc => List.mem_append_right _ hc
                 have hW2 := (hW.imp fun _ _ h => h.sub hs2).set (a := turnW wt mask) (b := { u with v := .slice adt2 128 ct2 }) i ⟨⟨z, hz, hzd⟩, g3, ht2.rd.sub fun c hc => List.mem_append_left _ hc⟩
                 rw [if_pos hT1] at htk
                 have e : (coW x.d an mask (ws.take i) ++ wt :: ws.drop (i + 1)).set i (turnW wt mask) = coW x.d an mask (ws.take (i + 1)) ++ ws.drop (i + 1) := by
                   rw [htk, List.append_assoc]
                   conv => lhs; arg 2; rw [← hcl]
                   rw [set_mid]; rfl
                 rw [e] at hW2
                 exact ⟨_, by omega, i + 1, _, Cs17, _, rfl, by omega, hBs17, by rw [List.length_set]; exact hul, fun c hc => hs2 c (hJ2 c hc), hW2, fun j hj => by rw [List.getElem?_set_ne (by omega)]; exact hsame j (by omega), S, E.keep (keep_cons rfl (keep_cons rfl (keep_cons rfl (keep_cons rfl (keep_cons rfl keep_nil)))))⟩)
              | (have hT0 : ¬ (wt.d = x.d ∧ wt.at_ = an) := fun q => by have := hnk q.1; have := q.2; omega
                 rw [if_neg hT0] at htk
                 have e : coW x.d an mask (ws.take i) ++ wt :: ws.drop (i + 1) = coW x.d an mask (ws.take (i + 1)) ++ ws.drop (i + 1) := by rw [htk, List.append_assoc]; rfl
                 rw [e] at hW
                 exact ⟨_, by omega, i + 1, us', Cx, J2, rfl, by omega, hCx, hul, hJ2, hW, fun j hj => hsame j (by omega), S, E.keep (keep_cons rfl (keep_cons rfl (keep_cons rfl (keep_cons rfl (keep_cons rfl keep_nil)))))⟩)
          · have hb88n := hb88; replace hb88n := Nrm.nrm hb88n
            refine list_guard_no E rfl rfl rfl rfl hb88 rfl (by decide) ?_; clear E a; intro a E
            refine list_guard_no E rfl rfl rfl rfl hb88 rfl (by decide) ?_; clear E a; intro a E
            refine list_guard_no E rfl rfl rfl rfl hb88 rfl (by decide) ?_; clear E a; intro a E
            refine list_guard_no E rfl rfl rfl rfl hb88 rfl (by decide) ?_; clear E a; intro a E
            refine list_guard_no E rfl rfl rfl rfl hb88 rfl (by decide) ?_; clear E a; intro a E
            refine list_guard_no E rfl rfl rfl rfl hb88 rfl (by decide) ?_; clear E a; intro a E
            refine list_guard_no E rfl rfl rfl rfl hb88 rfl (by decide) ?_; clear E a; intro a E
            refine list_guard_no E rfl rfl rfl rfl hb88 rfl (by decide) ?_; clear E a; intro a E
            refine list_guard_no E rfl rfl rfl rfl hb88 rfl (by decide) ?_; clear E a; intro a E
            refine list_guard_no E rfl rfl rfl rfl hb88 rfl (by decide) ?_; clear E a; intro a E
            refine list_pure E rfl rfl (by decide) (rn_pick_no' E rfl rfl hb88 rfl) ?_; clear E a; intro a E
            refine wpList_nil ?_
            refine then_k hK ?_; clear hK; clear K
            refine if_false' E rfl rfl ?_
            refine wp_skip ?_
            refine in_normal ?_
            refine then_k hK ?_; clear hK; clear K
            refine region_list ?_
            refine list_pure E rfl rfl (by decide) (rn_move E rfl rfl) ?_; clear E a; intro a E
            refine list_pure E rfl rfl (by decide) (rn_add E rfl rfl rfl (by first | exact wa_lit (y := 1) (by omega) | exact w_in (by omega) | exact w_inu (by omega) | exact rfl)) ?_; clear E a; intro a E
            refine list_pure E rfl rfl (by decide) (rn_assign E rfl rfl) ?_; clear E a; intro a E
            refine wpList_nil ?_
            refine then_normal ?_
            first
            | (rw [lay3_set _ _ _ _ g2'] at hBs17
               have S := S.gather (A := Ct2) (B := J2) (by repeat (first | exact pk1 | apply pick_tail)) (by repeat (first | exact pk1 | apply pick_tail))
               have S := S.front6 (A := [(q, _)]) (by repeat (first | exact pk1 | apply pick_tail)) (B := Cd) (by repeat (first | exact pk1 | apply pick_tail)) (C := Cs17) (by repeat (first | exact pk1 | apply pick_tail)) (D := Ct2 ++ J2) (by repeat (first | exact pk1 | apply pick_tail)) (F := [(y.b, _)]) (by repeat (first | exact pk1 | apply pick_tail)) (G := Cs27) (by repeat (first | exact pk1 | apply pick_tail))
               have hs2 : ∀ c ∈ J2, c ∈ Ct2 ++ J2 := fun c hc => List.mem_append_right _ hc
               have hW2 := (hW.imp fun _ _ h => h.sub hs2).set (a := turnW wt mask) (b := { u with v := .slice adt2 128 ct2 }) i ⟨⟨z, hz, hzd⟩, g3, ht2.rd.sub fun c hc => List.mem_append_left _ hc⟩
               rw [if_pos hT1] at htk
               have e : (coW x.d an mask (ws.take i) ++ wt :: ws.drop (i + 1)).set i (turnW wt mask) = coW x.d an mask (ws.take (i + 1)) ++ ws.drop (i + 1) := by
                 rw [htk, List.append_assoc]
                 conv => lhs; arg 2; rw [← hcl]
                 rw [set_mid]; rfl
               rw [e] at hW2
               exact ⟨_, by omega, i + 1, _, Cs17, _, rfl, by omega, hBs17, by rw [List.length_set]; exact hul, fun c hc => hs2 c (hJ2 c hc), hW2, fun j hj => by rw [List.getElem?_set_ne (by omega)]; exact hsame j (by omega), S, E.keep (keep_cons rfl (keep_cons rfl (keep_cons rfl (keep_cons rfl (keep_cons rfl keep_nil)))))⟩)
            | (have hT0 : ¬ (wt.d = x.d ∧ wt.at_ = an) := fun q => by have := hnk q.1; have := q.2; omega
               rw [if_neg hT0] at htk
               have e : coW x.d an mask (ws.take i) ++ wt :: ws.drop (i + 1) = coW x.d an mask (ws.take (i + 1)) ++ ws.drop (i + 1) := by rw [htk, List.append_assoc]; rfl
               rw [e] at hW
               exact ⟨_, by omega, i + 1, us', Cx, J2, rfl, by omega, hCx, hul, hJ2, hW, fun j hj => hsame j (by omega), S, E.keep (keep_cons rfl (keep_cons rfl (keep_cons rfl (keep_cons rfl (keep_cons rfl keep_nil)))))⟩)
        · replace hb := Nrm.nrm hb
          refine wp_exit ?_
          refine then_exit ?_; clear hK; clear K
          refine then_exit ?_
          refine in_exit ?_
          refine then_k hK ?_; clear hK; clear K
          refine wp_seq_k ?_; intro K hK
          refine region_list ?_
          refine list_pure E rfl rfl (by decide) (rn_assign E rfl rfl) ?_; clear E a; intro a E
          refine wpList_nil ?_
          refine then_k hK ?_; clear hK; clear K
          refine wp_ret ?_
          refine ret1 E rfl rfl ?_
          obtain rfl : i = us.length := by omega
          rw [← hwl, List.take_length, List.drop_length, List.append_nil] at hW
          have S := rf_in (y := ⟨y.b, .slice (some ⟨gp, 0, none⟩) y.vs.length cp, Cs27, y.vs.set an (.slice adt 128 ct), x.failed⟩) S
          have S := rf_close (Ls := [D]) S
          have hvl : (y.vs.set an (.slice adt 128 ct)).length = y.vs.length := List.length_set
          have hxsl : (xorB (secB x.pl an) mask).length = 128 := by rw [xorB_length]; exact hsl
          have hdd : DdOk J2 { x with pl := setS x.pl an (xorB (secB x.pl an) mask), now := setS x.now an (xorB (secB x.now an) mask) } ⟨y.b, .slice (some ⟨gp, 0, none⟩) y.vs.length cp, Cs27, y.vs.set an (.slice adt 128 ct), x.failed⟩ := by
            refine ⟨rfl, by show Buf Cs27 _ 1 _ (y.vs.set an (.slice adt 128 ct)).length _; rw [hvl]; exact hBs27, by show 128 * (y.vs.set an (.slice adt 128 ct)).length = (setS x.pl an (xorB (secB x.pl an) mask)).length; rw [hvl, setS_length (by omega) hxsl]; exact y3, fun j v hv => ?_⟩
            show Rd J2 1 v 128 (byt (secB (setS x.pl an (xorB (secB x.pl an) mask)) j))
            simp only [List.getElem?_set] at hv
            split at hv
            · rename_i hj
              subst hj
              split at hv
              · cases hv; rw [secB_setS (by omega) hxsl]; exact htR.sub hJ2
              · cases hv
            · rw [secB_setS_ne (by omega) hxsl (by omega)]; exact (y4 j v hv).sub fun c hc => hJ2 c (hsJ c hc)
          have hsw := dd_swap (h3.imp fun _ _ h => h.sub fun c hc => hJ2 c (hsJ c hc)) hdd
          rw [hAl] at hsw
          refine ⟨_, rfl, by rw [hE], _, ⟨_, _, Cd, Cx, J2, _, us', ?_, by rw [hul]; exact hCx, ?_, ?_, rfl⟩, S.tr⟩
          · simpa using h1
          · simp only [Rk.corrupt, coB, hE, if_true, Int.toNat_natCast]; rw [hset]; exact hsw
          · simp only [Rk.corrupt, coWs, hE, if_true, Int.toNat_natCast]; exact dw_set hW _ _ fun _ => rfl
end Go.Proofs.Ytpppaohhnlgfoaa
