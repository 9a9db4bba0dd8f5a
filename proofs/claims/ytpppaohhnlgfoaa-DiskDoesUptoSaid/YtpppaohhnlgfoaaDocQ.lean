/-
  The document's disks: what a read tells.
-/
import Derived.Test.YtpppaohhnlgfoaaDocP
namespace Go.Sl
/-- What is seen of a disk: its platter with what waits for it. -/
def nowW (d : Nat) (ws : List Wt) (pl : List UInt8) : List UInt8 := (ws.filter fun w => decide (w.d = d)).foldl putS pl
theorem nowW_snoc (d : Nat) (ws : List Wt) (w : Wt) (pl : List UInt8) : nowW d (ws ++ [w]) pl = if w.d = d then putS (nowW d ws pl) w else nowW d ws pl := by
  rw [nowW, nowW, List.filter_append, List.foldl_append]
  by_cases h : w.d = d <;> simp [h]
theorem nowW_take (d : Nat) (ws : List Wt) (pl : List UInt8) {i : Nat} {w : Wt} (hw : ws[i]? = some w) : nowW d (ws.take (i + 1)) pl = if w.d = d then putS (nowW d (ws.take i) pl) w else nowW d (ws.take i) pl := by
  obtain ⟨hi, rfl⟩ := List.getElem?_eq_some_iff.1 hw
  rw [← List.take_append_getElem hi, nowW_snoc]
theorem nowW_length {d n : Nat} : ∀ (ws : List Wt) (pl : List UInt8), pl.length = n → (∀ w ∈ ws, w.d = d → 128 * w.at_ + 128 ≤ n) → (nowW d ws pl).length = n
  | [], pl, h, _ => h
  | w :: ws, pl, h, hw => by
    rw [nowW, List.filter_cons]
    by_cases hd : w.d = d
    · rw [if_pos (by simpa using hd), List.foldl_cons]
      exact nowW_length ws (putS pl w) (by rw [putS, setS_length (by rw [h]; exact hw w (List.mem_cons_self ..) hd) w.hb]; exact h) fun x hx => hw x (List.mem_cons_of_mem _ hx)
    · rw [if_neg (by simpa using hd)]
      exact nowW_length ws pl h fun x hx => hw x (List.mem_cons_of_mem _ hx)
theorem idx_one {ds : List Dk} (h : (ds.map Dk.d).Nodup) {i j : Nat} {a b : Dk} (ha : ds[i]? = some a) (hb : ds[j]? = some b) (hd : a.d = b.d) : i = j := by
  have h2 := List.pairwise_iff_getElem.1 h
  obtain ⟨hi, rfl⟩ := List.getElem?_eq_some_iff.1 ha
  obtain ⟨hj, rfl⟩ := List.getElem?_eq_some_iff.1 hb
  rcases Nat.lt_trichotomy i j with c | c | c
  · exact absurd (by rw [List.getElem_map, List.getElem_map]; exact hd) (h2 i j (by simpa using hi) (by simpa using hj) c)
  · exact c
  · exact absurd (by rw [List.getElem_map, List.getElem_map]; exact hd.symm) (h2 j i (by simpa using hj) (by simpa using hi) c)
theorem take_secs (b : List UInt8) (a i : Nat) (h : 128 * (a + i) + 128 ≤ b.length) : (b.drop (a * 128)).take (i * 128) ++ secB b (a + i) = (b.drop (a * 128)).take ((i + 1) * 128) := by
  rw [secB, show 128 * (a + i) = a * 128 + i * 128 by omega, ← List.drop_drop, show (i + 1) * 128 = i * 128 + 128 by omega, List.take_add]
end Go.Sl
namespace Go.Proofs.Ytpppaohhnlgfoaa
open Go.Sl
set_option maxRecDepth 10000
/-- What is seen is right; whole sectors. -/
def NowOk (R : Rk) : Prop := ∀ x ∈ R.ds, x.now = nowW x.d R.ws x.pl ∧ x.pl.length % 128 = 0

theorem qseen_ret (q : Nat) (s : Pw) (vd vw : Value) (Cd Cw J : Chunk) (ds : List Dk) (ws : List Wt) (ys : List Dd) (us : List Dw) (hCd : Buf Cd 81 1 vd ys.length (ys.map fun y => ptr y.b)) (hCw : Buf Cw 84 3 vw us.length (us.flatMap Dw.lay))
    (hds : All2 (DdOk J) ds ys) (hws : All2 (DwOk J ds) ws us) (hok : DkOk ds) (hwo : WtOk ws ds) (n : Nat) (x : Dk) (hx : ds[n]? = some x) (hnow : x.now = nowW x.d ws x.pl) (y : Dd) (hy : ys[n]? = some y) (at_ : Nat) (hat : at_ < y.vs.length) (w0 : World) (H : Hp w0 [[(q, qcl s vd vw)], Cd, Cw, dd1 y, y.C]) :
    Ret Try.prog 49 #[ptr q, .int .i64 n, .int .i64 at_] w0 fun u w' => ∃ v, u = v ∧ Rd J 1 v 128 (byt (secB x.now at_)) ∧ Trs w0 w' [[(q, qcl s vd vw)], Cd, Cw, dd1 y, y.C] [[(q, qcl s vd vw)], Cd, Cw, dd1 y, y.C] := by
  have S := St.begin H
  have hyo := hds.2 n x y hx hy
  obtain ⟨y1, y2, y3, y4⟩ := hyo
  obtain ⟨add, cd, rfl⟩ := hCd.slice
  obtain ⟨adw, cw, rfl⟩ := hCw.slice
  obtain ⟨adp, cp, hvp⟩ := y2.slice
  have hn : n < ys.length := (List.getElem?_eq_some_iff.1 hy).1
  have hxm : x ∈ ds := List.mem_of_getElem? hx
  have hwl := hws.1
  have hwm := hCw.rd.2.2.1
  simp only [maxLen] at hwm
  obtain ⟨gd, rfl⟩ := hCd.addr (by omega)
  obtain ⟨yb, yvp, yC, yvs, yf⟩ := y
  simp only at hvp y1 y2 y3 y4 hat
  subst hvp
  obtain ⟨gp, rfl⟩ := y2.addr (by omega)
  have hfit : ∀ w ∈ ws, w.d = x.d → 128 * w.at_ + 128 ≤ x.pl.length := fun w hw h => (hwo w hw).2 x hxm h.symm
  have hlen : ∀ j, (nowW x.d (ws.take j) x.pl).length = x.pl.length := fun j => nowW_length _ _ rfl fun w hw => hfit w (List.mem_of_mem_take hw)
  refine enter3 61 Try.func49 rfl rfl (by decide) ?_; intro a E
  refine wp_seq_k ?_; intro K hK
  refine region_list ?_
  refine list_pure E rfl rfl (by decide) (rn_assign E rfl rfl) ?_; clear E a; intro a E
  refine wpList_nil ?_
  refine then_k hK ?_; clear hK; clear K
  refine wp_seq_k ?_; intro K hK
  refine wp_seq_k ?_; intro K hK
  refine region_list ?_
  refine list_pure E rfl rfl (by decide) (rn_move E rfl rfl) ?_; clear E a; intro a E
  refine list_pure E rfl rfl (by decide) (rn_nilCheck E rfl rfl) ?_; clear E a; intro a E
  refine list_pure E rfl rfl (by decide) (by first | exact rn_fieldAddr0 (q := 1) E rfl rfl rfl | exact rn_fieldAddr (q := 1) E rfl rfl rfl) ?_; clear E a; intro a E
  refine list_pure E rfl rfl (by decide) (by first | exact rn_load E rfl rfl rfl (S.get (by repeat (first | exact pk1 | apply pick_tail))) rfl | exact rn_loadc E rfl rfl rfl (by assumption)) ?_; clear E a; intro a E
  refine list_pure E rfl rfl (by decide) (by first | exact rn_len E rfl rfl rfl | exact rn_len_str E rfl rfl rfl | exact rn_len_string E rfl rfl rfl) ?_; clear E a; intro a E
  refine list_pure E rfl rfl (by decide) (rn_sub E rfl rfl rfl (by first | exact ws_lit (y := 1) (by omega) (by omega) | exact w_in (by omega) | exact w_inu (by omega) | exact rfl)) ?_; clear E a; intro a E
  refine list_pure E rfl rfl (by decide) (rn_assign E rfl rfl) ?_; clear E a; intro a E
  refine wpList_nil ?_
  refine then_k hK ?_; clear hK; clear K
  refine wp_block ?_
  refine wp_loop_ghost (fun (m : Nat) (a : Act) (w' : World) => ∃ j : Nat, m = j + 0 ∧ j ≤ us.length ∧ secB x.now at_ = secB (nowW x.d (ws.take j) x.pl) at_ ∧ St w0 [[(q, qcl s (.slice (some ⟨gd, 0, none⟩) ys.length cd) (.slice adw us.length cw))], Cd, Cw, [(yb, cel [.slice (some ⟨gp, 0, none⟩) yvs.length cp, .bool yf] 80)], yC] w' [[(q, qcl s (.slice (some ⟨gd, 0, none⟩) ys.length cd) (.slice adw us.length cw))], Cd, Cw, [(yb, cel [.slice (some ⟨gp, 0, none⟩) yvs.length cp, .bool yf] 80)], yC] ∧ Fr a 61 [(0, ptr q), (1, .int .i64 n), (2, .int .i64 at_), (7, .int .i64 ((j : Int) - 1))]) (us.length + 0) ?_ ?_
  · exact ⟨us.length, rfl, Nat.le_refl _, by rw [← hwl, List.take_length, ← hnow], S, E.keep (keep_cons rfl (keep_cons rfl (keep_cons rfl (keep_cons rfl keep_nil))))⟩
  clear E; clear a; (try clear S); rintro m a w ⟨j, hmj, hj, hsec, S, E⟩
  refine wp_seq_k ?_; intro K hK
  refine wp_seq_k ?_; intro K hK
  refine region_list ?_
  refine list_pure E rfl rfl (by decide) (rn_move E rfl rfl) ?_; clear E a; intro a E
  refine list_pure E rfl rfl (by decide) (rn_geq E rfl rfl rfl) ?_; clear E a; intro a E
  refine wpList_nil ?_
  refine then_k hK ?_; clear hK; clear K
  refine if_bool E rfl (fun hb => ?_) (fun hb => ?_)
  · replace hb := Nrm.nrm hb
    refine wp_skip ?_
    refine then_k hK ?_; clear hK; clear K
    refine wp_seq_k ?_; intro K hK
    refine wp_block ?_
    refine wp_seq_k ?_; intro K hK
    obtain ⟨i, rfl⟩ : ∃ i, j = i + 1 := ⟨j - 1, by omega⟩
    rw [show ((i + 1 : Nat) : Int) - 1 = i by omega] at E
    obtain ⟨wt, u, h1, h2, ⟨z, hz, hzd⟩, h3, h4⟩ := hws.get (show i < ws.length by omega)
    obtain ⟨gw, rfl⟩ := hCw.addr (by omega)
    obtain ⟨hiu, hu⟩ := List.getElem?_eq_some_iff.1 h2
    have hel := fun (w : World) (h : ∀ x ∈ Cw, w.heap[x.1]? = some x.2) => hCw.rd.elem (lay := Dw.lay) (w := w) Dw.lay_len h hiu
    rw [hu] at hel
    rw [nowW_take x.d ws x.pl h1] at hsec
    have hkn : u.k = n → wt.d = x.d := fun q => by rw [q] at hz; rw [← hzd]; rw [hz] at hx; cases hx; rfl
    have hnk : wt.d = x.d → u.k = n := fun q => idx_one hok.1 hz hx (hzd.trans q)
    have hwmem : wt ∈ ws := List.mem_of_getElem? h1
    refine region_list ?_
    refine list_pure E rfl rfl (by decide) (rn_move E rfl rfl) ?_; clear E a; intro a E
    refine list_pure E rfl rfl (by decide) (rn_nilCheck E rfl rfl) ?_; clear E a; intro a E
    refine list_pure E rfl rfl (by decide) (by first | exact rn_fieldAddr0 (q := 1) E rfl rfl rfl | exact rn_fieldAddr (q := 1) E rfl rfl rfl) ?_; clear E a; intro a E
    refine list_pure E rfl rfl (by decide) (by first | exact rn_load E rfl rfl rfl (S.get (by repeat (first | exact pk1 | apply pick_tail))) rfl | exact rn_loadc E rfl rfl rfl (by assumption)) ?_; clear E a; intro a E
    refine list_pure E rfl rfl (by decide) (rn_move E rfl rfl) ?_; clear E a; intro a E
    refine list_pure E rfl rfl (by decide) (rn_indexAddr (i := i) (s := 3) E rfl rfl rfl rfl rfl rfl (by omega)) ?_; clear E a; intro a E
    refine list_pure E rfl rfl (by decide) (by first | exact rn_fieldAddr0 (q := 0) E rfl rfl rfl | exact rn_fieldAddr (q := 0) E rfl rfl rfl) ?_; clear E a; intro a E
    refine list_pure E rfl rfl (by decide) (rn_loadc E rfl rfl rfl (hel _ (S.stab.at (by repeat (first | exact mm1 | assumption | apply List.Mem.tail))) 0 _ rfl)) ?_; clear E a; intro a E
    refine list_pure E rfl rfl (by decide) (rn_move E rfl rfl) ?_; clear E a; intro a E
    refine list_pure E rfl rfl (by decide) (by first | exact rn_eql E rfl rfl rfl | exact rn_eql_ptr_nil E rfl rfl rfl rfl | exact rn_eql_bool E rfl rfl rfl rfl | exact rn_eql_string E rfl rfl rfl) ?_; clear E a; intro a E
    refine list_pure E rfl rfl (by decide) (rn_move E rfl rfl) ?_; clear E a; intro a E
    refine guard_split E (t := 28) rfl (fun hb28 => ?_) (fun hb28 => ?_)
    · have hb28n := hb28; replace hb28n := Nrm.nrm hb28n
      refine list_guard_yes E rfl rfl rfl rfl hb28 rfl (by decide) (rn_move E rfl rfl) ?_; clear E a; intro a E
      refine list_guard_yes E rfl rfl rfl rfl hb28 rfl (by decide) (rn_nilCheck E rfl rfl) ?_; clear E a; intro a E
      refine list_guard_yes E rfl rfl rfl rfl hb28 rfl (by decide) (by first | exact rn_fieldAddr0 (q := 1) E rfl rfl rfl | exact rn_fieldAddr (q := 1) E rfl rfl rfl) ?_; clear E a; intro a E
      refine list_guard_yes E rfl rfl rfl rfl hb28 rfl (by decide) (by first | exact rn_load E rfl rfl rfl (S.get (by repeat (first | exact pk1 | apply pick_tail))) rfl | exact rn_loadc E rfl rfl rfl (by assumption)) ?_; clear E a; intro a E
      refine list_guard_yes E rfl rfl rfl rfl hb28 rfl (by decide) (rn_move E rfl rfl) ?_; clear E a; intro a E
      refine list_guard_yes E rfl rfl rfl rfl hb28 rfl (by decide) (rn_indexAddr (i := i) (s := 3) E rfl rfl rfl rfl rfl rfl (by omega)) ?_; clear E a; intro a E
      refine list_guard_yes E rfl rfl rfl rfl hb28 rfl (by decide) (by first | exact rn_fieldAddr0 (q := 1) E rfl rfl rfl | exact rn_fieldAddr (q := 1) E rfl rfl rfl) ?_; clear E a; intro a E
      refine list_guard_yes E rfl rfl rfl rfl hb28 rfl (by decide) (rn_loadc E rfl rfl rfl (hel _ (S.stab.at (by repeat (first | exact mm1 | assumption | apply List.Mem.tail))) 1 _ rfl)) ?_; clear E a; intro a E
      refine list_guard_yes E rfl rfl rfl rfl hb28 rfl (by decide) (rn_move E rfl rfl) ?_; clear E a; intro a E
      refine list_guard_yes E rfl rfl rfl rfl hb28 rfl (by decide) (by first | exact rn_eql E rfl rfl rfl | exact rn_eql_ptr_nil E rfl rfl rfl rfl | exact rn_eql_bool E rfl rfl rfl rfl | exact rn_eql_string E rfl rfl rfl) ?_; clear E a; intro a E
      refine list_pure E rfl rfl (by decide) (rn_pick_yes' E rfl rfl hb28 rfl) ?_; clear E a; intro a E
      refine wpList_nil ?_
      refine then_k hK ?_; clear hK; clear K
      refine if_bool E rfl (fun hb => ?_) (fun hb => ?_)
      · replace hb := Nrm.nrm hb
        refine wp_seq_k ?_; intro K hK
        refine region_list ?_
        refine list_pure E rfl rfl (by decide) (rn_move E rfl rfl) ?_; clear E a; intro a E
        refine list_pure E rfl rfl (by decide) (rn_nilCheck E rfl rfl) ?_; clear E a; intro a E
        refine list_pure E rfl rfl (by decide) (by first | exact rn_fieldAddr0 (q := 1) E rfl rfl rfl | exact rn_fieldAddr (q := 1) E rfl rfl rfl) ?_; clear E a; intro a E
        refine list_pure E rfl rfl (by decide) (by first | exact rn_load E rfl rfl rfl (S.get (by repeat (first | exact pk1 | apply pick_tail))) rfl | exact rn_loadc E rfl rfl rfl (by assumption)) ?_; clear E a; intro a E
        refine list_pure E rfl rfl (by decide) (rn_move E rfl rfl) ?_; clear E a; intro a E
        refine list_pure E rfl rfl (by decide) (rn_indexAddr (i := i) (s := 3) E rfl rfl rfl rfl rfl rfl (by omega)) ?_; clear E a; intro a E
        refine list_pure E rfl rfl (by decide) (by first | exact rn_fieldAddr0 (q := 2) E rfl rfl rfl | exact rn_fieldAddr (q := 2) E rfl rfl rfl) ?_; clear E a; intro a E
        refine list_pure E rfl rfl (by decide) (rn_loadc E rfl rfl rfl (hel _ (S.stab.at (by repeat (first | exact mm1 | assumption | apply List.Mem.tail))) 2 _ rfl)) ?_; clear E a; intro a E
        refine list_pure E rfl rfl (by decide) (rn_assign E rfl rfl) ?_; clear E a; intro a E
        refine wpList_nil ?_
        refine then_k hK ?_; clear hK; clear K
        refine wp_ret ?_
        refine in_ret ?_
        refine then_ret ?_; clear hK; clear K
        refine then_ret ?_
        refine in_ret ?_
        refine then_ret ?_; clear hK; clear K
        refine ret1 E rfl rfl ?_
        have hd := hkn (by omega)
        have hae : wt.at_ = at_ := by omega
        refine ⟨_, rfl, u.v, rfl, ?_, S.tr⟩
        rw [if_pos hd, putS, hae, secB_setS (by have := hfit wt hwmem hd; rw [hlen]; omega) wt.hb] at hsec
        rw [hsec]; exact h4
      · replace hb := Nrm.nrm hb
        refine wp_skip ?_
        refine in_normal ?_
        refine then_k hK ?_; clear hK; clear K
        refine region_list ?_
        refine list_pure E rfl rfl (by decide) (rn_move E rfl rfl) ?_; clear E a; intro a E
        refine list_pure E rfl rfl (by decide) (rn_sub E rfl rfl rfl (by first | exact ws_lit (y := 1) (by omega) (by omega) | exact w_in (by omega) | exact w_inu (by omega) | exact rfl)) ?_; clear E a; intro a E
        refine list_pure E rfl rfl (by decide) (rn_assign E rfl rfl) ?_; clear E a; intro a E
        refine wpList_nil ?_
        refine then_normal ?_
        refine ⟨i + 0, by omega, i, rfl, by omega, ?_, S, E.keep (keep_cons rfl (keep_cons rfl (keep_cons rfl (keep_cons rfl keep_nil))))⟩
        first
        | (have hd : ¬ wt.d = x.d := fun q => by have := hnk q; omega
           rw [if_neg hd] at hsec; exact hsec)
        | (have hd := hkn (by omega)
           rw [if_pos hd, putS, secB_setS_ne (by have := hfit wt hwmem hd; rw [hlen]; omega) wt.hb (by omega)] at hsec; exact hsec)
    · have hb28n := hb28; replace hb28n := Nrm.nrm hb28n
      refine list_guard_no E rfl rfl rfl rfl hb28 rfl (by decide) ?_; clear E a; intro a E
      refine list_guard_no E rfl rfl rfl rfl hb28 rfl (by decide) ?_; clear E a; intro a E
      refine list_guard_no E rfl rfl rfl rfl hb28 rfl (by decide) ?_; clear E a; intro a E
      refine list_guard_no E rfl rfl rfl rfl hb28 rfl (by decide) ?_; clear E a; intro a E
      refine list_guard_no E rfl rfl rfl rfl hb28 rfl (by decide) ?_; clear E a; intro a E
      refine list_guard_no E rfl rfl rfl rfl hb28 rfl (by decide) ?_; clear E a; intro a E
      refine list_guard_no E rfl rfl rfl rfl hb28 rfl (by decide) ?_; clear E a; intro a E
      refine list_guard_no E rfl rfl rfl rfl hb28 rfl (by decide) ?_; clear E a; intro a E
      refine list_guard_no E rfl rfl rfl rfl hb28 rfl (by decide) ?_; clear E a; intro a E
      refine list_guard_no E rfl rfl rfl rfl hb28 rfl (by decide) ?_; clear E a; intro a E
      refine list_pure E rfl rfl (by decide) (rn_pick_no' E rfl rfl hb28 rfl) ?_; clear E a; intro a E
      refine wpList_nil ?_
      refine then_k hK ?_; clear hK; clear K
      refine if_false' E rfl rfl ?_
      refine wp_skip ?_
      refine in_normal ?_
      refine then_k hK ?_; clear hK; clear K
      refine region_list ?_
      refine list_pure E rfl rfl (by decide) (rn_move E rfl rfl) ?_; clear E a; intro a E
      refine list_pure E rfl rfl (by decide) (rn_sub E rfl rfl rfl (by first | exact ws_lit (y := 1) (by omega) (by omega) | exact w_in (by omega) | exact w_inu (by omega) | exact rfl)) ?_; clear E a; intro a E
      refine list_pure E rfl rfl (by decide) (rn_assign E rfl rfl) ?_; clear E a; intro a E
      refine wpList_nil ?_
      refine then_normal ?_
      refine ⟨i + 0, by omega, i, rfl, by omega, ?_, S, E.keep (keep_cons rfl (keep_cons rfl (keep_cons rfl (keep_cons rfl keep_nil))))⟩
      first
      | (have hd : ¬ wt.d = x.d := fun q => by have := hnk q; omega
         rw [if_neg hd] at hsec; exact hsec)
      | (have hd := hkn (by omega)
         rw [if_pos hd, putS, secB_setS_ne (by have := hfit wt hwmem hd; rw [hlen]; omega) wt.hb (by omega)] at hsec; exact hsec)
  · replace hb := Nrm.nrm hb
    refine wp_exit ?_
    refine then_exit ?_; clear hK; clear K
    refine then_exit ?_
    refine in_exit ?_
    refine then_k hK ?_; clear hK; clear K
    refine wp_seq_k ?_; intro K hK
    have hj0 : j = 0 := by omega
    subst hj0
    have hv := List.getElem?_eq_getElem hat
    refine region_list ?_
    refine list_pure E rfl rfl (by decide) (rn_move E rfl rfl) ?_; clear E a; intro a E
    refine list_pure E rfl rfl (by decide) (rn_nilCheck E rfl rfl) ?_; clear E a; intro a E
    refine list_pure E rfl rfl (by decide) (by first | exact rn_fieldAddr0 (q := 0) E rfl rfl rfl | exact rn_fieldAddr (q := 0) E rfl rfl rfl) ?_; clear E a; intro a E
    refine list_pure E rfl rfl (by decide) (by first | exact rn_load E rfl rfl rfl (S.get (by repeat (first | exact pk1 | apply pick_tail))) rfl | exact rn_loadc E rfl rfl rfl (by assumption)) ?_; clear E a; intro a E
    refine list_pure E rfl rfl (by decide) (rn_move E rfl rfl) ?_; clear E a; intro a E
    refine list_pure E rfl rfl (by decide) (rn_indexAddr1 (i := n) E rfl rfl rfl rfl rfl rfl (by omega)) ?_; clear E a; intro a E
    refine list_pure E rfl rfl (by decide) (rn_loadc E rfl rfl rfl (hCd.rd.cells (S.stab.at (by repeat (first | exact mm1 | assumption | apply List.Mem.tail))) rfl n (ptr yb) (by rw [List.getElem?_map, hy]; rfl))) ?_; clear E a; intro a E
    refine list_pure E rfl rfl (by decide) (rn_nilCheck E rfl rfl) ?_; clear E a; intro a E
    refine list_pure E rfl rfl (by decide) (by first | exact rn_fieldAddr0 (q := 0) E rfl rfl rfl | exact rn_fieldAddr (q := 0) E rfl rfl rfl) ?_; clear E a; intro a E
    refine list_pure E rfl rfl (by decide) (by first | exact rn_load E rfl rfl rfl (S.get (by repeat (first | exact pk1 | apply pick_tail))) rfl | exact rn_loadc E rfl rfl rfl (by assumption)) ?_; clear E a; intro a E
    refine list_pure E rfl rfl (by decide) (rn_move E rfl rfl) ?_; clear E a; intro a E
    refine list_pure E rfl rfl (by decide) (rn_indexAddr1 (i := at_) E rfl rfl rfl rfl rfl rfl (by omega)) ?_; clear E a; intro a E
    refine list_pure E rfl rfl (by decide) (rn_loadc E rfl rfl rfl (y2.rd.cells (S.stab.at (by repeat (first | exact mm1 | assumption | apply List.Mem.tail))) rfl at_ _ hv)) ?_; clear E a; intro a E
    refine list_pure E rfl rfl (by decide) (rn_assign E rfl rfl) ?_; clear E a; intro a E
    refine wpList_nil ?_
    refine then_k hK ?_; clear hK; clear K
    refine wp_ret ?_
    refine ret1 E rfl rfl ?_
    refine ⟨_, rfl, _, rfl, ?_, S.tr⟩
    rw [hsec]; exact y4 at_ _ hv

theorem qread_ret (q : Nat) (R : Rk) (C : Chunk) (hC : RfC q R C) (hok : DkOk R.ds) (hwo : WtOk R.ws R.ds) (hnow : NowOk R) (n : Nat) (x : Dk) (hx : R.ds[n]? = some x) (at_ many : Int) (ha : -9223372036854775808 ≤ at_ ∧ at_ ≤ 9223372036854775807) (w0 : World) (H : Hp w0 [C]) :
    Ret Try.prog 42 #[ptr q, .int .i64 n, .int .i64 at_, .int .i64 many] w0 fun u w' => ∃ v Cb, u = .tuple #[v, .int .i64 (rdS R.pw x.failed x.now at_ many).1] ∧ Buf Cb 5 1 v (rdS R.pw x.failed x.now at_ many).2.length (byt (rdS R.pw x.failed x.now at_ many).2) ∧ Trs w0 w' [C] [Cb, C] := by
  obtain ⟨vd, vw, Cd, Cw, J, ys, us, h1, h2, h3, h4, rfl⟩ := hC
  have S := rf_open (St.begin H)
  obtain ⟨y, hy, hyo⟩ := h3.at hx
  have hxm : x ∈ R.ds := List.mem_of_getElem? hx
  obtain ⟨hnw, hmod⟩ := hnow x hxm
  have hxl := hok.2 x hxm
  have hyy := hyo
  obtain ⟨y1, y2, y3, y4⟩ := hyo
  obtain ⟨A, B, rfl, hAl⟩ := get_split hy
  have S := rf_out S
  obtain ⟨add, cd, rfl⟩ := h1.slice
  obtain ⟨adp, cp, hvp⟩ := y2.slice
  obtain ⟨gd, rfl⟩ := h1.addr (by simp; omega)
  obtain ⟨s, ws, ds⟩ := R
  obtain ⟨yb, yvp, yC, yvs, yf⟩ := y
  simp only at h3 h4 hok hwo hx hxm hnw hxl S hvp y1 y2 y3 y4 hyy
  subst hvp y1
  have hnlt : n < (A ++ ⟨yb, .slice adp yvs.length cp, yC, yvs, x.failed⟩ :: B).length := by simp; omega
  have hpt : ((A ++ (⟨yb, .slice adp yvs.length cp, yC, yvs, x.failed⟩ : Dd) :: B).map fun y => ptr y.b)[n]? = some (ptr yb) := by rw [List.getElem?_map, hy]; rfl
  obtain ⟨yy, hyy2⟩ : ∃ yy : Dd, yy = ⟨yb, .slice adp yvs.length cp, yC, yvs, x.failed⟩ := ⟨_, rfl⟩
  rw [← hyy2] at h1 h3 hy hyy hnlt hpt S
  have hdd1 : dd1 yy = [(yb, cel [.slice adp yvs.length cp, .bool x.failed] 80)] := by rw [hyy2]
  have hyC : yy.C = yC := by rw [hyy2]
  have hyvs : yy.vs = yvs := by rw [hyy2]
  have hyf : yy.f = x.failed := by rw [hyy2]
  rw [← hyC] at S
  have hrd : ∀ {e : Int} {bs : List UInt8}, rdS s x.failed x.now at_ many = (e, bs) → (rdS s x.failed x.now at_ many).1 = e ∧ (rdS s x.failed x.now at_ many).2 = bs := fun h => by rw [h]; exact ⟨rfl, rfl⟩
  refine enter4 66 Try.func42 rfl rfl (by decide) ?_; intro a E
  refine wp_seq_k ?_; intro K hK
  refine region_list ?_
  refine list_pure E rfl rfl (by decide) (rn_assign E rfl rfl) ?_; clear E a; intro a E
  refine list_pure E rfl rfl (by decide) (rn_assign E rfl rfl) ?_; clear E a; intro a E
  refine wpList_nil ?_
  refine then_k hK ?_; clear hK; clear K
  refine wp_seq_k ?_; intro K hK
  refine region_list ?_
  refine list_pure E rfl rfl (by decide) (rn_move E rfl rfl) ?_; clear E a; intro a E
  refine list_pure E rfl rfl (by decide) (rn_move E rfl rfl) ?_; clear E a; intro a E
  refine list_call E rfl rfl (by decide) rfl Try.func45 rfl (by kernel_rfl) rfl (qdown_ret q s _ _ Cd _ h1 n yy hy _ (S.hp.sel (sel_cons (by repeat (first | exact pk1 | apply pick_tail)) (sel_cons (by repeat (first | exact pk1 | apply pick_tail)) (sel_cons (by repeat (first | exact pk1 | apply pick_tail)) (sel_nil _)))))) ?_
  rintro v17 w ⟨rfl, hT⟩; clear E a; intro a E
  have S := (S.call3 (sel_cons (by repeat (first | exact pk1 | apply pick_tail)) (sel_cons (by repeat (first | exact pk1 | apply pick_tail)) (sel_cons (by repeat (first | exact pk1 | apply pick_tail)) (sel_nil _)))) hT).front6 (A := [(q, _)]) (by repeat (first | exact pk1 | apply pick_tail)) (B := Cd) (by repeat (first | exact pk1 | apply pick_tail)) (C := Cw) (by repeat (first | exact pk1 | apply pick_tail)) (D := J) (by repeat (first | exact pk1 | apply pick_tail)) (F := dd1 yy) (by repeat (first | exact pk1 | apply pick_tail)) (G := yy.C) (by repeat (first | exact pk1 | apply pick_tail)); rw [hyf] at E
  refine list_pure E rfl rfl (by decide) (rn_assign E rfl rfl) ?_; clear E a; intro a E
  refine wpList_nil ?_
  refine then_k hK ?_; clear hK; clear K
  refine wp_seq_k ?_; intro K hK
  refine wp_seq_k ?_; intro K hK
  refine region_list ?_
  refine list_pure E rfl rfl (by decide) (rn_move E rfl rfl) ?_; clear E a; intro a E
  refine list_pure E rfl rfl (by decide) (by first | exact rn_neq E rfl rfl rfl | exact rn_neq_ptr_nil E rfl rfl rfl rfl | exact rn_neq_bool E rfl rfl rfl rfl | exact rn_neq_string E rfl rfl rfl) ?_; clear E a; intro a E
  refine wpList_nil ?_
  refine then_k hK ?_; clear hK; clear K
  refine if_bool E rfl (fun hb => ?_) (fun hb => ?_)
  · replace hb := Nrm.nrm hb
    refine wp_seq_k ?_; intro K hK
    refine region_list ?_
    refine list_pure E rfl rfl (by decide) (rn_move E rfl rfl) ?_; clear E a; intro a E
    refine list_pure E rfl rfl (by decide) (rn_assign E rfl rfl) ?_; clear E a; intro a E
    refine list_pure E rfl rfl (by decide) (rn_assign E rfl rfl) ?_; clear E a; intro a E
    refine wpList_nil ?_
    refine then_k hK ?_; clear hK; clear K
    refine wp_ret ?_
    refine then_ret ?_; clear hK; clear K
    refine ret2 E rfl rfl rfl ?_
    have hfe : (rdS s x.failed x.now at_ many) = (flE s x.failed, []) := by
      unfold rdS flE
      by_cases hs : s.off = true
      · rw [if_pos hs, if_pos hs]
      · by_cases hf : x.failed = true
        · rw [if_neg hs, if_pos hf, if_neg hs, if_pos hf]
        · unfold flE at hb; rw [if_neg hs, if_neg hf] at hb; exact absurd rfl hb
    obtain ⟨he1, he2⟩ := hrd hfe
    refine ⟨_, rfl, _, [], by simp only; rw [he1], by simp only; rw [he2]; exact Buf.nil _ _, ?_⟩
    subst hyy2; exact (rf_close (rf_in S)).tr.nilR
  · replace hb := Nrm.nrm hb
    refine wp_skip ?_
    refine then_k hK ?_; clear hK; clear K
    refine wp_seq_k ?_; intro K hK
    have hs : s.off = false := by cases h : s.off; rfl; simp [flE, h] at hb
    have hf : x.failed = false := by cases h : x.failed; rfl; simp [flE, hs, h] at hb
    rw [hdd1] at S
    refine region_list ?_
    refine list_pure E rfl rfl (by decide) (rn_move E rfl rfl) ?_; clear E a; intro a E
    refine list_pure E rfl rfl (by decide) (rn_nilCheck E rfl rfl) ?_; clear E a; intro a E
    refine list_pure E rfl rfl (by decide) (by first | exact rn_fieldAddr0 (q := 0) E rfl rfl rfl | exact rn_fieldAddr (q := 0) E rfl rfl rfl) ?_; clear E a; intro a E
    refine list_pure E rfl rfl (by decide) (by first | exact rn_load E rfl rfl rfl (S.get (by repeat (first | exact pk1 | apply pick_tail))) rfl | exact rn_loadc E rfl rfl rfl (by assumption)) ?_; clear E a; intro a E
    refine list_pure E rfl rfl (by decide) (rn_move E rfl rfl) ?_; clear E a; intro a E
    refine list_pure E rfl rfl (by decide) (rn_indexAddr1 (i := n) E rfl rfl rfl rfl rfl rfl (by omega)) ?_; clear E a; intro a E
    refine list_pure E rfl rfl (by decide) (rn_loadc E rfl rfl rfl (h1.rd.cells (S.stab.at (by repeat (first | exact mm1 | assumption | apply List.Mem.tail))) rfl n _ hpt)) ?_; clear E a; intro a E
    refine list_pure E rfl rfl (by decide) (rn_nilCheck E rfl rfl) ?_; clear E a; intro a E
    refine list_pure E rfl rfl (by decide) (by first | exact rn_fieldAddr0 (q := 0) E rfl rfl rfl | exact rn_fieldAddr (q := 0) E rfl rfl rfl) ?_; clear E a; intro a E
    refine list_pure E rfl rfl (by decide) (by first | exact rn_load E rfl rfl rfl (S.get (by repeat (first | exact pk1 | apply pick_tail))) rfl | exact rn_loadc E rfl rfl rfl (by assumption)) ?_; clear E a; intro a E
    refine list_pure E rfl rfl (by decide) (by first | exact rn_len E rfl rfl rfl | exact rn_len_str E rfl rfl rfl | exact rn_len_string E rfl rfl rfl) ?_; clear E a; intro a E
    refine list_pure E rfl rfl (by decide) (rn_assign E rfl rfl) ?_; clear E a; intro a E
    refine wpList_nil ?_
    refine then_k hK ?_; clear hK; clear K
    refine wp_seq_k ?_; intro K hK
    refine wp_seq_k ?_; intro K hK
    replace E := E.keep (e' := [(0, _), (1, _), (2, _), (3, _), (8, _), (9, _), (11, _)]) (keep_cons rfl (keep_cons rfl (keep_cons rfl (keep_cons rfl (keep_cons rfl (keep_cons rfl (keep_cons rfl (keep_nil))))))))
    have hnl : x.now.length = 128 * yvs.length := by omega
    refine wp_join (fun (a : Act) (w' : World) => ∃ c : Bool, c = decide (¬ rdMay x.now.length at_ many) ∧ St w0 [(RfL q s (.slice (some ⟨gd, 0, none⟩) (A ++ yy :: B).length cd) vw Cd Cw J (A ++ yy :: B)).flatten] w' ([(q, qcl s (.slice (some ⟨gd, 0, none⟩) (A ++ yy :: B).length cd) vw)] :: Cd :: Cw :: J :: dd1 yy :: yy.C :: (dch (A ++ B) ++ [])) ∧ Fr a 66 [(0, ptr q), (1, .int .i64 n), (2, .int .i64 at_), (3, .int .i64 many), (49, .bool c)]) ?_ ?_
    · skip
      refine region_list ?_
      refine list_pure E rfl rfl (by decide) (rn_move E rfl rfl) ?_; clear E a; intro a E
      refine list_pure E rfl rfl (by decide) (rn_lss E rfl rfl rfl) ?_; clear E a; intro a E
      refine list_pure E rfl rfl (by decide) (rn_move E rfl rfl) ?_; clear E a; intro a E
      refine guard_split E (t := 34) rfl (fun hb34 => ?_) (fun hb34 => ?_)
      · have hb34n := hb34; replace hb34n := Nrm.nrm hb34n
        refine list_guard_no E rfl rfl rfl rfl hb34 rfl (by decide) ?_; clear E a; intro a E
        refine list_guard_no E rfl rfl rfl rfl hb34 rfl (by decide) ?_; clear E a; intro a E
        refine list_pure E rfl rfl (by decide) (rn_pick_yes' E rfl rfl hb34 rfl) ?_; clear E a; intro a E
        refine list_pure E rfl rfl (by decide) (rn_move E rfl rfl) ?_; clear E a; intro a E
        refine list_guard_no E rfl rfl rfl rfl rfl rfl (by decide) ?_; clear E a; intro a E
        refine list_guard_no E rfl rfl rfl rfl rfl rfl (by decide) ?_; clear E a; intro a E
        refine list_guard_no E rfl rfl rfl rfl rfl rfl (by decide) ?_; clear E a; intro a E
        refine list_pure E rfl rfl (by decide) (rn_pick_yes' E rfl rfl rfl rfl) ?_; clear E a; intro a E
        refine list_pure E rfl rfl (by decide) (rn_move E rfl rfl) ?_; clear E a; intro a E
        refine list_guard_no E rfl rfl rfl rfl rfl rfl (by decide) ?_; clear E a; intro a E
        refine list_guard_no E rfl rfl rfl rfl rfl rfl (by decide) ?_; clear E a; intro a E
        refine list_guard_no E rfl rfl rfl rfl rfl rfl (by decide) ?_; clear E a; intro a E
        refine list_guard_no E rfl rfl rfl rfl rfl rfl (by decide) ?_; clear E a; intro a E
        refine list_guard_no E rfl rfl rfl rfl rfl rfl (by decide) ?_; clear E a; intro a E
        refine list_pure E rfl rfl (by decide) (rn_pick_yes' E rfl rfl rfl rfl) ?_; clear E a; intro a E
        refine wpList_nil ?_
        refine joined_here ?_
        refine ⟨_, ?_, by rw [hdd1]; exact S, E.keep (keep_cons rfl (keep_cons rfl (keep_cons rfl (keep_cons rfl (keep_cons rfl keep_nil)))))⟩
        rw [Bool.eq_iff_iff]; simp only [decide_eq_true_eq, eq_self, true_iff]; unfold rdMay; rw [hnl, Nat.mul_div_cancel_left _ (by decide : 0 < 128)]; omega
      · have hb34n := hb34; replace hb34n := Nrm.nrm hb34n
        refine list_guard_yes E rfl rfl rfl rfl hb34 rfl (by decide) (rn_move E rfl rfl) ?_; clear E a; intro a E
        refine list_guard_yes E rfl rfl rfl rfl hb34 rfl (by decide) (rn_lss E rfl rfl rfl) ?_; clear E a; intro a E
        refine list_pure E rfl rfl (by decide) (rn_pick_no' E rfl rfl hb34 rfl) ?_; clear E a; intro a E
        refine list_pure E rfl rfl (by decide) (rn_move E rfl rfl) ?_; clear E a; intro a E
        refine guard_split E (t := 38) rfl (fun hb38 => ?_) (fun hb38 => ?_)
        · have hb38n := hb38; replace hb38n := Nrm.nrm hb38n
          refine list_guard_no E rfl rfl rfl rfl hb38 rfl (by decide) ?_; clear E a; intro a E
          refine list_guard_no E rfl rfl rfl rfl hb38 rfl (by decide) ?_; clear E a; intro a E
          refine list_guard_no E rfl rfl rfl rfl hb38 rfl (by decide) ?_; clear E a; intro a E
          refine list_pure E rfl rfl (by decide) (rn_pick_yes' E rfl rfl hb38 rfl) ?_; clear E a; intro a E
          refine list_pure E rfl rfl (by decide) (rn_move E rfl rfl) ?_; clear E a; intro a E
          refine list_guard_no E rfl rfl rfl rfl rfl rfl (by decide) ?_; clear E a; intro a E
          refine list_guard_no E rfl rfl rfl rfl rfl rfl (by decide) ?_; clear E a; intro a E
          refine list_guard_no E rfl rfl rfl rfl rfl rfl (by decide) ?_; clear E a; intro a E
          refine list_guard_no E rfl rfl rfl rfl rfl rfl (by decide) ?_; clear E a; intro a E
          refine list_guard_no E rfl rfl rfl rfl rfl rfl (by decide) ?_; clear E a; intro a E
          refine list_pure E rfl rfl (by decide) (rn_pick_yes' E rfl rfl rfl rfl) ?_; clear E a; intro a E
          refine wpList_nil ?_
          refine joined_here ?_
          refine ⟨_, ?_, by rw [hdd1]; exact S, E.keep (keep_cons rfl (keep_cons rfl (keep_cons rfl (keep_cons rfl (keep_cons rfl keep_nil)))))⟩
          rw [Bool.eq_iff_iff]; simp only [decide_eq_true_eq, eq_self, true_iff]; unfold rdMay; rw [hnl, Nat.mul_div_cancel_left _ (by decide : 0 < 128)]; omega
        · have hb38n := hb38; replace hb38n := Nrm.nrm hb38n
          refine list_guard_yes E rfl rfl rfl rfl hb38 rfl (by decide) (rn_move E rfl rfl) ?_; clear E a; intro a E
          refine list_guard_yes E rfl rfl rfl rfl hb38 rfl (by decide) (rn_move E rfl rfl) ?_; clear E a; intro a E
          refine list_guard_yes E rfl rfl rfl rfl hb38 rfl (by decide) (rn_gtr E rfl rfl rfl) ?_; clear E a; intro a E
          refine list_pure E rfl rfl (by decide) (rn_pick_no' E rfl rfl hb38 rfl) ?_; clear E a; intro a E
          refine list_pure E rfl rfl (by decide) (rn_move E rfl rfl) ?_; clear E a; intro a E
          refine guard_split E (t := 43) rfl (fun hb43 => ?_) (fun hb43 => ?_)
          · have hb43n := hb43; replace hb43n := Nrm.nrm hb43n
            refine list_guard_no E rfl rfl rfl rfl hb43 rfl (by decide) ?_; clear E a; intro a E
            refine list_guard_no E rfl rfl rfl rfl hb43 rfl (by decide) ?_; clear E a; intro a E
            refine list_guard_no E rfl rfl rfl rfl hb43 rfl (by decide) ?_; clear E a; intro a E
            refine list_guard_no E rfl rfl rfl rfl hb43 rfl (by decide) ?_; clear E a; intro a E
            refine list_guard_no E rfl rfl rfl rfl hb43 rfl (by decide) ?_; clear E a; intro a E
            refine list_pure E rfl rfl (by decide) (rn_pick_yes' E rfl rfl hb43 rfl) ?_; clear E a; intro a E
            refine wpList_nil ?_
            refine joined_here ?_
            refine ⟨_, ?_, by rw [hdd1]; exact S, E.keep (keep_cons rfl (keep_cons rfl (keep_cons rfl (keep_cons rfl (keep_cons rfl keep_nil)))))⟩
            rw [Bool.eq_iff_iff]; simp only [decide_eq_true_eq, eq_self, true_iff]; unfold rdMay; rw [hnl, Nat.mul_div_cancel_left _ (by decide : 0 < 128)]; omega
          · have hb43n := hb43; replace hb43n := Nrm.nrm hb43n
            refine list_guard_yes E rfl rfl rfl rfl hb43 rfl (by decide) (rn_move E rfl rfl) ?_; clear E a; intro a E
            refine list_guard_yes E rfl rfl rfl rfl hb43 rfl (by decide) (rn_move E rfl rfl) ?_; clear E a; intro a E
            refine list_guard_yes E rfl rfl rfl rfl hb43 rfl (by decide) (rn_move E rfl rfl) ?_; clear E a; intro a E
            refine list_guard_yes E rfl rfl rfl rfl hb43 rfl (by decide) (rn_sub E rfl rfl rfl (w_in (by omega))) ?_; clear E a; intro a E
            refine list_guard_yes E rfl rfl rfl rfl hb43 rfl (by decide) (rn_gtr E rfl rfl rfl) ?_; clear E a; intro a E
            refine list_pure E rfl rfl (by decide) (rn_pick_no' E rfl rfl hb43 rfl) ?_; clear E a; intro a E
            refine wpList_nil ?_
            refine joined_here ?_
            refine ⟨_, ?_, by rw [hdd1]; exact S, E.keep (keep_cons rfl (keep_cons rfl (keep_cons rfl (keep_cons rfl (keep_cons rfl keep_nil)))))⟩
            rw [Bool.eq_iff_iff]; simp only [decide_eq_true_eq, eq_self, true_iff]; unfold rdMay; rw [hnl, Nat.mul_div_cancel_left _ (by decide : 0 < 128)]; omega
    · clear E S a; intro a w J; obtain ⟨c, hc, S, E⟩ := J
      refine then_k hK ?_; clear hK; clear K
      refine if_bool E rfl (fun hb => ?_) (fun hb => ?_)
      · replace hb := Nrm.nrm hb
        have hno : ¬ rdMay x.now.length at_ many := (by rw [hb] at hc; exact of_decide_eq_true hc.symm)
        refine wp_seq_k ?_; intro K hK
        refine region_list ?_
        refine list_pure E rfl rfl (by decide) (rn_assign E rfl rfl) ?_; clear E a; intro a E
        refine list_pure E rfl rfl (by decide) (rn_assign E rfl rfl) ?_; clear E a; intro a E
        refine wpList_nil ?_
        refine then_k hK ?_; clear hK; clear K
        refine wp_ret ?_
        refine then_ret ?_; clear hK; clear K
        refine ret2 E rfl rfl rfl ?_
        have hfe : (rdS s x.failed x.now at_ many) = (1, []) := by
          unfold rdS; rw [if_neg (by simp [hs]), if_neg (by simp [hf]), if_pos hno]
        obtain ⟨he1, he2⟩ := hrd hfe
        refine ⟨_, rfl, _, [], by simp only; rw [he1], by simp only; rw [he2]; exact Buf.nil _ _, ?_⟩
        subst hyy2; exact (rf_close (rf_in S)).tr.nilR
      · replace hb := Nrm.nrm hb
        have hyes : rdMay x.now.length at_ many := (by rw [hb] at hc; exact Decidable.not_not.1 (of_decide_eq_false hc.symm))
        refine wp_skip ?_
        refine then_k hK ?_; clear hK; clear K
        refine wp_seq_k ?_; intro K hK
        have hfe : (rdS s x.failed x.now at_ many) = (0, (x.now.drop (at_.toNat * 128)).take (many.toNat * 128)) := by
          unfold rdS; rw [if_neg (by simp [hs]), if_neg (by simp [hf]), if_neg (fun q => q hyes)]
        obtain ⟨he1, he2⟩ := hrd hfe
        obtain ⟨m1, m2, m3, m4⟩ := hyes
        rw [hnl, Nat.mul_div_cancel_left _ (by decide : 0 < 128)] at m3 m4
        obtain ⟨an, rfl⟩ : ∃ an : Nat, at_ = an := ⟨at_.toNat, by omega⟩
        obtain ⟨mn, rfl⟩ : ∃ mn : Nat, many = mn := ⟨many.toNat, by omega⟩
        rw [Int.toNat_natCast, Int.toNat_natCast] at he2
        have hl9 : ∀ i, i ≤ mn → ((x.now.drop (an * 128)).take (i * 128)).length = i * 128 := fun i hi => by rw [List.length_take, List.length_drop]; omega
        refine region_list ?_
        refine list_pure E rfl rfl (by decide) (rn_assign E rfl rfl) ?_; clear E a; intro a E
        refine wpList_nil ?_
        refine then_k hK ?_; clear hK; clear K
        refine wp_seq_k ?_; intro K hK
        refine wp_seq_k ?_; intro K hK
        refine region_list ?_
        refine list_pure E rfl rfl (by decide) (rn_move E rfl rfl) ?_; clear E a; intro a E
        refine list_pure E rfl rfl (by decide) (rn_assign E rfl rfl) ?_; clear E a; intro a E
        refine wpList_nil ?_
        refine then_k hK ?_; clear hK; clear K
        refine wp_block ?_
        refine wp_loop_ghost (fun (m : Nat) (a : Act) (w' : World) => ∃ (i : Nat) (v : Value) (Cb : Chunk), m = mn - i ∧ i ≤ mn ∧ Buf Cb 5 1 v (i * 128) (byt ((x.now.drop (an * 128)).take (i * 128))) ∧ St w0 [(RfL q s (.slice (some ⟨gd, 0, none⟩) (A ++ yy :: B).length cd) vw Cd Cw J (A ++ yy :: B)).flatten] w' (Cb :: [(q, qcl s (.slice (some ⟨gd, 0, none⟩) (A ++ yy :: B).length cd) vw)] :: Cd :: Cw :: J :: dd1 yy :: yy.C :: (dch (A ++ B) ++ [])) ∧ Fr a 66 [(0, ptr q), (1, .int .i64 n), (2, .int .i64 an), (3, .int .i64 mn), (12, v), (13, .int .i64 (an + i : Nat))]) (mn - 0) ?_ ?_
        · exact ⟨0, _, [], rfl, by omega, by simpa [byt] using Buf.nil 5 1, S.addNil, E.keep (keep_cons rfl (keep_cons rfl (keep_cons rfl (keep_cons rfl (keep_cons rfl (keep_cons rfl keep_nil))))))⟩
        clear E; clear a; (try clear S); rintro m a w ⟨i, v, Cb, rfl, hi, hCb, S, E⟩
        refine wp_seq_k ?_; intro K hK
        refine wp_seq_k ?_; intro K hK
        refine region_list ?_
        refine list_pure E rfl rfl (by decide) (rn_move E rfl rfl) ?_; clear E a; intro a E
        refine list_pure E rfl rfl (by decide) (rn_move E rfl rfl) ?_; clear E a; intro a E
        refine list_pure E rfl rfl (by decide) (rn_move E rfl rfl) ?_; clear E a; intro a E
        refine list_pure E rfl rfl (by decide) (rn_add E rfl rfl rfl (by first | exact wa1 (by omega) | exact w_in (by omega) | exact w_inu (by omega) | exact rfl)) ?_; clear E a; intro a E
        refine list_pure E rfl rfl (by decide) (rn_lss E rfl rfl rfl) ?_; clear E a; intro a E
        refine wpList_nil ?_
        refine then_k hK ?_; clear hK; clear K
        refine if_bool E rfl (fun hb => ?_) (fun hb => ?_)
        · replace hb := Nrm.nrm hb
          refine wp_skip ?_
          refine then_k hK ?_; clear hK; clear K
          refine wp_seq_k ?_; intro K hK
          refine wp_block ?_
          refine wp_seq_k ?_; intro K hK
          have him : i < mn := by omega
          have S := S.front6 (A := [(q, _)]) (by repeat (first | exact pk1 | apply pick_tail)) (B := Cd) (by repeat (first | exact pk1 | apply pick_tail)) (C := Cw) (by repeat (first | exact pk1 | apply pick_tail)) (D := dd1 yy) (by repeat (first | exact pk1 | apply pick_tail)) (F := yy.C) (by repeat (first | exact pk1 | apply pick_tail)) (G := Cb) (by repeat (first | exact pk1 | apply pick_tail))
          refine region_list ?_
          refine list_pure E rfl rfl (by decide) (rn_move E rfl rfl) ?_; clear E a; intro a E
          refine list_pure E rfl rfl (by decide) (rn_move E rfl rfl) ?_; clear E a; intro a E
          refine list_pure E rfl rfl (by decide) (rn_move E rfl rfl) ?_; clear E a; intro a E
          refine list_call E rfl rfl (by decide) rfl Try.func49 rfl (by kernel_rfl) rfl (qseen_ret q s _ _ Cd Cw J ds ws _ us h1 h2 h3 h4 hok hwo n x hx hnw yy hy (an + i) (by rw [hyvs]; omega) _ (S.hp.sel (sel_cons (by repeat (first | exact pk1 | apply pick_tail)) (sel_cons (by repeat (first | exact pk1 | apply pick_tail)) (sel_cons (by repeat (first | exact pk1 | apply pick_tail)) (sel_cons (by repeat (first | exact pk1 | apply pick_tail)) (sel_cons (by repeat (first | exact pk1 | apply pick_tail)) (sel_nil _)))))))) ?_
          rintro v61 w ⟨vsn, rfl, hsn, hT⟩; clear E a; intro a E
          have S := S.call (sel_cons (by repeat (first | exact pk1 | apply pick_tail)) (sel_cons (by repeat (first | exact pk1 | apply pick_tail)) (sel_cons (by repeat (first | exact pk1 | apply pick_tail)) (sel_cons (by repeat (first | exact pk1 | apply pick_tail)) (sel_cons (by repeat (first | exact pk1 | apply pick_tail)) (sel_nil _)))))) hT
          have S : St w0 _ _ ([(q, qcl s (.slice (some ⟨gd, 0, none⟩) (A ++ yy :: B).length cd) vw)] :: Cd :: Cw :: dd1 yy :: yy.C :: Cb :: J :: (dch (A ++ B) ++ [])) := S
          have hsl : (secB x.now (an + i)).length = 128 := secB_length (by omega)
          refine list_pure E rfl rfl (by decide) (rn_assign E rfl rfl) ?_; clear E a; intro a E
          refine wpList_nil ?_
          refine then_k hK ?_; clear hK; clear K
          refine region_list ?_
          refine list_pure E rfl rfl (by decide) (rn_move E rfl rfl) ?_; clear E a; intro a E
          refine list_pure E rfl rfl (by decide) (rn_move E rfl rfl) ?_; clear E a; intro a E
          refine list_wp rfl (wp_append (by' := 1) E S rfl rfl (by decide) rfl rfl hCb (by repeat (first | exact pk1 | apply pick_tail)) (hsn.src (S.stab.at (by repeat (first | exact mm1 | assumption | apply List.Mem.tail))) rfl) rfl rfl rfl rfl rfl rfl (by simp only [maxLen]; omega) (by omega) ?_); clear E S a; intro a w v64 C64 E S hB64
          rw [← byt_append, take_secs _ _ _ (by omega), show i * 128 + 128 = (i + 1) * 128 by omega] at hB64
          refine list_pure E rfl rfl (by decide) (rn_assign E rfl rfl) ?_; clear E a; intro a E
          refine wpList_nil ?_
          refine in_normal ?_
          refine then_k hK ?_; clear hK; clear K
          refine region_list ?_
          refine list_pure E rfl rfl (by decide) (rn_move E rfl rfl) ?_; clear E a; intro a E
          refine list_pure E rfl rfl (by decide) (rn_add E rfl rfl rfl (by first | exact wa_lit (y := 1) (by omega) | exact w_in (by omega) | exact w_inu (by omega) | exact rfl)) ?_; clear E a; intro a E
          refine list_pure E rfl rfl (by decide) (rn_assign E rfl rfl) ?_; clear E a; intro a E
          refine wpList_nil ?_
          refine then_normal ?_
          exact ⟨_, by omega, i + 1, _, C64, rfl, by omega, hB64, (S.front5 (A := C64) (by repeat (first | exact pk1 | apply pick_tail)) (B := [(q, _)]) (by repeat (first | exact pk1 | apply pick_tail)) (C := Cd) (by repeat (first | exact pk1 | apply pick_tail)) (D := Cw) (by repeat (first | exact pk1 | apply pick_tail)) (F := J) (by repeat (first | exact pk1 | apply pick_tail))), E.keep (keep_cons rfl (keep_cons rfl (keep_cons rfl (keep_cons rfl (keep_cons rfl (keep_cons rfl keep_nil))))))⟩
        · replace hb := Nrm.nrm hb
          refine wp_exit ?_
          refine then_exit ?_; clear hK; clear K
          refine then_exit ?_
          refine in_exit ?_
          refine then_k hK ?_; clear hK; clear K
          refine wp_seq_k ?_; intro K hK
          refine region_list ?_
          refine list_pure E rfl rfl (by decide) (rn_move E rfl rfl) ?_; clear E a; intro a E
          refine list_pure E rfl rfl (by decide) (rn_assign E rfl rfl) ?_; clear E a; intro a E
          refine list_pure E rfl rfl (by decide) (rn_assign E rfl rfl) ?_; clear E a; intro a E
          refine wpList_nil ?_
          refine then_k hK ?_; clear hK; clear K
          refine wp_ret ?_
          refine ret2 E rfl rfl rfl ?_
          obtain rfl : i = mn := by omega
          have hl := hl9 i (Nat.le_refl _)
          refine ⟨_, rfl, v, Cb, by rw [he1], by rw [he2, hl]; exact hCb, ?_⟩
          have S := S.front6 (A := [(q, qcl s (.slice (some ⟨gd, 0, none⟩) (A ++ yy :: B).length cd) vw)]) (by repeat (first | exact pk1 | apply pick_tail)) (B := Cd) (by repeat (first | exact pk1 | apply pick_tail)) (C := Cw) (by repeat (first | exact pk1 | apply pick_tail)) (D := J) (by repeat (first | exact pk1 | apply pick_tail)) (F := dd1 yy) (by repeat (first | exact pk1 | apply pick_tail)) (G := yy.C) (by repeat (first | exact pk1 | apply pick_tail))
          have hpm : (Cb :: (dch (A ++ B) ++ [])).Perm (dch (A ++ B) ++ [Cb]) := (List.perm_middle (l₁ := dch (A ++ B)) (a := Cb) (l₂ := [])).symm
          have S := S.perm ((((((hpm.cons _).cons _).cons _).cons _).cons _).cons _)
          subst hyy2
          exact (rf_close (Ls := [Cb]) (rf_in S)).perm2.tr
end Go.Proofs.Ytpppaohhnlgfoaa
