/-
  Labels: when one may be.
-/
import Derived.Test.YtmghbcaookahaaaDoorUbF
namespace Go.Sl
abbrev lbagg (l : Lbl) (v : Value) : Value := .agg #[.int .u64 l.pool, v, .int .i64 l.top, .int .i64 l.place]
/-- The first half of what a label must be. -/
def Lbl.half (l : Lbl) : Prop := 1 ≤ l.tops.length ∧ l.tops.length ≤ 4 ∧ 0 ≤ l.top ∧ l.top < l.tops.length ∧ 0 ≤ l.place ∧ l.place < (l.tops.getD l.top.toNat tpZero).leaves
theorem lbE_iff (l : Lbl) : lbE l = 0 ↔ l.half ∧ ∀ t ∈ l.tops, t.made := by
  unfold lbE; split
  · rename_i h; obtain ⟨h1, h2, h3, h4, h5, h6, h7⟩ := h; exact ⟨fun _ => ⟨⟨h1, h2, h3, h4, h5, h6⟩, h7⟩, fun _ => rfl⟩
  · rename_i h; exact ⟨fun q => (by cases q), fun ⟨⟨h1, h2, h3, h4, h5, h6⟩, h7⟩ => absurd ⟨h1, h2, h3, h4, h5, h6, h7⟩ h⟩
theorem lbE_no {l : Lbl} (h : lbE l ≠ 0) : lbE l = 42 := by
  unfold lbE at *; split
  · rename_i c; rw [if_pos c] at h; exact absurd rfl h
  · rfl
theorem lbE_half {l : Lbl} (h : ¬ l.half) : lbE l = 42 := lbE_no (fun q => h ((lbE_iff l).1 q).1)
theorem getD_at {l : Lbl} {n : Nat} (h : l.top = n) (hn : n < l.tops.length) : l.tops.getD l.top.toNat tpZero = l.tops[n] := by simp [h, List.getD, hn]
theorem made_all {l : List Tp} {i : Nat} (h : ∀ j (hj : j < l.length), j < i → l[j].made) (hi : l.length ≤ i) : ∀ t ∈ l, t.made := fun t ht => by
  obtain ⟨j, hj, rfl⟩ := List.getElem_of_mem ht
  exact h j hj (by omega)
def Tp.eqB (a b : Tp) : Bool := (a.kind == b.kind) && ((a.leaves == b.leaves) && (a.sectors == b.sectors))
theorem Tp.eqB_eq (p q : Tp) : p.eqB q = decide (p = q) := by
  cases p; cases q
  rw [Bool.eq_iff_iff]
  simp only [Tp.eqB, Bool.and_eq_true, beq_iff_eq, decide_eq_true_eq, Tp.mk.injEq]
theorem tops_same {a b : List Tp} {i : Nat} (hl : a.length = b.length) (h : ∀ j, j < i → a[j]? = b[j]?) (hi : a.length ≤ i) : a = b := by
  apply List.ext_getElem?
  intro j
  by_cases hj : j < i
  · exact h j hj
  · rw [List.getElem?_eq_none (by omega), List.getElem?_eq_none (by omega)]
end Go.Sl
namespace Go.Proofs.YtmghbcaookahaaaDoor
open Go.Sl
set_option maxRecDepth 10000

theorem made_ret (t : Tp) (w0 : World) : Ret Tryd.prog 41 #[t.agg] w0 fun u w' => u = .bool (decide t.made) ∧ Trs w0 w' [] [] := by
  have S := St.begin (hp_nil w0)
  obtain ⟨k, lv, sc⟩ := t
  change Ret Tryd.prog _ #[.agg #[.int .i64 k, .int .i64 lv, .int .i64 sc]] w0 _
  refine enter1 40 Tryd.func41 rfl rfl (by decide) ?_; intro a E
  refine wp_seq_k ?_; intro K hK
  refine region_list ?_
  refine list_wp rfl (wp_box E S rfl rfl (by decide) rfl rfl ?_); clear E S a; intro a w b1 E S
  refine list_pure E rfl rfl (by decide) (rn_assign E rfl rfl) ?_; clear E a; intro a E
  refine wpList_nil ?_
  refine then_k hK ?_; clear hK; clear K
  refine wp_seq_k ?_; intro K hK
  refine region_list ?_
  refine list_pure E rfl rfl (by decide) (rn_build (cells := [_, _, _, _]) E rfl rfl rfl) ?_; clear E a; intro a E
  refine list_wp rfl (wp_alloc E S rfl rfl (by decide) rfl rfl rfl ?_); clear E S a; intro a w b3 E S
  refine list_wp rfl (wp_storeN E S rfl rfl rfl rfl (by simp [Value.oneCell']) rfl (by repeat (first | exact pk1 | apply pick_tail)) (by simp) ?_); clear E S a; intro a w E S; simp only [List.take_succ_cons, List.take_zero, List.drop_succ_cons, List.drop_zero, List.cons_append, List.nil_append, List.append_nil, List.length_cons, List.length_nil, Nat.zero_add, Nat.add_zero] at S
  refine wpList_nil ?_
  refine then_k hK ?_; clear hK; clear K
  refine wp_seq_k ?_; intro K hK
  refine wp_seq_k ?_; intro K hK
  refine wp_join (fun (a : Act) (w' : World) => ∃ bt : Bool, (bt = false ↔ 1 ≤ k ∧ k ≤ 3 ∧ 324 ≤ sc ∧ sc ≤ 8192) ∧ (∃ Ls, St w0 [] w' ([(b1, cel [.int .i64 k, .int .i64 lv, .int .i64 sc] 39)] :: [(b3, cel [.int .i64 0, .int .i64 1, .int .i64 2, .int .i64 3] 95)] :: Ls)) ∧ Fr a 40 [(1, ptr b1), (3, ptr b3), (23, .bool bt)]) ?_ ?_
  · skip
    refine region_list ?_
    refine list_pure E rfl rfl (by decide) (by first | exact rn_fieldAddr0 (q := 0) E rfl rfl rfl | exact rn_fieldAddr (q := 0) E rfl rfl rfl) ?_; clear E a; intro a E
    refine list_pure E rfl rfl (by decide) (by first | exact rn_load E rfl rfl rfl (S.get (by repeat (first | exact pk1 | apply pick_tail))) rfl | exact rn_loadc E rfl rfl rfl (by assumption)) ?_; clear E a; intro a E
    refine list_pure E rfl rfl (by decide) (rn_lss E rfl rfl rfl) ?_; clear E a; intro a E
    refine list_pure E rfl rfl (by decide) (rn_move E rfl rfl) ?_; clear E a; intro a E
    refine guard_split E (t := 9) rfl (fun hb9 => ?_) (fun hb9 => ?_)
    · have hb9n := hb9; replace hb9n := Nrm.nrm hb9n
      refine list_guard_no E rfl rfl rfl rfl hb9 rfl (by decide) ?_; clear E a; intro a E
      refine list_guard_no E rfl rfl rfl rfl hb9 rfl (by decide) ?_; clear E a; intro a E
      refine list_guard_no E rfl rfl rfl rfl hb9 rfl (by decide) ?_; clear E a; intro a E
      refine list_pure E rfl rfl (by decide) (rn_pick_yes' E rfl rfl hb9 rfl) ?_; clear E a; intro a E
      refine list_pure E rfl rfl (by decide) (rn_move E rfl rfl) ?_; clear E a; intro a E
      refine list_guard_no E rfl rfl rfl rfl rfl rfl (by decide) ?_; clear E a; intro a E
      refine list_guard_no E rfl rfl rfl rfl rfl rfl (by decide) ?_; clear E a; intro a E
      refine list_guard_no E rfl rfl rfl rfl rfl rfl (by decide) ?_; clear E a; intro a E
      refine list_pure E rfl rfl (by decide) (rn_pick_yes' E rfl rfl rfl rfl) ?_; clear E a; intro a E
      refine list_pure E rfl rfl (by decide) (rn_move E rfl rfl) ?_; clear E a; intro a E
      refine list_guard_no E rfl rfl rfl rfl rfl rfl (by decide) ?_; clear E a; intro a E
      refine list_guard_no E rfl rfl rfl rfl rfl rfl (by decide) ?_; clear E a; intro a E
      refine list_guard_no E rfl rfl rfl rfl rfl rfl (by decide) ?_; clear E a; intro a E
      refine list_pure E rfl rfl (by decide) (rn_pick_yes' E rfl rfl rfl rfl) ?_; clear E a; intro a E
      refine wpList_nil ?_
      refine joined_here ?_
      exact ⟨_, by simp; omega, ⟨_, S.front2 (by repeat (first | exact pk1 | apply pick_tail)) (by repeat (first | exact pk1 | apply pick_tail))⟩, E.keep (keep_cons rfl (keep_cons rfl (keep_cons rfl keep_nil)))⟩
    · have hb9n := hb9; replace hb9n := Nrm.nrm hb9n
      refine list_guard_yes E rfl rfl rfl rfl hb9 rfl (by decide) (by first | exact rn_fieldAddr0 (q := 0) E rfl rfl rfl | exact rn_fieldAddr (q := 0) E rfl rfl rfl) ?_; clear E a; intro a E
      refine list_guard_yes E rfl rfl rfl rfl hb9 rfl (by decide) (by first | exact rn_load E rfl rfl rfl (S.get (by repeat (first | exact pk1 | apply pick_tail))) rfl | exact rn_loadc E rfl rfl rfl (by assumption)) ?_; clear E a; intro a E
      refine list_guard_yes E rfl rfl rfl rfl hb9 rfl (by decide) (rn_gtr E rfl rfl rfl) ?_; clear E a; intro a E
      refine list_pure E rfl rfl (by decide) (rn_pick_no' E rfl rfl hb9 rfl) ?_; clear E a; intro a E
      refine list_pure E rfl rfl (by decide) (rn_move E rfl rfl) ?_; clear E a; intro a E
      refine guard_split E (t := 14) rfl (fun hb14 => ?_) (fun hb14 => ?_)
      · have hb14n := hb14; replace hb14n := Nrm.nrm hb14n
        refine list_guard_no E rfl rfl rfl rfl hb14 rfl (by decide) ?_; clear E a; intro a E
        refine list_guard_no E rfl rfl rfl rfl hb14 rfl (by decide) ?_; clear E a; intro a E
        refine list_guard_no E rfl rfl rfl rfl hb14 rfl (by decide) ?_; clear E a; intro a E
        refine list_pure E rfl rfl (by decide) (rn_pick_yes' E rfl rfl hb14 rfl) ?_; clear E a; intro a E
        refine list_pure E rfl rfl (by decide) (rn_move E rfl rfl) ?_; clear E a; intro a E
        refine list_guard_no E rfl rfl rfl rfl rfl rfl (by decide) ?_; clear E a; intro a E
        refine list_guard_no E rfl rfl rfl rfl rfl rfl (by decide) ?_; clear E a; intro a E
        refine list_guard_no E rfl rfl rfl rfl rfl rfl (by decide) ?_; clear E a; intro a E
        refine list_pure E rfl rfl (by decide) (rn_pick_yes' E rfl rfl rfl rfl) ?_; clear E a; intro a E
        refine wpList_nil ?_
        refine joined_here ?_
        exact ⟨_, by simp; omega, ⟨_, S.front2 (by repeat (first | exact pk1 | apply pick_tail)) (by repeat (first | exact pk1 | apply pick_tail))⟩, E.keep (keep_cons rfl (keep_cons rfl (keep_cons rfl keep_nil)))⟩
      · have hb14n := hb14; replace hb14n := Nrm.nrm hb14n
        refine list_guard_yes E rfl rfl rfl rfl hb14 rfl (by decide) (by first | exact rn_fieldAddr0 (q := 2) E rfl rfl rfl | exact rn_fieldAddr (q := 2) E rfl rfl rfl) ?_; clear E a; intro a E
        refine list_guard_yes E rfl rfl rfl rfl hb14 rfl (by decide) (by first | exact rn_load E rfl rfl rfl (S.get (by repeat (first | exact pk1 | apply pick_tail))) rfl | exact rn_loadc E rfl rfl rfl (by assumption)) ?_; clear E a; intro a E
        refine list_guard_yes E rfl rfl rfl rfl hb14 rfl (by decide) (rn_lss E rfl rfl rfl) ?_; clear E a; intro a E
        refine list_pure E rfl rfl (by decide) (rn_pick_no' E rfl rfl hb14 rfl) ?_; clear E a; intro a E
        refine list_pure E rfl rfl (by decide) (rn_move E rfl rfl) ?_; clear E a; intro a E
        refine guard_split E (t := 19) rfl (fun hb19 => ?_) (fun hb19 => ?_)
        · have hb19n := hb19; replace hb19n := Nrm.nrm hb19n
          refine list_guard_no E rfl rfl rfl rfl hb19 rfl (by decide) ?_; clear E a; intro a E
          refine list_guard_no E rfl rfl rfl rfl hb19 rfl (by decide) ?_; clear E a; intro a E
          refine list_guard_no E rfl rfl rfl rfl hb19 rfl (by decide) ?_; clear E a; intro a E
          refine list_pure E rfl rfl (by decide) (rn_pick_yes' E rfl rfl hb19 rfl) ?_; clear E a; intro a E
          refine wpList_nil ?_
          refine joined_here ?_
          exact ⟨_, by simp; omega, ⟨_, S.front2 (by repeat (first | exact pk1 | apply pick_tail)) (by repeat (first | exact pk1 | apply pick_tail))⟩, E.keep (keep_cons rfl (keep_cons rfl (keep_cons rfl keep_nil)))⟩
        · have hb19n := hb19; replace hb19n := Nrm.nrm hb19n
          refine list_guard_yes E rfl rfl rfl rfl hb19 rfl (by decide) (by first | exact rn_fieldAddr0 (q := 2) E rfl rfl rfl | exact rn_fieldAddr (q := 2) E rfl rfl rfl) ?_; clear E a; intro a E
          refine list_guard_yes E rfl rfl rfl rfl hb19 rfl (by decide) (by first | exact rn_load E rfl rfl rfl (S.get (by repeat (first | exact pk1 | apply pick_tail))) rfl | exact rn_loadc E rfl rfl rfl (by assumption)) ?_; clear E a; intro a E
          refine list_guard_yes E rfl rfl rfl rfl hb19 rfl (by decide) (rn_gtr E rfl rfl rfl) ?_; clear E a; intro a E
          refine list_pure E rfl rfl (by decide) (rn_pick_no' E rfl rfl hb19 rfl) ?_; clear E a; intro a E
          refine wpList_nil ?_
          refine joined_here ?_
          exact ⟨_, by simp; omega, ⟨_, S.front2 (by repeat (first | exact pk1 | apply pick_tail)) (by repeat (first | exact pk1 | apply pick_tail))⟩, E.keep (keep_cons rfl (keep_cons rfl (keep_cons rfl keep_nil)))⟩
  · clear E S a; intro a w J; obtain ⟨bt, hbt, ⟨Ls, S⟩, E⟩ := J
    refine then_k hK ?_; clear hK; clear K
    refine if_bool E rfl (fun hb => ?_) (fun hb => ?_)
    · replace hb := Nrm.nrm hb
      have hno : ¬ (1 ≤ k ∧ k ≤ 3 ∧ 324 ≤ sc ∧ sc ≤ 8192) := (fun q => by rw [hbt.2 q] at hb; cases hb)
      refine wp_seq_k ?_; intro K hK
      refine region_list ?_
      refine list_pure E rfl rfl (by decide) (rn_assign E rfl rfl) ?_; clear E a; intro a E
      refine wpList_nil ?_
      refine then_k hK ?_; clear hK; clear K
      refine wp_ret ?_
      refine then_ret ?_; clear hK; clear K
      refine ret1 E rfl rfl ?_
      exact ⟨_, rfl, by rw [decide_eq_false]; unfold Tp.made; simp only; omega, (S.only (Bs := []) (sel_nil _)).tr⟩
    · replace hb := Nrm.nrm hb
      obtain ⟨h1, h2, h3, h4⟩ := hbt.1 hb
      refine wp_skip ?_
      refine then_k hK ?_; clear hK; clear K
      refine wp_seq_k ?_; intro K hK
      refine region_list ?_
      refine list_pure E rfl rfl (by decide) (rn_assign E rfl rfl) ?_; clear E a; intro a E
      refine wpList_nil ?_
      refine then_k hK ?_; clear hK; clear K
      refine wp_seq_k ?_; intro K hK
      refine wp_seq_k ?_; intro K hK
      refine region_list ?_
      refine list_pure E rfl rfl (by decide) (by first | exact rn_fieldAddr0 (q := 0) E rfl rfl rfl | exact rn_fieldAddr (q := 0) E rfl rfl rfl) ?_; clear E a; intro a E
      refine list_pure E rfl rfl (by decide) (by first | exact rn_load E rfl rfl rfl (S.get (by repeat (first | exact pk1 | apply pick_tail))) rfl | exact rn_loadc E rfl rfl rfl (by assumption)) ?_; clear E a; intro a E
      rcases (show k = 1 ∨ k = 2 ∨ k = 3 by omega) with rfl | rfl | rfl
      · skip
        refine list_pure E rfl rfl (by decide) (by first | exact rn_eql E rfl rfl rfl | exact rn_eql_ptr_nil E rfl rfl rfl rfl | exact rn_eql_bool E rfl rfl rfl rfl | exact rn_eql_string E rfl rfl rfl) ?_; clear E a; intro a E
        refine wpList_nil ?_
        refine then_k hK ?_; clear hK; clear K
        refine if_true' E rfl ((by decide)) ?_
        refine region_list ?_
        refine list_pure E rfl rfl (by decide) (rn_assign E rfl rfl) ?_; clear E a; intro a E
        refine wpList_nil ?_
        refine then_k hK ?_; clear hK; clear K
        refine wp_seq_k ?_; intro K hK
        refine region_mix0 S (.ofL [(0, 0), (1, 0), (2, 0), (3, 0), (4, 0), (5, 0), (6, 0), (7, 0), (8, 0), (9, 0), (10, 0), (11, 0), (12, 0), (13, 0)]) (by kernel_rfl) (by kernel_rfl) ?_
        clear S; intro w S
        refine mix_pure E rfl rfl rfl (by decide) (fun w h => by first | exact rn_fieldAddr0 (q := 1) E rfl rfl rfl | exact rn_fieldAddr (q := 1) E rfl rfl rfl) ?_; clear E a; intro a E
        refine mix_pure E rfl rfl rfl (by decide) (fun w h => by first | exact rn_load E rfl rfl rfl (h.one (by repeat (first | exact mm1 | apply List.Mem.tail))) rfl | exact rn_loadc E rfl rfl rfl (by assumption)) ?_; clear E a; intro a E
        refine mix_pure E rfl rfl rfl (by decide) (fun w h => by first | exact rn_fieldAddr0 (q := 0) E rfl rfl rfl | exact rn_fieldAddr (q := 0) E rfl rfl rfl) ?_; clear E a; intro a E
        refine mix_pure E rfl rfl rfl (by decide) (fun w h => by first | exact rn_load E rfl rfl rfl (h.one (by repeat (first | exact mm1 | apply List.Mem.tail))) rfl | exact rn_loadc E rfl rfl rfl (by assumption)) ?_; clear E a; intro a E
        refine mix_pure E rfl rfl rfl (by decide) (fun w h => rn_indexAddr_array (i := 1) E rfl rfl rfl rfl rfl rfl (by omega)) ?_; clear E a; intro a E
        refine mix_pure E rfl rfl rfl (by decide) (fun w h => by first | exact rn_load E rfl rfl rfl (h.one (by repeat (first | exact mm1 | apply List.Mem.tail))) rfl | exact rn_loadc E rfl rfl rfl (by assumption)) ?_; clear E a; intro a E
        refine mix_pure E rfl rfl rfl (by decide) (fun w h => rn_geq E rfl rfl rfl) ?_; clear E a; intro a E
        refine mix_pure E rfl rfl rfl (by decide) (fun w h => rn_move E rfl rfl) ?_; clear E a; intro a E
        refine guard_split E (t := 34) rfl (fun hb34 => ?_) (fun hb34 => ?_)
        · have hb34n := hb34; replace hb34n := Nrm.nrm hb34n
          refine mix_guard_yes E rfl rfl rfl rfl rfl hb34 rfl (by decide) (fun w h => by first | exact rn_fieldAddr0 (q := 1) E rfl rfl rfl | exact rn_fieldAddr (q := 1) E rfl rfl rfl) ?_; clear E a; intro a E
          refine mix_guard_yes E rfl rfl rfl rfl rfl hb34 rfl (by decide) (fun w h => by first | exact rn_load E rfl rfl rfl (h.one (by repeat (first | exact mm1 | apply List.Mem.tail))) rfl | exact rn_loadc E rfl rfl rfl (by assumption)) ?_; clear E a; intro a E
          refine mix_guard_yes E rfl rfl rfl rfl rfl hb34 rfl (by decide) (fun w h => rn_move E rfl rfl) ?_; clear E a; intro a E
          refine mix_guard_yes E rfl rfl rfl rfl rfl hb34 rfl (by decide) (fun w h => rn_leq E rfl rfl rfl) ?_; clear E a; intro a E
          refine mix_pure E rfl rfl rfl (by decide) (fun w h => rn_pick_yes' E rfl rfl hb34 rfl) ?_; clear E a; intro a E
          refine mix_pure E rfl rfl rfl (by decide) (fun w h => rn_assign E rfl rfl) ?_; clear E a; intro a E
          refine mix_nil ?_
          refine then_k hK ?_; clear hK; clear K
          refine wp_ret ?_
          refine ret1 E rfl rfl ?_
          exact ⟨_, rfl, by congr 1; rw [Bool.eq_iff_iff, decide_eq_true_eq (p := Tp.made _)]; unfold Tp.made; simp; omega, (S.only (Bs := []) (sel_nil _)).tr⟩
        · have hb34n := hb34; replace hb34n := Nrm.nrm hb34n
          refine mix_guard_no E rfl rfl rfl rfl rfl hb34 rfl (by decide) ?_; clear E a; intro a E
          refine mix_guard_no E rfl rfl rfl rfl rfl hb34 rfl (by decide) ?_; clear E a; intro a E
          refine mix_guard_no E rfl rfl rfl rfl rfl hb34 rfl (by decide) ?_; clear E a; intro a E
          refine mix_guard_no E rfl rfl rfl rfl rfl hb34 rfl (by decide) ?_; clear E a; intro a E
          refine mix_pure E rfl rfl rfl (by decide) (fun w h => rn_pick_no' E rfl rfl hb34 rfl) ?_; clear E a; intro a E
          refine mix_pure E rfl rfl rfl (by decide) (fun w h => rn_assign E rfl rfl) ?_; clear E a; intro a E
          refine mix_nil ?_
          refine then_k hK ?_; clear hK; clear K
          refine wp_ret ?_
          refine ret1 E rfl rfl ?_
          exact ⟨_, rfl, by congr 1; rw [Bool.eq_iff_iff, decide_eq_true_eq (p := Tp.made _)]; unfold Tp.made; simp; omega, (S.only (Bs := []) (sel_nil _)).tr⟩
      · skip
        refine list_pure E rfl rfl (by decide) (by first | exact rn_eql E rfl rfl rfl | exact rn_eql_ptr_nil E rfl rfl rfl rfl | exact rn_eql_bool E rfl rfl rfl rfl | exact rn_eql_string E rfl rfl rfl) ?_; clear E a; intro a E
        refine wpList_nil ?_
        refine then_k hK ?_; clear hK; clear K
        refine if_false' E rfl ((by decide)) ?_
        refine wp_skip ?_
        refine then_k hK ?_; clear hK; clear K
        refine wp_seq_k ?_; intro K hK
        refine region_mix0 S (.ofL [(0, 0), (1, 0), (2, 0), (3, 0), (4, 0), (5, 0), (6, 0), (7, 0), (8, 0), (9, 0), (10, 0), (11, 0), (12, 0), (13, 0)]) (by kernel_rfl) (by kernel_rfl) ?_
        clear S; intro w S
        refine mix_pure E rfl rfl rfl (by decide) (fun w h => by first | exact rn_fieldAddr0 (q := 1) E rfl rfl rfl | exact rn_fieldAddr (q := 1) E rfl rfl rfl) ?_; clear E a; intro a E
        refine mix_pure E rfl rfl rfl (by decide) (fun w h => by first | exact rn_load E rfl rfl rfl (h.one (by repeat (first | exact mm1 | apply List.Mem.tail))) rfl | exact rn_loadc E rfl rfl rfl (by assumption)) ?_; clear E a; intro a E
        refine mix_pure E rfl rfl rfl (by decide) (fun w h => by first | exact rn_fieldAddr0 (q := 0) E rfl rfl rfl | exact rn_fieldAddr (q := 0) E rfl rfl rfl) ?_; clear E a; intro a E
        refine mix_pure E rfl rfl rfl (by decide) (fun w h => by first | exact rn_load E rfl rfl rfl (h.one (by repeat (first | exact mm1 | apply List.Mem.tail))) rfl | exact rn_loadc E rfl rfl rfl (by assumption)) ?_; clear E a; intro a E
        refine mix_pure E rfl rfl rfl (by decide) (fun w h => rn_indexAddr_array (i := 2) E rfl rfl rfl rfl rfl rfl (by omega)) ?_; clear E a; intro a E
        refine mix_pure E rfl rfl rfl (by decide) (fun w h => by first | exact rn_load E rfl rfl rfl (h.one (by repeat (first | exact mm1 | apply List.Mem.tail))) rfl | exact rn_loadc E rfl rfl rfl (by assumption)) ?_; clear E a; intro a E
        refine mix_pure E rfl rfl rfl (by decide) (fun w h => rn_geq E rfl rfl rfl) ?_; clear E a; intro a E
        refine mix_pure E rfl rfl rfl (by decide) (fun w h => rn_move E rfl rfl) ?_; clear E a; intro a E
        refine guard_split E (t := 34) rfl (fun hb34 => ?_) (fun hb34 => ?_)
        · have hb34n := hb34; replace hb34n := Nrm.nrm hb34n
          refine mix_guard_yes E rfl rfl rfl rfl rfl hb34 rfl (by decide) (fun w h => by first | exact rn_fieldAddr0 (q := 1) E rfl rfl rfl | exact rn_fieldAddr (q := 1) E rfl rfl rfl) ?_; clear E a; intro a E
          refine mix_guard_yes E rfl rfl rfl rfl rfl hb34 rfl (by decide) (fun w h => by first | exact rn_load E rfl rfl rfl (h.one (by repeat (first | exact mm1 | apply List.Mem.tail))) rfl | exact rn_loadc E rfl rfl rfl (by assumption)) ?_; clear E a; intro a E
          refine mix_guard_yes E rfl rfl rfl rfl rfl hb34 rfl (by decide) (fun w h => rn_move E rfl rfl) ?_; clear E a; intro a E
          refine mix_guard_yes E rfl rfl rfl rfl rfl hb34 rfl (by decide) (fun w h => rn_leq E rfl rfl rfl) ?_; clear E a; intro a E
          refine mix_pure E rfl rfl rfl (by decide) (fun w h => rn_pick_yes' E rfl rfl hb34 rfl) ?_; clear E a; intro a E
          refine mix_pure E rfl rfl rfl (by decide) (fun w h => rn_assign E rfl rfl) ?_; clear E a; intro a E
          refine mix_nil ?_
          refine then_k hK ?_; clear hK; clear K
          refine wp_ret ?_
          refine ret1 E rfl rfl ?_
          exact ⟨_, rfl, by congr 1; rw [Bool.eq_iff_iff, decide_eq_true_eq (p := Tp.made _)]; unfold Tp.made; simp; omega, (S.only (Bs := []) (sel_nil _)).tr⟩
        · have hb34n := hb34; replace hb34n := Nrm.nrm hb34n
          refine mix_guard_no E rfl rfl rfl rfl rfl hb34 rfl (by decide) ?_; clear E a; intro a E
          refine mix_guard_no E rfl rfl rfl rfl rfl hb34 rfl (by decide) ?_; clear E a; intro a E
          refine mix_guard_no E rfl rfl rfl rfl rfl hb34 rfl (by decide) ?_; clear E a; intro a E
          refine mix_guard_no E rfl rfl rfl rfl rfl hb34 rfl (by decide) ?_; clear E a; intro a E
          refine mix_pure E rfl rfl rfl (by decide) (fun w h => rn_pick_no' E rfl rfl hb34 rfl) ?_; clear E a; intro a E
          refine mix_pure E rfl rfl rfl (by decide) (fun w h => rn_assign E rfl rfl) ?_; clear E a; intro a E
          refine mix_nil ?_
          refine then_k hK ?_; clear hK; clear K
          refine wp_ret ?_
          refine ret1 E rfl rfl ?_
          exact ⟨_, rfl, by congr 1; rw [Bool.eq_iff_iff, decide_eq_true_eq (p := Tp.made _)]; unfold Tp.made; simp; omega, (S.only (Bs := []) (sel_nil _)).tr⟩
      · skip
        refine list_pure E rfl rfl (by decide) (by first | exact rn_eql E rfl rfl rfl | exact rn_eql_ptr_nil E rfl rfl rfl rfl | exact rn_eql_bool E rfl rfl rfl rfl | exact rn_eql_string E rfl rfl rfl) ?_; clear E a; intro a E
        refine wpList_nil ?_
        refine then_k hK ?_; clear hK; clear K
        refine if_false' E rfl ((by decide)) ?_
        refine wp_skip ?_
        refine then_k hK ?_; clear hK; clear K
        refine wp_seq_k ?_; intro K hK
        refine region_mix0 S (.ofL [(0, 0), (1, 0), (2, 0), (3, 0), (4, 0), (5, 0), (6, 0), (7, 0), (8, 0), (9, 0), (10, 0), (11, 0), (12, 0), (13, 0)]) (by kernel_rfl) (by kernel_rfl) ?_
        clear S; intro w S
        refine mix_pure E rfl rfl rfl (by decide) (fun w h => by first | exact rn_fieldAddr0 (q := 1) E rfl rfl rfl | exact rn_fieldAddr (q := 1) E rfl rfl rfl) ?_; clear E a; intro a E
        refine mix_pure E rfl rfl rfl (by decide) (fun w h => by first | exact rn_load E rfl rfl rfl (h.one (by repeat (first | exact mm1 | apply List.Mem.tail))) rfl | exact rn_loadc E rfl rfl rfl (by assumption)) ?_; clear E a; intro a E
        refine mix_pure E rfl rfl rfl (by decide) (fun w h => by first | exact rn_fieldAddr0 (q := 0) E rfl rfl rfl | exact rn_fieldAddr (q := 0) E rfl rfl rfl) ?_; clear E a; intro a E
        refine mix_pure E rfl rfl rfl (by decide) (fun w h => by first | exact rn_load E rfl rfl rfl (h.one (by repeat (first | exact mm1 | apply List.Mem.tail))) rfl | exact rn_loadc E rfl rfl rfl (by assumption)) ?_; clear E a; intro a E
        refine mix_pure E rfl rfl rfl (by decide) (fun w h => rn_indexAddr_array (i := 3) E rfl rfl rfl rfl rfl rfl (by omega)) ?_; clear E a; intro a E
        refine mix_pure E rfl rfl rfl (by decide) (fun w h => by first | exact rn_load E rfl rfl rfl (h.one (by repeat (first | exact mm1 | apply List.Mem.tail))) rfl | exact rn_loadc E rfl rfl rfl (by assumption)) ?_; clear E a; intro a E
        refine mix_pure E rfl rfl rfl (by decide) (fun w h => rn_geq E rfl rfl rfl) ?_; clear E a; intro a E
        refine mix_pure E rfl rfl rfl (by decide) (fun w h => rn_move E rfl rfl) ?_; clear E a; intro a E
        refine guard_split E (t := 34) rfl (fun hb34 => ?_) (fun hb34 => ?_)
        · have hb34n := hb34; replace hb34n := Nrm.nrm hb34n
          refine mix_guard_yes E rfl rfl rfl rfl rfl hb34 rfl (by decide) (fun w h => by first | exact rn_fieldAddr0 (q := 1) E rfl rfl rfl | exact rn_fieldAddr (q := 1) E rfl rfl rfl) ?_; clear E a; intro a E
          refine mix_guard_yes E rfl rfl rfl rfl rfl hb34 rfl (by decide) (fun w h => by first | exact rn_load E rfl rfl rfl (h.one (by repeat (first | exact mm1 | apply List.Mem.tail))) rfl | exact rn_loadc E rfl rfl rfl (by assumption)) ?_; clear E a; intro a E
          refine mix_guard_yes E rfl rfl rfl rfl rfl hb34 rfl (by decide) (fun w h => rn_move E rfl rfl) ?_; clear E a; intro a E
          refine mix_guard_yes E rfl rfl rfl rfl rfl hb34 rfl (by decide) (fun w h => rn_leq E rfl rfl rfl) ?_; clear E a; intro a E
          refine mix_pure E rfl rfl rfl (by decide) (fun w h => rn_pick_yes' E rfl rfl hb34 rfl) ?_; clear E a; intro a E
          refine mix_pure E rfl rfl rfl (by decide) (fun w h => rn_assign E rfl rfl) ?_; clear E a; intro a E
          refine mix_nil ?_
          refine then_k hK ?_; clear hK; clear K
          refine wp_ret ?_
          refine ret1 E rfl rfl ?_
          exact ⟨_, rfl, by congr 1; rw [Bool.eq_iff_iff, decide_eq_true_eq (p := Tp.made _)]; unfold Tp.made; simp; omega, (S.only (Bs := []) (sel_nil _)).tr⟩
        · have hb34n := hb34; replace hb34n := Nrm.nrm hb34n
          refine mix_guard_no E rfl rfl rfl rfl rfl hb34 rfl (by decide) ?_; clear E a; intro a E
          refine mix_guard_no E rfl rfl rfl rfl rfl hb34 rfl (by decide) ?_; clear E a; intro a E
          refine mix_guard_no E rfl rfl rfl rfl rfl hb34 rfl (by decide) ?_; clear E a; intro a E
          refine mix_guard_no E rfl rfl rfl rfl rfl hb34 rfl (by decide) ?_; clear E a; intro a E
          refine mix_pure E rfl rfl rfl (by decide) (fun w h => rn_pick_no' E rfl rfl hb34 rfl) ?_; clear E a; intro a E
          refine mix_pure E rfl rfl rfl (by decide) (fun w h => rn_assign E rfl rfl) ?_; clear E a; intro a E
          refine mix_nil ?_
          refine then_k hK ?_; clear hK; clear K
          refine wp_ret ?_
          refine ret1 E rfl rfl ?_
          exact ⟨_, rfl, by congr 1; rw [Bool.eq_iff_iff, decide_eq_true_eq (p := Tp.made _)]; unfold Tp.made; simp; omega, (S.only (Bs := []) (sel_nil _)).tr⟩

theorem dmade_ret (t : Tp) (w0 : World) : Ret Tryd.prog 42 #[t.agg] w0 fun u w' => u = .bool (decide t.made) ∧ Trs w0 w' [] [] := by
  have S := St.begin (hp_nil w0)
  obtain ⟨k, lv, sc⟩ := t
  change Ret Tryd.prog _ #[.agg #[.int .i64 k, .int .i64 lv, .int .i64 sc]] w0 _
  refine enter1 44 Tryd.func42 rfl rfl (by decide) ?_; intro a E
  refine wp_seq_k ?_; intro K hK
  refine region_list ?_
  refine list_wp rfl (wp_box E S rfl rfl (by decide) rfl rfl ?_); clear E S a; intro a w b1 E S
  refine list_pure E rfl rfl (by decide) (rn_assign E rfl rfl) ?_; clear E a; intro a E
  refine wpList_nil ?_
  refine then_k hK ?_; clear hK; clear K
  refine wp_seq_k ?_; intro K hK
  refine wp_seq_k ?_; intro K hK
  refine wp_join (fun (a : Act) (w' : World) => ∃ bt : Bool, (bt = false ↔ 324 ≤ sc ∧ sc ≤ 8192 ∧ lv ≤ 5) ∧ (∃ Ls, St w0 [] w' ([(b1, cel [.int .i64 k, .int .i64 lv, .int .i64 sc] 39)] :: Ls)) ∧ Fr a 44 [(1, ptr b1), (15, .bool bt)]) ?_ ?_
  · skip
    refine region_list ?_
    refine list_pure E rfl rfl (by decide) (by first | exact rn_fieldAddr0 (q := 2) E rfl rfl rfl | exact rn_fieldAddr (q := 2) E rfl rfl rfl) ?_; clear E a; intro a E
    refine list_pure E rfl rfl (by decide) (by first | exact rn_load E rfl rfl rfl (S.get (by repeat (first | exact pk1 | apply pick_tail))) rfl | exact rn_loadc E rfl rfl rfl (by assumption)) ?_; clear E a; intro a E
    refine list_pure E rfl rfl (by decide) (rn_lss E rfl rfl rfl) ?_; clear E a; intro a E
    refine list_pure E rfl rfl (by decide) (rn_move E rfl rfl) ?_; clear E a; intro a E
    refine guard_split E (t := 6) rfl (fun hb6 => ?_) (fun hb6 => ?_)
    · have hb6n := hb6; replace hb6n := Nrm.nrm hb6n
      refine list_guard_no E rfl rfl rfl rfl hb6 rfl (by decide) ?_; clear E a; intro a E
      refine list_guard_no E rfl rfl rfl rfl hb6 rfl (by decide) ?_; clear E a; intro a E
      refine list_guard_no E rfl rfl rfl rfl hb6 rfl (by decide) ?_; clear E a; intro a E
      refine list_pure E rfl rfl (by decide) (rn_pick_yes' E rfl rfl hb6 rfl) ?_; clear E a; intro a E
      refine list_pure E rfl rfl (by decide) (rn_move E rfl rfl) ?_; clear E a; intro a E
      refine list_guard_no E rfl rfl rfl rfl rfl rfl (by decide) ?_; clear E a; intro a E
      refine list_guard_no E rfl rfl rfl rfl rfl rfl (by decide) ?_; clear E a; intro a E
      refine list_guard_no E rfl rfl rfl rfl rfl rfl (by decide) ?_; clear E a; intro a E
      refine list_pure E rfl rfl (by decide) (rn_pick_yes' E rfl rfl rfl rfl) ?_; clear E a; intro a E
      refine wpList_nil ?_
      refine joined_here ?_
      exact ⟨_, by simp; omega, ⟨_, S.front1 (by repeat (first | exact pk1 | apply pick_tail))⟩, E.keep (keep_cons rfl (keep_cons rfl keep_nil))⟩
    · have hb6n := hb6; replace hb6n := Nrm.nrm hb6n
      refine list_guard_yes E rfl rfl rfl rfl hb6 rfl (by decide) (by first | exact rn_fieldAddr0 (q := 2) E rfl rfl rfl | exact rn_fieldAddr (q := 2) E rfl rfl rfl) ?_; clear E a; intro a E
      refine list_guard_yes E rfl rfl rfl rfl hb6 rfl (by decide) (by first | exact rn_load E rfl rfl rfl (S.get (by repeat (first | exact pk1 | apply pick_tail))) rfl | exact rn_loadc E rfl rfl rfl (by assumption)) ?_; clear E a; intro a E
      refine list_guard_yes E rfl rfl rfl rfl hb6 rfl (by decide) (rn_gtr E rfl rfl rfl) ?_; clear E a; intro a E
      refine list_pure E rfl rfl (by decide) (rn_pick_no' E rfl rfl hb6 rfl) ?_; clear E a; intro a E
      refine list_pure E rfl rfl (by decide) (rn_move E rfl rfl) ?_; clear E a; intro a E
      refine guard_split E (t := 11) rfl (fun hb11 => ?_) (fun hb11 => ?_)
      · have hb11n := hb11; replace hb11n := Nrm.nrm hb11n
        refine list_guard_no E rfl rfl rfl rfl hb11 rfl (by decide) ?_; clear E a; intro a E
        refine list_guard_no E rfl rfl rfl rfl hb11 rfl (by decide) ?_; clear E a; intro a E
        refine list_guard_no E rfl rfl rfl rfl hb11 rfl (by decide) ?_; clear E a; intro a E
        refine list_pure E rfl rfl (by decide) (rn_pick_yes' E rfl rfl hb11 rfl) ?_; clear E a; intro a E
        refine wpList_nil ?_
        refine joined_here ?_
        exact ⟨_, by simp; omega, ⟨_, S.front1 (by repeat (first | exact pk1 | apply pick_tail))⟩, E.keep (keep_cons rfl (keep_cons rfl keep_nil))⟩
      · have hb11n := hb11; replace hb11n := Nrm.nrm hb11n
        refine list_guard_yes E rfl rfl rfl rfl hb11 rfl (by decide) (by first | exact rn_fieldAddr0 (q := 1) E rfl rfl rfl | exact rn_fieldAddr (q := 1) E rfl rfl rfl) ?_; clear E a; intro a E
        refine list_guard_yes E rfl rfl rfl rfl hb11 rfl (by decide) (by first | exact rn_load E rfl rfl rfl (S.get (by repeat (first | exact pk1 | apply pick_tail))) rfl | exact rn_loadc E rfl rfl rfl (by assumption)) ?_; clear E a; intro a E
        refine list_guard_yes E rfl rfl rfl rfl hb11 rfl (by decide) (rn_gtr E rfl rfl rfl) ?_; clear E a; intro a E
        refine list_pure E rfl rfl (by decide) (rn_pick_no' E rfl rfl hb11 rfl) ?_; clear E a; intro a E
        refine wpList_nil ?_
        refine joined_here ?_
        exact ⟨_, by simp; omega, ⟨_, S.front1 (by repeat (first | exact pk1 | apply pick_tail))⟩, E.keep (keep_cons rfl (keep_cons rfl keep_nil))⟩
  · clear E S a; intro a w J; obtain ⟨bt, hbt, ⟨Ls, S⟩, E⟩ := J
    refine then_k hK ?_; clear hK; clear K
    refine if_bool E rfl (fun hb => ?_) (fun hb => ?_)
    · replace hb := Nrm.nrm hb
      have hno : ¬ (324 ≤ sc ∧ sc ≤ 8192 ∧ lv ≤ 5) := (fun q => by rw [hbt.2 q] at hb; cases hb)
      refine wp_seq_k ?_; intro K hK
      refine region_list ?_
      refine list_pure E rfl rfl (by decide) (rn_assign E rfl rfl) ?_; clear E a; intro a E
      refine wpList_nil ?_
      refine then_k hK ?_; clear hK; clear K
      refine wp_ret ?_
      refine then_ret ?_; clear hK; clear K
      refine ret1 E rfl rfl ?_
      exact ⟨_, rfl, by rw [decide_eq_false]; unfold Tp.made; simp only; omega, (S.only (Bs := []) (sel_nil _)).tr⟩
    · replace hb := Nrm.nrm hb
      obtain ⟨h1, h2, h3⟩ := hbt.1 hb
      refine wp_skip ?_
      refine then_k hK ?_; clear hK; clear K
      refine wp_seq_k ?_; intro K hK
      refine region_list ?_
      refine list_pure E rfl rfl (by decide) (by first | exact rn_fieldAddr0 (q := 0) E rfl rfl rfl | exact rn_fieldAddr (q := 0) E rfl rfl rfl) ?_; clear E a; intro a E
      refine list_pure E rfl rfl (by decide) (by first | exact rn_load E rfl rfl rfl (S.get (by repeat (first | exact pk1 | apply pick_tail))) rfl | exact rn_loadc E rfl rfl rfl (by assumption)) ?_; clear E a; intro a E
      refine list_pure E rfl rfl (by decide) (by first | exact rn_eql E rfl rfl rfl | exact rn_eql_ptr_nil E rfl rfl rfl rfl | exact rn_eql_bool E rfl rfl rfl rfl | exact rn_eql_string E rfl rfl rfl) ?_; clear E a; intro a E
      refine list_pure E rfl rfl (by decide) (rn_move E rfl rfl) ?_; clear E a; intro a E
      refine guard_split E (t := 19) rfl (fun hb19 => ?_) (fun hb19 => ?_)
      · have hb19n := hb19; replace hb19n := Nrm.nrm hb19n
        refine list_guard_yes E rfl rfl rfl rfl hb19 rfl (by decide) (by first | exact rn_fieldAddr0 (q := 1) E rfl rfl rfl | exact rn_fieldAddr (q := 1) E rfl rfl rfl) ?_; clear E a; intro a E
        refine list_guard_yes E rfl rfl rfl rfl hb19 rfl (by decide) (by first | exact rn_load E rfl rfl rfl (S.get (by repeat (first | exact pk1 | apply pick_tail))) rfl | exact rn_loadc E rfl rfl rfl (by assumption)) ?_; clear E a; intro a E
        refine list_guard_yes E rfl rfl rfl rfl hb19 rfl (by decide) (by first | exact rn_eql E rfl rfl rfl | exact rn_eql_ptr_nil E rfl rfl rfl rfl | exact rn_eql_bool E rfl rfl rfl rfl | exact rn_eql_string E rfl rfl rfl) ?_; clear E a; intro a E
        refine list_pure E rfl rfl (by decide) (rn_pick_yes' E rfl rfl hb19 rfl) ?_; clear E a; intro a E
        refine list_pure E rfl rfl (by decide) (rn_move E rfl rfl) ?_; clear E a; intro a E
        refine guard_split E (t := 24) rfl (fun hb24 => ?_) (fun hb24 => ?_)
        · have hb24n := hb24; replace hb24n := Nrm.nrm hb24n
          refine list_guard_no E rfl rfl rfl rfl hb24 rfl (by decide) ?_; clear E a; intro a E
          refine list_guard_no E rfl rfl rfl rfl hb24 rfl (by decide) ?_; clear E a; intro a E
          refine list_guard_no E rfl rfl rfl rfl hb24 rfl (by decide) ?_; clear E a; intro a E
          refine list_guard_no E rfl rfl rfl rfl hb24 rfl (by decide) ?_; clear E a; intro a E
          refine list_guard_undef E rfl rfl rfl rfl rfl (by decide) ?_; clear E a; intro a E
          refine list_guard_undef E rfl rfl rfl rfl rfl (by decide) ?_; clear E a; intro a E
          refine list_guard_undef E rfl rfl rfl rfl rfl (by decide) ?_; clear E a; intro a E
          refine list_guard_no E rfl rfl rfl rfl hb24 rfl (by decide) ?_; clear E a; intro a E
          refine list_pure E rfl rfl (by decide) (rn_pick_yes' E rfl rfl hb24 rfl) ?_; clear E a; intro a E
          refine list_pure E rfl rfl (by decide) (rn_move E rfl rfl) ?_; clear E a; intro a E
          refine list_guard_no E rfl rfl rfl rfl rfl rfl (by decide) ?_; clear E a; intro a E
          refine list_guard_no E rfl rfl rfl rfl rfl rfl (by decide) ?_; clear E a; intro a E
          refine list_guard_no E rfl rfl rfl rfl rfl rfl (by decide) ?_; clear E a; intro a E
          refine list_guard_no E rfl rfl rfl rfl rfl rfl (by decide) ?_; clear E a; intro a E
          refine list_guard_undef E rfl rfl rfl rfl rfl (by decide) ?_; clear E a; intro a E
          refine list_guard_undef E rfl rfl rfl rfl rfl (by decide) ?_; clear E a; intro a E
          refine list_guard_undef E rfl rfl rfl rfl rfl (by decide) ?_; clear E a; intro a E
          refine list_guard_no E rfl rfl rfl rfl rfl rfl (by decide) ?_; clear E a; intro a E
          refine list_pure E rfl rfl (by decide) (rn_pick_yes' E rfl rfl rfl rfl) ?_; clear E a; intro a E
          refine list_pure E rfl rfl (by decide) (rn_assign E rfl rfl) ?_; clear E a; intro a E
          refine wpList_nil ?_
          refine then_k hK ?_; clear hK; clear K
          refine wp_ret ?_
          refine ret1 E rfl rfl ?_
          exact ⟨_, rfl, by congr 1; rw [Bool.eq_iff_iff, decide_eq_true_eq (p := Tp.made _)]; unfold Tp.made; simp; omega, (S.only (Bs := []) (sel_nil _)).tr⟩
        · have hb24n := hb24; replace hb24n := Nrm.nrm hb24n
          refine list_guard_yes E rfl rfl rfl rfl hb24 rfl (by decide) (by first | exact rn_fieldAddr0 (q := 0) E rfl rfl rfl | exact rn_fieldAddr (q := 0) E rfl rfl rfl) ?_; clear E a; intro a E
          refine list_guard_yes E rfl rfl rfl rfl hb24 rfl (by decide) (by first | exact rn_load E rfl rfl rfl (S.get (by repeat (first | exact pk1 | apply pick_tail))) rfl | exact rn_loadc E rfl rfl rfl (by assumption)) ?_; clear E a; intro a E
          refine list_guard_yes E rfl rfl rfl rfl hb24 rfl (by decide) (by first | exact rn_eql E rfl rfl rfl | exact rn_eql_ptr_nil E rfl rfl rfl rfl | exact rn_eql_bool E rfl rfl rfl rfl | exact rn_eql_string E rfl rfl rfl) ?_; clear E a; intro a E
          refine list_guard_yes E rfl rfl rfl rfl hb24 rfl (by decide) (rn_move E rfl rfl) ?_; clear E a; intro a E
          refine guard_split E (t := 28) rfl (fun hb28 => ?_) (fun hb28 => ?_)
          · have hb28n := hb28; replace hb28n := Nrm.nrm hb28n
            refine list_guard_yes E rfl rfl rfl rfl hb28 rfl (by decide) (by first | exact rn_fieldAddr0 (q := 1) E rfl rfl rfl | exact rn_fieldAddr (q := 1) E rfl rfl rfl) ?_; clear E a; intro a E
            refine list_guard_yes E rfl rfl rfl rfl hb28 rfl (by decide) (by first | exact rn_load E rfl rfl rfl (S.get (by repeat (first | exact pk1 | apply pick_tail))) rfl | exact rn_loadc E rfl rfl rfl (by assumption)) ?_; clear E a; intro a E
            refine list_guard_yes E rfl rfl rfl rfl hb28 rfl (by decide) (rn_geq E rfl rfl rfl) ?_; clear E a; intro a E
            refine list_guard_yes E rfl rfl rfl rfl hb24 rfl (by decide) (rn_pick_yes' E rfl rfl hb28 rfl) ?_; clear E a; intro a E
            refine list_pure E rfl rfl (by decide) (rn_pick_no' E rfl rfl hb24 rfl) ?_; clear E a; intro a E
            refine list_pure E rfl rfl (by decide) (rn_move E rfl rfl) ?_; clear E a; intro a E
            refine guard_split E (t := 34) rfl (fun hb34 => ?_) (fun hb34 => ?_)
            · have hb34n := hb34; replace hb34n := Nrm.nrm hb34n
              refine list_guard_no E rfl rfl rfl rfl hb34 rfl (by decide) ?_; clear E a; intro a E
              refine list_guard_no E rfl rfl rfl rfl hb34 rfl (by decide) ?_; clear E a; intro a E
              refine list_guard_no E rfl rfl rfl rfl hb34 rfl (by decide) ?_; clear E a; intro a E
              refine list_guard_no E rfl rfl rfl rfl hb34 rfl (by decide) ?_; clear E a; intro a E
              refine list_guard_undef E rfl rfl rfl rfl rfl (by decide) ?_; clear E a; intro a E
              refine list_guard_undef E rfl rfl rfl rfl rfl (by decide) ?_; clear E a; intro a E
              refine list_guard_undef E rfl rfl rfl rfl rfl (by decide) ?_; clear E a; intro a E
              refine list_guard_no E rfl rfl rfl rfl hb34 rfl (by decide) ?_; clear E a; intro a E
              refine list_pure E rfl rfl (by decide) (rn_pick_yes' E rfl rfl hb34 rfl) ?_; clear E a; intro a E
              refine list_pure E rfl rfl (by decide) (rn_assign E rfl rfl) ?_; clear E a; intro a E
              refine wpList_nil ?_
              refine then_k hK ?_; clear hK; clear K
              refine wp_ret ?_
              refine ret1 E rfl rfl ?_
              exact ⟨_, rfl, by congr 1; rw [Bool.eq_iff_iff, decide_eq_true_eq (p := Tp.made _)]; unfold Tp.made; simp; omega, (S.only (Bs := []) (sel_nil _)).tr⟩
            · have hb34n := hb34; replace hb34n := Nrm.nrm hb34n
              refine list_guard_yes E rfl rfl rfl rfl hb34 rfl (by decide) (by first | exact rn_fieldAddr0 (q := 0) E rfl rfl rfl | exact rn_fieldAddr (q := 0) E rfl rfl rfl) ?_; clear E a; intro a E
              refine list_guard_yes E rfl rfl rfl rfl hb34 rfl (by decide) (by first | exact rn_load E rfl rfl rfl (S.get (by repeat (first | exact pk1 | apply pick_tail))) rfl | exact rn_loadc E rfl rfl rfl (by assumption)) ?_; clear E a; intro a E
              refine list_guard_yes E rfl rfl rfl rfl hb34 rfl (by decide) (by first | exact rn_eql E rfl rfl rfl | exact rn_eql_ptr_nil E rfl rfl rfl rfl | exact rn_eql_bool E rfl rfl rfl rfl | exact rn_eql_string E rfl rfl rfl) ?_; clear E a; intro a E
              refine list_guard_yes E rfl rfl rfl rfl hb34 rfl (by decide) (rn_move E rfl rfl) ?_; clear E a; intro a E
              refine guard_split E (t := 38) rfl (fun hb38 => ?_) (fun hb38 => ?_)
              · have hb38n := hb38; replace hb38n := Nrm.nrm hb38n
                refine list_guard_yes E rfl rfl rfl rfl hb38 rfl (by decide) (by first | exact rn_fieldAddr0 (q := 1) E rfl rfl rfl | exact rn_fieldAddr (q := 1) E rfl rfl rfl) ?_; clear E a; intro a E
                refine list_guard_yes E rfl rfl rfl rfl hb38 rfl (by decide) (by first | exact rn_load E rfl rfl rfl (S.get (by repeat (first | exact pk1 | apply pick_tail))) rfl | exact rn_loadc E rfl rfl rfl (by assumption)) ?_; clear E a; intro a E
                refine list_guard_yes E rfl rfl rfl rfl hb38 rfl (by decide) (rn_geq E rfl rfl rfl) ?_; clear E a; intro a E
                refine list_guard_yes E rfl rfl rfl rfl hb34 rfl (by decide) (rn_pick_yes' E rfl rfl hb38 rfl) ?_; clear E a; intro a E
                refine list_pure E rfl rfl (by decide) (rn_pick_no' E rfl rfl hb34 rfl) ?_; clear E a; intro a E
                refine list_pure E rfl rfl (by decide) (rn_assign E rfl rfl) ?_; clear E a; intro a E
                refine wpList_nil ?_
                refine then_k hK ?_; clear hK; clear K
                refine wp_ret ?_
                refine ret1 E rfl rfl ?_
                exact ⟨_, rfl, by congr 1; rw [Bool.eq_iff_iff, decide_eq_true_eq (p := Tp.made _)]; unfold Tp.made; simp; omega, (S.only (Bs := []) (sel_nil _)).tr⟩
              · have hb38n := hb38; replace hb38n := Nrm.nrm hb38n
                refine list_guard_no E rfl rfl rfl rfl hb38 rfl (by decide) ?_; clear E a; intro a E
                refine list_guard_no E rfl rfl rfl rfl hb38 rfl (by decide) ?_; clear E a; intro a E
                refine list_guard_no E rfl rfl rfl rfl hb38 rfl (by decide) ?_; clear E a; intro a E
                refine list_guard_yes E rfl rfl rfl rfl hb34 rfl (by decide) (rn_pick_no' E rfl rfl hb38 rfl) ?_; clear E a; intro a E
                refine list_pure E rfl rfl (by decide) (rn_pick_no' E rfl rfl hb34 rfl) ?_; clear E a; intro a E
                refine list_pure E rfl rfl (by decide) (rn_assign E rfl rfl) ?_; clear E a; intro a E
                refine wpList_nil ?_
                refine then_k hK ?_; clear hK; clear K
                refine wp_ret ?_
                refine ret1 E rfl rfl ?_
                exact ⟨_, rfl, by congr 1; rw [Bool.eq_iff_iff, decide_eq_true_eq (p := Tp.made _)]; unfold Tp.made; simp; omega, (S.only (Bs := []) (sel_nil _)).tr⟩
          · have hb28n := hb28; replace hb28n := Nrm.nrm hb28n
            refine list_guard_no E rfl rfl rfl rfl hb28 rfl (by decide) ?_; clear E a; intro a E
            refine list_guard_no E rfl rfl rfl rfl hb28 rfl (by decide) ?_; clear E a; intro a E
            refine list_guard_no E rfl rfl rfl rfl hb28 rfl (by decide) ?_; clear E a; intro a E
            refine list_guard_yes E rfl rfl rfl rfl hb24 rfl (by decide) (rn_pick_no' E rfl rfl hb28 rfl) ?_; clear E a; intro a E
            refine list_pure E rfl rfl (by decide) (rn_pick_no' E rfl rfl hb24 rfl) ?_; clear E a; intro a E
            refine list_pure E rfl rfl (by decide) (rn_move E rfl rfl) ?_; clear E a; intro a E
            refine list_guard_yes E rfl rfl rfl rfl rfl rfl (by decide) (by first | exact rn_fieldAddr0 (q := 0) E rfl rfl rfl | exact rn_fieldAddr (q := 0) E rfl rfl rfl) ?_; clear E a; intro a E
            refine list_guard_yes E rfl rfl rfl rfl rfl rfl (by decide) (by first | exact rn_load E rfl rfl rfl (S.get (by repeat (first | exact pk1 | apply pick_tail))) rfl | exact rn_loadc E rfl rfl rfl (by assumption)) ?_; clear E a; intro a E
            refine list_guard_yes E rfl rfl rfl rfl rfl rfl (by decide) (by first | exact rn_eql E rfl rfl rfl | exact rn_eql_ptr_nil E rfl rfl rfl rfl | exact rn_eql_bool E rfl rfl rfl rfl | exact rn_eql_string E rfl rfl rfl) ?_; clear E a; intro a E
            refine list_guard_yes E rfl rfl rfl rfl rfl rfl (by decide) (rn_move E rfl rfl) ?_; clear E a; intro a E
            refine guard_split E (t := 38) rfl (fun hb38 => ?_) (fun hb38 => ?_)
            · have hb38n := hb38; replace hb38n := Nrm.nrm hb38n
              refine list_guard_yes E rfl rfl rfl rfl hb38 rfl (by decide) (by first | exact rn_fieldAddr0 (q := 1) E rfl rfl rfl | exact rn_fieldAddr (q := 1) E rfl rfl rfl) ?_; clear E a; intro a E
              refine list_guard_yes E rfl rfl rfl rfl hb38 rfl (by decide) (by first | exact rn_load E rfl rfl rfl (S.get (by repeat (first | exact pk1 | apply pick_tail))) rfl | exact rn_loadc E rfl rfl rfl (by assumption)) ?_; clear E a; intro a E
              refine list_guard_yes E rfl rfl rfl rfl hb38 rfl (by decide) (rn_geq E rfl rfl rfl) ?_; clear E a; intro a E
              refine list_guard_yes E rfl rfl rfl rfl rfl rfl (by decide) (rn_pick_yes' E rfl rfl hb38 rfl) ?_; clear E a; intro a E
              refine list_pure E rfl rfl (by decide) (rn_pick_no' E rfl rfl rfl rfl) ?_; clear E a; intro a E
              refine list_pure E rfl rfl (by decide) (rn_assign E rfl rfl) ?_; clear E a; intro a E
              refine wpList_nil ?_
              refine then_k hK ?_; clear hK; clear K
              refine wp_ret ?_
              refine ret1 E rfl rfl ?_
              exact ⟨_, rfl, by congr 1; rw [Bool.eq_iff_iff, decide_eq_true_eq (p := Tp.made _)]; unfold Tp.made; simp; omega, (S.only (Bs := []) (sel_nil _)).tr⟩
            · have hb38n := hb38; replace hb38n := Nrm.nrm hb38n
              refine list_guard_no E rfl rfl rfl rfl hb38 rfl (by decide) ?_; clear E a; intro a E
              refine list_guard_no E rfl rfl rfl rfl hb38 rfl (by decide) ?_; clear E a; intro a E
              refine list_guard_no E rfl rfl rfl rfl hb38 rfl (by decide) ?_; clear E a; intro a E
              refine list_guard_yes E rfl rfl rfl rfl rfl rfl (by decide) (rn_pick_no' E rfl rfl hb38 rfl) ?_; clear E a; intro a E
              refine list_pure E rfl rfl (by decide) (rn_pick_no' E rfl rfl rfl rfl) ?_; clear E a; intro a E
              refine list_pure E rfl rfl (by decide) (rn_assign E rfl rfl) ?_; clear E a; intro a E
              refine wpList_nil ?_
              refine then_k hK ?_; clear hK; clear K
              refine wp_ret ?_
              refine ret1 E rfl rfl ?_
              exact ⟨_, rfl, by congr 1; rw [Bool.eq_iff_iff, decide_eq_true_eq (p := Tp.made _)]; unfold Tp.made; simp; omega, (S.only (Bs := []) (sel_nil _)).tr⟩
      · have hb19n := hb19; replace hb19n := Nrm.nrm hb19n
        refine list_guard_no E rfl rfl rfl rfl hb19 rfl (by decide) ?_; clear E a; intro a E
        refine list_guard_no E rfl rfl rfl rfl hb19 rfl (by decide) ?_; clear E a; intro a E
        refine list_guard_no E rfl rfl rfl rfl hb19 rfl (by decide) ?_; clear E a; intro a E
        refine list_pure E rfl rfl (by decide) (rn_pick_no' E rfl rfl hb19 rfl) ?_; clear E a; intro a E
        refine list_pure E rfl rfl (by decide) (rn_move E rfl rfl) ?_; clear E a; intro a E
        refine list_guard_yes E rfl rfl rfl rfl rfl rfl (by decide) (by first | exact rn_fieldAddr0 (q := 0) E rfl rfl rfl | exact rn_fieldAddr (q := 0) E rfl rfl rfl) ?_; clear E a; intro a E
        refine list_guard_yes E rfl rfl rfl rfl rfl rfl (by decide) (by first | exact rn_load E rfl rfl rfl (S.get (by repeat (first | exact pk1 | apply pick_tail))) rfl | exact rn_loadc E rfl rfl rfl (by assumption)) ?_; clear E a; intro a E
        refine list_guard_yes E rfl rfl rfl rfl rfl rfl (by decide) (by first | exact rn_eql E rfl rfl rfl | exact rn_eql_ptr_nil E rfl rfl rfl rfl | exact rn_eql_bool E rfl rfl rfl rfl | exact rn_eql_string E rfl rfl rfl) ?_; clear E a; intro a E
        refine list_guard_yes E rfl rfl rfl rfl rfl rfl (by decide) (rn_move E rfl rfl) ?_; clear E a; intro a E
        refine guard_split E (t := 28) rfl (fun hb28 => ?_) (fun hb28 => ?_)
        · have hb28n := hb28; replace hb28n := Nrm.nrm hb28n
          refine list_guard_yes E rfl rfl rfl rfl hb28 rfl (by decide) (by first | exact rn_fieldAddr0 (q := 1) E rfl rfl rfl | exact rn_fieldAddr (q := 1) E rfl rfl rfl) ?_; clear E a; intro a E
          refine list_guard_yes E rfl rfl rfl rfl hb28 rfl (by decide) (by first | exact rn_load E rfl rfl rfl (S.get (by repeat (first | exact pk1 | apply pick_tail))) rfl | exact rn_loadc E rfl rfl rfl (by assumption)) ?_; clear E a; intro a E
          refine list_guard_yes E rfl rfl rfl rfl hb28 rfl (by decide) (rn_geq E rfl rfl rfl) ?_; clear E a; intro a E
          refine list_guard_yes E rfl rfl rfl rfl rfl rfl (by decide) (rn_pick_yes' E rfl rfl hb28 rfl) ?_; clear E a; intro a E
          refine list_pure E rfl rfl (by decide) (rn_pick_no' E rfl rfl rfl rfl) ?_; clear E a; intro a E
          refine list_pure E rfl rfl (by decide) (rn_move E rfl rfl) ?_; clear E a; intro a E
          refine guard_split E (t := 34) rfl (fun hb34 => ?_) (fun hb34 => ?_)
          · have hb34n := hb34; replace hb34n := Nrm.nrm hb34n
            refine list_guard_no E rfl rfl rfl rfl hb34 rfl (by decide) ?_; clear E a; intro a E
            refine list_guard_no E rfl rfl rfl rfl hb34 rfl (by decide) ?_; clear E a; intro a E
            refine list_guard_no E rfl rfl rfl rfl hb34 rfl (by decide) ?_; clear E a; intro a E
            refine list_guard_no E rfl rfl rfl rfl hb34 rfl (by decide) ?_; clear E a; intro a E
            refine list_guard_undef E rfl rfl rfl rfl rfl (by decide) ?_; clear E a; intro a E
            refine list_guard_undef E rfl rfl rfl rfl rfl (by decide) ?_; clear E a; intro a E
            refine list_guard_undef E rfl rfl rfl rfl rfl (by decide) ?_; clear E a; intro a E
            refine list_guard_no E rfl rfl rfl rfl hb34 rfl (by decide) ?_; clear E a; intro a E
            refine list_pure E rfl rfl (by decide) (rn_pick_yes' E rfl rfl hb34 rfl) ?_; clear E a; intro a E
            refine list_pure E rfl rfl (by decide) (rn_assign E rfl rfl) ?_; clear E a; intro a E
            refine wpList_nil ?_
            refine then_k hK ?_; clear hK; clear K
            refine wp_ret ?_
            refine ret1 E rfl rfl ?_
            exact ⟨_, rfl, by congr 1; rw [Bool.eq_iff_iff, decide_eq_true_eq (p := Tp.made _)]; unfold Tp.made; simp; omega, (S.only (Bs := []) (sel_nil _)).tr⟩
          · have hb34n := hb34; replace hb34n := Nrm.nrm hb34n
            refine list_guard_yes E rfl rfl rfl rfl hb34 rfl (by decide) (by first | exact rn_fieldAddr0 (q := 0) E rfl rfl rfl | exact rn_fieldAddr (q := 0) E rfl rfl rfl) ?_; clear E a; intro a E
            refine list_guard_yes E rfl rfl rfl rfl hb34 rfl (by decide) (by first | exact rn_load E rfl rfl rfl (S.get (by repeat (first | exact pk1 | apply pick_tail))) rfl | exact rn_loadc E rfl rfl rfl (by assumption)) ?_; clear E a; intro a E
            refine list_guard_yes E rfl rfl rfl rfl hb34 rfl (by decide) (by first | exact rn_eql E rfl rfl rfl | exact rn_eql_ptr_nil E rfl rfl rfl rfl | exact rn_eql_bool E rfl rfl rfl rfl | exact rn_eql_string E rfl rfl rfl) ?_; clear E a; intro a E
            refine list_guard_yes E rfl rfl rfl rfl hb34 rfl (by decide) (rn_move E rfl rfl) ?_; clear E a; intro a E
            refine guard_split E (t := 38) rfl (fun hb38 => ?_) (fun hb38 => ?_)
            · have hb38n := hb38; replace hb38n := Nrm.nrm hb38n
              refine list_guard_yes E rfl rfl rfl rfl hb38 rfl (by decide) (by first | exact rn_fieldAddr0 (q := 1) E rfl rfl rfl | exact rn_fieldAddr (q := 1) E rfl rfl rfl) ?_; clear E a; intro a E
              refine list_guard_yes E rfl rfl rfl rfl hb38 rfl (by decide) (by first | exact rn_load E rfl rfl rfl (S.get (by repeat (first | exact pk1 | apply pick_tail))) rfl | exact rn_loadc E rfl rfl rfl (by assumption)) ?_; clear E a; intro a E
              refine list_guard_yes E rfl rfl rfl rfl hb38 rfl (by decide) (rn_geq E rfl rfl rfl) ?_; clear E a; intro a E
              refine list_guard_yes E rfl rfl rfl rfl hb34 rfl (by decide) (rn_pick_yes' E rfl rfl hb38 rfl) ?_; clear E a; intro a E
              refine list_pure E rfl rfl (by decide) (rn_pick_no' E rfl rfl hb34 rfl) ?_; clear E a; intro a E
              refine list_pure E rfl rfl (by decide) (rn_assign E rfl rfl) ?_; clear E a; intro a E
              refine wpList_nil ?_
              refine then_k hK ?_; clear hK; clear K
              refine wp_ret ?_
              refine ret1 E rfl rfl ?_
              exact ⟨_, rfl, by congr 1; rw [Bool.eq_iff_iff, decide_eq_true_eq (p := Tp.made _)]; unfold Tp.made; simp; omega, (S.only (Bs := []) (sel_nil _)).tr⟩
            · have hb38n := hb38; replace hb38n := Nrm.nrm hb38n
              refine list_guard_no E rfl rfl rfl rfl hb38 rfl (by decide) ?_; clear E a; intro a E
              refine list_guard_no E rfl rfl rfl rfl hb38 rfl (by decide) ?_; clear E a; intro a E
              refine list_guard_no E rfl rfl rfl rfl hb38 rfl (by decide) ?_; clear E a; intro a E
              refine list_guard_yes E rfl rfl rfl rfl hb34 rfl (by decide) (rn_pick_no' E rfl rfl hb38 rfl) ?_; clear E a; intro a E
              refine list_pure E rfl rfl (by decide) (rn_pick_no' E rfl rfl hb34 rfl) ?_; clear E a; intro a E
              refine list_pure E rfl rfl (by decide) (rn_assign E rfl rfl) ?_; clear E a; intro a E
              refine wpList_nil ?_
              refine then_k hK ?_; clear hK; clear K
              refine wp_ret ?_
              refine ret1 E rfl rfl ?_
              exact ⟨_, rfl, by congr 1; rw [Bool.eq_iff_iff, decide_eq_true_eq (p := Tp.made _)]; unfold Tp.made; simp; omega, (S.only (Bs := []) (sel_nil _)).tr⟩
        · have hb28n := hb28; replace hb28n := Nrm.nrm hb28n
          refine list_guard_no E rfl rfl rfl rfl hb28 rfl (by decide) ?_; clear E a; intro a E
          refine list_guard_no E rfl rfl rfl rfl hb28 rfl (by decide) ?_; clear E a; intro a E
          refine list_guard_no E rfl rfl rfl rfl hb28 rfl (by decide) ?_; clear E a; intro a E
          refine list_guard_yes E rfl rfl rfl rfl rfl rfl (by decide) (rn_pick_no' E rfl rfl hb28 rfl) ?_; clear E a; intro a E
          refine list_pure E rfl rfl (by decide) (rn_pick_no' E rfl rfl rfl rfl) ?_; clear E a; intro a E
          refine list_pure E rfl rfl (by decide) (rn_move E rfl rfl) ?_; clear E a; intro a E
          refine list_guard_yes E rfl rfl rfl rfl rfl rfl (by decide) (by first | exact rn_fieldAddr0 (q := 0) E rfl rfl rfl | exact rn_fieldAddr (q := 0) E rfl rfl rfl) ?_; clear E a; intro a E
          refine list_guard_yes E rfl rfl rfl rfl rfl rfl (by decide) (by first | exact rn_load E rfl rfl rfl (S.get (by repeat (first | exact pk1 | apply pick_tail))) rfl | exact rn_loadc E rfl rfl rfl (by assumption)) ?_; clear E a; intro a E
          refine list_guard_yes E rfl rfl rfl rfl rfl rfl (by decide) (by first | exact rn_eql E rfl rfl rfl | exact rn_eql_ptr_nil E rfl rfl rfl rfl | exact rn_eql_bool E rfl rfl rfl rfl | exact rn_eql_string E rfl rfl rfl) ?_; clear E a; intro a E
          refine list_guard_yes E rfl rfl rfl rfl rfl rfl (by decide) (rn_move E rfl rfl) ?_; clear E a; intro a E
          refine guard_split E (t := 38) rfl (fun hb38 => ?_) (fun hb38 => ?_)
          · have hb38n := hb38; replace hb38n := Nrm.nrm hb38n
            refine list_guard_yes E rfl rfl rfl rfl hb38 rfl (by decide) (by first | exact rn_fieldAddr0 (q := 1) E rfl rfl rfl | exact rn_fieldAddr (q := 1) E rfl rfl rfl) ?_; clear E a; intro a E
            refine list_guard_yes E rfl rfl rfl rfl hb38 rfl (by decide) (by first | exact rn_load E rfl rfl rfl (S.get (by repeat (first | exact pk1 | apply pick_tail))) rfl | exact rn_loadc E rfl rfl rfl (by assumption)) ?_; clear E a; intro a E
            refine list_guard_yes E rfl rfl rfl rfl hb38 rfl (by decide) (rn_geq E rfl rfl rfl) ?_; clear E a; intro a E
            refine list_guard_yes E rfl rfl rfl rfl rfl rfl (by decide) (rn_pick_yes' E rfl rfl hb38 rfl) ?_; clear E a; intro a E
            refine list_pure E rfl rfl (by decide) (rn_pick_no' E rfl rfl rfl rfl) ?_; clear E a; intro a E
            refine list_pure E rfl rfl (by decide) (rn_assign E rfl rfl) ?_; clear E a; intro a E
            refine wpList_nil ?_
            refine then_k hK ?_; clear hK; clear K
            refine wp_ret ?_
            refine ret1 E rfl rfl ?_
            exact ⟨_, rfl, by congr 1; rw [Bool.eq_iff_iff, decide_eq_true_eq (p := Tp.made _)]; unfold Tp.made; simp; omega, (S.only (Bs := []) (sel_nil _)).tr⟩
          · have hb38n := hb38; replace hb38n := Nrm.nrm hb38n
            refine list_guard_no E rfl rfl rfl rfl hb38 rfl (by decide) ?_; clear E a; intro a E
            refine list_guard_no E rfl rfl rfl rfl hb38 rfl (by decide) ?_; clear E a; intro a E
            refine list_guard_no E rfl rfl rfl rfl hb38 rfl (by decide) ?_; clear E a; intro a E
            refine list_guard_yes E rfl rfl rfl rfl rfl rfl (by decide) (rn_pick_no' E rfl rfl hb38 rfl) ?_; clear E a; intro a E
            refine list_pure E rfl rfl (by decide) (rn_pick_no' E rfl rfl rfl rfl) ?_; clear E a; intro a E
            refine list_pure E rfl rfl (by decide) (rn_assign E rfl rfl) ?_; clear E a; intro a E
            refine wpList_nil ?_
            refine then_k hK ?_; clear hK; clear K
            refine wp_ret ?_
            refine ret1 E rfl rfl ?_
            exact ⟨_, rfl, by congr 1; rw [Bool.eq_iff_iff, decide_eq_true_eq (p := Tp.made _)]; unfold Tp.made; simp; omega, (S.only (Bs := []) (sel_nil _)).tr⟩

theorem notmade_ret (t : Tp) (w0 : World) : Ret Tryd.prog 40 #[t.agg] w0 fun u w' => u = .bool (!decide t.made) ∧ Trs w0 w' [] [] := by
  have S := St.begin (hp_nil w0)
  refine enter1 6 Tryd.func40 rfl rfl (by decide) ?_; intro a E
  refine wp_seq_k ?_; intro K hK
  refine region_list ?_
  refine list_wp rfl (wp_box E S rfl rfl (by decide) rfl rfl ?_); clear E S a; intro a w b1 E S
  refine list_pure E rfl rfl (by decide) (rn_assign E rfl rfl) ?_; clear E a; intro a E
  refine wpList_nil ?_
  refine then_k hK ?_; clear hK; clear K
  refine wp_seq_k ?_; intro K hK
  refine region_list ?_
  refine list_pure E rfl rfl (by decide) (rn_load_blk (vs := [_, _, _]) E rfl rfl rfl (S.get (by repeat (first | exact pk1 | apply pick_tail))) rfl rfl) ?_; clear E a; intro a E
  refine list_call E rfl rfl (by decide) rfl Tryd.func41 rfl (by kernel_rfl) rfl (made_ret t _) ?_
  rintro v4 w ⟨rfl, hT⟩; clear E a; intro a E
  have S := S.quiet hT
  refine list_pure E rfl rfl (by decide) (rn_not E rfl rfl) ?_; clear E a; intro a E
  refine list_pure E rfl rfl (by decide) (rn_assign E rfl rfl) ?_; clear E a; intro a E
  refine wpList_nil ?_
  refine then_k hK ?_; clear hK; clear K
  refine wp_ret ?_
  refine ret1 E rfl rfl ?_
  exact ⟨_, rfl, rfl, (S.only (Bs := []) (sel_nil _)).tr⟩

theorem topindex_ret (O : Chunk) (v : Value) (l : List Tp) (hO : Rd O 3 v l.length (l.flatMap Tp.lay)) (w0 : World) (H : Hp w0 [O]) :
    Ret Tryd.prog 65 #[v, .func (.func 40) #[] #[]] w0 fun u w' => ∃ r : Int, u = .int .i64 r ∧ (0 ≤ r ↔ ¬ ∀ t ∈ l, t.made) ∧ Trs w0 w' [O] [O] := by
  have S := St.begin H
  have hmx := hO.2.2.1
  simp only [maxLen] at hmx
  obtain ⟨ad, c, rfl⟩ := hO.slice
  refine enter2 19 Tryd.func65 rfl rfl (by decide) ?_; intro a E
  refine wp_seq_k ?_; intro K hK
  refine region_list ?_
  refine list_pure E rfl rfl (by decide) (rn_assign E rfl rfl) ?_; clear E a; intro a E
  refine wpList_nil ?_
  refine then_k hK ?_; clear hK; clear K
  refine wp_seq_k ?_; intro K hK
  refine wp_seq_k ?_; intro K hK
  refine region_list ?_
  refine list_pure E rfl rfl (by decide) (rn_move E rfl rfl) ?_; clear E a; intro a E
  refine list_pure E rfl rfl (by decide) (by first | exact rn_len E rfl rfl rfl | exact rn_len_str E rfl rfl rfl | exact rn_len_string E rfl rfl rfl) ?_; clear E a; intro a E
  refine list_pure E rfl rfl (by decide) (rn_move E rfl rfl) ?_; clear E a; intro a E
  refine wpList_nil ?_
  refine then_k hK ?_; clear hK; clear K
  refine wp_block ?_
  refine wp_loop_ghost (fun (m : Nat) (a : Act) (w' : World) => ∃ i : Nat, m = l.length - i ∧ i ≤ l.length ∧ (∀ j (hj : j < l.length), j < i → l[j].made) ∧ St w0 [O] w' [O] ∧ Fr a 19 [(0, .slice ad l.length c), (1, .func (.func 40) #[] #[]), (7, .int .i64 l.length), (8, .int .i64 i)]) (l.length - 0) ?_ ?_
  · exact ⟨0, rfl, by omega, fun j _ h => by omega, S, E.keep (keep_cons rfl (keep_cons rfl (keep_cons rfl (keep_cons rfl keep_nil))))⟩
  clear E; clear a; (try clear S); rintro m a w ⟨i, rfl, hi, hm, S, E⟩
  refine wp_seq_k ?_; intro K hK
  refine region_list ?_
  refine list_pure E rfl rfl (by decide) (rn_lss E rfl rfl rfl) ?_; clear E a; intro a E
  refine wpList_nil ?_
  refine then_k hK ?_; clear hK; clear K
  refine wp_seq_k ?_; intro K hK
  refine if_bool E rfl (fun hb => ?_) (fun hb => ?_)
  · replace hb := Nrm.nrm hb
    refine wp_skip ?_
    refine then_k hK ?_; clear hK; clear K
    refine wp_seq_k ?_; intro K hK
    refine wp_block ?_
    refine wp_seq_k ?_; intro K hK
    refine region_list ?_
    refine list_pure E rfl rfl (by decide) (rn_move E rfl rfl) ?_; clear E a; intro a E
    refine list_pure E rfl rfl (by decide) (rn_assign E rfl rfl) ?_; clear E a; intro a E
    refine wpList_nil ?_
    refine then_k hK ?_; clear hK; clear K
    refine wp_seq_k ?_; intro K hK
    have hib : i < l.length := by omega
    obtain ⟨g, off, rfl⟩ := hO.addr (by omega)
    refine region_list ?_
    refine list_pure E rfl rfl (by decide) (rn_move E rfl rfl) ?_; clear E a; intro a E
    refine list_pure E rfl rfl (by decide) (rn_move E rfl rfl) ?_; clear E a; intro a E
    refine list_pure E rfl rfl (by decide) (rn_move E rfl rfl) ?_; clear E a; intro a E
    refine list_pure E rfl rfl (by decide) (by first | exact rn_indexAddr1 E rfl rfl rfl rfl rfl rfl (by omega) | exact rn_indexAddr E rfl rfl rfl rfl rfl rfl (by omega) | exact rn_indexAddr_array E rfl rfl rfl rfl rfl rfl (by omega)) ?_; clear E a; intro a E
    refine list_pure E rfl rfl (by decide) (rn_load_aggc (vs := [_, _, _]) E rfl rfl rfl rfl (hO.elem (lay := Tp.lay) Tp.lay_len (S.stab.at (by repeat (first | exact mm1 | apply List.Mem.tail))) (i := i) hib)) ?_; clear E a; intro a E
    refine list_callc E rfl rfl (by decide) rfl rfl Tryd.func40 rfl (by kernel_rfl) rfl (notmade_ret (l[i]'hib) _) ?_
    rintro v16 w ⟨rfl, hT⟩; clear E a; intro a E
    have S := S.quiet hT
    refine wpList_nil ?_
    refine then_k hK ?_; clear hK; clear K
    refine if_bool E rfl (fun hb => ?_) (fun hb => ?_)
    · replace hb := Nrm.nrm hb
      have hno : ¬ (l[i]'hib).made := (by simpa using hb)
      refine wp_seq_k ?_; intro K hK
      refine region_list ?_
      refine list_pure E rfl rfl (by decide) (rn_move E rfl rfl) ?_; clear E a; intro a E
      refine list_pure E rfl rfl (by decide) (rn_assign E rfl rfl) ?_; clear E a; intro a E
      refine wpList_nil ?_
      refine then_k hK ?_; clear hK; clear K
      refine wp_ret ?_
      refine in_ret ?_
      refine then_ret ?_; clear hK; clear K
      refine then_ret ?_
      refine in_ret ?_
      refine then_ret ?_; clear hK; clear K
      refine ret1 E rfl rfl ?_
      exact ⟨_, rfl, _, rfl, ⟨fun _ q => hno (q _ (List.getElem_mem hib)), fun _ => by omega⟩, S.tr⟩
    · replace hb := Nrm.nrm hb
      have hyes : (l[i]'hib).made := (by simpa using hb)
      refine wp_skip ?_
      refine in_normal ?_
      refine then_k hK ?_; clear hK; clear K
      refine region_list ?_
      refine list_pure E rfl rfl (by decide) (rn_add E rfl rfl rfl (by first | exact wa_lit (y := 1) (by omega) | exact w_in (by omega) | exact w_inu (by omega) | exact rfl)) ?_; clear E a; intro a E
      refine list_pure E rfl rfl (by decide) (rn_move E rfl rfl) ?_; clear E a; intro a E
      refine wpList_nil ?_
      refine then_normal ?_
      exact ⟨_, by omega, i + 1, rfl, by omega, fun j hj h => (by rcases Nat.lt_or_ge j i with c1 | c1; exact hm j hj c1; obtain rfl : j = i := (by omega); exact hyes), S, E.keep (keep_cons rfl (keep_cons rfl (keep_cons rfl (keep_cons rfl keep_nil))))⟩
  · replace hb := Nrm.nrm hb
    refine wp_exit ?_
    refine then_exit ?_; clear hK; clear K
    refine then_exit ?_
    refine in_exit ?_
    refine then_k hK ?_; clear hK; clear K
    refine wp_seq_k ?_; intro K hK
    refine region_list ?_
    refine list_pure E rfl rfl (by decide) (rn_assign E rfl rfl) ?_; clear E a; intro a E
    refine wpList_nil ?_
    refine then_k hK ?_; clear hK; clear K
    refine wp_ret ?_
    refine ret1 E rfl rfl ?_
    exact ⟨_, rfl, _, rfl, ⟨fun q => absurd q (by decide), fun q => absurd (made_all hm (by omega)) q⟩, S.tr⟩

theorem topany_ret (O : Chunk) (v : Value) (l : List Tp) (hO : Rd O 3 v l.length (l.flatMap Tp.lay)) (w0 : World) (H : Hp w0 [O]) :
    Ret Tryd.prog 39 #[v, .func (.func 40) #[] #[]] w0 fun u w' => u = .bool (!decide (∀ t ∈ l, t.made)) ∧ Trs w0 w' [O] [O] := by
  have S := St.begin H
  refine enter2 9 Tryd.func39 rfl rfl (by decide) ?_; intro a E
  refine wp_seq_k ?_; intro K hK
  refine region_list ?_
  refine list_pure E rfl rfl (by decide) (rn_assign E rfl rfl) ?_; clear E a; intro a E
  refine wpList_nil ?_
  refine then_k hK ?_; clear hK; clear K
  refine wp_seq_k ?_; intro K hK
  refine region_list ?_
  refine list_pure E rfl rfl (by decide) (rn_move E rfl rfl) ?_; clear E a; intro a E
  refine list_pure E rfl rfl (by decide) (rn_move E rfl rfl) ?_; clear E a; intro a E
  refine list_call E rfl rfl (by decide) rfl Tryd.func65 rfl (by kernel_rfl) rfl (topindex_ret O v l hO _ (S.hp.sel (sel_cons (by repeat (first | exact pk1 | apply pick_tail)) (sel_nil _)))) ?_
  rintro v7 w ⟨r, rfl, hr, hT⟩; clear E a; intro a E
  have S := S.call1 (sel_cons (by repeat (first | exact pk1 | apply pick_tail)) (sel_nil _)) hT
  refine list_pure E rfl rfl (by decide) (rn_geq E rfl rfl rfl) ?_; clear E a; intro a E
  refine list_pure E rfl rfl (by decide) (rn_assign E rfl rfl) ?_; clear E a; intro a E
  refine wpList_nil ?_
  refine then_k hK ?_; clear hK; clear K
  refine wp_ret ?_
  refine ret1 E rfl rfl ?_
  have hx : decide ((0 : Int) ≤ r) = !decide (∀ t ∈ l, t.made) := by
    rw [Bool.eq_iff_iff, decide_eq_true_eq, hr]; simp
  exact ⟨_, rfl, by rw [← hx], S.tr⟩

theorem lbcheck_ret (O : Chunk) (v : Value) (l : Lbl) (hO : Rd O 3 v l.tops.length (l.tops.flatMap Tp.lay)) (w0 : World) (H : Hp w0 [O]) :
    Ret Tryd.prog 18 #[lbagg l v] w0 fun u w' => u = .int .i64 (lbE l) ∧ Trs w0 w' [O] [O] := by
  have S := St.begin H
  have hO0 := hO
  obtain ⟨ad, c, rfl⟩ := hO.slice
  refine enter1 46 Tryd.func18 rfl rfl (by decide) ?_; intro a E
  refine wp_seq_k ?_; intro K hK
  refine region_list ?_
  refine list_wp rfl (wp_box E S rfl rfl (by decide) rfl rfl ?_); clear E S a; intro a w b1 E S
  refine list_pure E rfl rfl (by decide) (rn_assign E rfl rfl) ?_; clear E a; intro a E
  refine wpList_nil ?_
  refine then_k hK ?_; clear hK; clear K
  refine wp_seq_k ?_; intro K hK
  refine wp_seq_k ?_; intro K hK
  refine wp_join (fun (a : Act) (w' : World) => ∃ bt : Bool, (bt = false ↔ l.half) ∧ St w0 [O] w' [[(b1, cel [.int .u64 l.pool, .slice ad l.tops.length c, .int .i64 l.top, .int .i64 l.place] 37)], O] ∧ Fr a 46 [(1, ptr b1), (42, .bool bt)]) ?_ ?_
  · skip
    refine region_mix0 S (.ofL [(0, 0), (1, 0), (2, 0), (3, 0), (4, 0), (5, 0), (6, 0), (7, 0), (8, 0), (9, 0), (10, 0), (11, 0), (12, 0), (13, 0), (14, 0), (15, 0), (16, 0), (17, 0), (18, 0), (19, 0), (20, 0), (21, 0), (22, 0), (23, 0), (24, 0), (25, 0), (26, 0), (27, 0), (28, 0), (29, 0), (30, 0), (31, 0), (32, 0), (33, 0), (34, 0), (35, 0), (36, 0), (37, 0), (38, 0), (39, 0)]) (by kernel_rfl) (by kernel_rfl) ?_
    clear S; intro w S
    refine mix_pure E rfl rfl rfl (by decide) (fun w h => by first | exact rn_fieldAddr0 (q := 1) E rfl rfl rfl | exact rn_fieldAddr (q := 1) E rfl rfl rfl) ?_; clear E a; intro a E
    refine mix_pure E rfl rfl rfl (by decide) (fun w h => by first | exact rn_load E rfl rfl rfl (h.one (by repeat (first | exact mm1 | apply List.Mem.tail))) rfl | exact rn_loadc E rfl rfl rfl (by assumption)) ?_; clear E a; intro a E
    refine mix_pure E rfl rfl rfl (by decide) (fun w h => by first | exact rn_len E rfl rfl rfl | exact rn_len_str E rfl rfl rfl | exact rn_len_string E rfl rfl rfl) ?_; clear E a; intro a E
    refine mix_pure E rfl rfl rfl (by decide) (fun w h => rn_lss E rfl rfl rfl) ?_; clear E a; intro a E
    refine mix_pure E rfl rfl rfl (by decide) (fun w h => rn_move E rfl rfl) ?_; clear E a; intro a E
    refine guard_split E (t := 7) rfl (fun hb7 => ?_) (fun hb7 => ?_)
    · have hb7n := hb7; replace hb7n := Nrm.nrm hb7n
      refine mix_guard_no E rfl rfl rfl rfl rfl hb7 rfl (by decide) ?_; clear E a; intro a E
      refine mix_guard_no E rfl rfl rfl rfl rfl hb7 rfl (by decide) ?_; clear E a; intro a E
      refine mix_guard_no E rfl rfl rfl rfl rfl hb7 rfl (by decide) ?_; clear E a; intro a E
      refine mix_guard_no E rfl rfl rfl rfl rfl hb7 rfl (by decide) ?_; clear E a; intro a E
      refine mix_pure E rfl rfl rfl (by decide) (fun w h => rn_pick_yes' E rfl rfl hb7 rfl) ?_; clear E a; intro a E
      refine mix_pure E rfl rfl rfl (by decide) (fun w h => rn_move E rfl rfl) ?_; clear E a; intro a E
      refine mix_guard_no E rfl rfl rfl rfl rfl rfl rfl (by decide) ?_; clear E a; intro a E
      refine mix_guard_no E rfl rfl rfl rfl rfl rfl rfl (by decide) ?_; clear E a; intro a E
      refine mix_guard_no E rfl rfl rfl rfl rfl rfl rfl (by decide) ?_; clear E a; intro a E
      refine mix_pure E rfl rfl rfl (by decide) (fun w h => rn_pick_yes' E rfl rfl rfl rfl) ?_; clear E a; intro a E
      refine mix_pure E rfl rfl rfl (by decide) (fun w h => rn_move E rfl rfl) ?_; clear E a; intro a E
      refine mix_guard_no E rfl rfl rfl rfl rfl rfl rfl (by decide) ?_; clear E a; intro a E
      refine mix_guard_no E rfl rfl rfl rfl rfl rfl rfl (by decide) ?_; clear E a; intro a E
      refine mix_guard_no E rfl rfl rfl rfl rfl rfl rfl (by decide) ?_; clear E a; intro a E
      refine mix_guard_no E rfl rfl rfl rfl rfl rfl rfl (by decide) ?_; clear E a; intro a E
      refine mix_guard_no E rfl rfl rfl rfl rfl rfl rfl (by decide) ?_; clear E a; intro a E
      refine mix_guard_no E rfl rfl rfl rfl rfl rfl rfl (by decide) ?_; clear E a; intro a E
      refine mix_pure E rfl rfl rfl (by decide) (fun w h => rn_pick_yes' E rfl rfl rfl rfl) ?_; clear E a; intro a E
      refine mix_pure E rfl rfl rfl (by decide) (fun w h => rn_move E rfl rfl) ?_; clear E a; intro a E
      refine mix_guard_no E rfl rfl rfl rfl rfl rfl rfl (by decide) ?_; clear E a; intro a E
      refine mix_guard_no E rfl rfl rfl rfl rfl rfl rfl (by decide) ?_; clear E a; intro a E
      refine mix_guard_no E rfl rfl rfl rfl rfl rfl rfl (by decide) ?_; clear E a; intro a E
      refine mix_pure E rfl rfl rfl (by decide) (fun w h => rn_pick_yes' E rfl rfl rfl rfl) ?_; clear E a; intro a E
      refine mix_pure E rfl rfl rfl (by decide) (fun w h => rn_move E rfl rfl) ?_; clear E a; intro a E
      refine mix_guard_no E rfl rfl rfl rfl rfl rfl rfl (by decide) ?_; clear E a; intro a E
      refine mix_guard_no E rfl rfl rfl rfl rfl rfl rfl (by decide) ?_; clear E a; intro a E
      refine mix_guard_no E rfl rfl rfl rfl rfl rfl rfl (by decide) ?_; clear E a; intro a E
      refine mix_guard_no E rfl rfl rfl rfl rfl rfl rfl (by decide) ?_; clear E a; intro a E
      refine mix_guard_no E rfl rfl rfl rfl rfl rfl rfl (by decide) ?_; clear E a; intro a E
      refine mix_guard_no E rfl rfl rfl rfl rfl rfl rfl (by decide) ?_; clear E a; intro a E
      refine mix_guard_no E rfl rfl rfl rfl rfl rfl rfl (by decide) ?_; clear E a; intro a E
      refine mix_guard_no E rfl rfl rfl rfl rfl rfl rfl (by decide) ?_; clear E a; intro a E
      refine mix_guard_no E rfl rfl rfl rfl rfl rfl rfl (by decide) ?_; clear E a; intro a E
      refine mix_guard_no E rfl rfl rfl rfl rfl rfl rfl (by decide) ?_; clear E a; intro a E
      refine mix_pure E rfl rfl rfl (by decide) (fun w h => rn_pick_yes' E rfl rfl rfl rfl) ?_; clear E a; intro a E
      refine mix_nil ?_
      refine joined_here ?_
      exact ⟨_, by unfold Lbl.half; first | (simp; omega) | (rw [hgd]; simp; omega), S, E.keep (keep_cons rfl (keep_cons rfl keep_nil))⟩
    · have hb7n := hb7; replace hb7n := Nrm.nrm hb7n
      refine mix_guard_yes E rfl rfl rfl rfl rfl hb7 rfl (by decide) (fun w h => by first | exact rn_fieldAddr0 (q := 1) E rfl rfl rfl | exact rn_fieldAddr (q := 1) E rfl rfl rfl) ?_; clear E a; intro a E
      refine mix_guard_yes E rfl rfl rfl rfl rfl hb7 rfl (by decide) (fun w h => by first | exact rn_load E rfl rfl rfl (h.one (by repeat (first | exact mm1 | apply List.Mem.tail))) rfl | exact rn_loadc E rfl rfl rfl (by assumption)) ?_; clear E a; intro a E
      refine mix_guard_yes E rfl rfl rfl rfl rfl hb7 rfl (by decide) (fun w h => by first | exact rn_len E rfl rfl rfl | exact rn_len_str E rfl rfl rfl | exact rn_len_string E rfl rfl rfl) ?_; clear E a; intro a E
      refine mix_guard_yes E rfl rfl rfl rfl rfl hb7 rfl (by decide) (fun w h => rn_gtr E rfl rfl rfl) ?_; clear E a; intro a E
      refine mix_pure E rfl rfl rfl (by decide) (fun w h => rn_pick_no' E rfl rfl hb7 rfl) ?_; clear E a; intro a E
      refine mix_pure E rfl rfl rfl (by decide) (fun w h => rn_move E rfl rfl) ?_; clear E a; intro a E
      refine guard_split E (t := 13) rfl (fun hb13 => ?_) (fun hb13 => ?_)
      · have hb13n := hb13; replace hb13n := Nrm.nrm hb13n
        refine mix_guard_no E rfl rfl rfl rfl rfl hb13 rfl (by decide) ?_; clear E a; intro a E
        refine mix_guard_no E rfl rfl rfl rfl rfl hb13 rfl (by decide) ?_; clear E a; intro a E
        refine mix_guard_no E rfl rfl rfl rfl rfl hb13 rfl (by decide) ?_; clear E a; intro a E
        refine mix_pure E rfl rfl rfl (by decide) (fun w h => rn_pick_yes' E rfl rfl hb13 rfl) ?_; clear E a; intro a E
        refine mix_pure E rfl rfl rfl (by decide) (fun w h => rn_move E rfl rfl) ?_; clear E a; intro a E
        refine mix_guard_no E rfl rfl rfl rfl rfl rfl rfl (by decide) ?_; clear E a; intro a E
        refine mix_guard_no E rfl rfl rfl rfl rfl rfl rfl (by decide) ?_; clear E a; intro a E
        refine mix_guard_no E rfl rfl rfl rfl rfl rfl rfl (by decide) ?_; clear E a; intro a E
        refine mix_guard_no E rfl rfl rfl rfl rfl rfl rfl (by decide) ?_; clear E a; intro a E
        refine mix_guard_no E rfl rfl rfl rfl rfl rfl rfl (by decide) ?_; clear E a; intro a E
        refine mix_guard_no E rfl rfl rfl rfl rfl rfl rfl (by decide) ?_; clear E a; intro a E
        refine mix_pure E rfl rfl rfl (by decide) (fun w h => rn_pick_yes' E rfl rfl rfl rfl) ?_; clear E a; intro a E
        refine mix_pure E rfl rfl rfl (by decide) (fun w h => rn_move E rfl rfl) ?_; clear E a; intro a E
        refine mix_guard_no E rfl rfl rfl rfl rfl rfl rfl (by decide) ?_; clear E a; intro a E
        refine mix_guard_no E rfl rfl rfl rfl rfl rfl rfl (by decide) ?_; clear E a; intro a E
        refine mix_guard_no E rfl rfl rfl rfl rfl rfl rfl (by decide) ?_; clear E a; intro a E
        refine mix_pure E rfl rfl rfl (by decide) (fun w h => rn_pick_yes' E rfl rfl rfl rfl) ?_; clear E a; intro a E
        refine mix_pure E rfl rfl rfl (by decide) (fun w h => rn_move E rfl rfl) ?_; clear E a; intro a E
        refine mix_guard_no E rfl rfl rfl rfl rfl rfl rfl (by decide) ?_; clear E a; intro a E
        refine mix_guard_no E rfl rfl rfl rfl rfl rfl rfl (by decide) ?_; clear E a; intro a E
        refine mix_guard_no E rfl rfl rfl rfl rfl rfl rfl (by decide) ?_; clear E a; intro a E
        refine mix_guard_no E rfl rfl rfl rfl rfl rfl rfl (by decide) ?_; clear E a; intro a E
        refine mix_guard_no E rfl rfl rfl rfl rfl rfl rfl (by decide) ?_; clear E a; intro a E
        refine mix_guard_no E rfl rfl rfl rfl rfl rfl rfl (by decide) ?_; clear E a; intro a E
        refine mix_guard_no E rfl rfl rfl rfl rfl rfl rfl (by decide) ?_; clear E a; intro a E
        refine mix_guard_no E rfl rfl rfl rfl rfl rfl rfl (by decide) ?_; clear E a; intro a E
        refine mix_guard_no E rfl rfl rfl rfl rfl rfl rfl (by decide) ?_; clear E a; intro a E
        refine mix_guard_no E rfl rfl rfl rfl rfl rfl rfl (by decide) ?_; clear E a; intro a E
        refine mix_pure E rfl rfl rfl (by decide) (fun w h => rn_pick_yes' E rfl rfl rfl rfl) ?_; clear E a; intro a E
        refine mix_nil ?_
        refine joined_here ?_
        exact ⟨_, by unfold Lbl.half; first | (simp; omega) | (rw [hgd]; simp; omega), S, E.keep (keep_cons rfl (keep_cons rfl keep_nil))⟩
      · have hb13n := hb13; replace hb13n := Nrm.nrm hb13n
        refine mix_guard_yes E rfl rfl rfl rfl rfl hb13 rfl (by decide) (fun w h => by first | exact rn_fieldAddr0 (q := 2) E rfl rfl rfl | exact rn_fieldAddr (q := 2) E rfl rfl rfl) ?_; clear E a; intro a E
        refine mix_guard_yes E rfl rfl rfl rfl rfl hb13 rfl (by decide) (fun w h => by first | exact rn_load E rfl rfl rfl (h.one (by repeat (first | exact mm1 | apply List.Mem.tail))) rfl | exact rn_loadc E rfl rfl rfl (by assumption)) ?_; clear E a; intro a E
        refine mix_guard_yes E rfl rfl rfl rfl rfl hb13 rfl (by decide) (fun w h => rn_lss E rfl rfl rfl) ?_; clear E a; intro a E
        refine mix_pure E rfl rfl rfl (by decide) (fun w h => rn_pick_no' E rfl rfl hb13 rfl) ?_; clear E a; intro a E
        refine mix_pure E rfl rfl rfl (by decide) (fun w h => rn_move E rfl rfl) ?_; clear E a; intro a E
        refine guard_split E (t := 18) rfl (fun hb18 => ?_) (fun hb18 => ?_)
        · have hb18n := hb18; replace hb18n := Nrm.nrm hb18n
          refine mix_guard_no E rfl rfl rfl rfl rfl hb18 rfl (by decide) ?_; clear E a; intro a E
          refine mix_guard_no E rfl rfl rfl rfl rfl hb18 rfl (by decide) ?_; clear E a; intro a E
          refine mix_guard_no E rfl rfl rfl rfl rfl hb18 rfl (by decide) ?_; clear E a; intro a E
          refine mix_guard_no E rfl rfl rfl rfl rfl hb18 rfl (by decide) ?_; clear E a; intro a E
          refine mix_guard_no E rfl rfl rfl rfl rfl hb18 rfl (by decide) ?_; clear E a; intro a E
          refine mix_guard_no E rfl rfl rfl rfl rfl hb18 rfl (by decide) ?_; clear E a; intro a E
          refine mix_pure E rfl rfl rfl (by decide) (fun w h => rn_pick_yes' E rfl rfl hb18 rfl) ?_; clear E a; intro a E
          refine mix_pure E rfl rfl rfl (by decide) (fun w h => rn_move E rfl rfl) ?_; clear E a; intro a E
          refine mix_guard_no E rfl rfl rfl rfl rfl rfl rfl (by decide) ?_; clear E a; intro a E
          refine mix_guard_no E rfl rfl rfl rfl rfl rfl rfl (by decide) ?_; clear E a; intro a E
          refine mix_guard_no E rfl rfl rfl rfl rfl rfl rfl (by decide) ?_; clear E a; intro a E
          refine mix_pure E rfl rfl rfl (by decide) (fun w h => rn_pick_yes' E rfl rfl rfl rfl) ?_; clear E a; intro a E
          refine mix_pure E rfl rfl rfl (by decide) (fun w h => rn_move E rfl rfl) ?_; clear E a; intro a E
          refine mix_guard_no E rfl rfl rfl rfl rfl rfl rfl (by decide) ?_; clear E a; intro a E
          refine mix_guard_no E rfl rfl rfl rfl rfl rfl rfl (by decide) ?_; clear E a; intro a E
          refine mix_guard_no E rfl rfl rfl rfl rfl rfl rfl (by decide) ?_; clear E a; intro a E
          refine mix_guard_no E rfl rfl rfl rfl rfl rfl rfl (by decide) ?_; clear E a; intro a E
          refine mix_guard_no E rfl rfl rfl rfl rfl rfl rfl (by decide) ?_; clear E a; intro a E
          refine mix_guard_no E rfl rfl rfl rfl rfl rfl rfl (by decide) ?_; clear E a; intro a E
          refine mix_guard_no E rfl rfl rfl rfl rfl rfl rfl (by decide) ?_; clear E a; intro a E
          refine mix_guard_no E rfl rfl rfl rfl rfl rfl rfl (by decide) ?_; clear E a; intro a E
          refine mix_guard_no E rfl rfl rfl rfl rfl rfl rfl (by decide) ?_; clear E a; intro a E
          refine mix_guard_no E rfl rfl rfl rfl rfl rfl rfl (by decide) ?_; clear E a; intro a E
          refine mix_pure E rfl rfl rfl (by decide) (fun w h => rn_pick_yes' E rfl rfl rfl rfl) ?_; clear E a; intro a E
          refine mix_nil ?_
          refine joined_here ?_
          exact ⟨_, by unfold Lbl.half; first | (simp; omega) | (rw [hgd]; simp; omega), S, E.keep (keep_cons rfl (keep_cons rfl keep_nil))⟩
        · have hb18n := hb18; replace hb18n := Nrm.nrm hb18n
          refine mix_guard_yes E rfl rfl rfl rfl rfl hb18 rfl (by decide) (fun w h => by first | exact rn_fieldAddr0 (q := 2) E rfl rfl rfl | exact rn_fieldAddr (q := 2) E rfl rfl rfl) ?_; clear E a; intro a E
          refine mix_guard_yes E rfl rfl rfl rfl rfl hb18 rfl (by decide) (fun w h => by first | exact rn_load E rfl rfl rfl (h.one (by repeat (first | exact mm1 | apply List.Mem.tail))) rfl | exact rn_loadc E rfl rfl rfl (by assumption)) ?_; clear E a; intro a E
          refine mix_guard_yes E rfl rfl rfl rfl rfl hb18 rfl (by decide) (fun w h => by first | exact rn_fieldAddr0 (q := 1) E rfl rfl rfl | exact rn_fieldAddr (q := 1) E rfl rfl rfl) ?_; clear E a; intro a E
          refine mix_guard_yes E rfl rfl rfl rfl rfl hb18 rfl (by decide) (fun w h => by first | exact rn_load E rfl rfl rfl (h.one (by repeat (first | exact mm1 | apply List.Mem.tail))) rfl | exact rn_loadc E rfl rfl rfl (by assumption)) ?_; clear E a; intro a E
          refine mix_guard_yes E rfl rfl rfl rfl rfl hb18 rfl (by decide) (fun w h => by first | exact rn_len E rfl rfl rfl | exact rn_len_str E rfl rfl rfl | exact rn_len_string E rfl rfl rfl) ?_; clear E a; intro a E
          refine mix_guard_yes E rfl rfl rfl rfl rfl hb18 rfl (by decide) (fun w h => rn_geq E rfl rfl rfl) ?_; clear E a; intro a E
          refine mix_pure E rfl rfl rfl (by decide) (fun w h => rn_pick_no' E rfl rfl hb18 rfl) ?_; clear E a; intro a E
          refine mix_pure E rfl rfl rfl (by decide) (fun w h => rn_move E rfl rfl) ?_; clear E a; intro a E
          refine guard_split E (t := 26) rfl (fun hb26 => ?_) (fun hb26 => ?_)
          · have hb26n := hb26; replace hb26n := Nrm.nrm hb26n
            refine mix_guard_no E rfl rfl rfl rfl rfl hb26 rfl (by decide) ?_; clear E a; intro a E
            refine mix_guard_no E rfl rfl rfl rfl rfl hb26 rfl (by decide) ?_; clear E a; intro a E
            refine mix_guard_no E rfl rfl rfl rfl rfl hb26 rfl (by decide) ?_; clear E a; intro a E
            refine mix_pure E rfl rfl rfl (by decide) (fun w h => rn_pick_yes' E rfl rfl hb26 rfl) ?_; clear E a; intro a E
            refine mix_pure E rfl rfl rfl (by decide) (fun w h => rn_move E rfl rfl) ?_; clear E a; intro a E
            refine mix_guard_no E rfl rfl rfl rfl rfl rfl rfl (by decide) ?_; clear E a; intro a E
            refine mix_guard_no E rfl rfl rfl rfl rfl rfl rfl (by decide) ?_; clear E a; intro a E
            refine mix_guard_no E rfl rfl rfl rfl rfl rfl rfl (by decide) ?_; clear E a; intro a E
            refine mix_guard_no E rfl rfl rfl rfl rfl rfl rfl (by decide) ?_; clear E a; intro a E
            refine mix_guard_no E rfl rfl rfl rfl rfl rfl rfl (by decide) ?_; clear E a; intro a E
            refine mix_guard_no E rfl rfl rfl rfl rfl rfl rfl (by decide) ?_; clear E a; intro a E
            refine mix_guard_no E rfl rfl rfl rfl rfl rfl rfl (by decide) ?_; clear E a; intro a E
            refine mix_guard_no E rfl rfl rfl rfl rfl rfl rfl (by decide) ?_; clear E a; intro a E
            refine mix_guard_no E rfl rfl rfl rfl rfl rfl rfl (by decide) ?_; clear E a; intro a E
            refine mix_guard_no E rfl rfl rfl rfl rfl rfl rfl (by decide) ?_; clear E a; intro a E
            refine mix_pure E rfl rfl rfl (by decide) (fun w h => rn_pick_yes' E rfl rfl rfl rfl) ?_; clear E a; intro a E
            refine mix_nil ?_
            refine joined_here ?_
            exact ⟨_, by unfold Lbl.half; first | (simp; omega) | (rw [hgd]; simp; omega), S, E.keep (keep_cons rfl (keep_cons rfl keep_nil))⟩
          · have hb26n := hb26; replace hb26n := Nrm.nrm hb26n
            refine mix_guard_yes E rfl rfl rfl rfl rfl hb26 rfl (by decide) (fun w h => by first | exact rn_fieldAddr0 (q := 3) E rfl rfl rfl | exact rn_fieldAddr (q := 3) E rfl rfl rfl) ?_; clear E a; intro a E
            refine mix_guard_yes E rfl rfl rfl rfl rfl hb26 rfl (by decide) (fun w h => by first | exact rn_load E rfl rfl rfl (h.one (by repeat (first | exact mm1 | apply List.Mem.tail))) rfl | exact rn_loadc E rfl rfl rfl (by assumption)) ?_; clear E a; intro a E
            refine mix_guard_yes E rfl rfl rfl rfl rfl hb26 rfl (by decide) (fun w h => rn_lss E rfl rfl rfl) ?_; clear E a; intro a E
            refine mix_pure E rfl rfl rfl (by decide) (fun w h => rn_pick_no' E rfl rfl hb26 rfl) ?_; clear E a; intro a E
            refine mix_pure E rfl rfl rfl (by decide) (fun w h => rn_move E rfl rfl) ?_; clear E a; intro a E
            refine guard_split E (t := 31) rfl (fun hb31 => ?_) (fun hb31 => ?_)
            · have hb31n := hb31; replace hb31n := Nrm.nrm hb31n
              refine mix_guard_no E rfl rfl rfl rfl rfl hb31 rfl (by decide) ?_; clear E a; intro a E
              refine mix_guard_no E rfl rfl rfl rfl rfl hb31 rfl (by decide) ?_; clear E a; intro a E
              refine mix_guard_no E rfl rfl rfl rfl rfl hb31 rfl (by decide) ?_; clear E a; intro a E
              refine mix_guard_no E rfl rfl rfl rfl rfl hb31 rfl (by decide) ?_; clear E a; intro a E
              refine mix_guard_no E rfl rfl rfl rfl rfl hb31 rfl (by decide) ?_; clear E a; intro a E
              refine mix_guard_no E rfl rfl rfl rfl rfl hb31 rfl (by decide) ?_; clear E a; intro a E
              refine mix_guard_no E rfl rfl rfl rfl rfl hb31 rfl (by decide) ?_; clear E a; intro a E
              refine mix_guard_no E rfl rfl rfl rfl rfl hb31 rfl (by decide) ?_; clear E a; intro a E
              refine mix_guard_no E rfl rfl rfl rfl rfl hb31 rfl (by decide) ?_; clear E a; intro a E
              refine mix_guard_no E rfl rfl rfl rfl rfl hb31 rfl (by decide) ?_; clear E a; intro a E
              refine mix_pure E rfl rfl rfl (by decide) (fun w h => rn_pick_yes' E rfl rfl hb31 rfl) ?_; clear E a; intro a E
              refine mix_nil ?_
              refine joined_here ?_
              exact ⟨_, by unfold Lbl.half; first | (simp; omega) | (rw [hgd]; simp; omega), S, E.keep (keep_cons rfl (keep_cons rfl keep_nil))⟩
            · have hb31n := hb31; replace hb31n := Nrm.nrm hb31n
              obtain ⟨n, hn⟩ : ∃ n : Nat, l.top = n := ⟨l.top.toNat, by omega⟩
              have hnl : n < l.tops.length := by omega
              have hgd := getD_at hn hnl
              obtain ⟨g, off, rfl⟩ := hO.addr (by omega)
              refine mix_guard_yes E rfl rfl rfl rfl rfl hb31 rfl (by decide) (fun w h => by first | exact rn_fieldAddr0 (q := 3) E rfl rfl rfl | exact rn_fieldAddr (q := 3) E rfl rfl rfl) ?_; clear E a; intro a E
              refine mix_guard_yes E rfl rfl rfl rfl rfl hb31 rfl (by decide) (fun w h => by first | exact rn_load E rfl rfl rfl (h.one (by repeat (first | exact mm1 | apply List.Mem.tail))) rfl | exact rn_loadc E rfl rfl rfl (by assumption)) ?_; clear E a; intro a E
              refine mix_guard_yes E rfl rfl rfl rfl rfl hb31 rfl (by decide) (fun w h => by first | exact rn_fieldAddr0 (q := 1) E rfl rfl rfl | exact rn_fieldAddr (q := 1) E rfl rfl rfl) ?_; clear E a; intro a E
              refine mix_guard_yes E rfl rfl rfl rfl rfl hb31 rfl (by decide) (fun w h => by first | exact rn_load E rfl rfl rfl (h.one (by repeat (first | exact mm1 | apply List.Mem.tail))) rfl | exact rn_loadc E rfl rfl rfl (by assumption)) ?_; clear E a; intro a E
              refine mix_guard_yes E rfl rfl rfl rfl rfl hb31 rfl (by decide) (fun w h => by first | exact rn_fieldAddr0 (q := 2) E rfl rfl rfl | exact rn_fieldAddr (q := 2) E rfl rfl rfl) ?_; clear E a; intro a E
              refine mix_guard_yes E rfl rfl rfl rfl rfl hb31 rfl (by decide) (fun w h => by first | exact rn_load E rfl rfl rfl (h.one (by repeat (first | exact mm1 | apply List.Mem.tail))) rfl | exact rn_loadc E rfl rfl rfl (by assumption)) ?_; clear E a; intro a E
              refine mix_guard_yes E rfl rfl rfl rfl rfl hb31 rfl (by decide) (fun w h => rn_indexAddr (i := n) E rfl rfl rfl rfl rfl hn (by omega)) ?_; clear E a; intro a E
              refine mix_guard_yes E rfl rfl rfl rfl rfl hb31 rfl (by decide) (fun w h => by first | exact rn_fieldAddr0 (q := 1) E rfl rfl rfl | exact rn_fieldAddr (q := 1) E rfl rfl rfl) ?_; clear E a; intro a E
              refine mix_guard_yes E rfl rfl rfl rfl rfl hb31 rfl (by decide) (fun w h => rn_loadc E rfl rfl rfl (hO.elem (lay := Tp.lay) Tp.lay_len (h.at (by repeat (first | exact mm1 | apply List.Mem.tail))) (i := n) hnl 1 _ rfl)) ?_; clear E a; intro a E
              refine mix_guard_yes E rfl rfl rfl rfl rfl hb31 rfl (by decide) (fun w h => rn_geq E rfl rfl rfl) ?_; clear E a; intro a E
              refine mix_pure E rfl rfl rfl (by decide) (fun w h => rn_pick_no' E rfl rfl hb31 rfl) ?_; clear E a; intro a E
              refine mix_nil ?_
              refine joined_here ?_
              exact ⟨_, by unfold Lbl.half; first | (simp; omega) | (rw [hgd]; simp; omega), S, E.keep (keep_cons rfl (keep_cons rfl keep_nil))⟩
  · clear E S a; intro a w J; obtain ⟨bt, hbt, S, E⟩ := J
    refine then_k hK ?_; clear hK; clear K
    refine if_bool E rfl (fun hb => ?_) (fun hb => ?_)
    · replace hb := Nrm.nrm hb
      have hno : ¬ l.half := (fun q => by rw [hbt.2 q] at hb; cases hb)
      refine wp_seq_k ?_; intro K hK
      refine region_list ?_
      refine list_pure E rfl rfl (by decide) (rn_assign E rfl rfl) ?_; clear E a; intro a E
      refine wpList_nil ?_
      refine then_k hK ?_; clear hK; clear K
      refine wp_ret ?_
      refine then_ret ?_; clear hK; clear K
      refine ret1 E rfl rfl ?_
      exact ⟨_, rfl, by rw [lbE_half hno], (S.only (Bs := [O]) (sel_cons (by repeat (first | exact pk1 | apply pick_tail)) (sel_nil _))).tr⟩
    · replace hb := Nrm.nrm hb
      have hh : l.half := hbt.1 hb
      refine wp_skip ?_
      refine then_k hK ?_; clear hK; clear K
      refine wp_seq_k ?_; intro K hK
      refine wp_seq_k ?_; intro K hK
      refine region_list ?_
      refine list_pure E rfl rfl (by decide) (by first | exact rn_fieldAddr0 (q := 1) E rfl rfl rfl | exact rn_fieldAddr (q := 1) E rfl rfl rfl) ?_; clear E a; intro a E
      refine list_pure E rfl rfl (by decide) (by first | exact rn_load E rfl rfl rfl (S.get (by repeat (first | exact pk1 | apply pick_tail))) rfl | exact rn_loadc E rfl rfl rfl (by assumption)) ?_; clear E a; intro a E
      refine list_call E rfl rfl (by decide) rfl Tryd.func39 rfl (by kernel_rfl) rfl (topany_ret O _ l.tops hO0 _ (S.hp.sel (sel_cons (by repeat (first | exact pk1 | apply pick_tail)) (sel_nil _)))) ?_
      rintro v45 w ⟨rfl, hT⟩; clear E a; intro a E
      have S := S.call1 (sel_cons (by repeat (first | exact pk1 | apply pick_tail)) (sel_nil _)) hT
      refine wpList_nil ?_
      refine then_k hK ?_; clear hK; clear K
      refine if_bool E rfl (fun hb => ?_) (fun hb => ?_)
      · replace hb := Nrm.nrm hb
        have hnm : ¬ ∀ t ∈ l.tops, t.made := (by simpa using hb)
        refine wp_seq_k ?_; intro K hK
        refine region_list ?_
        refine list_pure E rfl rfl (by decide) (rn_assign E rfl rfl) ?_; clear E a; intro a E
        refine wpList_nil ?_
        refine then_k hK ?_; clear hK; clear K
        refine wp_ret ?_
        refine then_ret ?_; clear hK; clear K
        refine ret1 E rfl rfl ?_
        exact ⟨_, rfl, by rw [lbE_no (fun q => hnm ((lbE_iff l).1 q).2)], (S.only (Bs := [O]) (sel_cons (by repeat (first | exact pk1 | apply pick_tail)) (sel_nil _))).tr⟩
      · replace hb := Nrm.nrm hb
        have hm : ∀ t ∈ l.tops, t.made := (by simpa using hb)
        refine wp_skip ?_
        refine then_k hK ?_; clear hK; clear K
        refine wp_seq_k ?_; intro K hK
        refine region_list ?_
        refine list_pure E rfl rfl (by decide) (rn_assign E rfl rfl) ?_; clear E a; intro a E
        refine wpList_nil ?_
        refine then_k hK ?_; clear hK; clear K
        refine wp_ret ?_
        refine ret1 E rfl rfl ?_
        exact ⟨_, rfl, by rw [(lbE_iff l).2 ⟨hh, hm⟩], (S.only (Bs := [O]) (sel_cons (by repeat (first | exact pk1 | apply pick_tail)) (sel_nil _))).tr⟩

theorem dlbcheck_ret (O : Chunk) (v : Value) (l : Lbl) (hO : Rd O 3 v l.tops.length (l.tops.flatMap Tp.lay)) (w0 : World) (H : Hp w0 [O]) :
    Ret Tryd.prog 19 #[lbagg l v] w0 fun u w' => u = .int .i64 (lbE l) ∧ Trs w0 w' [O] [O] := by
  have S := St.begin H
  obtain ⟨ad, c, rfl⟩ := hO.slice
  refine enter1 60 Tryd.func19 rfl rfl (by decide) ?_; intro a E
  refine wp_seq_k ?_; intro K hK
  refine region_list ?_
  refine list_wp rfl (wp_box E S rfl rfl (by decide) rfl rfl ?_); clear E S a; intro a w b1 E S
  refine list_pure E rfl rfl (by decide) (rn_assign E rfl rfl) ?_; clear E a; intro a E
  refine wpList_nil ?_
  refine then_k hK ?_; clear hK; clear K
  refine wp_seq_k ?_; intro K hK
  refine wp_seq_k ?_; intro K hK
  refine wp_join (fun (a : Act) (w' : World) => ∃ bt : Bool, (bt = false ↔ l.half) ∧ St w0 [O] w' [[(b1, cel [.int .u64 l.pool, .slice ad l.tops.length c, .int .i64 l.top, .int .i64 l.place] 37)], O] ∧ Fr a 60 [(1, ptr b1), (44, .bool bt)]) ?_ ?_
  · skip
    refine region_mix0 S (.ofL [(0, 0), (1, 0), (2, 0), (3, 0), (4, 0), (5, 0), (6, 0), (7, 0), (8, 0), (9, 0), (10, 0), (11, 0), (12, 0), (13, 0), (14, 0), (15, 0), (16, 0), (17, 0), (18, 0), (19, 0), (20, 0), (21, 0), (22, 0), (23, 0), (24, 0), (25, 0), (26, 0), (27, 0), (28, 0), (29, 0), (30, 0), (31, 0), (32, 0), (33, 0), (34, 0), (35, 0), (36, 0), (37, 0), (38, 0), (39, 0)]) (by kernel_rfl) (by kernel_rfl) ?_
    clear S; intro w S
    refine mix_pure E rfl rfl rfl (by decide) (fun w h => by first | exact rn_fieldAddr0 (q := 1) E rfl rfl rfl | exact rn_fieldAddr (q := 1) E rfl rfl rfl) ?_; clear E a; intro a E
    refine mix_pure E rfl rfl rfl (by decide) (fun w h => by first | exact rn_load E rfl rfl rfl (h.one (by repeat (first | exact mm1 | apply List.Mem.tail))) rfl | exact rn_loadc E rfl rfl rfl (by assumption)) ?_; clear E a; intro a E
    refine mix_pure E rfl rfl rfl (by decide) (fun w h => by first | exact rn_len E rfl rfl rfl | exact rn_len_str E rfl rfl rfl | exact rn_len_string E rfl rfl rfl) ?_; clear E a; intro a E
    refine mix_pure E rfl rfl rfl (by decide) (fun w h => rn_lss E rfl rfl rfl) ?_; clear E a; intro a E
    refine mix_pure E rfl rfl rfl (by decide) (fun w h => rn_move E rfl rfl) ?_; clear E a; intro a E
    refine guard_split E (t := 9) rfl (fun hb9 => ?_) (fun hb9 => ?_)
    · have hb9n := hb9; replace hb9n := Nrm.nrm hb9n
      refine mix_guard_no E rfl rfl rfl rfl rfl hb9 rfl (by decide) ?_; clear E a; intro a E
      refine mix_guard_no E rfl rfl rfl rfl rfl hb9 rfl (by decide) ?_; clear E a; intro a E
      refine mix_guard_no E rfl rfl rfl rfl rfl hb9 rfl (by decide) ?_; clear E a; intro a E
      refine mix_guard_no E rfl rfl rfl rfl rfl hb9 rfl (by decide) ?_; clear E a; intro a E
      refine mix_pure E rfl rfl rfl (by decide) (fun w h => rn_pick_yes' E rfl rfl hb9 rfl) ?_; clear E a; intro a E
      refine mix_pure E rfl rfl rfl (by decide) (fun w h => rn_move E rfl rfl) ?_; clear E a; intro a E
      refine mix_guard_no E rfl rfl rfl rfl rfl rfl rfl (by decide) ?_; clear E a; intro a E
      refine mix_guard_no E rfl rfl rfl rfl rfl rfl rfl (by decide) ?_; clear E a; intro a E
      refine mix_guard_no E rfl rfl rfl rfl rfl rfl rfl (by decide) ?_; clear E a; intro a E
      refine mix_pure E rfl rfl rfl (by decide) (fun w h => rn_pick_yes' E rfl rfl rfl rfl) ?_; clear E a; intro a E
      refine mix_pure E rfl rfl rfl (by decide) (fun w h => rn_move E rfl rfl) ?_; clear E a; intro a E
      refine mix_guard_no E rfl rfl rfl rfl rfl rfl rfl (by decide) ?_; clear E a; intro a E
      refine mix_guard_no E rfl rfl rfl rfl rfl rfl rfl (by decide) ?_; clear E a; intro a E
      refine mix_guard_no E rfl rfl rfl rfl rfl rfl rfl (by decide) ?_; clear E a; intro a E
      refine mix_guard_no E rfl rfl rfl rfl rfl rfl rfl (by decide) ?_; clear E a; intro a E
      refine mix_guard_no E rfl rfl rfl rfl rfl rfl rfl (by decide) ?_; clear E a; intro a E
      refine mix_guard_no E rfl rfl rfl rfl rfl rfl rfl (by decide) ?_; clear E a; intro a E
      refine mix_pure E rfl rfl rfl (by decide) (fun w h => rn_pick_yes' E rfl rfl rfl rfl) ?_; clear E a; intro a E
      refine mix_pure E rfl rfl rfl (by decide) (fun w h => rn_move E rfl rfl) ?_; clear E a; intro a E
      refine mix_guard_no E rfl rfl rfl rfl rfl rfl rfl (by decide) ?_; clear E a; intro a E
      refine mix_guard_no E rfl rfl rfl rfl rfl rfl rfl (by decide) ?_; clear E a; intro a E
      refine mix_guard_no E rfl rfl rfl rfl rfl rfl rfl (by decide) ?_; clear E a; intro a E
      refine mix_pure E rfl rfl rfl (by decide) (fun w h => rn_pick_yes' E rfl rfl rfl rfl) ?_; clear E a; intro a E
      refine mix_pure E rfl rfl rfl (by decide) (fun w h => rn_move E rfl rfl) ?_; clear E a; intro a E
      refine mix_guard_no E rfl rfl rfl rfl rfl rfl rfl (by decide) ?_; clear E a; intro a E
      refine mix_guard_no E rfl rfl rfl rfl rfl rfl rfl (by decide) ?_; clear E a; intro a E
      refine mix_guard_no E rfl rfl rfl rfl rfl rfl rfl (by decide) ?_; clear E a; intro a E
      refine mix_guard_no E rfl rfl rfl rfl rfl rfl rfl (by decide) ?_; clear E a; intro a E
      refine mix_guard_no E rfl rfl rfl rfl rfl rfl rfl (by decide) ?_; clear E a; intro a E
      refine mix_guard_no E rfl rfl rfl rfl rfl rfl rfl (by decide) ?_; clear E a; intro a E
      refine mix_guard_no E rfl rfl rfl rfl rfl rfl rfl (by decide) ?_; clear E a; intro a E
      refine mix_guard_no E rfl rfl rfl rfl rfl rfl rfl (by decide) ?_; clear E a; intro a E
      refine mix_guard_no E rfl rfl rfl rfl rfl rfl rfl (by decide) ?_; clear E a; intro a E
      refine mix_guard_no E rfl rfl rfl rfl rfl rfl rfl (by decide) ?_; clear E a; intro a E
      refine mix_pure E rfl rfl rfl (by decide) (fun w h => rn_pick_yes' E rfl rfl rfl rfl) ?_; clear E a; intro a E
      refine mix_nil ?_
      refine joined_here ?_
      exact ⟨_, by unfold Lbl.half; first | (simp; omega) | (rw [hgd]; simp; omega), S, E.keep (keep_cons rfl (keep_cons rfl keep_nil))⟩
    · have hb9n := hb9; replace hb9n := Nrm.nrm hb9n
      refine mix_guard_yes E rfl rfl rfl rfl rfl hb9 rfl (by decide) (fun w h => by first | exact rn_fieldAddr0 (q := 1) E rfl rfl rfl | exact rn_fieldAddr (q := 1) E rfl rfl rfl) ?_; clear E a; intro a E
      refine mix_guard_yes E rfl rfl rfl rfl rfl hb9 rfl (by decide) (fun w h => by first | exact rn_load E rfl rfl rfl (h.one (by repeat (first | exact mm1 | apply List.Mem.tail))) rfl | exact rn_loadc E rfl rfl rfl (by assumption)) ?_; clear E a; intro a E
      refine mix_guard_yes E rfl rfl rfl rfl rfl hb9 rfl (by decide) (fun w h => by first | exact rn_len E rfl rfl rfl | exact rn_len_str E rfl rfl rfl | exact rn_len_string E rfl rfl rfl) ?_; clear E a; intro a E
      refine mix_guard_yes E rfl rfl rfl rfl rfl hb9 rfl (by decide) (fun w h => rn_gtr E rfl rfl rfl) ?_; clear E a; intro a E
      refine mix_pure E rfl rfl rfl (by decide) (fun w h => rn_pick_no' E rfl rfl hb9 rfl) ?_; clear E a; intro a E
      refine mix_pure E rfl rfl rfl (by decide) (fun w h => rn_move E rfl rfl) ?_; clear E a; intro a E
      refine guard_split E (t := 15) rfl (fun hb15 => ?_) (fun hb15 => ?_)
      · have hb15n := hb15; replace hb15n := Nrm.nrm hb15n
        refine mix_guard_no E rfl rfl rfl rfl rfl hb15 rfl (by decide) ?_; clear E a; intro a E
        refine mix_guard_no E rfl rfl rfl rfl rfl hb15 rfl (by decide) ?_; clear E a; intro a E
        refine mix_guard_no E rfl rfl rfl rfl rfl hb15 rfl (by decide) ?_; clear E a; intro a E
        refine mix_pure E rfl rfl rfl (by decide) (fun w h => rn_pick_yes' E rfl rfl hb15 rfl) ?_; clear E a; intro a E
        refine mix_pure E rfl rfl rfl (by decide) (fun w h => rn_move E rfl rfl) ?_; clear E a; intro a E
        refine mix_guard_no E rfl rfl rfl rfl rfl rfl rfl (by decide) ?_; clear E a; intro a E
        refine mix_guard_no E rfl rfl rfl rfl rfl rfl rfl (by decide) ?_; clear E a; intro a E
        refine mix_guard_no E rfl rfl rfl rfl rfl rfl rfl (by decide) ?_; clear E a; intro a E
        refine mix_guard_no E rfl rfl rfl rfl rfl rfl rfl (by decide) ?_; clear E a; intro a E
        refine mix_guard_no E rfl rfl rfl rfl rfl rfl rfl (by decide) ?_; clear E a; intro a E
        refine mix_guard_no E rfl rfl rfl rfl rfl rfl rfl (by decide) ?_; clear E a; intro a E
        refine mix_pure E rfl rfl rfl (by decide) (fun w h => rn_pick_yes' E rfl rfl rfl rfl) ?_; clear E a; intro a E
        refine mix_pure E rfl rfl rfl (by decide) (fun w h => rn_move E rfl rfl) ?_; clear E a; intro a E
        refine mix_guard_no E rfl rfl rfl rfl rfl rfl rfl (by decide) ?_; clear E a; intro a E
        refine mix_guard_no E rfl rfl rfl rfl rfl rfl rfl (by decide) ?_; clear E a; intro a E
        refine mix_guard_no E rfl rfl rfl rfl rfl rfl rfl (by decide) ?_; clear E a; intro a E
        refine mix_pure E rfl rfl rfl (by decide) (fun w h => rn_pick_yes' E rfl rfl rfl rfl) ?_; clear E a; intro a E
        refine mix_pure E rfl rfl rfl (by decide) (fun w h => rn_move E rfl rfl) ?_; clear E a; intro a E
        refine mix_guard_no E rfl rfl rfl rfl rfl rfl rfl (by decide) ?_; clear E a; intro a E
        refine mix_guard_no E rfl rfl rfl rfl rfl rfl rfl (by decide) ?_; clear E a; intro a E
        refine mix_guard_no E rfl rfl rfl rfl rfl rfl rfl (by decide) ?_; clear E a; intro a E
        refine mix_guard_no E rfl rfl rfl rfl rfl rfl rfl (by decide) ?_; clear E a; intro a E
        refine mix_guard_no E rfl rfl rfl rfl rfl rfl rfl (by decide) ?_; clear E a; intro a E
        refine mix_guard_no E rfl rfl rfl rfl rfl rfl rfl (by decide) ?_; clear E a; intro a E
        refine mix_guard_no E rfl rfl rfl rfl rfl rfl rfl (by decide) ?_; clear E a; intro a E
        refine mix_guard_no E rfl rfl rfl rfl rfl rfl rfl (by decide) ?_; clear E a; intro a E
        refine mix_guard_no E rfl rfl rfl rfl rfl rfl rfl (by decide) ?_; clear E a; intro a E
        refine mix_guard_no E rfl rfl rfl rfl rfl rfl rfl (by decide) ?_; clear E a; intro a E
        refine mix_pure E rfl rfl rfl (by decide) (fun w h => rn_pick_yes' E rfl rfl rfl rfl) ?_; clear E a; intro a E
        refine mix_nil ?_
        refine joined_here ?_
        exact ⟨_, by unfold Lbl.half; first | (simp; omega) | (rw [hgd]; simp; omega), S, E.keep (keep_cons rfl (keep_cons rfl keep_nil))⟩
      · have hb15n := hb15; replace hb15n := Nrm.nrm hb15n
        refine mix_guard_yes E rfl rfl rfl rfl rfl hb15 rfl (by decide) (fun w h => by first | exact rn_fieldAddr0 (q := 2) E rfl rfl rfl | exact rn_fieldAddr (q := 2) E rfl rfl rfl) ?_; clear E a; intro a E
        refine mix_guard_yes E rfl rfl rfl rfl rfl hb15 rfl (by decide) (fun w h => by first | exact rn_load E rfl rfl rfl (h.one (by repeat (first | exact mm1 | apply List.Mem.tail))) rfl | exact rn_loadc E rfl rfl rfl (by assumption)) ?_; clear E a; intro a E
        refine mix_guard_yes E rfl rfl rfl rfl rfl hb15 rfl (by decide) (fun w h => rn_lss E rfl rfl rfl) ?_; clear E a; intro a E
        refine mix_pure E rfl rfl rfl (by decide) (fun w h => rn_pick_no' E rfl rfl hb15 rfl) ?_; clear E a; intro a E
        refine mix_pure E rfl rfl rfl (by decide) (fun w h => rn_move E rfl rfl) ?_; clear E a; intro a E
        refine guard_split E (t := 20) rfl (fun hb20 => ?_) (fun hb20 => ?_)
        · have hb20n := hb20; replace hb20n := Nrm.nrm hb20n
          refine mix_guard_no E rfl rfl rfl rfl rfl hb20 rfl (by decide) ?_; clear E a; intro a E
          refine mix_guard_no E rfl rfl rfl rfl rfl hb20 rfl (by decide) ?_; clear E a; intro a E
          refine mix_guard_no E rfl rfl rfl rfl rfl hb20 rfl (by decide) ?_; clear E a; intro a E
          refine mix_guard_no E rfl rfl rfl rfl rfl hb20 rfl (by decide) ?_; clear E a; intro a E
          refine mix_guard_no E rfl rfl rfl rfl rfl hb20 rfl (by decide) ?_; clear E a; intro a E
          refine mix_guard_no E rfl rfl rfl rfl rfl hb20 rfl (by decide) ?_; clear E a; intro a E
          refine mix_pure E rfl rfl rfl (by decide) (fun w h => rn_pick_yes' E rfl rfl hb20 rfl) ?_; clear E a; intro a E
          refine mix_pure E rfl rfl rfl (by decide) (fun w h => rn_move E rfl rfl) ?_; clear E a; intro a E
          refine mix_guard_no E rfl rfl rfl rfl rfl rfl rfl (by decide) ?_; clear E a; intro a E
          refine mix_guard_no E rfl rfl rfl rfl rfl rfl rfl (by decide) ?_; clear E a; intro a E
          refine mix_guard_no E rfl rfl rfl rfl rfl rfl rfl (by decide) ?_; clear E a; intro a E
          refine mix_pure E rfl rfl rfl (by decide) (fun w h => rn_pick_yes' E rfl rfl rfl rfl) ?_; clear E a; intro a E
          refine mix_pure E rfl rfl rfl (by decide) (fun w h => rn_move E rfl rfl) ?_; clear E a; intro a E
          refine mix_guard_no E rfl rfl rfl rfl rfl rfl rfl (by decide) ?_; clear E a; intro a E
          refine mix_guard_no E rfl rfl rfl rfl rfl rfl rfl (by decide) ?_; clear E a; intro a E
          refine mix_guard_no E rfl rfl rfl rfl rfl rfl rfl (by decide) ?_; clear E a; intro a E
          refine mix_guard_no E rfl rfl rfl rfl rfl rfl rfl (by decide) ?_; clear E a; intro a E
          refine mix_guard_no E rfl rfl rfl rfl rfl rfl rfl (by decide) ?_; clear E a; intro a E
          refine mix_guard_no E rfl rfl rfl rfl rfl rfl rfl (by decide) ?_; clear E a; intro a E
          refine mix_guard_no E rfl rfl rfl rfl rfl rfl rfl (by decide) ?_; clear E a; intro a E
          refine mix_guard_no E rfl rfl rfl rfl rfl rfl rfl (by decide) ?_; clear E a; intro a E
          refine mix_guard_no E rfl rfl rfl rfl rfl rfl rfl (by decide) ?_; clear E a; intro a E
          refine mix_guard_no E rfl rfl rfl rfl rfl rfl rfl (by decide) ?_; clear E a; intro a E
          refine mix_pure E rfl rfl rfl (by decide) (fun w h => rn_pick_yes' E rfl rfl rfl rfl) ?_; clear E a; intro a E
          refine mix_nil ?_
          refine joined_here ?_
          exact ⟨_, by unfold Lbl.half; first | (simp; omega) | (rw [hgd]; simp; omega), S, E.keep (keep_cons rfl (keep_cons rfl keep_nil))⟩
        · have hb20n := hb20; replace hb20n := Nrm.nrm hb20n
          refine mix_guard_yes E rfl rfl rfl rfl rfl hb20 rfl (by decide) (fun w h => by first | exact rn_fieldAddr0 (q := 2) E rfl rfl rfl | exact rn_fieldAddr (q := 2) E rfl rfl rfl) ?_; clear E a; intro a E
          refine mix_guard_yes E rfl rfl rfl rfl rfl hb20 rfl (by decide) (fun w h => by first | exact rn_load E rfl rfl rfl (h.one (by repeat (first | exact mm1 | apply List.Mem.tail))) rfl | exact rn_loadc E rfl rfl rfl (by assumption)) ?_; clear E a; intro a E
          refine mix_guard_yes E rfl rfl rfl rfl rfl hb20 rfl (by decide) (fun w h => by first | exact rn_fieldAddr0 (q := 1) E rfl rfl rfl | exact rn_fieldAddr (q := 1) E rfl rfl rfl) ?_; clear E a; intro a E
          refine mix_guard_yes E rfl rfl rfl rfl rfl hb20 rfl (by decide) (fun w h => by first | exact rn_load E rfl rfl rfl (h.one (by repeat (first | exact mm1 | apply List.Mem.tail))) rfl | exact rn_loadc E rfl rfl rfl (by assumption)) ?_; clear E a; intro a E
          refine mix_guard_yes E rfl rfl rfl rfl rfl hb20 rfl (by decide) (fun w h => by first | exact rn_len E rfl rfl rfl | exact rn_len_str E rfl rfl rfl | exact rn_len_string E rfl rfl rfl) ?_; clear E a; intro a E
          refine mix_guard_yes E rfl rfl rfl rfl rfl hb20 rfl (by decide) (fun w h => rn_geq E rfl rfl rfl) ?_; clear E a; intro a E
          refine mix_pure E rfl rfl rfl (by decide) (fun w h => rn_pick_no' E rfl rfl hb20 rfl) ?_; clear E a; intro a E
          refine mix_pure E rfl rfl rfl (by decide) (fun w h => rn_move E rfl rfl) ?_; clear E a; intro a E
          refine guard_split E (t := 28) rfl (fun hb28 => ?_) (fun hb28 => ?_)
          · have hb28n := hb28; replace hb28n := Nrm.nrm hb28n
            refine mix_guard_no E rfl rfl rfl rfl rfl hb28 rfl (by decide) ?_; clear E a; intro a E
            refine mix_guard_no E rfl rfl rfl rfl rfl hb28 rfl (by decide) ?_; clear E a; intro a E
            refine mix_guard_no E rfl rfl rfl rfl rfl hb28 rfl (by decide) ?_; clear E a; intro a E
            refine mix_pure E rfl rfl rfl (by decide) (fun w h => rn_pick_yes' E rfl rfl hb28 rfl) ?_; clear E a; intro a E
            refine mix_pure E rfl rfl rfl (by decide) (fun w h => rn_move E rfl rfl) ?_; clear E a; intro a E
            refine mix_guard_no E rfl rfl rfl rfl rfl rfl rfl (by decide) ?_; clear E a; intro a E
            refine mix_guard_no E rfl rfl rfl rfl rfl rfl rfl (by decide) ?_; clear E a; intro a E
            refine mix_guard_no E rfl rfl rfl rfl rfl rfl rfl (by decide) ?_; clear E a; intro a E
            refine mix_guard_no E rfl rfl rfl rfl rfl rfl rfl (by decide) ?_; clear E a; intro a E
            refine mix_guard_no E rfl rfl rfl rfl rfl rfl rfl (by decide) ?_; clear E a; intro a E
            refine mix_guard_no E rfl rfl rfl rfl rfl rfl rfl (by decide) ?_; clear E a; intro a E
            refine mix_guard_no E rfl rfl rfl rfl rfl rfl rfl (by decide) ?_; clear E a; intro a E
            refine mix_guard_no E rfl rfl rfl rfl rfl rfl rfl (by decide) ?_; clear E a; intro a E
            refine mix_guard_no E rfl rfl rfl rfl rfl rfl rfl (by decide) ?_; clear E a; intro a E
            refine mix_guard_no E rfl rfl rfl rfl rfl rfl rfl (by decide) ?_; clear E a; intro a E
            refine mix_pure E rfl rfl rfl (by decide) (fun w h => rn_pick_yes' E rfl rfl rfl rfl) ?_; clear E a; intro a E
            refine mix_nil ?_
            refine joined_here ?_
            exact ⟨_, by unfold Lbl.half; first | (simp; omega) | (rw [hgd]; simp; omega), S, E.keep (keep_cons rfl (keep_cons rfl keep_nil))⟩
          · have hb28n := hb28; replace hb28n := Nrm.nrm hb28n
            refine mix_guard_yes E rfl rfl rfl rfl rfl hb28 rfl (by decide) (fun w h => by first | exact rn_fieldAddr0 (q := 3) E rfl rfl rfl | exact rn_fieldAddr (q := 3) E rfl rfl rfl) ?_; clear E a; intro a E
            refine mix_guard_yes E rfl rfl rfl rfl rfl hb28 rfl (by decide) (fun w h => by first | exact rn_load E rfl rfl rfl (h.one (by repeat (first | exact mm1 | apply List.Mem.tail))) rfl | exact rn_loadc E rfl rfl rfl (by assumption)) ?_; clear E a; intro a E
            refine mix_guard_yes E rfl rfl rfl rfl rfl hb28 rfl (by decide) (fun w h => rn_lss E rfl rfl rfl) ?_; clear E a; intro a E
            refine mix_pure E rfl rfl rfl (by decide) (fun w h => rn_pick_no' E rfl rfl hb28 rfl) ?_; clear E a; intro a E
            refine mix_pure E rfl rfl rfl (by decide) (fun w h => rn_move E rfl rfl) ?_; clear E a; intro a E
            refine guard_split E (t := 33) rfl (fun hb33 => ?_) (fun hb33 => ?_)
            · have hb33n := hb33; replace hb33n := Nrm.nrm hb33n
              refine mix_guard_no E rfl rfl rfl rfl rfl hb33 rfl (by decide) ?_; clear E a; intro a E
              refine mix_guard_no E rfl rfl rfl rfl rfl hb33 rfl (by decide) ?_; clear E a; intro a E
              refine mix_guard_no E rfl rfl rfl rfl rfl hb33 rfl (by decide) ?_; clear E a; intro a E
              refine mix_guard_no E rfl rfl rfl rfl rfl hb33 rfl (by decide) ?_; clear E a; intro a E
              refine mix_guard_no E rfl rfl rfl rfl rfl hb33 rfl (by decide) ?_; clear E a; intro a E
              refine mix_guard_no E rfl rfl rfl rfl rfl hb33 rfl (by decide) ?_; clear E a; intro a E
              refine mix_guard_no E rfl rfl rfl rfl rfl hb33 rfl (by decide) ?_; clear E a; intro a E
              refine mix_guard_no E rfl rfl rfl rfl rfl hb33 rfl (by decide) ?_; clear E a; intro a E
              refine mix_guard_no E rfl rfl rfl rfl rfl hb33 rfl (by decide) ?_; clear E a; intro a E
              refine mix_guard_no E rfl rfl rfl rfl rfl hb33 rfl (by decide) ?_; clear E a; intro a E
              refine mix_pure E rfl rfl rfl (by decide) (fun w h => rn_pick_yes' E rfl rfl hb33 rfl) ?_; clear E a; intro a E
              refine mix_nil ?_
              refine joined_here ?_
              exact ⟨_, by unfold Lbl.half; first | (simp; omega) | (rw [hgd]; simp; omega), S, E.keep (keep_cons rfl (keep_cons rfl keep_nil))⟩
            · have hb33n := hb33; replace hb33n := Nrm.nrm hb33n
              obtain ⟨n, hn⟩ : ∃ n : Nat, l.top = n := ⟨l.top.toNat, by omega⟩
              have hnl : n < l.tops.length := by omega
              have hgd := getD_at hn hnl
              obtain ⟨g, off, rfl⟩ := hO.addr (by omega)
              refine mix_guard_yes E rfl rfl rfl rfl rfl hb33 rfl (by decide) (fun w h => by first | exact rn_fieldAddr0 (q := 3) E rfl rfl rfl | exact rn_fieldAddr (q := 3) E rfl rfl rfl) ?_; clear E a; intro a E
              refine mix_guard_yes E rfl rfl rfl rfl rfl hb33 rfl (by decide) (fun w h => by first | exact rn_load E rfl rfl rfl (h.one (by repeat (first | exact mm1 | apply List.Mem.tail))) rfl | exact rn_loadc E rfl rfl rfl (by assumption)) ?_; clear E a; intro a E
              refine mix_guard_yes E rfl rfl rfl rfl rfl hb33 rfl (by decide) (fun w h => by first | exact rn_fieldAddr0 (q := 1) E rfl rfl rfl | exact rn_fieldAddr (q := 1) E rfl rfl rfl) ?_; clear E a; intro a E
              refine mix_guard_yes E rfl rfl rfl rfl rfl hb33 rfl (by decide) (fun w h => by first | exact rn_load E rfl rfl rfl (h.one (by repeat (first | exact mm1 | apply List.Mem.tail))) rfl | exact rn_loadc E rfl rfl rfl (by assumption)) ?_; clear E a; intro a E
              refine mix_guard_yes E rfl rfl rfl rfl rfl hb33 rfl (by decide) (fun w h => by first | exact rn_fieldAddr0 (q := 2) E rfl rfl rfl | exact rn_fieldAddr (q := 2) E rfl rfl rfl) ?_; clear E a; intro a E
              refine mix_guard_yes E rfl rfl rfl rfl rfl hb33 rfl (by decide) (fun w h => by first | exact rn_load E rfl rfl rfl (h.one (by repeat (first | exact mm1 | apply List.Mem.tail))) rfl | exact rn_loadc E rfl rfl rfl (by assumption)) ?_; clear E a; intro a E
              refine mix_guard_yes E rfl rfl rfl rfl rfl hb33 rfl (by decide) (fun w h => rn_indexAddr (i := n) E rfl rfl rfl rfl rfl hn (by omega)) ?_; clear E a; intro a E
              refine mix_guard_yes E rfl rfl rfl rfl rfl hb33 rfl (by decide) (fun w h => by first | exact rn_fieldAddr0 (q := 1) E rfl rfl rfl | exact rn_fieldAddr (q := 1) E rfl rfl rfl) ?_; clear E a; intro a E
              refine mix_guard_yes E rfl rfl rfl rfl rfl hb33 rfl (by decide) (fun w h => rn_loadc E rfl rfl rfl (hO.elem (lay := Tp.lay) Tp.lay_len (h.at (by repeat (first | exact mm1 | apply List.Mem.tail))) (i := n) hnl 1 _ rfl)) ?_; clear E a; intro a E
              refine mix_guard_yes E rfl rfl rfl rfl rfl hb33 rfl (by decide) (fun w h => rn_geq E rfl rfl rfl) ?_; clear E a; intro a E
              refine mix_pure E rfl rfl rfl (by decide) (fun w h => rn_pick_no' E rfl rfl hb33 rfl) ?_; clear E a; intro a E
              refine mix_nil ?_
              refine joined_here ?_
              exact ⟨_, by unfold Lbl.half; first | (simp; omega) | (rw [hgd]; simp; omega), S, E.keep (keep_cons rfl (keep_cons rfl keep_nil))⟩
  · clear E S a; intro a w J; obtain ⟨bt, hbt, S, E⟩ := J
    refine then_k hK ?_; clear hK; clear K
    refine if_bool E rfl (fun hb => ?_) (fun hb => ?_)
    · replace hb := Nrm.nrm hb
      have hno : ¬ l.half := (fun q => by rw [hbt.2 q] at hb; cases hb)
      refine wp_seq_k ?_; intro K hK
      refine region_list ?_
      refine list_pure E rfl rfl (by decide) (rn_assign E rfl rfl) ?_; clear E a; intro a E
      refine wpList_nil ?_
      refine then_k hK ?_; clear hK; clear K
      refine wp_ret ?_
      refine then_ret ?_; clear hK; clear K
      refine ret1 E rfl rfl ?_
      exact ⟨_, rfl, by rw [lbE_half hno], (S.only (Bs := [O]) (sel_cons (by repeat (first | exact pk1 | apply pick_tail)) (sel_nil _))).tr⟩
    · replace hb := Nrm.nrm hb
      have hh : l.half := hbt.1 hb
      refine wp_skip ?_
      refine then_k hK ?_; clear hK; clear K
      refine wp_seq_k ?_; intro K hK
      refine wp_seq_k ?_; intro K hK
      have hl4 : l.tops.length ≤ 4 := hh.2.1
      refine region_list ?_
      refine list_pure E rfl rfl (by decide) (rn_assign E rfl rfl) ?_; clear E a; intro a E
      refine wpList_nil ?_
      refine then_k hK ?_; clear hK; clear K
      refine wp_block ?_
      refine wp_loop_ghost (fun (m : Nat) (a : Act) (w' : World) => ∃ i : Nat, m = l.tops.length - i ∧ i ≤ l.tops.length ∧ (∀ j (hj : j < l.tops.length), j < i → l.tops[j].made) ∧ St w0 [O] w' [[(b1, cel [.int .u64 l.pool, .slice ad l.tops.length c, .int .i64 l.top, .int .i64 l.place] 37)], O] ∧ Fr a 60 [(1, ptr b1), (3, .int .i64 i)]) (l.tops.length - 0) ?_ ?_
      · exact ⟨0, rfl, by omega, fun j _ h => by omega, S, E.keep (keep_cons rfl (keep_cons rfl keep_nil))⟩
      clear E; clear a; (try clear S); rintro m a w ⟨i, rfl, hi, hm, S, E⟩
      refine wp_seq_k ?_; intro K hK
      refine wp_seq_k ?_; intro K hK
      refine region_list ?_
      refine list_pure E rfl rfl (by decide) (rn_move E rfl rfl) ?_; clear E a; intro a E
      refine list_pure E rfl rfl (by decide) (by first | exact rn_fieldAddr0 (q := 1) E rfl rfl rfl | exact rn_fieldAddr (q := 1) E rfl rfl rfl) ?_; clear E a; intro a E
      refine list_pure E rfl rfl (by decide) (by first | exact rn_load E rfl rfl rfl (S.get (by repeat (first | exact pk1 | apply pick_tail))) rfl | exact rn_loadc E rfl rfl rfl (by assumption)) ?_; clear E a; intro a E
      refine list_pure E rfl rfl (by decide) (by first | exact rn_len E rfl rfl rfl | exact rn_len_str E rfl rfl rfl | exact rn_len_string E rfl rfl rfl) ?_; clear E a; intro a E
      refine list_pure E rfl rfl (by decide) (rn_lss E rfl rfl rfl) ?_; clear E a; intro a E
      refine wpList_nil ?_
      refine then_k hK ?_; clear hK; clear K
      refine if_bool E rfl (fun hb => ?_) (fun hb => ?_)
      · replace hb := Nrm.nrm hb
        refine wp_skip ?_
        refine then_k hK ?_; clear hK; clear K
        refine wp_seq_k ?_; intro K hK
        refine wp_block ?_
        refine wp_seq_k ?_; intro K hK
        have hib : i < l.tops.length := by omega
        obtain ⟨g, off, rfl⟩ := hO.addr (by omega)
        refine region_list ?_
        refine list_pure E rfl rfl (by decide) (by first | exact rn_fieldAddr0 (q := 1) E rfl rfl rfl | exact rn_fieldAddr (q := 1) E rfl rfl rfl) ?_; clear E a; intro a E
        refine list_pure E rfl rfl (by decide) (by first | exact rn_load E rfl rfl rfl (S.get (by repeat (first | exact pk1 | apply pick_tail))) rfl | exact rn_loadc E rfl rfl rfl (by assumption)) ?_; clear E a; intro a E
        refine list_pure E rfl rfl (by decide) (rn_move E rfl rfl) ?_; clear E a; intro a E
        refine list_pure E rfl rfl (by decide) (by first | exact rn_indexAddr1 E rfl rfl rfl rfl rfl rfl (by omega) | exact rn_indexAddr E rfl rfl rfl rfl rfl rfl (by omega) | exact rn_indexAddr_array E rfl rfl rfl rfl rfl rfl (by omega)) ?_; clear E a; intro a E
        refine list_pure E rfl rfl (by decide) (rn_load_aggc (vs := [_, _, _]) E rfl rfl rfl rfl (hO.elem (lay := Tp.lay) Tp.lay_len (S.stab.at (by repeat (first | exact mm1 | apply List.Mem.tail))) (i := i) hib)) ?_; clear E a; intro a E
        refine list_call E rfl rfl (by decide) rfl Tryd.func42 rfl (by kernel_rfl) rfl (dmade_ret (l.tops[i]'hib) _) ?_
        rintro v57 w ⟨rfl, hT⟩; clear E a; intro a E
        have S := S.quiet hT
        refine list_pure E rfl rfl (by decide) (rn_assign E rfl rfl) ?_; clear E a; intro a E
        refine wpList_nil ?_
        refine then_k hK ?_; clear hK; clear K
        refine wp_seq_k ?_; intro K hK
        refine region_list ?_
        refine list_pure E rfl rfl (by decide) (rn_move E rfl rfl) ?_; clear E a; intro a E
        refine list_pure E rfl rfl (by decide) (rn_not E rfl rfl) ?_; clear E a; intro a E
        refine wpList_nil ?_
        refine then_k hK ?_; clear hK; clear K
        refine if_bool E rfl (fun hb => ?_) (fun hb => ?_)
        · replace hb := Nrm.nrm hb
          have hno : ¬ (l.tops[i]'hib).made := (by simpa using hb)
          refine wp_seq_k ?_; intro K hK
          refine region_list ?_
          refine list_pure E rfl rfl (by decide) (rn_assign E rfl rfl) ?_; clear E a; intro a E
          refine wpList_nil ?_
          refine then_k hK ?_; clear hK; clear K
          refine wp_ret ?_
          refine in_ret ?_
          refine then_ret ?_; clear hK; clear K
          refine then_ret ?_
          refine in_ret ?_
          refine then_ret ?_; clear hK; clear K
          refine ret1 E rfl rfl ?_
          exact ⟨_, rfl, by rw [lbE_no (fun q => hno (((lbE_iff l).1 q).2 _ (List.getElem_mem hib)))], (S.only (Bs := [O]) (sel_cons (by repeat (first | exact pk1 | apply pick_tail)) (sel_nil _))).tr⟩
        · replace hb := Nrm.nrm hb
          have hyes : (l.tops[i]'hib).made := (by simpa using hb)
          refine wp_skip ?_
          refine in_normal ?_
          refine then_k hK ?_; clear hK; clear K
          refine region_list ?_
          refine list_pure E rfl rfl (by decide) (rn_move E rfl rfl) ?_; clear E a; intro a E
          refine list_pure E rfl rfl (by decide) (rn_add E rfl rfl rfl (by first | exact wa_lit (y := 1) (by omega) | exact w_in (by omega) | exact w_inu (by omega) | exact rfl)) ?_; clear E a; intro a E
          refine list_pure E rfl rfl (by decide) (rn_assign E rfl rfl) ?_; clear E a; intro a E
          refine wpList_nil ?_
          refine then_normal ?_
          exact ⟨_, by omega, i + 1, rfl, by omega, fun j hj h => (by rcases Nat.lt_or_ge j i with c1 | c1; exact hm j hj c1; obtain rfl : j = i := (by omega); exact hyes), S, E.keep (keep_cons rfl (keep_cons rfl keep_nil))⟩
      · replace hb := Nrm.nrm hb
        refine wp_exit ?_
        refine then_exit ?_; clear hK; clear K
        refine then_exit ?_
        refine in_exit ?_
        refine then_k hK ?_; clear hK; clear K
        refine wp_seq_k ?_; intro K hK
        refine region_list ?_
        refine list_pure E rfl rfl (by decide) (rn_assign E rfl rfl) ?_; clear E a; intro a E
        refine wpList_nil ?_
        refine then_k hK ?_; clear hK; clear K
        refine wp_ret ?_
        refine ret1 E rfl rfl ?_
        exact ⟨_, rfl, by rw [(lbE_iff l).2 ⟨hh, made_all hm (by omega)⟩], (S.only (Bs := [O]) (sel_cons (by repeat (first | exact pk1 | apply pick_tail)) (sel_nil _))).tr⟩

theorem samelb_ret (C D : Chunk) (v w : Value) (x y : Lbl) (hC : Rd C 3 v x.tops.length (x.tops.flatMap Tp.lay)) (hD : Rd D 3 w y.tops.length (y.tops.flatMap Tp.lay)) (hl : x.tops.length ≤ 140737488355328) (w0 : World) (H : Hp w0 [C, D]) :
    Ret Tryd.prog 17 #[lbagg x v, lbagg y w] w0 fun u w' => u = .bool (decide (x = y)) ∧ Trs w0 w' [C, D] [C, D] := by
  have S := St.begin H
  obtain ⟨ad, c, rfl⟩ := hC.slice
  obtain ⟨ad2, c2, rfl⟩ := hD.slice
  obtain ⟨xp, xt, xo, xl⟩ := x
  obtain ⟨yp, yt, yo, yl⟩ := y
  change xt.length ≤ 140737488355328 at hl
  change Rd C 3 (.slice ad xt.length c) xt.length (xt.flatMap Tp.lay) at hC
  change Rd D 3 (.slice ad2 yt.length c2) yt.length (yt.flatMap Tp.lay) at hD
  change Ret Tryd.prog _ #[.agg #[.int .u64 xp, .slice ad xt.length c, .int .i64 xo, .int .i64 xl], .agg #[.int .u64 yp, .slice ad2 yt.length c2, .int .i64 yo, .int .i64 yl]] w0 _
  refine enter2 52 Tryd.func17 rfl rfl (by decide) ?_; intro a E
  refine wp_seq_k ?_; intro K hK
  refine region_list ?_
  refine list_wp rfl (wp_box E S rfl rfl (by decide) rfl rfl ?_); clear E S a; intro a w b2 E S
  refine list_wp rfl (wp_box E S rfl rfl (by decide) rfl rfl ?_); clear E S a; intro a w b3 E S
  refine list_pure E rfl rfl (by decide) (rn_assign E rfl rfl) ?_; clear E a; intro a E
  refine wpList_nil ?_
  refine then_k hK ?_; clear hK; clear K
  refine wp_seq_k ?_; intro K hK
  refine wp_seq_k ?_; intro K hK
  refine wp_join (fun (a : Act) (w' : World) => ∃ bt : Bool, (bt = false ↔ xp = yp ∧ xo = yo ∧ xl = yl ∧ xt.length = yt.length) ∧ St w0 [C, D] w' [[(b3, cel [.int .u64 yp, .slice ad2 yt.length c2, .int .i64 yo, .int .i64 yl] 37)], [(b2, cel [.int .u64 xp, .slice ad xt.length c, .int .i64 xo, .int .i64 xl] 37)], C, D] ∧ Fr a 52 [(2, ptr b2), (3, ptr b3), (33, .bool bt)]) ?_ ?_
  · skip
    refine region_list ?_
    refine list_pure E rfl rfl (by decide) (by first | exact rn_fieldAddr0 (q := 0) E rfl rfl rfl | exact rn_fieldAddr (q := 0) E rfl rfl rfl) ?_; clear E a; intro a E
    refine list_pure E rfl rfl (by decide) (by first | exact rn_load E rfl rfl rfl (S.get (by repeat (first | exact pk1 | apply pick_tail))) rfl | exact rn_loadc E rfl rfl rfl (by assumption)) ?_; clear E a; intro a E
    refine list_pure E rfl rfl (by decide) (by first | exact rn_fieldAddr0 (q := 0) E rfl rfl rfl | exact rn_fieldAddr (q := 0) E rfl rfl rfl) ?_; clear E a; intro a E
    refine list_pure E rfl rfl (by decide) (by first | exact rn_load E rfl rfl rfl (S.get (by repeat (first | exact pk1 | apply pick_tail))) rfl | exact rn_loadc E rfl rfl rfl (by assumption)) ?_; clear E a; intro a E
    refine list_pure E rfl rfl (by decide) (by first | exact rn_neq E rfl rfl rfl | exact rn_neq_ptr_nil E rfl rfl rfl rfl | exact rn_neq_bool E rfl rfl rfl rfl | exact rn_neq_string E rfl rfl rfl) ?_; clear E a; intro a E
    refine list_pure E rfl rfl (by decide) (rn_move E rfl rfl) ?_; clear E a; intro a E
    refine guard_split E (t := 11) rfl (fun hb11 => ?_) (fun hb11 => ?_)
    · have hb11n := hb11; replace hb11n := Nrm.nrm hb11n
      refine list_guard_no E rfl rfl rfl rfl hb11 rfl (by decide) ?_; clear E a; intro a E
      refine list_guard_no E rfl rfl rfl rfl hb11 rfl (by decide) ?_; clear E a; intro a E
      refine list_guard_no E rfl rfl rfl rfl hb11 rfl (by decide) ?_; clear E a; intro a E
      refine list_guard_no E rfl rfl rfl rfl hb11 rfl (by decide) ?_; clear E a; intro a E
      refine list_guard_no E rfl rfl rfl rfl hb11 rfl (by decide) ?_; clear E a; intro a E
      refine list_pure E rfl rfl (by decide) (rn_pick_yes' E rfl rfl hb11 rfl) ?_; clear E a; intro a E
      refine list_pure E rfl rfl (by decide) (rn_move E rfl rfl) ?_; clear E a; intro a E
      refine list_guard_no E rfl rfl rfl rfl rfl rfl (by decide) ?_; clear E a; intro a E
      refine list_guard_no E rfl rfl rfl rfl rfl rfl (by decide) ?_; clear E a; intro a E
      refine list_guard_no E rfl rfl rfl rfl rfl rfl (by decide) ?_; clear E a; intro a E
      refine list_guard_no E rfl rfl rfl rfl rfl rfl (by decide) ?_; clear E a; intro a E
      refine list_guard_no E rfl rfl rfl rfl rfl rfl (by decide) ?_; clear E a; intro a E
      refine list_pure E rfl rfl (by decide) (rn_pick_yes' E rfl rfl rfl rfl) ?_; clear E a; intro a E
      refine list_pure E rfl rfl (by decide) (rn_move E rfl rfl) ?_; clear E a; intro a E
      refine list_guard_no E rfl rfl rfl rfl rfl rfl (by decide) ?_; clear E a; intro a E
      refine list_guard_no E rfl rfl rfl rfl rfl rfl (by decide) ?_; clear E a; intro a E
      refine list_guard_no E rfl rfl rfl rfl rfl rfl (by decide) ?_; clear E a; intro a E
      refine list_guard_no E rfl rfl rfl rfl rfl rfl (by decide) ?_; clear E a; intro a E
      refine list_guard_no E rfl rfl rfl rfl rfl rfl (by decide) ?_; clear E a; intro a E
      refine list_guard_no E rfl rfl rfl rfl rfl rfl (by decide) ?_; clear E a; intro a E
      refine list_guard_no E rfl rfl rfl rfl rfl rfl (by decide) ?_; clear E a; intro a E
      refine list_pure E rfl rfl (by decide) (rn_pick_yes' E rfl rfl rfl rfl) ?_; clear E a; intro a E
      refine wpList_nil ?_
      refine joined_here ?_
      exact ⟨_, by simp; omega, S, E.keep (keep_cons rfl (keep_cons rfl (keep_cons rfl keep_nil)))⟩
    · have hb11n := hb11; replace hb11n := Nrm.nrm hb11n
      refine list_guard_yes E rfl rfl rfl rfl hb11 rfl (by decide) (by first | exact rn_fieldAddr0 (q := 2) E rfl rfl rfl | exact rn_fieldAddr (q := 2) E rfl rfl rfl) ?_; clear E a; intro a E
      refine list_guard_yes E rfl rfl rfl rfl hb11 rfl (by decide) (by first | exact rn_load E rfl rfl rfl (S.get (by repeat (first | exact pk1 | apply pick_tail))) rfl | exact rn_loadc E rfl rfl rfl (by assumption)) ?_; clear E a; intro a E
      refine list_guard_yes E rfl rfl rfl rfl hb11 rfl (by decide) (by first | exact rn_fieldAddr0 (q := 2) E rfl rfl rfl | exact rn_fieldAddr (q := 2) E rfl rfl rfl) ?_; clear E a; intro a E
      refine list_guard_yes E rfl rfl rfl rfl hb11 rfl (by decide) (by first | exact rn_load E rfl rfl rfl (S.get (by repeat (first | exact pk1 | apply pick_tail))) rfl | exact rn_loadc E rfl rfl rfl (by assumption)) ?_; clear E a; intro a E
      refine list_guard_yes E rfl rfl rfl rfl hb11 rfl (by decide) (by first | exact rn_neq E rfl rfl rfl | exact rn_neq_ptr_nil E rfl rfl rfl rfl | exact rn_neq_bool E rfl rfl rfl rfl | exact rn_neq_string E rfl rfl rfl) ?_; clear E a; intro a E
      refine list_pure E rfl rfl (by decide) (rn_pick_no' E rfl rfl hb11 rfl) ?_; clear E a; intro a E
      refine list_pure E rfl rfl (by decide) (rn_move E rfl rfl) ?_; clear E a; intro a E
      refine guard_split E (t := 18) rfl (fun hb18 => ?_) (fun hb18 => ?_)
      · have hb18n := hb18; replace hb18n := Nrm.nrm hb18n
        refine list_guard_no E rfl rfl rfl rfl hb18 rfl (by decide) ?_; clear E a; intro a E
        refine list_guard_no E rfl rfl rfl rfl hb18 rfl (by decide) ?_; clear E a; intro a E
        refine list_guard_no E rfl rfl rfl rfl hb18 rfl (by decide) ?_; clear E a; intro a E
        refine list_guard_no E rfl rfl rfl rfl hb18 rfl (by decide) ?_; clear E a; intro a E
        refine list_guard_no E rfl rfl rfl rfl hb18 rfl (by decide) ?_; clear E a; intro a E
        refine list_pure E rfl rfl (by decide) (rn_pick_yes' E rfl rfl hb18 rfl) ?_; clear E a; intro a E
        refine list_pure E rfl rfl (by decide) (rn_move E rfl rfl) ?_; clear E a; intro a E
        refine list_guard_no E rfl rfl rfl rfl rfl rfl (by decide) ?_; clear E a; intro a E
        refine list_guard_no E rfl rfl rfl rfl rfl rfl (by decide) ?_; clear E a; intro a E
        refine list_guard_no E rfl rfl rfl rfl rfl rfl (by decide) ?_; clear E a; intro a E
        refine list_guard_no E rfl rfl rfl rfl rfl rfl (by decide) ?_; clear E a; intro a E
        refine list_guard_no E rfl rfl rfl rfl rfl rfl (by decide) ?_; clear E a; intro a E
        refine list_guard_no E rfl rfl rfl rfl rfl rfl (by decide) ?_; clear E a; intro a E
        refine list_guard_no E rfl rfl rfl rfl rfl rfl (by decide) ?_; clear E a; intro a E
        refine list_pure E rfl rfl (by decide) (rn_pick_yes' E rfl rfl rfl rfl) ?_; clear E a; intro a E
        refine wpList_nil ?_
        refine joined_here ?_
        exact ⟨_, by simp; omega, S, E.keep (keep_cons rfl (keep_cons rfl (keep_cons rfl keep_nil)))⟩
      · have hb18n := hb18; replace hb18n := Nrm.nrm hb18n
        refine list_guard_yes E rfl rfl rfl rfl hb18 rfl (by decide) (by first | exact rn_fieldAddr0 (q := 3) E rfl rfl rfl | exact rn_fieldAddr (q := 3) E rfl rfl rfl) ?_; clear E a; intro a E
        refine list_guard_yes E rfl rfl rfl rfl hb18 rfl (by decide) (by first | exact rn_load E rfl rfl rfl (S.get (by repeat (first | exact pk1 | apply pick_tail))) rfl | exact rn_loadc E rfl rfl rfl (by assumption)) ?_; clear E a; intro a E
        refine list_guard_yes E rfl rfl rfl rfl hb18 rfl (by decide) (by first | exact rn_fieldAddr0 (q := 3) E rfl rfl rfl | exact rn_fieldAddr (q := 3) E rfl rfl rfl) ?_; clear E a; intro a E
        refine list_guard_yes E rfl rfl rfl rfl hb18 rfl (by decide) (by first | exact rn_load E rfl rfl rfl (S.get (by repeat (first | exact pk1 | apply pick_tail))) rfl | exact rn_loadc E rfl rfl rfl (by assumption)) ?_; clear E a; intro a E
        refine list_guard_yes E rfl rfl rfl rfl hb18 rfl (by decide) (by first | exact rn_neq E rfl rfl rfl | exact rn_neq_ptr_nil E rfl rfl rfl rfl | exact rn_neq_bool E rfl rfl rfl rfl | exact rn_neq_string E rfl rfl rfl) ?_; clear E a; intro a E
        refine list_pure E rfl rfl (by decide) (rn_pick_no' E rfl rfl hb18 rfl) ?_; clear E a; intro a E
        refine list_pure E rfl rfl (by decide) (rn_move E rfl rfl) ?_; clear E a; intro a E
        refine guard_split E (t := 25) rfl (fun hb25 => ?_) (fun hb25 => ?_)
        · have hb25n := hb25; replace hb25n := Nrm.nrm hb25n
          refine list_guard_no E rfl rfl rfl rfl hb25 rfl (by decide) ?_; clear E a; intro a E
          refine list_guard_no E rfl rfl rfl rfl hb25 rfl (by decide) ?_; clear E a; intro a E
          refine list_guard_no E rfl rfl rfl rfl hb25 rfl (by decide) ?_; clear E a; intro a E
          refine list_guard_no E rfl rfl rfl rfl hb25 rfl (by decide) ?_; clear E a; intro a E
          refine list_guard_no E rfl rfl rfl rfl hb25 rfl (by decide) ?_; clear E a; intro a E
          refine list_guard_no E rfl rfl rfl rfl hb25 rfl (by decide) ?_; clear E a; intro a E
          refine list_guard_no E rfl rfl rfl rfl hb25 rfl (by decide) ?_; clear E a; intro a E
          refine list_pure E rfl rfl (by decide) (rn_pick_yes' E rfl rfl hb25 rfl) ?_; clear E a; intro a E
          refine wpList_nil ?_
          refine joined_here ?_
          exact ⟨_, by simp; omega, S, E.keep (keep_cons rfl (keep_cons rfl (keep_cons rfl keep_nil)))⟩
        · have hb25n := hb25; replace hb25n := Nrm.nrm hb25n
          refine list_guard_yes E rfl rfl rfl rfl hb25 rfl (by decide) (by first | exact rn_fieldAddr0 (q := 1) E rfl rfl rfl | exact rn_fieldAddr (q := 1) E rfl rfl rfl) ?_; clear E a; intro a E
          refine list_guard_yes E rfl rfl rfl rfl hb25 rfl (by decide) (by first | exact rn_load E rfl rfl rfl (S.get (by repeat (first | exact pk1 | apply pick_tail))) rfl | exact rn_loadc E rfl rfl rfl (by assumption)) ?_; clear E a; intro a E
          refine list_guard_yes E rfl rfl rfl rfl hb25 rfl (by decide) (by first | exact rn_len E rfl rfl rfl | exact rn_len_str E rfl rfl rfl | exact rn_len_string E rfl rfl rfl) ?_; clear E a; intro a E
          refine list_guard_yes E rfl rfl rfl rfl hb25 rfl (by decide) (by first | exact rn_fieldAddr0 (q := 1) E rfl rfl rfl | exact rn_fieldAddr (q := 1) E rfl rfl rfl) ?_; clear E a; intro a E
          refine list_guard_yes E rfl rfl rfl rfl hb25 rfl (by decide) (by first | exact rn_load E rfl rfl rfl (S.get (by repeat (first | exact pk1 | apply pick_tail))) rfl | exact rn_loadc E rfl rfl rfl (by assumption)) ?_; clear E a; intro a E
          refine list_guard_yes E rfl rfl rfl rfl hb25 rfl (by decide) (by first | exact rn_len E rfl rfl rfl | exact rn_len_str E rfl rfl rfl | exact rn_len_string E rfl rfl rfl) ?_; clear E a; intro a E
          refine list_guard_yes E rfl rfl rfl rfl hb25 rfl (by decide) (by first | exact rn_neq E rfl rfl rfl | exact rn_neq_ptr_nil E rfl rfl rfl rfl | exact rn_neq_bool E rfl rfl rfl rfl | exact rn_neq_string E rfl rfl rfl) ?_; clear E a; intro a E
          refine list_pure E rfl rfl (by decide) (rn_pick_no' E rfl rfl hb25 rfl) ?_; clear E a; intro a E
          refine wpList_nil ?_
          refine joined_here ?_
          exact ⟨_, by simp; omega, S, E.keep (keep_cons rfl (keep_cons rfl (keep_cons rfl keep_nil)))⟩
  · clear E S a; intro a w J; obtain ⟨bt, hbt, S, E⟩ := J
    refine then_k hK ?_; clear hK; clear K
    refine if_bool E rfl (fun hb => ?_) (fun hb => ?_)
    · replace hb := Nrm.nrm hb
      have hno : ¬ (xp = yp ∧ xo = yo ∧ xl = yl ∧ xt.length = yt.length) := (fun q => by rw [hbt.2 q] at hb; cases hb)
      refine wp_seq_k ?_; intro K hK
      refine region_list ?_
      refine list_pure E rfl rfl (by decide) (rn_assign E rfl rfl) ?_; clear E a; intro a E
      refine wpList_nil ?_
      refine then_k hK ?_; clear hK; clear K
      refine wp_ret ?_
      refine then_ret ?_; clear hK; clear K
      refine ret1 E rfl rfl ?_
      exact ⟨_, rfl, by rw [decide_eq_false]; intro q; injection q with q1 q2 q3 q4; exact hno ⟨q1, q3, q4, by rw [q2]⟩, (S.only (Bs := [C, D]) (sel_cons (by repeat (first | exact pk1 | apply pick_tail)) (sel_cons (by repeat (first | exact pk1 | apply pick_tail)) (sel_nil _)))).tr⟩
    · replace hb := Nrm.nrm hb
      obtain ⟨rfl, rfl, rfl, hll⟩ := hbt.1 hb
      refine wp_skip ?_
      refine then_k hK ?_; clear hK; clear K
      refine wp_seq_k ?_; intro K hK
      refine wp_seq_k ?_; intro K hK
      refine region_list ?_
      refine list_pure E rfl rfl (by decide) (rn_assign E rfl rfl) ?_; clear E a; intro a E
      refine wpList_nil ?_
      refine then_k hK ?_; clear hK; clear K
      refine wp_block ?_
      refine wp_loop_ghost (fun (m : Nat) (a : Act) (w' : World) => ∃ i : Nat, m = xt.length - i ∧ i ≤ xt.length ∧ (∀ j, j < i → xt[j]? = yt[j]?) ∧ St w0 [C, D] w' [[(b3, cel [.int .u64 xp, .slice ad2 yt.length c2, .int .i64 xo, .int .i64 xl] 37)], [(b2, cel [.int .u64 xp, .slice ad xt.length c, .int .i64 xo, .int .i64 xl] 37)], C, D] ∧ Fr a 52 [(2, ptr b2), (3, ptr b3), (5, .int .i64 i)]) (xt.length - 0) ?_ ?_
      · exact ⟨0, rfl, by omega, fun j h => by omega, S, E.keep (keep_cons rfl (keep_cons rfl (keep_cons rfl keep_nil)))⟩
      clear E; clear a; (try clear S); rintro m a w ⟨i, rfl, hi, hm, S, E⟩
      refine wp_seq_k ?_; intro K hK
      refine wp_seq_k ?_; intro K hK
      refine region_list ?_
      refine list_pure E rfl rfl (by decide) (rn_move E rfl rfl) ?_; clear E a; intro a E
      refine list_pure E rfl rfl (by decide) (by first | exact rn_fieldAddr0 (q := 1) E rfl rfl rfl | exact rn_fieldAddr (q := 1) E rfl rfl rfl) ?_; clear E a; intro a E
      refine list_pure E rfl rfl (by decide) (by first | exact rn_load E rfl rfl rfl (S.get (by repeat (first | exact pk1 | apply pick_tail))) rfl | exact rn_loadc E rfl rfl rfl (by assumption)) ?_; clear E a; intro a E
      refine list_pure E rfl rfl (by decide) (by first | exact rn_len E rfl rfl rfl | exact rn_len_str E rfl rfl rfl | exact rn_len_string E rfl rfl rfl) ?_; clear E a; intro a E
      refine list_pure E rfl rfl (by decide) (rn_lss E rfl rfl rfl) ?_; clear E a; intro a E
      refine wpList_nil ?_
      refine then_k hK ?_; clear hK; clear K
      refine if_bool E rfl (fun hb => ?_) (fun hb => ?_)
      · replace hb := Nrm.nrm hb
        refine wp_skip ?_
        refine then_k hK ?_; clear hK; clear K
        refine wp_seq_k ?_; intro K hK
        refine wp_block ?_
        refine wp_seq_k ?_; intro K hK
        have hib : i < xt.length := by omega
        have hib2 : i < yt.length := by omega
        obtain ⟨g, off, rfl⟩ := hC.addr (by show 0 < xt.length; omega)
        obtain ⟨g2, off2, rfl⟩ := hD.addr (by show 0 < yt.length; omega)
        refine region_mix0 S (.ofL [(0, 0), (1, 0), (2, 0), (3, 0), (4, 0), (5, 0), (6, 0), (7, 0), (8, 0), (9, 0), (10, 0)]) (by kernel_rfl) (by kernel_rfl) ?_
        clear S; intro w S
        refine mix_pure E rfl rfl rfl (by decide) (fun w h => by first | exact rn_fieldAddr0 (q := 1) E rfl rfl rfl | exact rn_fieldAddr (q := 1) E rfl rfl rfl) ?_; clear E a; intro a E
        refine mix_pure E rfl rfl rfl (by decide) (fun w h => by first | exact rn_load E rfl rfl rfl (h.one (by repeat (first | exact mm1 | apply List.Mem.tail))) rfl | exact rn_loadc E rfl rfl rfl (by assumption)) ?_; clear E a; intro a E
        refine mix_pure E rfl rfl rfl (by decide) (fun w h => rn_move E rfl rfl) ?_; clear E a; intro a E
        refine mix_pure E rfl rfl rfl (by decide) (fun w h => by first | exact rn_indexAddr1 E rfl rfl rfl rfl rfl rfl (by omega) | exact rn_indexAddr E rfl rfl rfl rfl rfl rfl (by omega) | exact rn_indexAddr_array E rfl rfl rfl rfl rfl rfl (by omega)) ?_; clear E a; intro a E
        refine mix_pure E rfl rfl rfl (by decide) (fun w h => rn_load_aggc (vs := [_, _, _]) E rfl rfl rfl rfl (hC.elem (lay := Tp.lay) Tp.lay_len (h.at (by repeat (first | exact mm1 | apply List.Mem.tail))) (i := i) hib)) ?_; clear E a; intro a E
        refine mix_pure E rfl rfl rfl (by decide) (fun w h => by first | exact rn_fieldAddr0 (q := 1) E rfl rfl rfl | exact rn_fieldAddr (q := 1) E rfl rfl rfl) ?_; clear E a; intro a E
        refine mix_pure E rfl rfl rfl (by decide) (fun w h => by first | exact rn_load E rfl rfl rfl (h.one (by repeat (first | exact mm1 | apply List.Mem.tail))) rfl | exact rn_loadc E rfl rfl rfl (by assumption)) ?_; clear E a; intro a E
        refine mix_pure E rfl rfl rfl (by decide) (fun w h => rn_move E rfl rfl) ?_; clear E a; intro a E
        refine mix_pure E rfl rfl rfl (by decide) (fun w h => by first | exact rn_indexAddr1 E rfl rfl rfl rfl rfl rfl (by omega) | exact rn_indexAddr E rfl rfl rfl rfl rfl rfl (by omega) | exact rn_indexAddr_array E rfl rfl rfl rfl rfl rfl (by omega)) ?_; clear E a; intro a E
        refine mix_pure E rfl rfl rfl (by decide) (fun w h => rn_load_aggc (vs := [_, _, _]) E rfl rfl rfl rfl (hD.elem (lay := Tp.lay) Tp.lay_len (h.at (by repeat (first | exact mm1 | apply List.Mem.tail))) (i := i) hib2)) ?_; clear E a; intro a E
        refine mix_pure E rfl rfl rfl (by decide) (fun w h => by first | exact rn_neq_pair E rfl rfl rfl rfl (by kernel_rfl) (by kernel_rfl) rfl rfl rfl | exact rn_neq_cells E rfl rfl rfl rfl (by kernel_rfl) (by kernel_rfl) rfl) ?_; clear E a; intro a E
        refine mix_nil ?_
        refine then_k hK ?_; clear hK; clear K
        refine if_bool E rfl (fun hb => ?_) (fun hb => ?_)
        · replace hb := Nrm.nrm hb
          have hno : xt[i] ≠ yt[i] := (by have hbe : (!(Tp.eqB xt[i] yt[i])) = true := hb; rw [Tp.eqB_eq] at hbe; simpa using hbe)
          refine wp_seq_k ?_; intro K hK
          refine region_list ?_
          refine list_pure E rfl rfl (by decide) (rn_assign E rfl rfl) ?_; clear E a; intro a E
          refine wpList_nil ?_
          refine then_k hK ?_; clear hK; clear K
          refine wp_ret ?_
          refine in_ret ?_
          refine then_ret ?_; clear hK; clear K
          refine then_ret ?_
          refine in_ret ?_
          refine then_ret ?_; clear hK; clear K
          refine ret1 E rfl rfl ?_
          exact ⟨_, rfl, by rw [decide_eq_false]; intro q; injection q with q1 q2 q3 q4; subst q2; exact hno rfl, (S.only (Bs := [C, D]) (sel_cons (by repeat (first | exact pk1 | apply pick_tail)) (sel_cons (by repeat (first | exact pk1 | apply pick_tail)) (sel_nil _)))).tr⟩
        · replace hb := Nrm.nrm hb
          have hyes : xt[i] = yt[i] := (by have hbe : (!(Tp.eqB xt[i] yt[i])) = false := hb; rw [Tp.eqB_eq] at hbe; simpa using hbe)
          refine wp_skip ?_
          refine in_normal ?_
          refine then_k hK ?_; clear hK; clear K
          refine region_list ?_
          refine list_pure E rfl rfl (by decide) (rn_move E rfl rfl) ?_; clear E a; intro a E
          refine list_pure E rfl rfl (by decide) (rn_add E rfl rfl rfl (by first | exact wa_lit (y := 1) (by omega) | exact w_in (by omega) | exact w_inu (by omega) | exact rfl)) ?_; clear E a; intro a E
          refine list_pure E rfl rfl (by decide) (rn_assign E rfl rfl) ?_; clear E a; intro a E
          refine wpList_nil ?_
          refine then_normal ?_
          exact ⟨_, by omega, i + 1, rfl, by omega, fun j h => (by rcases Nat.lt_or_ge j i with c1 | c1; exact hm j c1; obtain rfl : j = i := (by omega); rw [List.getElem?_eq_getElem hib, List.getElem?_eq_getElem hib2, hyes]), S, E.keep (keep_cons rfl (keep_cons rfl (keep_cons rfl keep_nil)))⟩
      · replace hb := Nrm.nrm hb
        refine wp_exit ?_
        refine then_exit ?_; clear hK; clear K
        refine then_exit ?_
        refine in_exit ?_
        refine then_k hK ?_; clear hK; clear K
        refine wp_seq_k ?_; intro K hK
        refine region_list ?_
        refine list_pure E rfl rfl (by decide) (rn_assign E rfl rfl) ?_; clear E a; intro a E
        refine wpList_nil ?_
        refine then_k hK ?_; clear hK; clear K
        refine wp_ret ?_
        refine ret1 E rfl rfl ?_
        exact ⟨_, rfl, by rw [decide_eq_true]; rw [tops_same hll hm (by omega)], (S.only (Bs := [C, D]) (sel_cons (by repeat (first | exact pk1 | apply pick_tail)) (sel_cons (by repeat (first | exact pk1 | apply pick_tail)) (sel_nil _)))).tr⟩
end Go.Proofs.YtmghbcaookahaaaDoor
