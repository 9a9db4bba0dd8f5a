/-
  Texts put together (7).
-/
import Derived.Test.YtidhehcjafoneaaGreatDoorZMirrorAlone6
namespace Go.Sl
abbrev lbagg (l : Lbl) (v : Value) : Value := .agg #[.int .u64 l.pool, v, .int .i64 l.top, .int .i64 l.place]
def Lbl.half (l : Lbl) : Prop := 1 ≤ l.tops.length ∧ l.tops.length ≤ 4 ∧ 0 ≤ l.top ∧ l.top < l.tops.length ∧ 0 ≤ l.place ∧ l.place < (l.tops.getD l.top.toNat zIf).leaves
theorem zHd (l : Lbl) : lbE l = 0 ↔ l.half ∧ ∀ t ∈ l.tops, t.made := by
  unfold lbE; split
  · rename_i h; obtain ⟨h1, h2, h3, h4, h5, h6, h7⟩ := h; exact ⟨fun _ => ⟨⟨h1, h2, h3, h4, h5, h6⟩, h7⟩, fun _ => rfl⟩
  · rename_i h; exact ⟨fun q => (by cases q), fun ⟨⟨h1, h2, h3, h4, h5, h6⟩, h7⟩ => absurd ⟨h1, h2, h3, h4, h5, h6, h7⟩ h⟩
theorem lbE_no {l : Lbl} (h : lbE l ≠ 0) : lbE l = 42 := by
  unfold lbE at *; split
  · rename_i c; rw [if_pos c] at h; exact absurd rfl h
  · rfl
theorem lbE_half {l : Lbl} (h : ¬ l.half) : lbE l = 42 := lbE_no (fun q => h ((zHd l).1 q).1)
theorem getD_at {l : Lbl} {n : Nat} (h : l.top = n) (hn : n < l.tops.length) : l.tops.getD l.top.toNat zIf = l.tops[n] := by simp [h, List.getD, hn]
theorem made_all {l : List Tp} {i : Nat} (h : ∀ j (hj : j < l.length), j < i → l[j].made) (hi : l.length ≤ i) : ∀ t ∈ l, t.made := fun t ht => by
  obtain ⟨j, hj, rfl⟩ := List.getElem_of_mem ht
  exact h j hj (by omega)
def Tp.eqB (a b : Tp) : Bool := (a.kind == b.kind) && ((a.leaves == b.leaves) && (a.sectors == b.sectors))
theorem Tp.eqB_eq (p q : Tp) : p.eqB q = decide (p = q) := by
  cases p; cases q
  rw [Bool.eq_iff_iff]
  simp only [Tp.eqB, Bool.and_eq_true, beq_iff_eq, decide_eq_true_eq, Tp.mk.injEq]
end Go.Sl
namespace Go.Proofs.YtidhehcjafoneaaGreatDoor
open Go.Sl
set_option maxRecDepth 10000
theorem made_ret (t : Tp) (w0 : World) : Ret Tryz.prog 97 #[t.agg] w0 fun u w' => u = .bool (decide t.made) ∧ Trs w0 w' [] [] := by
  have S := St.begin (zEt w0)
  obtain ⟨k, lv, sc⟩ := t
  change Ret Tryz.prog _ #[.agg #[.int .i64 k, .int .i64 lv, .int .i64 sc]] w0 _
  refine zDc 40 Tryz.func97 rfl rfl (by decide) ?_; intro a E
  refine wp_seq_k ?_; intro K hK
  refine zAc ?_
  refine zAo rfl (zCs E S rfl rfl (by decide) rfl rfl ?_); clear E S a; intro a w b1 E S
  refine zp E (zAg E rfl rfl) ?_; clear E a; intro a E
  refine wpList_nil ?_
  refine zAh hK ?_; clear hK; clear K
  refine wp_seq_k ?_; intro K hK
  refine zAc ?_
  refine zp E (zCo (cells := [_, _, _, _]) E rfl rfl rfl) ?_; clear E a; intro a E
  refine zAo rfl (zCc E S rfl rfl (by decide) rfl rfl rfl ?_); clear E S a; intro a w b3 E S
  refine zAo rfl (zCg E S rfl rfl rfl rfl (by simp [Value.oneCell']) rfl (by repeat (first | exact pk1 | apply zAa)) (by simp) ?_); clear E S a; intro a w E S; simp only [List.take_succ_cons, List.take_zero, List.drop_succ_cons, List.drop_zero, List.cons_append, List.nil_append, List.append_nil, List.length_cons, List.length_nil, Nat.zero_add, Nat.add_zero] at S
  refine wpList_nil ?_
  refine zAh hK ?_; clear hK; clear K
  iterate 2 (refine wp_seq_k ?_; intro K hK)
  refine zFe (fun (a : Act) (w' : World) => ∃ bt : Bool, (bt = false ↔ 1 ≤ k ∧ k ≤ 3 ∧ 324 ≤ sc ∧ sc ≤ 8192) ∧ (∃ Ls, St w0 [] w' ([(b1, cel [.int .i64 k, .int .i64 lv, .int .i64 sc] 131)] :: [(b3, cel [.int .i64 0, .int .i64 1, .int .i64 2, .int .i64 3] 133)] :: Ls)) ∧ Fr a 40 [(1, ptr b1), (3, ptr b3), (23, .bool bt)]) ?_ ?_
  · skip
    refine zAc ?_
    refine zp E (by first | exact zAf (q := 0) E rfl rfl rfl | exact zAi (q := 0) E rfl rfl rfl) ?_; clear E a; intro a E
    refine zp E (by first | exact zAn E rfl rfl rfl (S.get (by repeat (first | exact pk1 | apply zAa))) rfl | exact zAj E rfl rfl rfl (by assumption)) ?_; clear E a; intro a E
    refine zp E (zCb E rfl rfl rfl) ?_; clear E a; intro a E
    refine zp E (zAe E rfl rfl) ?_; clear E a; intro a E
    refine zAy E (t := 9) rfl (fun hb9 => ?_) (fun hb9 => ?_)
    · have hb9n := hb9; replace hb9n := Nrm.nrm hb9n
      iterate 3 (refine zn E hb9 ?_; clear E a; intro a E)
      refine zp E (zAm E rfl rfl hb9 rfl) ?_; clear E a; intro a E
      refine zp E (zAe E rfl rfl) ?_; clear E a; intro a E
      iterate 3 (refine zn E rfl ?_; clear E a; intro a E)
      refine zp E (zAm E rfl rfl rfl rfl) ?_; clear E a; intro a E
      refine zp E (zAe E rfl rfl) ?_; clear E a; intro a E
      iterate 3 (refine zn E rfl ?_; clear E a; intro a E)
      refine zp E (zAm E rfl rfl rfl rfl) ?_; clear E a; intro a E
      refine wpList_nil ?_
      refine zBp ?_
      exact ⟨_, by simp; omega, ⟨_, S.front2 (by repeat (first | exact pk1 | apply zAa)) (by repeat (first | exact pk1 | apply zAa))⟩, E.keep (zAb rfl (zAb rfl (zAb rfl zAp)))⟩
    · have hb9n := hb9; replace hb9n := Nrm.nrm hb9n
      refine zy E hb9 (by first | exact zAf (q := 0) E rfl rfl rfl | exact zAi (q := 0) E rfl rfl rfl) ?_; clear E a; intro a E
      refine zy E hb9 (by first | exact zAn E rfl rfl rfl (S.get (by repeat (first | exact pk1 | apply zAa))) rfl | exact zAj E rfl rfl rfl (by assumption)) ?_; clear E a; intro a E
      refine zy E hb9 (zDd E rfl rfl rfl) ?_; clear E a; intro a E
      refine zp E (zAq E rfl rfl hb9 rfl) ?_; clear E a; intro a E
      refine zp E (zAe E rfl rfl) ?_; clear E a; intro a E
      refine zAy E (t := 14) rfl (fun hb14 => ?_) (fun hb14 => ?_)
      · have hb14n := hb14; replace hb14n := Nrm.nrm hb14n
        iterate 3 (refine zn E hb14 ?_; clear E a; intro a E)
        refine zp E (zAm E rfl rfl hb14 rfl) ?_; clear E a; intro a E
        refine zp E (zAe E rfl rfl) ?_; clear E a; intro a E
        iterate 3 (refine zn E rfl ?_; clear E a; intro a E)
        refine zp E (zAm E rfl rfl rfl rfl) ?_; clear E a; intro a E
        refine wpList_nil ?_
        refine zBp ?_
        exact ⟨_, by simp; omega, ⟨_, S.front2 (by repeat (first | exact pk1 | apply zAa)) (by repeat (first | exact pk1 | apply zAa))⟩, E.keep (zAb rfl (zAb rfl (zAb rfl zAp)))⟩
      · have hb14n := hb14; replace hb14n := Nrm.nrm hb14n
        refine zy E hb14 (by first | exact zAf (q := 2) E rfl rfl rfl | exact zAi (q := 2) E rfl rfl rfl) ?_; clear E a; intro a E
        refine zy E hb14 (by first | exact zAn E rfl rfl rfl (S.get (by repeat (first | exact pk1 | apply zAa))) rfl | exact zAj E rfl rfl rfl (by assumption)) ?_; clear E a; intro a E
        refine zy E hb14 (zCb E rfl rfl rfl) ?_; clear E a; intro a E
        refine zp E (zAq E rfl rfl hb14 rfl) ?_; clear E a; intro a E
        refine zp E (zAe E rfl rfl) ?_; clear E a; intro a E
        refine zAy E (t := 19) rfl (fun hb19 => ?_) (fun hb19 => ?_)
        · have hb19n := hb19; replace hb19n := Nrm.nrm hb19n
          iterate 3 (refine zn E hb19 ?_; clear E a; intro a E)
          refine zp E (zAm E rfl rfl hb19 rfl) ?_; clear E a; intro a E
          refine wpList_nil ?_
          refine zBp ?_
          exact ⟨_, by simp; omega, ⟨_, S.front2 (by repeat (first | exact pk1 | apply zAa)) (by repeat (first | exact pk1 | apply zAa))⟩, E.keep (zAb rfl (zAb rfl (zAb rfl zAp)))⟩
        · have hb19n := hb19; replace hb19n := Nrm.nrm hb19n
          refine zy E hb19 (by first | exact zAf (q := 2) E rfl rfl rfl | exact zAi (q := 2) E rfl rfl rfl) ?_; clear E a; intro a E
          refine zy E hb19 (by first | exact zAn E rfl rfl rfl (S.get (by repeat (first | exact pk1 | apply zAa))) rfl | exact zAj E rfl rfl rfl (by assumption)) ?_; clear E a; intro a E
          refine zy E hb19 (zDd E rfl rfl rfl) ?_; clear E a; intro a E
          refine zp E (zAq E rfl rfl hb19 rfl) ?_; clear E a; intro a E
          refine wpList_nil ?_
          refine zBp ?_
          exact ⟨_, by simp; omega, ⟨_, S.front2 (by repeat (first | exact pk1 | apply zAa)) (by repeat (first | exact pk1 | apply zAa))⟩, E.keep (zAb rfl (zAb rfl (zAb rfl zAp)))⟩
  · clear E S a; intro a w J; obtain ⟨bt, hbt, ⟨Ls, S⟩, E⟩ := J
    refine zAh hK ?_; clear hK; clear K
    refine zBl E rfl (fun hb => ?_) (fun hb => ?_)
    · replace hb := Nrm.nrm hb
      have hno : ¬ (1 ≤ k ∧ k ≤ 3 ∧ 324 ≤ sc ∧ sc ≤ 8192) := (fun q => by rw [hbt.2 q] at hb; cases hb)
      refine wp_seq_k ?_; intro K hK
      refine zAc ?_
      refine zp E (zAg E rfl rfl) ?_; clear E a; intro a E
      refine wpList_nil ?_
      refine zAh hK ?_; clear hK; clear K
      refine wp_ret ?_
      refine zBi ?_; clear hK; clear K
      refine ret1 E rfl rfl ?_
      exact ⟨_, rfl, by rw [decide_eq_false]; unfold Tp.made; simp only; omega, (S.only (Bs := []) (zAk _)).tr⟩
    · replace hb := Nrm.nrm hb
      obtain ⟨h1, h2, h3, h4⟩ := hbt.1 hb
      refine wp_skip ?_
      refine zAh hK ?_; clear hK; clear K
      refine wp_seq_k ?_; intro K hK
      refine zAc ?_
      refine zp E (zAg E rfl rfl) ?_; clear E a; intro a E
      refine wpList_nil ?_
      refine zAh hK ?_; clear hK; clear K
      iterate 2 (refine wp_seq_k ?_; intro K hK)
      refine zAc ?_
      refine zp E (by first | exact zAf (q := 0) E rfl rfl rfl | exact zAi (q := 0) E rfl rfl rfl) ?_; clear E a; intro a E
      refine zp E (by first | exact zAn E rfl rfl rfl (S.get (by repeat (first | exact pk1 | apply zAa))) rfl | exact zAj E rfl rfl rfl (by assumption)) ?_; clear E a; intro a E
      rcases (show k = 1 ∨ k = 2 ∨ k = 3 by omega) with rfl | rfl | rfl
      · skip
        refine zp E (by first | exact zCf E rfl rfl rfl | exact zAu E rfl rfl rfl rfl | exact zBc E rfl rfl rfl rfl | exact zAw E rfl rfl rfl) ?_; clear E a; intro a E
        refine wpList_nil ?_
        refine zAh hK ?_; clear hK; clear K
        refine zDa E rfl ((by decide)) ?_
        refine zAc ?_
        refine zp E (zAg E rfl rfl) ?_; clear E a; intro a E
        refine wpList_nil ?_
        refine zAh hK ?_; clear hK; clear K
        refine wp_seq_k ?_; intro K hK
        refine zBo S (.ofL [(0, 0), (1, 0), (2, 0), (3, 0), (4, 0), (5, 0), (6, 0), (7, 0), (8, 0), (9, 0), (10, 0), (11, 0), (12, 0), (13, 0)]) (by kernel_rfl) (by kernel_rfl) ?_
        clear S; intro w S
        refine zm E rfl (fun w h => by first | exact zAf (q := 1) E rfl rfl rfl | exact zAi (q := 1) E rfl rfl rfl) ?_; clear E a; intro a E
        refine zm E rfl (fun w h => by first | exact zAn E rfl rfl rfl (h.one (by repeat (first | exact mm1 | assumption | apply List.Mem.tail))) rfl | exact zAj E rfl rfl rfl (by assumption)) ?_; clear E a; intro a E
        refine zm E rfl (fun w h => by first | exact zAf (q := 0) E rfl rfl rfl | exact zAi (q := 0) E rfl rfl rfl) ?_; clear E a; intro a E
        refine zm E rfl (fun w h => by first | exact zAn E rfl rfl rfl (h.one (by repeat (first | exact mm1 | assumption | apply List.Mem.tail))) rfl | exact zAj E rfl rfl rfl (by assumption)) ?_; clear E a; intro a E
        refine zm E rfl (fun w h => zAx (i := 1) E rfl rfl rfl rfl rfl rfl (by omega)) ?_; clear E a; intro a E
        refine zm E rfl (fun w h => by first | exact zAn E rfl rfl rfl (h.one (by repeat (first | exact mm1 | assumption | apply List.Mem.tail))) rfl | exact zAj E rfl rfl rfl (by assumption)) ?_; clear E a; intro a E
        refine zm E rfl (fun w h => zDs E rfl rfl rfl) ?_; clear E a; intro a E
        refine zm E rfl (fun w h => zAe E rfl rfl) ?_; clear E a; intro a E
        refine zAy E (t := 34) rfl (fun hb34 => ?_) (fun hb34 => ?_)
        · have hb34n := hb34; replace hb34n := Nrm.nrm hb34n
          refine zAv E rfl rfl rfl rfl rfl hb34 rfl (by decide) (fun w h => by first | exact zAf (q := 1) E rfl rfl rfl | exact zAi (q := 1) E rfl rfl rfl) ?_; clear E a; intro a E
          refine zAv E rfl rfl rfl rfl rfl hb34 rfl (by decide) (fun w h => by first | exact zAn E rfl rfl rfl (h.one (by repeat (first | exact mm1 | assumption | apply List.Mem.tail))) rfl | exact zAj E rfl rfl rfl (by assumption)) ?_; clear E a; intro a E
          refine zAv E rfl rfl rfl rfl rfl hb34 rfl (by decide) (fun w h => zAe E rfl rfl) ?_; clear E a; intro a E
          refine zAv E rfl rfl rfl rfl rfl hb34 rfl (by decide) (fun w h => zHz E rfl rfl rfl) ?_; clear E a; intro a E
          refine zm E rfl (fun w h => zAm E rfl rfl hb34 rfl) ?_; clear E a; intro a E
          refine zm E rfl (fun w h => zAg E rfl rfl) ?_; clear E a; intro a E
          refine zBs ?_
          refine zAh hK ?_; clear hK; clear K
          refine wp_ret ?_
          refine ret1 E rfl rfl ?_
          exact ⟨_, rfl, by congr 1; rw [Bool.eq_iff_iff, decide_eq_true_eq (p := Tp.made _)]; unfold Tp.made; simp; omega, (S.only (Bs := []) (zAk _)).tr⟩
        · have hb34n := hb34; replace hb34n := Nrm.nrm hb34n
          iterate 4 (refine zBr E rfl rfl rfl rfl rfl hb34 rfl (by decide) ?_; clear E a; intro a E)
          refine zm E rfl (fun w h => zAq E rfl rfl hb34 rfl) ?_; clear E a; intro a E
          refine zm E rfl (fun w h => zAg E rfl rfl) ?_; clear E a; intro a E
          refine zBs ?_
          refine zAh hK ?_; clear hK; clear K
          refine wp_ret ?_
          refine ret1 E rfl rfl ?_
          exact ⟨_, rfl, by congr 1; rw [Bool.eq_iff_iff, decide_eq_true_eq (p := Tp.made _)]; unfold Tp.made; simp; omega, (S.only (Bs := []) (zAk _)).tr⟩
      · skip
        refine zp E (by first | exact zCf E rfl rfl rfl | exact zAu E rfl rfl rfl rfl | exact zBc E rfl rfl rfl rfl | exact zAw E rfl rfl rfl) ?_; clear E a; intro a E
        refine wpList_nil ?_
        refine zAh hK ?_; clear hK; clear K
        refine zBt E rfl ((by decide)) ?_
        refine wp_skip ?_
        refine zAh hK ?_; clear hK; clear K
        refine wp_seq_k ?_; intro K hK
        refine zBo S (.ofL [(0, 0), (1, 0), (2, 0), (3, 0), (4, 0), (5, 0), (6, 0), (7, 0), (8, 0), (9, 0), (10, 0), (11, 0), (12, 0), (13, 0)]) (by kernel_rfl) (by kernel_rfl) ?_
        clear S; intro w S
        refine zm E rfl (fun w h => by first | exact zAf (q := 1) E rfl rfl rfl | exact zAi (q := 1) E rfl rfl rfl) ?_; clear E a; intro a E
        refine zm E rfl (fun w h => by first | exact zAn E rfl rfl rfl (h.one (by repeat (first | exact mm1 | assumption | apply List.Mem.tail))) rfl | exact zAj E rfl rfl rfl (by assumption)) ?_; clear E a; intro a E
        refine zm E rfl (fun w h => by first | exact zAf (q := 0) E rfl rfl rfl | exact zAi (q := 0) E rfl rfl rfl) ?_; clear E a; intro a E
        refine zm E rfl (fun w h => by first | exact zAn E rfl rfl rfl (h.one (by repeat (first | exact mm1 | assumption | apply List.Mem.tail))) rfl | exact zAj E rfl rfl rfl (by assumption)) ?_; clear E a; intro a E
        refine zm E rfl (fun w h => zAx (i := 2) E rfl rfl rfl rfl rfl rfl (by omega)) ?_; clear E a; intro a E
        refine zm E rfl (fun w h => by first | exact zAn E rfl rfl rfl (h.one (by repeat (first | exact mm1 | assumption | apply List.Mem.tail))) rfl | exact zAj E rfl rfl rfl (by assumption)) ?_; clear E a; intro a E
        refine zm E rfl (fun w h => zDs E rfl rfl rfl) ?_; clear E a; intro a E
        refine zm E rfl (fun w h => zAe E rfl rfl) ?_; clear E a; intro a E
        refine zAy E (t := 34) rfl (fun hb34 => ?_) (fun hb34 => ?_)
        · have hb34n := hb34; replace hb34n := Nrm.nrm hb34n
          refine zAv E rfl rfl rfl rfl rfl hb34 rfl (by decide) (fun w h => by first | exact zAf (q := 1) E rfl rfl rfl | exact zAi (q := 1) E rfl rfl rfl) ?_; clear E a; intro a E
          refine zAv E rfl rfl rfl rfl rfl hb34 rfl (by decide) (fun w h => by first | exact zAn E rfl rfl rfl (h.one (by repeat (first | exact mm1 | assumption | apply List.Mem.tail))) rfl | exact zAj E rfl rfl rfl (by assumption)) ?_; clear E a; intro a E
          refine zAv E rfl rfl rfl rfl rfl hb34 rfl (by decide) (fun w h => zAe E rfl rfl) ?_; clear E a; intro a E
          refine zAv E rfl rfl rfl rfl rfl hb34 rfl (by decide) (fun w h => zHz E rfl rfl rfl) ?_; clear E a; intro a E
          refine zm E rfl (fun w h => zAm E rfl rfl hb34 rfl) ?_; clear E a; intro a E
          refine zm E rfl (fun w h => zAg E rfl rfl) ?_; clear E a; intro a E
          refine zBs ?_
          refine zAh hK ?_; clear hK; clear K
          refine wp_ret ?_
          refine ret1 E rfl rfl ?_
          exact ⟨_, rfl, by congr 1; rw [Bool.eq_iff_iff, decide_eq_true_eq (p := Tp.made _)]; unfold Tp.made; simp; omega, (S.only (Bs := []) (zAk _)).tr⟩
        · have hb34n := hb34; replace hb34n := Nrm.nrm hb34n
          iterate 4 (refine zBr E rfl rfl rfl rfl rfl hb34 rfl (by decide) ?_; clear E a; intro a E)
          refine zm E rfl (fun w h => zAq E rfl rfl hb34 rfl) ?_; clear E a; intro a E
          refine zm E rfl (fun w h => zAg E rfl rfl) ?_; clear E a; intro a E
          refine zBs ?_
          refine zAh hK ?_; clear hK; clear K
          refine wp_ret ?_
          refine ret1 E rfl rfl ?_
          exact ⟨_, rfl, by congr 1; rw [Bool.eq_iff_iff, decide_eq_true_eq (p := Tp.made _)]; unfold Tp.made; simp; omega, (S.only (Bs := []) (zAk _)).tr⟩
      · skip
        refine zp E (by first | exact zCf E rfl rfl rfl | exact zAu E rfl rfl rfl rfl | exact zBc E rfl rfl rfl rfl | exact zAw E rfl rfl rfl) ?_; clear E a; intro a E
        refine wpList_nil ?_
        refine zAh hK ?_; clear hK; clear K
        refine zBt E rfl ((by decide)) ?_
        refine wp_skip ?_
        refine zAh hK ?_; clear hK; clear K
        refine wp_seq_k ?_; intro K hK
        refine zBo S (.ofL [(0, 0), (1, 0), (2, 0), (3, 0), (4, 0), (5, 0), (6, 0), (7, 0), (8, 0), (9, 0), (10, 0), (11, 0), (12, 0), (13, 0)]) (by kernel_rfl) (by kernel_rfl) ?_
        clear S; intro w S
        refine zm E rfl (fun w h => by first | exact zAf (q := 1) E rfl rfl rfl | exact zAi (q := 1) E rfl rfl rfl) ?_; clear E a; intro a E
        refine zm E rfl (fun w h => by first | exact zAn E rfl rfl rfl (h.one (by repeat (first | exact mm1 | assumption | apply List.Mem.tail))) rfl | exact zAj E rfl rfl rfl (by assumption)) ?_; clear E a; intro a E
        refine zm E rfl (fun w h => by first | exact zAf (q := 0) E rfl rfl rfl | exact zAi (q := 0) E rfl rfl rfl) ?_; clear E a; intro a E
        refine zm E rfl (fun w h => by first | exact zAn E rfl rfl rfl (h.one (by repeat (first | exact mm1 | assumption | apply List.Mem.tail))) rfl | exact zAj E rfl rfl rfl (by assumption)) ?_; clear E a; intro a E
        refine zm E rfl (fun w h => zAx (i := 3) E rfl rfl rfl rfl rfl rfl (by omega)) ?_; clear E a; intro a E
        refine zm E rfl (fun w h => by first | exact zAn E rfl rfl rfl (h.one (by repeat (first | exact mm1 | assumption | apply List.Mem.tail))) rfl | exact zAj E rfl rfl rfl (by assumption)) ?_; clear E a; intro a E
        refine zm E rfl (fun w h => zDs E rfl rfl rfl) ?_; clear E a; intro a E
        refine zm E rfl (fun w h => zAe E rfl rfl) ?_; clear E a; intro a E
        refine zAy E (t := 34) rfl (fun hb34 => ?_) (fun hb34 => ?_)
        · have hb34n := hb34; replace hb34n := Nrm.nrm hb34n
          refine zAv E rfl rfl rfl rfl rfl hb34 rfl (by decide) (fun w h => by first | exact zAf (q := 1) E rfl rfl rfl | exact zAi (q := 1) E rfl rfl rfl) ?_; clear E a; intro a E
          refine zAv E rfl rfl rfl rfl rfl hb34 rfl (by decide) (fun w h => by first | exact zAn E rfl rfl rfl (h.one (by repeat (first | exact mm1 | assumption | apply List.Mem.tail))) rfl | exact zAj E rfl rfl rfl (by assumption)) ?_; clear E a; intro a E
          refine zAv E rfl rfl rfl rfl rfl hb34 rfl (by decide) (fun w h => zAe E rfl rfl) ?_; clear E a; intro a E
          refine zAv E rfl rfl rfl rfl rfl hb34 rfl (by decide) (fun w h => zHz E rfl rfl rfl) ?_; clear E a; intro a E
          refine zm E rfl (fun w h => zAm E rfl rfl hb34 rfl) ?_; clear E a; intro a E
          refine zm E rfl (fun w h => zAg E rfl rfl) ?_; clear E a; intro a E
          refine zBs ?_
          refine zAh hK ?_; clear hK; clear K
          refine wp_ret ?_
          refine ret1 E rfl rfl ?_
          exact ⟨_, rfl, by congr 1; rw [Bool.eq_iff_iff, decide_eq_true_eq (p := Tp.made _)]; unfold Tp.made; simp; omega, (S.only (Bs := []) (zAk _)).tr⟩
        · have hb34n := hb34; replace hb34n := Nrm.nrm hb34n
          iterate 4 (refine zBr E rfl rfl rfl rfl rfl hb34 rfl (by decide) ?_; clear E a; intro a E)
          refine zm E rfl (fun w h => zAq E rfl rfl hb34 rfl) ?_; clear E a; intro a E
          refine zm E rfl (fun w h => zAg E rfl rfl) ?_; clear E a; intro a E
          refine zBs ?_
          refine zAh hK ?_; clear hK; clear K
          refine wp_ret ?_
          refine ret1 E rfl rfl ?_
          exact ⟨_, rfl, by congr 1; rw [Bool.eq_iff_iff, decide_eq_true_eq (p := Tp.made _)]; unfold Tp.made; simp; omega, (S.only (Bs := []) (zAk _)).tr⟩
theorem dmade_ret (t : Tp) (w0 : World) : Ret Tryz.prog 99 #[t.agg] w0 fun u w' => u = .bool (decide t.made) ∧ Trs w0 w' [] [] := by
  have S := St.begin (zEt w0)
  obtain ⟨k, lv, sc⟩ := t
  change Ret Tryz.prog _ #[.agg #[.int .i64 k, .int .i64 lv, .int .i64 sc]] w0 _
  refine zDc 44 Tryz.func99 rfl rfl (by decide) ?_; intro a E
  refine wp_seq_k ?_; intro K hK
  refine zAc ?_
  refine zAo rfl (zCs E S rfl rfl (by decide) rfl rfl ?_); clear E S a; intro a w b1 E S
  refine zp E (zAg E rfl rfl) ?_; clear E a; intro a E
  refine wpList_nil ?_
  refine zAh hK ?_; clear hK; clear K
  iterate 2 (refine wp_seq_k ?_; intro K hK)
  refine zFe (fun (a : Act) (w' : World) => ∃ bt : Bool, (bt = false ↔ 324 ≤ sc ∧ sc ≤ 8192 ∧ lv ≤ 5) ∧ (∃ Ls, St w0 [] w' ([(b1, cel [.int .i64 k, .int .i64 lv, .int .i64 sc] 131)] :: Ls)) ∧ Fr a 44 [(1, ptr b1), (15, .bool bt)]) ?_ ?_
  · skip
    refine zAc ?_
    refine zp E (by first | exact zAf (q := 2) E rfl rfl rfl | exact zAi (q := 2) E rfl rfl rfl) ?_; clear E a; intro a E
    refine zp E (by first | exact zAn E rfl rfl rfl (S.get (by repeat (first | exact pk1 | apply zAa))) rfl | exact zAj E rfl rfl rfl (by assumption)) ?_; clear E a; intro a E
    refine zp E (zCb E rfl rfl rfl) ?_; clear E a; intro a E
    refine zp E (zAe E rfl rfl) ?_; clear E a; intro a E
    refine zAy E (t := 6) rfl (fun hb6 => ?_) (fun hb6 => ?_)
    · have hb6n := hb6; replace hb6n := Nrm.nrm hb6n
      iterate 3 (refine zn E hb6 ?_; clear E a; intro a E)
      refine zp E (zAm E rfl rfl hb6 rfl) ?_; clear E a; intro a E
      refine zp E (zAe E rfl rfl) ?_; clear E a; intro a E
      iterate 3 (refine zn E rfl ?_; clear E a; intro a E)
      refine zp E (zAm E rfl rfl rfl rfl) ?_; clear E a; intro a E
      refine wpList_nil ?_
      refine zBp ?_
      exact ⟨_, by simp; omega, ⟨_, S.front1 (by repeat (first | exact pk1 | apply zAa))⟩, E.keep (zAb rfl (zAb rfl zAp))⟩
    · have hb6n := hb6; replace hb6n := Nrm.nrm hb6n
      refine zy E hb6 (by first | exact zAf (q := 2) E rfl rfl rfl | exact zAi (q := 2) E rfl rfl rfl) ?_; clear E a; intro a E
      refine zy E hb6 (by first | exact zAn E rfl rfl rfl (S.get (by repeat (first | exact pk1 | apply zAa))) rfl | exact zAj E rfl rfl rfl (by assumption)) ?_; clear E a; intro a E
      refine zy E hb6 (zDd E rfl rfl rfl) ?_; clear E a; intro a E
      refine zp E (zAq E rfl rfl hb6 rfl) ?_; clear E a; intro a E
      refine zp E (zAe E rfl rfl) ?_; clear E a; intro a E
      refine zAy E (t := 11) rfl (fun hb11 => ?_) (fun hb11 => ?_)
      · have hb11n := hb11; replace hb11n := Nrm.nrm hb11n
        iterate 3 (refine zn E hb11 ?_; clear E a; intro a E)
        refine zp E (zAm E rfl rfl hb11 rfl) ?_; clear E a; intro a E
        refine wpList_nil ?_
        refine zBp ?_
        exact ⟨_, by simp; omega, ⟨_, S.front1 (by repeat (first | exact pk1 | apply zAa))⟩, E.keep (zAb rfl (zAb rfl zAp))⟩
      · have hb11n := hb11; replace hb11n := Nrm.nrm hb11n
        refine zy E hb11 (by first | exact zAf (q := 1) E rfl rfl rfl | exact zAi (q := 1) E rfl rfl rfl) ?_; clear E a; intro a E
        refine zy E hb11 (by first | exact zAn E rfl rfl rfl (S.get (by repeat (first | exact pk1 | apply zAa))) rfl | exact zAj E rfl rfl rfl (by assumption)) ?_; clear E a; intro a E
        refine zy E hb11 (zDd E rfl rfl rfl) ?_; clear E a; intro a E
        refine zp E (zAq E rfl rfl hb11 rfl) ?_; clear E a; intro a E
        refine wpList_nil ?_
        refine zBp ?_
        exact ⟨_, by simp; omega, ⟨_, S.front1 (by repeat (first | exact pk1 | apply zAa))⟩, E.keep (zAb rfl (zAb rfl zAp))⟩
  · clear E S a; intro a w J; obtain ⟨bt, hbt, ⟨Ls, S⟩, E⟩ := J
    refine zAh hK ?_; clear hK; clear K
    refine zBl E rfl (fun hb => ?_) (fun hb => ?_)
    · replace hb := Nrm.nrm hb
      have hno : ¬ (324 ≤ sc ∧ sc ≤ 8192 ∧ lv ≤ 5) := (fun q => by rw [hbt.2 q] at hb; cases hb)
      refine wp_seq_k ?_; intro K hK
      refine zAc ?_
      refine zp E (zAg E rfl rfl) ?_; clear E a; intro a E
      refine wpList_nil ?_
      refine zAh hK ?_; clear hK; clear K
      refine wp_ret ?_
      refine zBi ?_; clear hK; clear K
      refine ret1 E rfl rfl ?_
      exact ⟨_, rfl, by rw [decide_eq_false]; unfold Tp.made; simp only; omega, (S.only (Bs := []) (zAk _)).tr⟩
    · replace hb := Nrm.nrm hb
      obtain ⟨h1, h2, h3⟩ := hbt.1 hb
      refine wp_skip ?_
      refine zAh hK ?_; clear hK; clear K
      refine wp_seq_k ?_; intro K hK
      refine zAc ?_
      refine zp E (by first | exact zAf (q := 0) E rfl rfl rfl | exact zAi (q := 0) E rfl rfl rfl) ?_; clear E a; intro a E
      refine zp E (by first | exact zAn E rfl rfl rfl (S.get (by repeat (first | exact pk1 | apply zAa))) rfl | exact zAj E rfl rfl rfl (by assumption)) ?_; clear E a; intro a E
      refine zp E (by first | exact zCf E rfl rfl rfl | exact zAu E rfl rfl rfl rfl | exact zBc E rfl rfl rfl rfl | exact zAw E rfl rfl rfl) ?_; clear E a; intro a E
      refine zp E (zAe E rfl rfl) ?_; clear E a; intro a E
      refine zAy E (t := 19) rfl (fun hb19 => ?_) (fun hb19 => ?_)
      · have hb19n := hb19; replace hb19n := Nrm.nrm hb19n
        refine zy E hb19 (by first | exact zAf (q := 1) E rfl rfl rfl | exact zAi (q := 1) E rfl rfl rfl) ?_; clear E a; intro a E
        refine zy E hb19 (by first | exact zAn E rfl rfl rfl (S.get (by repeat (first | exact pk1 | apply zAa))) rfl | exact zAj E rfl rfl rfl (by assumption)) ?_; clear E a; intro a E
        refine zy E hb19 (by first | exact zCf E rfl rfl rfl | exact zAu E rfl rfl rfl rfl | exact zBc E rfl rfl rfl rfl | exact zAw E rfl rfl rfl) ?_; clear E a; intro a E
        refine zp E (zAm E rfl rfl hb19 rfl) ?_; clear E a; intro a E
        refine zp E (zAe E rfl rfl) ?_; clear E a; intro a E
        refine zAy E (t := 24) rfl (fun hb24 => ?_) (fun hb24 => ?_)
        · have hb24n := hb24; replace hb24n := Nrm.nrm hb24n
          iterate 4 (refine zn E hb24 ?_; clear E a; intro a E)
          iterate 3 (refine zu E ?_; clear E a; intro a E)
          refine zn E hb24 ?_; clear E a; intro a E
          refine zp E (zAm E rfl rfl hb24 rfl) ?_; clear E a; intro a E
          refine zp E (zAe E rfl rfl) ?_; clear E a; intro a E
          iterate 4 (refine zn E rfl ?_; clear E a; intro a E)
          iterate 3 (refine zu E ?_; clear E a; intro a E)
          refine zn E rfl ?_; clear E a; intro a E
          refine zp E (zAm E rfl rfl rfl rfl) ?_; clear E a; intro a E
          refine zp E (zAg E rfl rfl) ?_; clear E a; intro a E
          refine wpList_nil ?_
          refine zAh hK ?_; clear hK; clear K
          refine wp_ret ?_
          refine ret1 E rfl rfl ?_
          exact ⟨_, rfl, by congr 1; rw [Bool.eq_iff_iff, decide_eq_true_eq (p := Tp.made _)]; unfold Tp.made; simp; omega, (S.only (Bs := []) (zAk _)).tr⟩
        · have hb24n := hb24; replace hb24n := Nrm.nrm hb24n
          refine zy E hb24 (by first | exact zAf (q := 0) E rfl rfl rfl | exact zAi (q := 0) E rfl rfl rfl) ?_; clear E a; intro a E
          refine zy E hb24 (by first | exact zAn E rfl rfl rfl (S.get (by repeat (first | exact pk1 | apply zAa))) rfl | exact zAj E rfl rfl rfl (by assumption)) ?_; clear E a; intro a E
          refine zy E hb24 (by first | exact zCf E rfl rfl rfl | exact zAu E rfl rfl rfl rfl | exact zBc E rfl rfl rfl rfl | exact zAw E rfl rfl rfl) ?_; clear E a; intro a E
          refine zy E hb24 (zAe E rfl rfl) ?_; clear E a; intro a E
          refine zAy E (t := 28) rfl (fun hb28 => ?_) (fun hb28 => ?_)
          · have hb28n := hb28; replace hb28n := Nrm.nrm hb28n
            refine zy E hb28 (by first | exact zAf (q := 1) E rfl rfl rfl | exact zAi (q := 1) E rfl rfl rfl) ?_; clear E a; intro a E
            refine zy E hb28 (by first | exact zAn E rfl rfl rfl (S.get (by repeat (first | exact pk1 | apply zAa))) rfl | exact zAj E rfl rfl rfl (by assumption)) ?_; clear E a; intro a E
            refine zy E hb28 (zDs E rfl rfl rfl) ?_; clear E a; intro a E
            refine zy E hb24 (zAm E rfl rfl hb28 rfl) ?_; clear E a; intro a E
            refine zp E (zAq E rfl rfl hb24 rfl) ?_; clear E a; intro a E
            refine zp E (zAe E rfl rfl) ?_; clear E a; intro a E
            refine zAy E (t := 34) rfl (fun hb34 => ?_) (fun hb34 => ?_)
            · have hb34n := hb34; replace hb34n := Nrm.nrm hb34n
              iterate 4 (refine zn E hb34 ?_; clear E a; intro a E)
              iterate 3 (refine zu E ?_; clear E a; intro a E)
              refine zn E hb34 ?_; clear E a; intro a E
              refine zp E (zAm E rfl rfl hb34 rfl) ?_; clear E a; intro a E
              refine zp E (zAg E rfl rfl) ?_; clear E a; intro a E
              refine wpList_nil ?_
              refine zAh hK ?_; clear hK; clear K
              refine wp_ret ?_
              refine ret1 E rfl rfl ?_
              exact ⟨_, rfl, by congr 1; rw [Bool.eq_iff_iff, decide_eq_true_eq (p := Tp.made _)]; unfold Tp.made; simp; omega, (S.only (Bs := []) (zAk _)).tr⟩
            · have hb34n := hb34; replace hb34n := Nrm.nrm hb34n
              refine zy E hb34 (by first | exact zAf (q := 0) E rfl rfl rfl | exact zAi (q := 0) E rfl rfl rfl) ?_; clear E a; intro a E
              refine zy E hb34 (by first | exact zAn E rfl rfl rfl (S.get (by repeat (first | exact pk1 | apply zAa))) rfl | exact zAj E rfl rfl rfl (by assumption)) ?_; clear E a; intro a E
              refine zy E hb34 (by first | exact zCf E rfl rfl rfl | exact zAu E rfl rfl rfl rfl | exact zBc E rfl rfl rfl rfl | exact zAw E rfl rfl rfl) ?_; clear E a; intro a E
              refine zy E hb34 (zAe E rfl rfl) ?_; clear E a; intro a E
              refine zAy E (t := 38) rfl (fun hb38 => ?_) (fun hb38 => ?_)
              · have hb38n := hb38; replace hb38n := Nrm.nrm hb38n
                refine zy E hb38 (by first | exact zAf (q := 1) E rfl rfl rfl | exact zAi (q := 1) E rfl rfl rfl) ?_; clear E a; intro a E
                refine zy E hb38 (by first | exact zAn E rfl rfl rfl (S.get (by repeat (first | exact pk1 | apply zAa))) rfl | exact zAj E rfl rfl rfl (by assumption)) ?_; clear E a; intro a E
                refine zy E hb38 (zDs E rfl rfl rfl) ?_; clear E a; intro a E
                refine zy E hb34 (zAm E rfl rfl hb38 rfl) ?_; clear E a; intro a E
                refine zp E (zAq E rfl rfl hb34 rfl) ?_; clear E a; intro a E
                refine zp E (zAg E rfl rfl) ?_; clear E a; intro a E
                refine wpList_nil ?_
                refine zAh hK ?_; clear hK; clear K
                refine wp_ret ?_
                refine ret1 E rfl rfl ?_
                exact ⟨_, rfl, by congr 1; rw [Bool.eq_iff_iff, decide_eq_true_eq (p := Tp.made _)]; unfold Tp.made; simp; omega, (S.only (Bs := []) (zAk _)).tr⟩
              · have hb38n := hb38; replace hb38n := Nrm.nrm hb38n
                iterate 3 (refine zn E hb38 ?_; clear E a; intro a E)
                refine zy E hb34 (zAq E rfl rfl hb38 rfl) ?_; clear E a; intro a E
                refine zp E (zAq E rfl rfl hb34 rfl) ?_; clear E a; intro a E
                refine zp E (zAg E rfl rfl) ?_; clear E a; intro a E
                refine wpList_nil ?_
                refine zAh hK ?_; clear hK; clear K
                refine wp_ret ?_
                refine ret1 E rfl rfl ?_
                exact ⟨_, rfl, by congr 1; rw [Bool.eq_iff_iff, decide_eq_true_eq (p := Tp.made _)]; unfold Tp.made; simp; omega, (S.only (Bs := []) (zAk _)).tr⟩
          · have hb28n := hb28; replace hb28n := Nrm.nrm hb28n
            iterate 3 (refine zn E hb28 ?_; clear E a; intro a E)
            refine zy E hb24 (zAq E rfl rfl hb28 rfl) ?_; clear E a; intro a E
            refine zp E (zAq E rfl rfl hb24 rfl) ?_; clear E a; intro a E
            refine zp E (zAe E rfl rfl) ?_; clear E a; intro a E
            refine zy E rfl (by first | exact zAf (q := 0) E rfl rfl rfl | exact zAi (q := 0) E rfl rfl rfl) ?_; clear E a; intro a E
            refine zy E rfl (by first | exact zAn E rfl rfl rfl (S.get (by repeat (first | exact pk1 | apply zAa))) rfl | exact zAj E rfl rfl rfl (by assumption)) ?_; clear E a; intro a E
            refine zy E rfl (by first | exact zCf E rfl rfl rfl | exact zAu E rfl rfl rfl rfl | exact zBc E rfl rfl rfl rfl | exact zAw E rfl rfl rfl) ?_; clear E a; intro a E
            refine zy E rfl (zAe E rfl rfl) ?_; clear E a; intro a E
            refine zAy E (t := 38) rfl (fun hb38 => ?_) (fun hb38 => ?_)
            · have hb38n := hb38; replace hb38n := Nrm.nrm hb38n
              refine zy E hb38 (by first | exact zAf (q := 1) E rfl rfl rfl | exact zAi (q := 1) E rfl rfl rfl) ?_; clear E a; intro a E
              refine zy E hb38 (by first | exact zAn E rfl rfl rfl (S.get (by repeat (first | exact pk1 | apply zAa))) rfl | exact zAj E rfl rfl rfl (by assumption)) ?_; clear E a; intro a E
              refine zy E hb38 (zDs E rfl rfl rfl) ?_; clear E a; intro a E
              refine zy E rfl (zAm E rfl rfl hb38 rfl) ?_; clear E a; intro a E
              refine zp E (zAq E rfl rfl rfl rfl) ?_; clear E a; intro a E
              refine zp E (zAg E rfl rfl) ?_; clear E a; intro a E
              refine wpList_nil ?_
              refine zAh hK ?_; clear hK; clear K
              refine wp_ret ?_
              refine ret1 E rfl rfl ?_
              exact ⟨_, rfl, by congr 1; rw [Bool.eq_iff_iff, decide_eq_true_eq (p := Tp.made _)]; unfold Tp.made; simp; omega, (S.only (Bs := []) (zAk _)).tr⟩
            · have hb38n := hb38; replace hb38n := Nrm.nrm hb38n
              iterate 3 (refine zn E hb38 ?_; clear E a; intro a E)
              refine zy E rfl (zAq E rfl rfl hb38 rfl) ?_; clear E a; intro a E
              refine zp E (zAq E rfl rfl rfl rfl) ?_; clear E a; intro a E
              refine zp E (zAg E rfl rfl) ?_; clear E a; intro a E
              refine wpList_nil ?_
              refine zAh hK ?_; clear hK; clear K
              refine wp_ret ?_
              refine ret1 E rfl rfl ?_
              exact ⟨_, rfl, by congr 1; rw [Bool.eq_iff_iff, decide_eq_true_eq (p := Tp.made _)]; unfold Tp.made; simp; omega, (S.only (Bs := []) (zAk _)).tr⟩
      · have hb19n := hb19; replace hb19n := Nrm.nrm hb19n
        iterate 3 (refine zn E hb19 ?_; clear E a; intro a E)
        refine zp E (zAq E rfl rfl hb19 rfl) ?_; clear E a; intro a E
        refine zp E (zAe E rfl rfl) ?_; clear E a; intro a E
        refine zy E rfl (by first | exact zAf (q := 0) E rfl rfl rfl | exact zAi (q := 0) E rfl rfl rfl) ?_; clear E a; intro a E
        refine zy E rfl (by first | exact zAn E rfl rfl rfl (S.get (by repeat (first | exact pk1 | apply zAa))) rfl | exact zAj E rfl rfl rfl (by assumption)) ?_; clear E a; intro a E
        refine zy E rfl (by first | exact zCf E rfl rfl rfl | exact zAu E rfl rfl rfl rfl | exact zBc E rfl rfl rfl rfl | exact zAw E rfl rfl rfl) ?_; clear E a; intro a E
        refine zy E rfl (zAe E rfl rfl) ?_; clear E a; intro a E
        refine zAy E (t := 28) rfl (fun hb28 => ?_) (fun hb28 => ?_)
        · have hb28n := hb28; replace hb28n := Nrm.nrm hb28n
          refine zy E hb28 (by first | exact zAf (q := 1) E rfl rfl rfl | exact zAi (q := 1) E rfl rfl rfl) ?_; clear E a; intro a E
          refine zy E hb28 (by first | exact zAn E rfl rfl rfl (S.get (by repeat (first | exact pk1 | apply zAa))) rfl | exact zAj E rfl rfl rfl (by assumption)) ?_; clear E a; intro a E
          refine zy E hb28 (zDs E rfl rfl rfl) ?_; clear E a; intro a E
          refine zy E rfl (zAm E rfl rfl hb28 rfl) ?_; clear E a; intro a E
          refine zp E (zAq E rfl rfl rfl rfl) ?_; clear E a; intro a E
          refine zp E (zAe E rfl rfl) ?_; clear E a; intro a E
          refine zAy E (t := 34) rfl (fun hb34 => ?_) (fun hb34 => ?_)
          · have hb34n := hb34; replace hb34n := Nrm.nrm hb34n
            iterate 4 (refine zn E hb34 ?_; clear E a; intro a E)
            iterate 3 (refine zu E ?_; clear E a; intro a E)
            refine zn E hb34 ?_; clear E a; intro a E
            refine zp E (zAm E rfl rfl hb34 rfl) ?_; clear E a; intro a E
            refine zp E (zAg E rfl rfl) ?_; clear E a; intro a E
            refine wpList_nil ?_
            refine zAh hK ?_; clear hK; clear K
            refine wp_ret ?_
            refine ret1 E rfl rfl ?_
            exact ⟨_, rfl, by congr 1; rw [Bool.eq_iff_iff, decide_eq_true_eq (p := Tp.made _)]; unfold Tp.made; simp; omega, (S.only (Bs := []) (zAk _)).tr⟩
          · have hb34n := hb34; replace hb34n := Nrm.nrm hb34n
            refine zy E hb34 (by first | exact zAf (q := 0) E rfl rfl rfl | exact zAi (q := 0) E rfl rfl rfl) ?_; clear E a; intro a E
            refine zy E hb34 (by first | exact zAn E rfl rfl rfl (S.get (by repeat (first | exact pk1 | apply zAa))) rfl | exact zAj E rfl rfl rfl (by assumption)) ?_; clear E a; intro a E
            refine zy E hb34 (by first | exact zCf E rfl rfl rfl | exact zAu E rfl rfl rfl rfl | exact zBc E rfl rfl rfl rfl | exact zAw E rfl rfl rfl) ?_; clear E a; intro a E
            refine zy E hb34 (zAe E rfl rfl) ?_; clear E a; intro a E
            refine zAy E (t := 38) rfl (fun hb38 => ?_) (fun hb38 => ?_)
            · have hb38n := hb38; replace hb38n := Nrm.nrm hb38n
              refine zy E hb38 (by first | exact zAf (q := 1) E rfl rfl rfl | exact zAi (q := 1) E rfl rfl rfl) ?_; clear E a; intro a E
              refine zy E hb38 (by first | exact zAn E rfl rfl rfl (S.get (by repeat (first | exact pk1 | apply zAa))) rfl | exact zAj E rfl rfl rfl (by assumption)) ?_; clear E a; intro a E
              refine zy E hb38 (zDs E rfl rfl rfl) ?_; clear E a; intro a E
              refine zy E hb34 (zAm E rfl rfl hb38 rfl) ?_; clear E a; intro a E
              refine zp E (zAq E rfl rfl hb34 rfl) ?_; clear E a; intro a E
              refine zp E (zAg E rfl rfl) ?_; clear E a; intro a E
              refine wpList_nil ?_
              refine zAh hK ?_; clear hK; clear K
              refine wp_ret ?_
              refine ret1 E rfl rfl ?_
              exact ⟨_, rfl, by congr 1; rw [Bool.eq_iff_iff, decide_eq_true_eq (p := Tp.made _)]; unfold Tp.made; simp; omega, (S.only (Bs := []) (zAk _)).tr⟩
            · have hb38n := hb38; replace hb38n := Nrm.nrm hb38n
              iterate 3 (refine zn E hb38 ?_; clear E a; intro a E)
              refine zy E hb34 (zAq E rfl rfl hb38 rfl) ?_; clear E a; intro a E
              refine zp E (zAq E rfl rfl hb34 rfl) ?_; clear E a; intro a E
              refine zp E (zAg E rfl rfl) ?_; clear E a; intro a E
              refine wpList_nil ?_
              refine zAh hK ?_; clear hK; clear K
              refine wp_ret ?_
              refine ret1 E rfl rfl ?_
              exact ⟨_, rfl, by congr 1; rw [Bool.eq_iff_iff, decide_eq_true_eq (p := Tp.made _)]; unfold Tp.made; simp; omega, (S.only (Bs := []) (zAk _)).tr⟩
        · have hb28n := hb28; replace hb28n := Nrm.nrm hb28n
          iterate 3 (refine zn E hb28 ?_; clear E a; intro a E)
          refine zy E rfl (zAq E rfl rfl hb28 rfl) ?_; clear E a; intro a E
          refine zp E (zAq E rfl rfl rfl rfl) ?_; clear E a; intro a E
          refine zp E (zAe E rfl rfl) ?_; clear E a; intro a E
          refine zy E rfl (by first | exact zAf (q := 0) E rfl rfl rfl | exact zAi (q := 0) E rfl rfl rfl) ?_; clear E a; intro a E
          refine zy E rfl (by first | exact zAn E rfl rfl rfl (S.get (by repeat (first | exact pk1 | apply zAa))) rfl | exact zAj E rfl rfl rfl (by assumption)) ?_; clear E a; intro a E
          refine zy E rfl (by first | exact zCf E rfl rfl rfl | exact zAu E rfl rfl rfl rfl | exact zBc E rfl rfl rfl rfl | exact zAw E rfl rfl rfl) ?_; clear E a; intro a E
          refine zy E rfl (zAe E rfl rfl) ?_; clear E a; intro a E
          refine zAy E (t := 38) rfl (fun hb38 => ?_) (fun hb38 => ?_)
          · have hb38n := hb38; replace hb38n := Nrm.nrm hb38n
            refine zy E hb38 (by first | exact zAf (q := 1) E rfl rfl rfl | exact zAi (q := 1) E rfl rfl rfl) ?_; clear E a; intro a E
            refine zy E hb38 (by first | exact zAn E rfl rfl rfl (S.get (by repeat (first | exact pk1 | apply zAa))) rfl | exact zAj E rfl rfl rfl (by assumption)) ?_; clear E a; intro a E
            refine zy E hb38 (zDs E rfl rfl rfl) ?_; clear E a; intro a E
            refine zy E rfl (zAm E rfl rfl hb38 rfl) ?_; clear E a; intro a E
            refine zp E (zAq E rfl rfl rfl rfl) ?_; clear E a; intro a E
            refine zp E (zAg E rfl rfl) ?_; clear E a; intro a E
            refine wpList_nil ?_
            refine zAh hK ?_; clear hK; clear K
            refine wp_ret ?_
            refine ret1 E rfl rfl ?_
            exact ⟨_, rfl, by congr 1; rw [Bool.eq_iff_iff, decide_eq_true_eq (p := Tp.made _)]; unfold Tp.made; simp; omega, (S.only (Bs := []) (zAk _)).tr⟩
          · have hb38n := hb38; replace hb38n := Nrm.nrm hb38n
            iterate 3 (refine zn E hb38 ?_; clear E a; intro a E)
            refine zy E rfl (zAq E rfl rfl hb38 rfl) ?_; clear E a; intro a E
            refine zp E (zAq E rfl rfl rfl rfl) ?_; clear E a; intro a E
            refine zp E (zAg E rfl rfl) ?_; clear E a; intro a E
            refine wpList_nil ?_
            refine zAh hK ?_; clear hK; clear K
            refine wp_ret ?_
            refine ret1 E rfl rfl ?_
            exact ⟨_, rfl, by congr 1; rw [Bool.eq_iff_iff, decide_eq_true_eq (p := Tp.made _)]; unfold Tp.made; simp; omega, (S.only (Bs := []) (zAk _)).tr⟩
theorem notmade_ret (t : Tp) (w0 : World) : Ret Tryz.prog 96 #[t.agg] w0 fun u w' => u = .bool (!decide t.made) ∧ Trs w0 w' [] [] := by
  have S := St.begin (zEt w0)
  refine zDc 6 Tryz.func96 rfl rfl (by decide) ?_; intro a E
  refine wp_seq_k ?_; intro K hK
  refine zAc ?_
  refine zAo rfl (zCs E S rfl rfl (by decide) rfl rfl ?_); clear E S a; intro a w b1 E S
  refine zp E (zAg E rfl rfl) ?_; clear E a; intro a E
  refine wpList_nil ?_
  refine zAh hK ?_; clear hK; clear K
  refine wp_seq_k ?_; intro K hK
  refine zAc ?_
  refine zp E (zBw (vs := [_, _, _]) E rfl rfl rfl (S.get (by repeat (first | exact pk1 | apply zAa))) rfl rfl) ?_; clear E a; intro a E
  refine zAr E rfl rfl (by decide) rfl Tryz.func97 rfl (by kernel_rfl) rfl (made_ret t _) ?_
  rintro v4 w ⟨rfl, hT⟩; clear E a; intro a E
  have S := S.quiet hT
  refine zp E (zEg E rfl rfl) ?_; clear E a; intro a E
  refine zp E (zAg E rfl rfl) ?_; clear E a; intro a E
  refine wpList_nil ?_
  refine zAh hK ?_; clear hK; clear K
  refine wp_ret ?_
  refine ret1 E rfl rfl ?_
  exact ⟨_, rfl, rfl, (S.only (Bs := []) (zAk _)).tr⟩
theorem topindex_ret (O : zAs) (v : Value) (l : List Tp) (hO : Rd O 3 v l.length (l.flatMap Tp.lay)) (w0 : World) (H : Hp w0 [O]) :
    Ret Tryz.prog 112 #[v, .func (.func 96) #[] #[]] w0 fun u w' => ∃ r : Int, u = .int .i64 r ∧ (0 ≤ r ↔ ¬ ∀ t ∈ l, t.made) ∧ Trs w0 w' [O] [O] := by
  have S := St.begin H
  have hmx := hO.2.2.1
  simp only [maxLen] at hmx
  obtain ⟨ad, c, rfl⟩ := hO.slice
  refine zCy 19 Tryz.func112 rfl rfl (by decide) ?_; intro a E
  refine wp_seq_k ?_; intro K hK
  refine zAc ?_
  refine zp E (zAg E rfl rfl) ?_; clear E a; intro a E
  refine wpList_nil ?_
  refine zAh hK ?_; clear hK; clear K
  iterate 2 (refine wp_seq_k ?_; intro K hK)
  refine zAc ?_
  refine zp E (zAe E rfl rfl) ?_; clear E a; intro a E
  refine zp E (by first | exact zCa E rfl rfl rfl | exact zBa E rfl rfl rfl | exact zAt E rfl rfl rfl) ?_; clear E a; intro a E
  refine zp E (zAe E rfl rfl) ?_; clear E a; intro a E
  refine wpList_nil ?_
  refine zAh hK ?_; clear hK; clear K
  refine wp_block ?_
  refine wp_loop_ghost (fun (m : Nat) (a : Act) (w' : World) => ∃ i : Nat, m = l.length - i ∧ i ≤ l.length ∧ (∀ j (hj : j < l.length), j < i → l[j].made) ∧ St w0 [O] w' [O] ∧ Fr a 19 [(0, .slice ad l.length c), (1, .func (.func 96) #[] #[]), (7, .int .i64 l.length), (8, .int .i64 i)]) (l.length - 0) ?_ ?_
  · exact ⟨0, rfl, by omega, fun j _ h => by omega, S, E.keep (zAb rfl (zAb rfl (zAb rfl (zAb rfl zAp))))⟩
  clear E; clear a; (try clear S); rintro m a w ⟨i, rfl, hi, hm, S, E⟩
  refine wp_seq_k ?_; intro K hK
  refine zAc ?_
  refine zp E (zCb E rfl rfl rfl) ?_; clear E a; intro a E
  refine wpList_nil ?_
  refine zAh hK ?_; clear hK; clear K
  refine wp_seq_k ?_; intro K hK
  refine zBl E rfl (fun hb => ?_) (fun hb => ?_)
  · replace hb := Nrm.nrm hb
    refine wp_skip ?_
    refine zAh hK ?_; clear hK; clear K
    refine wp_seq_k ?_; intro K hK
    refine wp_block ?_
    refine wp_seq_k ?_; intro K hK
    refine zAc ?_
    refine zp E (zAe E rfl rfl) ?_; clear E a; intro a E
    refine zp E (zAg E rfl rfl) ?_; clear E a; intro a E
    refine wpList_nil ?_
    refine zAh hK ?_; clear hK; clear K
    refine wp_seq_k ?_; intro K hK
    have hib : i < l.length := by omega
    obtain ⟨g, off, rfl⟩ := hO.addr (by omega)
    refine zAc ?_
    iterate 3 (refine zp E (zAe E rfl rfl) ?_; clear E a; intro a E)
    refine zp E (by first | exact zBk E rfl rfl rfl rfl rfl rfl (by omega) | exact zBn E rfl rfl rfl rfl rfl rfl (by omega) | exact zAx E rfl rfl rfl rfl rfl rfl (by omega)) ?_; clear E a; intro a E
    refine zp E (zDo (vs := [_, _, _]) E rfl rfl rfl rfl (hO.elem (lay := Tp.lay) Tp.lay_len (S.stab.at (by repeat (first | exact mm1 | assumption | apply List.Mem.tail))) (i := i) hib)) ?_; clear E a; intro a E
    refine zDu E rfl rfl (by decide) rfl rfl Tryz.func96 rfl (by kernel_rfl) rfl (notmade_ret (l[i]'hib) _) ?_
    rintro v16 w ⟨rfl, hT⟩; clear E a; intro a E
    have S := S.quiet hT
    refine wpList_nil ?_
    refine zAh hK ?_; clear hK; clear K
    refine zBl E rfl (fun hb => ?_) (fun hb => ?_)
    · replace hb := Nrm.nrm hb
      have hno : ¬ (l[i]'hib).made := (by simpa using hb)
      refine wp_seq_k ?_; intro K hK
      refine zAc ?_
      refine zp E (zAe E rfl rfl) ?_; clear E a; intro a E
      refine zp E (zAg E rfl rfl) ?_; clear E a; intro a E
      refine wpList_nil ?_
      refine zAh hK ?_; clear hK; clear K
      refine wp_ret ?_
      refine zEc ?_
      refine zBi ?_; clear hK; clear K
      refine zBi ?_
      refine zEc ?_
      refine zBi ?_; clear hK; clear K
      refine ret1 E rfl rfl ?_
      exact ⟨_, rfl, _, rfl, ⟨fun _ q => hno (q _ (List.getElem_mem hib)), fun _ => by omega⟩, S.tr⟩
    · replace hb := Nrm.nrm hb
      have hyes : (l[i]'hib).made := (by simpa using hb)
      refine wp_skip ?_
      refine zBf ?_
      refine zAh hK ?_; clear hK; clear K
      refine zAc ?_
      refine zp E (zBu E rfl rfl rfl (by first | exact zCj (y := 1) (by omega) | exact w_in (by omega) | exact zBy (by omega) | exact rfl)) ?_; clear E a; intro a E
      refine zp E (zAe E rfl rfl) ?_; clear E a; intro a E
      refine wpList_nil ?_
      refine zBe ?_
      exact ⟨_, by omega, i + 1, rfl, by omega, fun j hj h => (by rcases Nat.lt_or_ge j i with c1 | c1; exact hm j hj c1; obtain rfl : j = i := (by omega); exact hyes), S, E.keep (zAb rfl (zAb rfl (zAb rfl (zAb rfl zAp))))⟩
  · replace hb := Nrm.nrm hb
    refine wp_exit ?_
    refine zBb ?_; clear hK; clear K
    refine zBb ?_
    refine zCm ?_
    refine zAh hK ?_; clear hK; clear K
    refine wp_seq_k ?_; intro K hK
    refine zAc ?_
    refine zp E (zAg E rfl rfl) ?_; clear E a; intro a E
    refine wpList_nil ?_
    refine zAh hK ?_; clear hK; clear K
    refine wp_ret ?_
    refine ret1 E rfl rfl ?_
    exact ⟨_, rfl, _, rfl, ⟨fun q => absurd q (by decide), fun q => absurd (made_all hm (by omega)) q⟩, S.tr⟩
theorem topany_ret (O : zAs) (v : Value) (l : List Tp) (hO : Rd O 3 v l.length (l.flatMap Tp.lay)) (w0 : World) (H : Hp w0 [O]) :
    Ret Tryz.prog 95 #[v, .func (.func 96) #[] #[]] w0 fun u w' => u = .bool (!decide (∀ t ∈ l, t.made)) ∧ Trs w0 w' [O] [O] := by
  have S := St.begin H
  refine zCy 9 Tryz.func95 rfl rfl (by decide) ?_; intro a E
  refine wp_seq_k ?_; intro K hK
  refine zAc ?_
  refine zp E (zAg E rfl rfl) ?_; clear E a; intro a E
  refine wpList_nil ?_
  refine zAh hK ?_; clear hK; clear K
  refine wp_seq_k ?_; intro K hK
  refine zAc ?_
  iterate 2 (refine zp E (zAe E rfl rfl) ?_; clear E a; intro a E)
  refine zAr E rfl rfl (by decide) rfl Tryz.func112 rfl (by kernel_rfl) rfl (topindex_ret O v l hO _ (S.hp.sel (zAd (by repeat (first | exact pk1 | apply zAa)) (zAk _)))) ?_
  rintro v7 w ⟨r, rfl, hr, hT⟩; clear E a; intro a E
  have S := S.call1 (zAd (by repeat (first | exact pk1 | apply zAa)) (zAk _)) hT
  refine zp E (zDs E rfl rfl rfl) ?_; clear E a; intro a E
  refine zp E (zAg E rfl rfl) ?_; clear E a; intro a E
  refine wpList_nil ?_
  refine zAh hK ?_; clear hK; clear K
  refine wp_ret ?_
  refine ret1 E rfl rfl ?_
  have hx : decide ((0 : Int) ≤ r) = !decide (∀ t ∈ l, t.made) := by
    rw [Bool.eq_iff_iff, decide_eq_true_eq, hr]; simp
  exact ⟨_, rfl, by rw [← hx], S.tr⟩
theorem lbcheck_ret (O : zAs) (v : Value) (l : Lbl) (hO : Rd O 3 v l.tops.length (l.tops.flatMap Tp.lay)) (w0 : World) (H : Hp w0 [O]) :
    Ret Tryz.prog 78 #[lbagg l v] w0 fun u w' => u = .int .i64 (lbE l) ∧ Trs w0 w' [O] [O] := by
  have S := St.begin H
  have hO0 := hO
  obtain ⟨ad, c, rfl⟩ := hO.slice
  refine zDc 46 Tryz.func78 rfl rfl (by decide) ?_; intro a E
  refine wp_seq_k ?_; intro K hK
  refine zAc ?_
  refine zAo rfl (zCs E S rfl rfl (by decide) rfl rfl ?_); clear E S a; intro a w b1 E S
  refine zp E (zAg E rfl rfl) ?_; clear E a; intro a E
  refine wpList_nil ?_
  refine zAh hK ?_; clear hK; clear K
  iterate 2 (refine wp_seq_k ?_; intro K hK)
  refine zFe (fun (a : Act) (w' : World) => ∃ bt : Bool, (bt = false ↔ l.half) ∧ St w0 [O] w' [[(b1, cel [.int .u64 l.pool, .slice ad l.tops.length c, .int .i64 l.top, .int .i64 l.place] 77)], O] ∧ Fr a 46 [(1, ptr b1), (42, .bool bt)]) ?_ ?_
  · skip
    refine zBo S (.ofL [(0, 0), (1, 0), (2, 0), (3, 0), (4, 0), (5, 0), (6, 0), (7, 0), (8, 0), (9, 0), (10, 0), (11, 0), (12, 0), (13, 0), (14, 0), (15, 0), (16, 0), (17, 0), (18, 0), (19, 0), (20, 0), (21, 0), (22, 0), (23, 0), (24, 0), (25, 0), (26, 0), (27, 0), (28, 0), (29, 0), (30, 0), (31, 0), (32, 0), (33, 0), (34, 0), (35, 0), (36, 0), (37, 0), (38, 0), (39, 0)]) (by kernel_rfl) (by kernel_rfl) ?_
    clear S; intro w S
    refine zm E rfl (fun w h => by first | exact zAf (q := 1) E rfl rfl rfl | exact zAi (q := 1) E rfl rfl rfl) ?_; clear E a; intro a E
    refine zm E rfl (fun w h => by first | exact zAn E rfl rfl rfl (h.one (by repeat (first | exact mm1 | assumption | apply List.Mem.tail))) rfl | exact zAj E rfl rfl rfl (by assumption)) ?_; clear E a; intro a E
    refine zm E rfl (fun w h => by first | exact zCa E rfl rfl rfl | exact zBa E rfl rfl rfl | exact zAt E rfl rfl rfl) ?_; clear E a; intro a E
    refine zm E rfl (fun w h => zCb E rfl rfl rfl) ?_; clear E a; intro a E
    refine zm E rfl (fun w h => zAe E rfl rfl) ?_; clear E a; intro a E
    refine zAy E (t := 7) rfl (fun hb7 => ?_) (fun hb7 => ?_)
    · have hb7n := hb7; replace hb7n := Nrm.nrm hb7n
      iterate 4 (refine zBr E rfl rfl rfl rfl rfl hb7 rfl (by decide) ?_; clear E a; intro a E)
      refine zm E rfl (fun w h => zAm E rfl rfl hb7 rfl) ?_; clear E a; intro a E
      refine zm E rfl (fun w h => zAe E rfl rfl) ?_; clear E a; intro a E
      iterate 3 (refine zBr E rfl rfl rfl rfl rfl rfl rfl (by decide) ?_; clear E a; intro a E)
      refine zm E rfl (fun w h => zAm E rfl rfl rfl rfl) ?_; clear E a; intro a E
      refine zm E rfl (fun w h => zAe E rfl rfl) ?_; clear E a; intro a E
      iterate 6 (refine zBr E rfl rfl rfl rfl rfl rfl rfl (by decide) ?_; clear E a; intro a E)
      refine zm E rfl (fun w h => zAm E rfl rfl rfl rfl) ?_; clear E a; intro a E
      refine zm E rfl (fun w h => zAe E rfl rfl) ?_; clear E a; intro a E
      iterate 3 (refine zBr E rfl rfl rfl rfl rfl rfl rfl (by decide) ?_; clear E a; intro a E)
      refine zm E rfl (fun w h => zAm E rfl rfl rfl rfl) ?_; clear E a; intro a E
      refine zm E rfl (fun w h => zAe E rfl rfl) ?_; clear E a; intro a E
      iterate 10 (refine zBr E rfl rfl rfl rfl rfl rfl rfl (by decide) ?_; clear E a; intro a E)
      refine zm E rfl (fun w h => zAm E rfl rfl rfl rfl) ?_; clear E a; intro a E
      refine zBs ?_
      refine zBp ?_
      exact ⟨_, by unfold Lbl.half; first | (simp; omega) | (rw [hgd]; simp; omega), S, E.keep (zAb rfl (zAb rfl zAp))⟩
    · have hb7n := hb7; replace hb7n := Nrm.nrm hb7n
      refine zAv E rfl rfl rfl rfl rfl hb7 rfl (by decide) (fun w h => by first | exact zAf (q := 1) E rfl rfl rfl | exact zAi (q := 1) E rfl rfl rfl) ?_; clear E a; intro a E
      refine zAv E rfl rfl rfl rfl rfl hb7 rfl (by decide) (fun w h => by first | exact zAn E rfl rfl rfl (h.one (by repeat (first | exact mm1 | assumption | apply List.Mem.tail))) rfl | exact zAj E rfl rfl rfl (by assumption)) ?_; clear E a; intro a E
      refine zAv E rfl rfl rfl rfl rfl hb7 rfl (by decide) (fun w h => by first | exact zCa E rfl rfl rfl | exact zBa E rfl rfl rfl | exact zAt E rfl rfl rfl) ?_; clear E a; intro a E
      refine zAv E rfl rfl rfl rfl rfl hb7 rfl (by decide) (fun w h => zDd E rfl rfl rfl) ?_; clear E a; intro a E
      refine zm E rfl (fun w h => zAq E rfl rfl hb7 rfl) ?_; clear E a; intro a E
      refine zm E rfl (fun w h => zAe E rfl rfl) ?_; clear E a; intro a E
      refine zAy E (t := 13) rfl (fun hb13 => ?_) (fun hb13 => ?_)
      · have hb13n := hb13; replace hb13n := Nrm.nrm hb13n
        iterate 3 (refine zBr E rfl rfl rfl rfl rfl hb13 rfl (by decide) ?_; clear E a; intro a E)
        refine zm E rfl (fun w h => zAm E rfl rfl hb13 rfl) ?_; clear E a; intro a E
        refine zm E rfl (fun w h => zAe E rfl rfl) ?_; clear E a; intro a E
        iterate 6 (refine zBr E rfl rfl rfl rfl rfl rfl rfl (by decide) ?_; clear E a; intro a E)
        refine zm E rfl (fun w h => zAm E rfl rfl rfl rfl) ?_; clear E a; intro a E
        refine zm E rfl (fun w h => zAe E rfl rfl) ?_; clear E a; intro a E
        iterate 3 (refine zBr E rfl rfl rfl rfl rfl rfl rfl (by decide) ?_; clear E a; intro a E)
        refine zm E rfl (fun w h => zAm E rfl rfl rfl rfl) ?_; clear E a; intro a E
        refine zm E rfl (fun w h => zAe E rfl rfl) ?_; clear E a; intro a E
        iterate 10 (refine zBr E rfl rfl rfl rfl rfl rfl rfl (by decide) ?_; clear E a; intro a E)
        refine zm E rfl (fun w h => zAm E rfl rfl rfl rfl) ?_; clear E a; intro a E
        refine zBs ?_
        refine zBp ?_
        exact ⟨_, by unfold Lbl.half; first | (simp; omega) | (rw [hgd]; simp; omega), S, E.keep (zAb rfl (zAb rfl zAp))⟩
      · have hb13n := hb13; replace hb13n := Nrm.nrm hb13n
        refine zAv E rfl rfl rfl rfl rfl hb13 rfl (by decide) (fun w h => by first | exact zAf (q := 2) E rfl rfl rfl | exact zAi (q := 2) E rfl rfl rfl) ?_; clear E a; intro a E
        refine zAv E rfl rfl rfl rfl rfl hb13 rfl (by decide) (fun w h => by first | exact zAn E rfl rfl rfl (h.one (by repeat (first | exact mm1 | assumption | apply List.Mem.tail))) rfl | exact zAj E rfl rfl rfl (by assumption)) ?_; clear E a; intro a E
        refine zAv E rfl rfl rfl rfl rfl hb13 rfl (by decide) (fun w h => zCb E rfl rfl rfl) ?_; clear E a; intro a E
        refine zm E rfl (fun w h => zAq E rfl rfl hb13 rfl) ?_; clear E a; intro a E
        refine zm E rfl (fun w h => zAe E rfl rfl) ?_; clear E a; intro a E
        refine zAy E (t := 18) rfl (fun hb18 => ?_) (fun hb18 => ?_)
        · have hb18n := hb18; replace hb18n := Nrm.nrm hb18n
          iterate 6 (refine zBr E rfl rfl rfl rfl rfl hb18 rfl (by decide) ?_; clear E a; intro a E)
          refine zm E rfl (fun w h => zAm E rfl rfl hb18 rfl) ?_; clear E a; intro a E
          refine zm E rfl (fun w h => zAe E rfl rfl) ?_; clear E a; intro a E
          iterate 3 (refine zBr E rfl rfl rfl rfl rfl rfl rfl (by decide) ?_; clear E a; intro a E)
          refine zm E rfl (fun w h => zAm E rfl rfl rfl rfl) ?_; clear E a; intro a E
          refine zm E rfl (fun w h => zAe E rfl rfl) ?_; clear E a; intro a E
          iterate 10 (refine zBr E rfl rfl rfl rfl rfl rfl rfl (by decide) ?_; clear E a; intro a E)
          refine zm E rfl (fun w h => zAm E rfl rfl rfl rfl) ?_; clear E a; intro a E
          refine zBs ?_
          refine zBp ?_
          exact ⟨_, by unfold Lbl.half; first | (simp; omega) | (rw [hgd]; simp; omega), S, E.keep (zAb rfl (zAb rfl zAp))⟩
        · have hb18n := hb18; replace hb18n := Nrm.nrm hb18n
          refine zAv E rfl rfl rfl rfl rfl hb18 rfl (by decide) (fun w h => by first | exact zAf (q := 2) E rfl rfl rfl | exact zAi (q := 2) E rfl rfl rfl) ?_; clear E a; intro a E
          refine zAv E rfl rfl rfl rfl rfl hb18 rfl (by decide) (fun w h => by first | exact zAn E rfl rfl rfl (h.one (by repeat (first | exact mm1 | assumption | apply List.Mem.tail))) rfl | exact zAj E rfl rfl rfl (by assumption)) ?_; clear E a; intro a E
          refine zAv E rfl rfl rfl rfl rfl hb18 rfl (by decide) (fun w h => by first | exact zAf (q := 1) E rfl rfl rfl | exact zAi (q := 1) E rfl rfl rfl) ?_; clear E a; intro a E
          refine zAv E rfl rfl rfl rfl rfl hb18 rfl (by decide) (fun w h => by first | exact zAn E rfl rfl rfl (h.one (by repeat (first | exact mm1 | assumption | apply List.Mem.tail))) rfl | exact zAj E rfl rfl rfl (by assumption)) ?_; clear E a; intro a E
          refine zAv E rfl rfl rfl rfl rfl hb18 rfl (by decide) (fun w h => by first | exact zCa E rfl rfl rfl | exact zBa E rfl rfl rfl | exact zAt E rfl rfl rfl) ?_; clear E a; intro a E
          refine zAv E rfl rfl rfl rfl rfl hb18 rfl (by decide) (fun w h => zDs E rfl rfl rfl) ?_; clear E a; intro a E
          refine zm E rfl (fun w h => zAq E rfl rfl hb18 rfl) ?_; clear E a; intro a E
          refine zm E rfl (fun w h => zAe E rfl rfl) ?_; clear E a; intro a E
          refine zAy E (t := 26) rfl (fun hb26 => ?_) (fun hb26 => ?_)
          · have hb26n := hb26; replace hb26n := Nrm.nrm hb26n
            iterate 3 (refine zBr E rfl rfl rfl rfl rfl hb26 rfl (by decide) ?_; clear E a; intro a E)
            refine zm E rfl (fun w h => zAm E rfl rfl hb26 rfl) ?_; clear E a; intro a E
            refine zm E rfl (fun w h => zAe E rfl rfl) ?_; clear E a; intro a E
            iterate 10 (refine zBr E rfl rfl rfl rfl rfl rfl rfl (by decide) ?_; clear E a; intro a E)
            refine zm E rfl (fun w h => zAm E rfl rfl rfl rfl) ?_; clear E a; intro a E
            refine zBs ?_
            refine zBp ?_
            exact ⟨_, by unfold Lbl.half; first | (simp; omega) | (rw [hgd]; simp; omega), S, E.keep (zAb rfl (zAb rfl zAp))⟩
          · have hb26n := hb26; replace hb26n := Nrm.nrm hb26n
            refine zAv E rfl rfl rfl rfl rfl hb26 rfl (by decide) (fun w h => by first | exact zAf (q := 3) E rfl rfl rfl | exact zAi (q := 3) E rfl rfl rfl) ?_; clear E a; intro a E
            refine zAv E rfl rfl rfl rfl rfl hb26 rfl (by decide) (fun w h => by first | exact zAn E rfl rfl rfl (h.one (by repeat (first | exact mm1 | assumption | apply List.Mem.tail))) rfl | exact zAj E rfl rfl rfl (by assumption)) ?_; clear E a; intro a E
            refine zAv E rfl rfl rfl rfl rfl hb26 rfl (by decide) (fun w h => zCb E rfl rfl rfl) ?_; clear E a; intro a E
            refine zm E rfl (fun w h => zAq E rfl rfl hb26 rfl) ?_; clear E a; intro a E
            refine zm E rfl (fun w h => zAe E rfl rfl) ?_; clear E a; intro a E
            refine zAy E (t := 31) rfl (fun hb31 => ?_) (fun hb31 => ?_)
            · have hb31n := hb31; replace hb31n := Nrm.nrm hb31n
              iterate 10 (refine zBr E rfl rfl rfl rfl rfl hb31 rfl (by decide) ?_; clear E a; intro a E)
              refine zm E rfl (fun w h => zAm E rfl rfl hb31 rfl) ?_; clear E a; intro a E
              refine zBs ?_
              refine zBp ?_
              exact ⟨_, by unfold Lbl.half; first | (simp; omega) | (rw [hgd]; simp; omega), S, E.keep (zAb rfl (zAb rfl zAp))⟩
            · have hb31n := hb31; replace hb31n := Nrm.nrm hb31n
              obtain ⟨n, hn⟩ : ∃ n : Nat, l.top = n := ⟨l.top.toNat, by omega⟩
              have hnl : n < l.tops.length := by omega
              have hgd := getD_at hn hnl
              obtain ⟨g, off, rfl⟩ := hO.addr (by omega)
              refine zAv E rfl rfl rfl rfl rfl hb31 rfl (by decide) (fun w h => by first | exact zAf (q := 3) E rfl rfl rfl | exact zAi (q := 3) E rfl rfl rfl) ?_; clear E a; intro a E
              refine zAv E rfl rfl rfl rfl rfl hb31 rfl (by decide) (fun w h => by first | exact zAn E rfl rfl rfl (h.one (by repeat (first | exact mm1 | assumption | apply List.Mem.tail))) rfl | exact zAj E rfl rfl rfl (by assumption)) ?_; clear E a; intro a E
              refine zAv E rfl rfl rfl rfl rfl hb31 rfl (by decide) (fun w h => by first | exact zAf (q := 1) E rfl rfl rfl | exact zAi (q := 1) E rfl rfl rfl) ?_; clear E a; intro a E
              refine zAv E rfl rfl rfl rfl rfl hb31 rfl (by decide) (fun w h => by first | exact zAn E rfl rfl rfl (h.one (by repeat (first | exact mm1 | assumption | apply List.Mem.tail))) rfl | exact zAj E rfl rfl rfl (by assumption)) ?_; clear E a; intro a E
              refine zAv E rfl rfl rfl rfl rfl hb31 rfl (by decide) (fun w h => by first | exact zAf (q := 2) E rfl rfl rfl | exact zAi (q := 2) E rfl rfl rfl) ?_; clear E a; intro a E
              refine zAv E rfl rfl rfl rfl rfl hb31 rfl (by decide) (fun w h => by first | exact zAn E rfl rfl rfl (h.one (by repeat (first | exact mm1 | assumption | apply List.Mem.tail))) rfl | exact zAj E rfl rfl rfl (by assumption)) ?_; clear E a; intro a E
              refine zAv E rfl rfl rfl rfl rfl hb31 rfl (by decide) (fun w h => zBn (i := n) E rfl rfl rfl rfl rfl hn (by omega)) ?_; clear E a; intro a E
              refine zAv E rfl rfl rfl rfl rfl hb31 rfl (by decide) (fun w h => by first | exact zAf (q := 1) E rfl rfl rfl | exact zAi (q := 1) E rfl rfl rfl) ?_; clear E a; intro a E
              refine zAv E rfl rfl rfl rfl rfl hb31 rfl (by decide) (fun w h => zAj E rfl rfl rfl (hO.elem (lay := Tp.lay) Tp.lay_len (h.at (by repeat (first | exact mm1 | assumption | apply List.Mem.tail))) (i := n) hnl 1 _ rfl)) ?_; clear E a; intro a E
              refine zAv E rfl rfl rfl rfl rfl hb31 rfl (by decide) (fun w h => zDs E rfl rfl rfl) ?_; clear E a; intro a E
              refine zm E rfl (fun w h => zAq E rfl rfl hb31 rfl) ?_; clear E a; intro a E
              refine zBs ?_
              refine zBp ?_
              exact ⟨_, by unfold Lbl.half; first | (simp; omega) | (rw [hgd]; simp; omega), S, E.keep (zAb rfl (zAb rfl zAp))⟩
  · clear E S a; intro a w J; obtain ⟨bt, hbt, S, E⟩ := J
    refine zAh hK ?_; clear hK; clear K
    refine zBl E rfl (fun hb => ?_) (fun hb => ?_)
    · replace hb := Nrm.nrm hb
      have hno : ¬ l.half := (fun q => by rw [hbt.2 q] at hb; cases hb)
      refine wp_seq_k ?_; intro K hK
      refine zAc ?_
      refine zp E (zAg E rfl rfl) ?_; clear E a; intro a E
      refine wpList_nil ?_
      refine zAh hK ?_; clear hK; clear K
      refine wp_ret ?_
      refine zBi ?_; clear hK; clear K
      refine ret1 E rfl rfl ?_
      exact ⟨_, rfl, by rw [lbE_half hno], (S.only (Bs := [O]) (zAd (by repeat (first | exact pk1 | apply zAa)) (zAk _))).tr⟩
    · replace hb := Nrm.nrm hb
      have hh : l.half := hbt.1 hb
      refine wp_skip ?_
      refine zAh hK ?_; clear hK; clear K
      iterate 2 (refine wp_seq_k ?_; intro K hK)
      refine zAc ?_
      refine zp E (by first | exact zAf (q := 1) E rfl rfl rfl | exact zAi (q := 1) E rfl rfl rfl) ?_; clear E a; intro a E
      refine zp E (by first | exact zAn E rfl rfl rfl (S.get (by repeat (first | exact pk1 | apply zAa))) rfl | exact zAj E rfl rfl rfl (by assumption)) ?_; clear E a; intro a E
      refine zAr E rfl rfl (by decide) rfl Tryz.func95 rfl (by kernel_rfl) rfl (topany_ret O _ l.tops hO0 _ (S.hp.sel (zAd (by repeat (first | exact pk1 | apply zAa)) (zAk _)))) ?_
      rintro v45 w ⟨rfl, hT⟩; clear E a; intro a E
      have S := S.call1 (zAd (by repeat (first | exact pk1 | apply zAa)) (zAk _)) hT
      refine wpList_nil ?_
      refine zAh hK ?_; clear hK; clear K
      refine zBl E rfl (fun hb => ?_) (fun hb => ?_)
      · replace hb := Nrm.nrm hb
        have hnm : ¬ ∀ t ∈ l.tops, t.made := (by simpa using hb)
        refine wp_seq_k ?_; intro K hK
        refine zAc ?_
        refine zp E (zAg E rfl rfl) ?_; clear E a; intro a E
        refine wpList_nil ?_
        refine zAh hK ?_; clear hK; clear K
        refine wp_ret ?_
        refine zBi ?_; clear hK; clear K
        refine ret1 E rfl rfl ?_
        exact ⟨_, rfl, by rw [lbE_no (fun q => hnm ((zHd l).1 q).2)], (S.only (Bs := [O]) (zAd (by repeat (first | exact pk1 | apply zAa)) (zAk _))).tr⟩
      · replace hb := Nrm.nrm hb
        have hm : ∀ t ∈ l.tops, t.made := (by simpa using hb)
        refine wp_skip ?_
        refine zAh hK ?_; clear hK; clear K
        refine wp_seq_k ?_; intro K hK
        refine zAc ?_
        refine zp E (zAg E rfl rfl) ?_; clear E a; intro a E
        refine wpList_nil ?_
        refine zAh hK ?_; clear hK; clear K
        refine wp_ret ?_
        refine ret1 E rfl rfl ?_
        exact ⟨_, rfl, by rw [(zHd l).2 ⟨hh, hm⟩], (S.only (Bs := [O]) (zAd (by repeat (first | exact pk1 | apply zAa)) (zAk _))).tr⟩
theorem dlbcheck_ret (O : zAs) (v : Value) (l : Lbl) (hO : Rd O 3 v l.tops.length (l.tops.flatMap Tp.lay)) (w0 : World) (H : Hp w0 [O]) :
    Ret Tryz.prog 80 #[lbagg l v] w0 fun u w' => u = .int .i64 (lbE l) ∧ Trs w0 w' [O] [O] := by
  have S := St.begin H
  obtain ⟨ad, c, rfl⟩ := hO.slice
  refine zDc 60 Tryz.func80 rfl rfl (by decide) ?_; intro a E
  refine wp_seq_k ?_; intro K hK
  refine zAc ?_
  refine zAo rfl (zCs E S rfl rfl (by decide) rfl rfl ?_); clear E S a; intro a w b1 E S
  refine zp E (zAg E rfl rfl) ?_; clear E a; intro a E
  refine wpList_nil ?_
  refine zAh hK ?_; clear hK; clear K
  iterate 2 (refine wp_seq_k ?_; intro K hK)
  refine zFe (fun (a : Act) (w' : World) => ∃ bt : Bool, (bt = false ↔ l.half) ∧ St w0 [O] w' [[(b1, cel [.int .u64 l.pool, .slice ad l.tops.length c, .int .i64 l.top, .int .i64 l.place] 77)], O] ∧ Fr a 60 [(1, ptr b1), (44, .bool bt)]) ?_ ?_
  · skip
    refine zBo S (.ofL [(0, 0), (1, 0), (2, 0), (3, 0), (4, 0), (5, 0), (6, 0), (7, 0), (8, 0), (9, 0), (10, 0), (11, 0), (12, 0), (13, 0), (14, 0), (15, 0), (16, 0), (17, 0), (18, 0), (19, 0), (20, 0), (21, 0), (22, 0), (23, 0), (24, 0), (25, 0), (26, 0), (27, 0), (28, 0), (29, 0), (30, 0), (31, 0), (32, 0), (33, 0), (34, 0), (35, 0), (36, 0), (37, 0), (38, 0), (39, 0)]) (by kernel_rfl) (by kernel_rfl) ?_
    clear S; intro w S
    refine zm E rfl (fun w h => by first | exact zAf (q := 1) E rfl rfl rfl | exact zAi (q := 1) E rfl rfl rfl) ?_; clear E a; intro a E
    refine zm E rfl (fun w h => by first | exact zAn E rfl rfl rfl (h.one (by repeat (first | exact mm1 | assumption | apply List.Mem.tail))) rfl | exact zAj E rfl rfl rfl (by assumption)) ?_; clear E a; intro a E
    refine zm E rfl (fun w h => by first | exact zCa E rfl rfl rfl | exact zBa E rfl rfl rfl | exact zAt E rfl rfl rfl) ?_; clear E a; intro a E
    refine zm E rfl (fun w h => zCb E rfl rfl rfl) ?_; clear E a; intro a E
    refine zm E rfl (fun w h => zAe E rfl rfl) ?_; clear E a; intro a E
    refine zAy E (t := 9) rfl (fun hb9 => ?_) (fun hb9 => ?_)
    · have hb9n := hb9; replace hb9n := Nrm.nrm hb9n
      iterate 4 (refine zBr E rfl rfl rfl rfl rfl hb9 rfl (by decide) ?_; clear E a; intro a E)
      refine zm E rfl (fun w h => zAm E rfl rfl hb9 rfl) ?_; clear E a; intro a E
      refine zm E rfl (fun w h => zAe E rfl rfl) ?_; clear E a; intro a E
      iterate 3 (refine zBr E rfl rfl rfl rfl rfl rfl rfl (by decide) ?_; clear E a; intro a E)
      refine zm E rfl (fun w h => zAm E rfl rfl rfl rfl) ?_; clear E a; intro a E
      refine zm E rfl (fun w h => zAe E rfl rfl) ?_; clear E a; intro a E
      iterate 6 (refine zBr E rfl rfl rfl rfl rfl rfl rfl (by decide) ?_; clear E a; intro a E)
      refine zm E rfl (fun w h => zAm E rfl rfl rfl rfl) ?_; clear E a; intro a E
      refine zm E rfl (fun w h => zAe E rfl rfl) ?_; clear E a; intro a E
      iterate 3 (refine zBr E rfl rfl rfl rfl rfl rfl rfl (by decide) ?_; clear E a; intro a E)
      refine zm E rfl (fun w h => zAm E rfl rfl rfl rfl) ?_; clear E a; intro a E
      refine zm E rfl (fun w h => zAe E rfl rfl) ?_; clear E a; intro a E
      iterate 10 (refine zBr E rfl rfl rfl rfl rfl rfl rfl (by decide) ?_; clear E a; intro a E)
      refine zm E rfl (fun w h => zAm E rfl rfl rfl rfl) ?_; clear E a; intro a E
      refine zBs ?_
      refine zBp ?_
      exact ⟨_, by unfold Lbl.half; first | (simp; omega) | (rw [hgd]; simp; omega), S, E.keep (zAb rfl (zAb rfl zAp))⟩
    · have hb9n := hb9; replace hb9n := Nrm.nrm hb9n
      refine zAv E rfl rfl rfl rfl rfl hb9 rfl (by decide) (fun w h => by first | exact zAf (q := 1) E rfl rfl rfl | exact zAi (q := 1) E rfl rfl rfl) ?_; clear E a; intro a E
      refine zAv E rfl rfl rfl rfl rfl hb9 rfl (by decide) (fun w h => by first | exact zAn E rfl rfl rfl (h.one (by repeat (first | exact mm1 | assumption | apply List.Mem.tail))) rfl | exact zAj E rfl rfl rfl (by assumption)) ?_; clear E a; intro a E
      refine zAv E rfl rfl rfl rfl rfl hb9 rfl (by decide) (fun w h => by first | exact zCa E rfl rfl rfl | exact zBa E rfl rfl rfl | exact zAt E rfl rfl rfl) ?_; clear E a; intro a E
      refine zAv E rfl rfl rfl rfl rfl hb9 rfl (by decide) (fun w h => zDd E rfl rfl rfl) ?_; clear E a; intro a E
      refine zm E rfl (fun w h => zAq E rfl rfl hb9 rfl) ?_; clear E a; intro a E
      refine zm E rfl (fun w h => zAe E rfl rfl) ?_; clear E a; intro a E
      refine zAy E (t := 15) rfl (fun hb15 => ?_) (fun hb15 => ?_)
      · have hb15n := hb15; replace hb15n := Nrm.nrm hb15n
        iterate 3 (refine zBr E rfl rfl rfl rfl rfl hb15 rfl (by decide) ?_; clear E a; intro a E)
        refine zm E rfl (fun w h => zAm E rfl rfl hb15 rfl) ?_; clear E a; intro a E
        refine zm E rfl (fun w h => zAe E rfl rfl) ?_; clear E a; intro a E
        iterate 6 (refine zBr E rfl rfl rfl rfl rfl rfl rfl (by decide) ?_; clear E a; intro a E)
        refine zm E rfl (fun w h => zAm E rfl rfl rfl rfl) ?_; clear E a; intro a E
        refine zm E rfl (fun w h => zAe E rfl rfl) ?_; clear E a; intro a E
        iterate 3 (refine zBr E rfl rfl rfl rfl rfl rfl rfl (by decide) ?_; clear E a; intro a E)
        refine zm E rfl (fun w h => zAm E rfl rfl rfl rfl) ?_; clear E a; intro a E
        refine zm E rfl (fun w h => zAe E rfl rfl) ?_; clear E a; intro a E
        iterate 10 (refine zBr E rfl rfl rfl rfl rfl rfl rfl (by decide) ?_; clear E a; intro a E)
        refine zm E rfl (fun w h => zAm E rfl rfl rfl rfl) ?_; clear E a; intro a E
        refine zBs ?_
        refine zBp ?_
        exact ⟨_, by unfold Lbl.half; first | (simp; omega) | (rw [hgd]; simp; omega), S, E.keep (zAb rfl (zAb rfl zAp))⟩
      · have hb15n := hb15; replace hb15n := Nrm.nrm hb15n
        refine zAv E rfl rfl rfl rfl rfl hb15 rfl (by decide) (fun w h => by first | exact zAf (q := 2) E rfl rfl rfl | exact zAi (q := 2) E rfl rfl rfl) ?_; clear E a; intro a E
        refine zAv E rfl rfl rfl rfl rfl hb15 rfl (by decide) (fun w h => by first | exact zAn E rfl rfl rfl (h.one (by repeat (first | exact mm1 | assumption | apply List.Mem.tail))) rfl | exact zAj E rfl rfl rfl (by assumption)) ?_; clear E a; intro a E
        refine zAv E rfl rfl rfl rfl rfl hb15 rfl (by decide) (fun w h => zCb E rfl rfl rfl) ?_; clear E a; intro a E
        refine zm E rfl (fun w h => zAq E rfl rfl hb15 rfl) ?_; clear E a; intro a E
        refine zm E rfl (fun w h => zAe E rfl rfl) ?_; clear E a; intro a E
        refine zAy E (t := 20) rfl (fun hb20 => ?_) (fun hb20 => ?_)
        · have hb20n := hb20; replace hb20n := Nrm.nrm hb20n
          iterate 6 (refine zBr E rfl rfl rfl rfl rfl hb20 rfl (by decide) ?_; clear E a; intro a E)
          refine zm E rfl (fun w h => zAm E rfl rfl hb20 rfl) ?_; clear E a; intro a E
          refine zm E rfl (fun w h => zAe E rfl rfl) ?_; clear E a; intro a E
          iterate 3 (refine zBr E rfl rfl rfl rfl rfl rfl rfl (by decide) ?_; clear E a; intro a E)
          refine zm E rfl (fun w h => zAm E rfl rfl rfl rfl) ?_; clear E a; intro a E
          refine zm E rfl (fun w h => zAe E rfl rfl) ?_; clear E a; intro a E
          iterate 10 (refine zBr E rfl rfl rfl rfl rfl rfl rfl (by decide) ?_; clear E a; intro a E)
          refine zm E rfl (fun w h => zAm E rfl rfl rfl rfl) ?_; clear E a; intro a E
          refine zBs ?_
          refine zBp ?_
          exact ⟨_, by unfold Lbl.half; first | (simp; omega) | (rw [hgd]; simp; omega), S, E.keep (zAb rfl (zAb rfl zAp))⟩
        · have hb20n := hb20; replace hb20n := Nrm.nrm hb20n
          refine zAv E rfl rfl rfl rfl rfl hb20 rfl (by decide) (fun w h => by first | exact zAf (q := 2) E rfl rfl rfl | exact zAi (q := 2) E rfl rfl rfl) ?_; clear E a; intro a E
          refine zAv E rfl rfl rfl rfl rfl hb20 rfl (by decide) (fun w h => by first | exact zAn E rfl rfl rfl (h.one (by repeat (first | exact mm1 | assumption | apply List.Mem.tail))) rfl | exact zAj E rfl rfl rfl (by assumption)) ?_; clear E a; intro a E
          refine zAv E rfl rfl rfl rfl rfl hb20 rfl (by decide) (fun w h => by first | exact zAf (q := 1) E rfl rfl rfl | exact zAi (q := 1) E rfl rfl rfl) ?_; clear E a; intro a E
          refine zAv E rfl rfl rfl rfl rfl hb20 rfl (by decide) (fun w h => by first | exact zAn E rfl rfl rfl (h.one (by repeat (first | exact mm1 | assumption | apply List.Mem.tail))) rfl | exact zAj E rfl rfl rfl (by assumption)) ?_; clear E a; intro a E
          refine zAv E rfl rfl rfl rfl rfl hb20 rfl (by decide) (fun w h => by first | exact zCa E rfl rfl rfl | exact zBa E rfl rfl rfl | exact zAt E rfl rfl rfl) ?_; clear E a; intro a E
          refine zAv E rfl rfl rfl rfl rfl hb20 rfl (by decide) (fun w h => zDs E rfl rfl rfl) ?_; clear E a; intro a E
          refine zm E rfl (fun w h => zAq E rfl rfl hb20 rfl) ?_; clear E a; intro a E
          refine zm E rfl (fun w h => zAe E rfl rfl) ?_; clear E a; intro a E
          refine zAy E (t := 28) rfl (fun hb28 => ?_) (fun hb28 => ?_)
          · have hb28n := hb28; replace hb28n := Nrm.nrm hb28n
            iterate 3 (refine zBr E rfl rfl rfl rfl rfl hb28 rfl (by decide) ?_; clear E a; intro a E)
            refine zm E rfl (fun w h => zAm E rfl rfl hb28 rfl) ?_; clear E a; intro a E
            refine zm E rfl (fun w h => zAe E rfl rfl) ?_; clear E a; intro a E
            iterate 10 (refine zBr E rfl rfl rfl rfl rfl rfl rfl (by decide) ?_; clear E a; intro a E)
            refine zm E rfl (fun w h => zAm E rfl rfl rfl rfl) ?_; clear E a; intro a E
            refine zBs ?_
            refine zBp ?_
            exact ⟨_, by unfold Lbl.half; first | (simp; omega) | (rw [hgd]; simp; omega), S, E.keep (zAb rfl (zAb rfl zAp))⟩
          · have hb28n := hb28; replace hb28n := Nrm.nrm hb28n
            refine zAv E rfl rfl rfl rfl rfl hb28 rfl (by decide) (fun w h => by first | exact zAf (q := 3) E rfl rfl rfl | exact zAi (q := 3) E rfl rfl rfl) ?_; clear E a; intro a E
            refine zAv E rfl rfl rfl rfl rfl hb28 rfl (by decide) (fun w h => by first | exact zAn E rfl rfl rfl (h.one (by repeat (first | exact mm1 | assumption | apply List.Mem.tail))) rfl | exact zAj E rfl rfl rfl (by assumption)) ?_; clear E a; intro a E
            refine zAv E rfl rfl rfl rfl rfl hb28 rfl (by decide) (fun w h => zCb E rfl rfl rfl) ?_; clear E a; intro a E
            refine zm E rfl (fun w h => zAq E rfl rfl hb28 rfl) ?_; clear E a; intro a E
            refine zm E rfl (fun w h => zAe E rfl rfl) ?_; clear E a; intro a E
            refine zAy E (t := 33) rfl (fun hb33 => ?_) (fun hb33 => ?_)
            · have hb33n := hb33; replace hb33n := Nrm.nrm hb33n
              iterate 10 (refine zBr E rfl rfl rfl rfl rfl hb33 rfl (by decide) ?_; clear E a; intro a E)
              refine zm E rfl (fun w h => zAm E rfl rfl hb33 rfl) ?_; clear E a; intro a E
              refine zBs ?_
              refine zBp ?_
              exact ⟨_, by unfold Lbl.half; first | (simp; omega) | (rw [hgd]; simp; omega), S, E.keep (zAb rfl (zAb rfl zAp))⟩
            · have hb33n := hb33; replace hb33n := Nrm.nrm hb33n
              obtain ⟨n, hn⟩ : ∃ n : Nat, l.top = n := ⟨l.top.toNat, by omega⟩
              have hnl : n < l.tops.length := by omega
              have hgd := getD_at hn hnl
              obtain ⟨g, off, rfl⟩ := hO.addr (by omega)
              refine zAv E rfl rfl rfl rfl rfl hb33 rfl (by decide) (fun w h => by first | exact zAf (q := 3) E rfl rfl rfl | exact zAi (q := 3) E rfl rfl rfl) ?_; clear E a; intro a E
              refine zAv E rfl rfl rfl rfl rfl hb33 rfl (by decide) (fun w h => by first | exact zAn E rfl rfl rfl (h.one (by repeat (first | exact mm1 | assumption | apply List.Mem.tail))) rfl | exact zAj E rfl rfl rfl (by assumption)) ?_; clear E a; intro a E
              refine zAv E rfl rfl rfl rfl rfl hb33 rfl (by decide) (fun w h => by first | exact zAf (q := 1) E rfl rfl rfl | exact zAi (q := 1) E rfl rfl rfl) ?_; clear E a; intro a E
              refine zAv E rfl rfl rfl rfl rfl hb33 rfl (by decide) (fun w h => by first | exact zAn E rfl rfl rfl (h.one (by repeat (first | exact mm1 | assumption | apply List.Mem.tail))) rfl | exact zAj E rfl rfl rfl (by assumption)) ?_; clear E a; intro a E
              refine zAv E rfl rfl rfl rfl rfl hb33 rfl (by decide) (fun w h => by first | exact zAf (q := 2) E rfl rfl rfl | exact zAi (q := 2) E rfl rfl rfl) ?_; clear E a; intro a E
              refine zAv E rfl rfl rfl rfl rfl hb33 rfl (by decide) (fun w h => by first | exact zAn E rfl rfl rfl (h.one (by repeat (first | exact mm1 | assumption | apply List.Mem.tail))) rfl | exact zAj E rfl rfl rfl (by assumption)) ?_; clear E a; intro a E
              refine zAv E rfl rfl rfl rfl rfl hb33 rfl (by decide) (fun w h => zBn (i := n) E rfl rfl rfl rfl rfl hn (by omega)) ?_; clear E a; intro a E
              refine zAv E rfl rfl rfl rfl rfl hb33 rfl (by decide) (fun w h => by first | exact zAf (q := 1) E rfl rfl rfl | exact zAi (q := 1) E rfl rfl rfl) ?_; clear E a; intro a E
              refine zAv E rfl rfl rfl rfl rfl hb33 rfl (by decide) (fun w h => zAj E rfl rfl rfl (hO.elem (lay := Tp.lay) Tp.lay_len (h.at (by repeat (first | exact mm1 | assumption | apply List.Mem.tail))) (i := n) hnl 1 _ rfl)) ?_; clear E a; intro a E
              refine zAv E rfl rfl rfl rfl rfl hb33 rfl (by decide) (fun w h => zDs E rfl rfl rfl) ?_; clear E a; intro a E
              refine zm E rfl (fun w h => zAq E rfl rfl hb33 rfl) ?_; clear E a; intro a E
              refine zBs ?_
              refine zBp ?_
              exact ⟨_, by unfold Lbl.half; first | (simp; omega) | (rw [hgd]; simp; omega), S, E.keep (zAb rfl (zAb rfl zAp))⟩
  · clear E S a; intro a w J; obtain ⟨bt, hbt, S, E⟩ := J
    refine zAh hK ?_; clear hK; clear K
    refine zBl E rfl (fun hb => ?_) (fun hb => ?_)
    · replace hb := Nrm.nrm hb
      have hno : ¬ l.half := (fun q => by rw [hbt.2 q] at hb; cases hb)
      refine wp_seq_k ?_; intro K hK
      refine zAc ?_
      refine zp E (zAg E rfl rfl) ?_; clear E a; intro a E
      refine wpList_nil ?_
      refine zAh hK ?_; clear hK; clear K
      refine wp_ret ?_
      refine zBi ?_; clear hK; clear K
      refine ret1 E rfl rfl ?_
      exact ⟨_, rfl, by rw [lbE_half hno], (S.only (Bs := [O]) (zAd (by repeat (first | exact pk1 | apply zAa)) (zAk _))).tr⟩
    · replace hb := Nrm.nrm hb
      have hh : l.half := hbt.1 hb
      refine wp_skip ?_
      refine zAh hK ?_; clear hK; clear K
      iterate 2 (refine wp_seq_k ?_; intro K hK)
      have hl4 : l.tops.length ≤ 4 := hh.2.1
      refine zAc ?_
      refine zp E (zAg E rfl rfl) ?_; clear E a; intro a E
      refine wpList_nil ?_
      refine zAh hK ?_; clear hK; clear K
      refine wp_block ?_
      refine wp_loop_ghost (fun (m : Nat) (a : Act) (w' : World) => ∃ i : Nat, m = l.tops.length - i ∧ i ≤ l.tops.length ∧ (∀ j (hj : j < l.tops.length), j < i → l.tops[j].made) ∧ St w0 [O] w' [[(b1, cel [.int .u64 l.pool, .slice ad l.tops.length c, .int .i64 l.top, .int .i64 l.place] 77)], O] ∧ Fr a 60 [(1, ptr b1), (3, .int .i64 i)]) (l.tops.length - 0) ?_ ?_
      · exact ⟨0, rfl, by omega, fun j _ h => by omega, S, E.keep (zAb rfl (zAb rfl zAp))⟩
      clear E; clear a; (try clear S); rintro m a w ⟨i, rfl, hi, hm, S, E⟩
      iterate 2 (refine wp_seq_k ?_; intro K hK)
      refine zAc ?_
      refine zp E (zAe E rfl rfl) ?_; clear E a; intro a E
      refine zp E (by first | exact zAf (q := 1) E rfl rfl rfl | exact zAi (q := 1) E rfl rfl rfl) ?_; clear E a; intro a E
      refine zp E (by first | exact zAn E rfl rfl rfl (S.get (by repeat (first | exact pk1 | apply zAa))) rfl | exact zAj E rfl rfl rfl (by assumption)) ?_; clear E a; intro a E
      refine zp E (by first | exact zCa E rfl rfl rfl | exact zBa E rfl rfl rfl | exact zAt E rfl rfl rfl) ?_; clear E a; intro a E
      refine zp E (zCb E rfl rfl rfl) ?_; clear E a; intro a E
      refine wpList_nil ?_
      refine zAh hK ?_; clear hK; clear K
      refine zBl E rfl (fun hb => ?_) (fun hb => ?_)
      · replace hb := Nrm.nrm hb
        refine wp_skip ?_
        refine zAh hK ?_; clear hK; clear K
        refine wp_seq_k ?_; intro K hK
        refine wp_block ?_
        refine wp_seq_k ?_; intro K hK
        have hib : i < l.tops.length := by omega
        obtain ⟨g, off, rfl⟩ := hO.addr (by omega)
        refine zAc ?_
        refine zp E (by first | exact zAf (q := 1) E rfl rfl rfl | exact zAi (q := 1) E rfl rfl rfl) ?_; clear E a; intro a E
        refine zp E (by first | exact zAn E rfl rfl rfl (S.get (by repeat (first | exact pk1 | apply zAa))) rfl | exact zAj E rfl rfl rfl (by assumption)) ?_; clear E a; intro a E
        refine zp E (zAe E rfl rfl) ?_; clear E a; intro a E
        refine zp E (by first | exact zBk E rfl rfl rfl rfl rfl rfl (by omega) | exact zBn E rfl rfl rfl rfl rfl rfl (by omega) | exact zAx E rfl rfl rfl rfl rfl rfl (by omega)) ?_; clear E a; intro a E
        refine zp E (zDo (vs := [_, _, _]) E rfl rfl rfl rfl (hO.elem (lay := Tp.lay) Tp.lay_len (S.stab.at (by repeat (first | exact mm1 | assumption | apply List.Mem.tail))) (i := i) hib)) ?_; clear E a; intro a E
        refine zAr E rfl rfl (by decide) rfl Tryz.func99 rfl (by kernel_rfl) rfl (dmade_ret (l.tops[i]'hib) _) ?_
        rintro v57 w ⟨rfl, hT⟩; clear E a; intro a E
        have S := S.quiet hT
        refine zp E (zAg E rfl rfl) ?_; clear E a; intro a E
        refine wpList_nil ?_
        refine zAh hK ?_; clear hK; clear K
        refine wp_seq_k ?_; intro K hK
        refine zAc ?_
        refine zp E (zAe E rfl rfl) ?_; clear E a; intro a E
        refine zp E (zEg E rfl rfl) ?_; clear E a; intro a E
        refine wpList_nil ?_
        refine zAh hK ?_; clear hK; clear K
        refine zBl E rfl (fun hb => ?_) (fun hb => ?_)
        · replace hb := Nrm.nrm hb
          have hno : ¬ (l.tops[i]'hib).made := (by simpa using hb)
          refine wp_seq_k ?_; intro K hK
          refine zAc ?_
          refine zp E (zAg E rfl rfl) ?_; clear E a; intro a E
          refine wpList_nil ?_
          refine zAh hK ?_; clear hK; clear K
          refine wp_ret ?_
          refine zEc ?_
          refine zBi ?_; clear hK; clear K
          refine zBi ?_
          refine zEc ?_
          refine zBi ?_; clear hK; clear K
          refine ret1 E rfl rfl ?_
          exact ⟨_, rfl, by rw [lbE_no (fun q => hno (((zHd l).1 q).2 _ (List.getElem_mem hib)))], (S.only (Bs := [O]) (zAd (by repeat (first | exact pk1 | apply zAa)) (zAk _))).tr⟩
        · replace hb := Nrm.nrm hb
          have hyes : (l.tops[i]'hib).made := (by simpa using hb)
          refine wp_skip ?_
          refine zBf ?_
          refine zAh hK ?_; clear hK; clear K
          refine zAc ?_
          refine zp E (zAe E rfl rfl) ?_; clear E a; intro a E
          refine zp E (zBu E rfl rfl rfl (by first | exact zCj (y := 1) (by omega) | exact w_in (by omega) | exact zBy (by omega) | exact rfl)) ?_; clear E a; intro a E
          refine zp E (zAg E rfl rfl) ?_; clear E a; intro a E
          refine wpList_nil ?_
          refine zBe ?_
          exact ⟨_, by omega, i + 1, rfl, by omega, fun j hj h => (by rcases Nat.lt_or_ge j i with c1 | c1; exact hm j hj c1; obtain rfl : j = i := (by omega); exact hyes), S, E.keep (zAb rfl (zAb rfl zAp))⟩
      · replace hb := Nrm.nrm hb
        refine wp_exit ?_
        refine zBb ?_; clear hK; clear K
        refine zBb ?_
        refine zCm ?_
        refine zAh hK ?_; clear hK; clear K
        refine wp_seq_k ?_; intro K hK
        refine zAc ?_
        refine zp E (zAg E rfl rfl) ?_; clear E a; intro a E
        refine wpList_nil ?_
        refine zAh hK ?_; clear hK; clear K
        refine wp_ret ?_
        refine ret1 E rfl rfl ?_
        exact ⟨_, rfl, by rw [(zHd l).2 ⟨hh, made_all hm (by omega)⟩], (S.only (Bs := [O]) (zAd (by repeat (first | exact pk1 | apply zAa)) (zAk _))).tr⟩
end Go.Proofs.YtidhehcjafoneaaGreatDoor
