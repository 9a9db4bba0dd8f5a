/-
  Texts put together (7).
-/
import Derived.Test.YtpjidiaekifmbaaGreatDoorZParityRows6
set_option maxHeartbeats 1000000
namespace Go.Sl
abbrev lbagg (l : Lbl) (v : Value) : Value := .agg #[.int .u64 l.pool, v, .int .i64 l.top, .int .i64 l.place]
def Lbl.half (l : Lbl) : Prop := 1 ≤ l.tops.length ∧ l.tops.length ≤ 4 ∧ 0 ≤ l.top ∧ l.top < l.tops.length ∧ 0 ≤ l.place ∧ l.place < (l.tops.getD l.top.toNat zIe).leaves
theorem zGr (l : Lbl) : lbE l = 0 ↔ l.half ∧ ∀ t ∈ l.tops, t.made := by
 unfold lbE; split
 ·rename_i h; obtain ⟨h1, h2, h3, h4, h5, h6, h7⟩ := h; exact ⟨fun _ => ⟨⟨h1, h2, h3, h4, h5, h6⟩, h7⟩, fun _ => rfl⟩
 ·rename_i h; exact ⟨fun q => (by cases q), fun ⟨⟨h1, h2, h3, h4, h5, h6⟩, h7⟩ => absurd ⟨h1, h2, h3, h4, h5, h6, h7⟩ h⟩
theorem lbE_no {l : Lbl} (h : lbE l ≠ 0) : lbE l = 42 := by
 unfold lbE at *; split
 ·rename_i c; rw [if_pos c] at h; exact absurd rfl h
 ·rfl
theorem lbE_half {l : Lbl} (h : ¬ l.half) : lbE l = 42 := lbE_no (fun q => h ((zGr l).1 q).1)
theorem getD_at {l : Lbl} {n : Nat} (h : l.top = n) (hn : n < l.tops.length) : l.tops.getD l.top.toNat zIe = l.tops[n] := by simp [h, List.getD, hn]
theorem made_all {l : List Tp} {i : Nat} (h : ∀ j (hj : j < l.length), j < i → l[j].made) (hi : l.length ≤ i) : ∀ t ∈ l, t.made := fun t ht => by
 obtain ⟨j, hj, rfl⟩ := List.getElem_of_mem ht
 exact h j hj oZ
def Tp.eqB (a b : Tp) : Bool := (a.kind == b.kind) && ((a.leaves == b.leaves) && (a.sectors == b.sectors))
theorem Tp.eqB_eq (p q : Tp) : p.eqB q = decide (p = q) := by
 cases p; cases q
 rw [Bool.eq_iff_iff]
 simp only [Tp.eqB, Bool.and_eq_true, beq_iff_eq, decide_eq_true_eq, Tp.mk.injEq]
end Go.Sl
namespace Go.Proofs.YtpjidiaekifmbaaGreatDoor
open Go.Sl
set_option maxRecDepth 10000
theorem made_ret (t : Tp) (w0 : World) : Ret Tryz.prog 104 #[t.agg] w0 fun u w' => u = .bool (decide t.made) ∧ Trs w0 w' [] [] := by
 have S := St.begin (zDz w0)
 obtain ⟨k, lv, sc⟩ := t
 change Ret Tryz.prog _ #[.agg #[.int .i64 k, .int .i64 lv, .int .i64 sc]] w0 _
 refine zCh 40 Tryz.func104 rfl rfl dZ ?_; intro a E
 refine wp_seq_k ?_; intro K hK
 refine zAa ?_
 refine zAf rfl (zBz E S rfl rfl dZ rfl rfl ?_); clear E S a; intro a w b1 E S
 refine zd E ?_; clear E a; intro a E
 refine wpList_nil ?_
 refine zAb hK ?_; clear hK K
 refine wp_seq_k ?_; intro K hK
 refine zAa ?_
 refine zp E (zBt (cells := [_, _, _, _]) E rfl rfl rfl) ?_; clear E a; intro a E
 refine zAf rfl (zBs E S rfl rfl dZ rfl rfl rfl ?_); clear E S a; intro a w b3 E S
 refine zAf rfl (zBr E S rfl rfl rfl rfl (by simp [Value.oneCell']) rfl pZ (by simp) ?_); clear E S a; intro a w E S; simp only [List.take_succ_cons, List.take_zero, List.drop_succ_cons, List.drop_zero, List.cons_append, List.nil_append, List.append_nil, List.length_cons, List.length_nil, Nat.zero_add, Nat.add_zero] at S
 refine wpList_nil ?_
 refine zAb hK ?_; clear hK K
 iterate 2 (refine wp_seq_k ?_; intro K hK)
 refine zDl (fun (a : Act) (w' : World) => ∃ bt : Bool, (bt = false ↔ 1 ≤ k ∧ k ≤ 3 ∧ 324 ≤ sc ∧ sc ≤ 8192) ∧ (∃ Ls, St w0 [] w' ([(b1, cel [.int .i64 k, .int .i64 lv, .int .i64 sc] 144)] :: [(b3, cel [.int .i64 0, .int .i64 1, .int .i64 2, .int .i64 3] 146)] :: Ls)) ∧ Fr a 40 [(1, ptr b1), (3, ptr b3), (23, .bool bt)]) ?_ ?_
 ·skip
  refine zAa ?_
  refine zp E (by first | exact zAc (q := 0) E rfl rfl rfl | exact zAd (q := 0) E rfl rfl rfl) ?_; clear E a; intro a E
  iterate 3 (refine zd E ?_; clear E a; intro a E)
  refine zAr E (t := 9) rfl (fun hb9 => ?_) (fun hb9 => ?_)
  ·have hb9n := hb9; replace hb9n := Nrm.nrm hb9n
   iterate 3 (refine zn E hb9 ?_; clear E a; intro a E)
   refine zp E (zAi E rfl rfl hb9 rfl) ?_; clear E a; intro a E
   refine zd E ?_; clear E a; intro a E
   iterate 3 (refine zn E rfl ?_; clear E a; intro a E)
   refine zp E (zAi E rfl rfl rfl rfl) ?_; clear E a; intro a E
   refine zd E ?_; clear E a; intro a E
   iterate 3 (refine zn E rfl ?_; clear E a; intro a E)
   refine zp E (zAi E rfl rfl rfl rfl) ?_; clear E a; intro a E
   refine wpList_nil ?_
   refine zAx ?_
   exact ⟨_, by simp; omega, ⟨_, S.front2 pZ pZ⟩, E.keep (kE3 rfl rfl rfl)⟩
  ·have hb9n := hb9; replace hb9n := Nrm.nrm hb9n
   refine zy E hb9 (by first | exact zAc (q := 0) E rfl rfl rfl | exact zAd (q := 0) E rfl rfl rfl) ?_; clear E a; intro a E
   iterate 2 (refine zyd E hb9 ?_; clear E a; intro a E)
   refine zp E (zAk E rfl rfl hb9 rfl) ?_; clear E a; intro a E
   refine zd E ?_; clear E a; intro a E
   refine zAr E (t := 14) rfl (fun hb14 => ?_) (fun hb14 => ?_)
   ·have hb14n := hb14; replace hb14n := Nrm.nrm hb14n
    iterate 3 (refine zn E hb14 ?_; clear E a; intro a E)
    refine zp E (zAi E rfl rfl hb14 rfl) ?_; clear E a; intro a E
    refine zd E ?_; clear E a; intro a E
    iterate 3 (refine zn E rfl ?_; clear E a; intro a E)
    refine zp E (zAi E rfl rfl rfl rfl) ?_; clear E a; intro a E
    refine wpList_nil ?_
    refine zAx ?_
    exact ⟨_, by simp; omega, ⟨_, S.front2 pZ pZ⟩, E.keep (kE3 rfl rfl rfl)⟩
   ·have hb14n := hb14; replace hb14n := Nrm.nrm hb14n
    refine zy E hb14 (by first | exact zAc (q := 2) E rfl rfl rfl | exact zAd (q := 2) E rfl rfl rfl) ?_; clear E a; intro a E
    iterate 2 (refine zyd E hb14 ?_; clear E a; intro a E)
    refine zp E (zAk E rfl rfl hb14 rfl) ?_; clear E a; intro a E
    refine zd E ?_; clear E a; intro a E
    refine zAr E (t := 19) rfl (fun hb19 => ?_) (fun hb19 => ?_)
    ·have hb19n := hb19; replace hb19n := Nrm.nrm hb19n
     iterate 3 (refine zn E hb19 ?_; clear E a; intro a E)
     refine zp E (zAi E rfl rfl hb19 rfl) ?_; clear E a; intro a E
     refine wpList_nil ?_
     refine zAx ?_
     exact ⟨_, by simp; omega, ⟨_, S.front2 pZ pZ⟩, E.keep (kE3 rfl rfl rfl)⟩
    ·have hb19n := hb19; replace hb19n := Nrm.nrm hb19n
     refine zy E hb19 (by first | exact zAc (q := 2) E rfl rfl rfl | exact zAd (q := 2) E rfl rfl rfl) ?_; clear E a; intro a E
     iterate 2 (refine zyd E hb19 ?_; clear E a; intro a E)
     refine zp E (zAk E rfl rfl hb19 rfl) ?_; clear E a; intro a E
     refine wpList_nil ?_
     refine zAx ?_
     exact ⟨_, by simp; omega, ⟨_, S.front2 pZ pZ⟩, E.keep (kE3 rfl rfl rfl)⟩
 ·clear E S a; intro a w J; obtain ⟨bt, hbt, ⟨Ls, S⟩, E⟩ := J
  refine zAb hK ?_; clear hK K
  refine zAs E rfl (fun hb => ?_) (fun hb => ?_)
  ·replace hb := Nrm.nrm hb
   have hno : ¬ (1 ≤ k ∧ k ≤ 3 ∧ 324 ≤ sc ∧ sc ≤ 8192) := (fun q => by rw [hbt.2 q] at hb; cases hb)
   refine wp_seq_k ?_; intro K hK
   refine zAa ?_
   refine zd E ?_; clear E a; intro a E
   refine wpList_nil ?_
   refine zAb hK ?_; clear hK K
   refine wp_ret ?_
   refine zBc ?_; clear hK K
   refine ret1 E rfl rfl ?_
   exact ⟨_, rfl, by rw [decide_eq_false]; unfold Tp.made; simp only; omega, (S.only (Bs := []) sZ).tr⟩
  ·replace hb := Nrm.nrm hb
   obtain ⟨h1, h2, h3, h4⟩ := hbt.1 hb
   refine wp_skip ?_
   refine zAb hK ?_; clear hK K
   refine wp_seq_k ?_; intro K hK
   refine zAa ?_
   refine zd E ?_; clear E a; intro a E
   refine wpList_nil ?_
   refine zAb hK ?_; clear hK K
   iterate 2 (refine wp_seq_k ?_; intro K hK)
   refine zAa ?_
   refine zp E (by first | exact zAc (q := 0) E rfl rfl rfl | exact zAd (q := 0) E rfl rfl rfl) ?_; clear E a; intro a E
   refine zd E ?_; clear E a; intro a E
   rcases (show k = 1 ∨ k = 2 ∨ k = 3 by omega) with rfl | rfl | rfl
   ·skip
    refine zd E ?_; clear E a; intro a E
    refine wpList_nil ?_
    refine zAb hK ?_; clear hK K
    refine zCk E rfl (dZ) ?_
    refine zAa ?_
    refine zd E ?_; clear E a; intro a E
    refine wpList_nil ?_
    refine zAb hK ?_; clear hK K
    refine wp_seq_k ?_; intro K hK
    refine zAw S (.ofL [(0, 0), (1, 0), (2, 0), (3, 0), (4, 0), (5, 0), (6, 0), (7, 0), (8, 0), (9, 0), (10, 0), (11, 0), (12, 0), (13, 0)]) yZ yZ ?_
    clear S; intro w S
    refine zm E rfl (fun w h => by first | exact zAc (q := 1) E rfl rfl rfl | exact zAd (q := 1) E rfl rfl rfl) ?_; clear E a; intro a E
    refine zmd E ?_; clear E a; intro a E
    refine zm E rfl (fun w h => by first | exact zAc (q := 0) E rfl rfl rfl | exact zAd (q := 0) E rfl rfl rfl) ?_; clear E a; intro a E
    refine zmd E ?_; clear E a; intro a E
    refine zm E rfl (fun w h => zAm (i := 1) E rfl rfl rfl rfl rfl rfl oZ) ?_; clear E a; intro a E
    iterate 3 (refine zmd E ?_; clear E a; intro a E)
    refine zAr E (t := 34) rfl (fun hb34 => ?_) (fun hb34 => ?_)
    ·have hb34n := hb34; replace hb34n := Nrm.nrm hb34n
     refine zAe E rfl rfl rfl rfl rfl hb34 rfl dZ (fun w h => by first | exact zAc (q := 1) E rfl rfl rfl | exact zAd (q := 1) E rfl rfl rfl) ?_; clear E a; intro a E
     refine zAe E rfl rfl rfl rfl rfl hb34 rfl dZ (fun w h => by first | exact zCl E rfl rfl rfl (h.one mZ) rfl | exact zAo E rfl rfl rfl (by assumption)) ?_; clear E a; intro a E
     refine zAe E rfl rfl rfl rfl rfl hb34 rfl dZ (fun w h => zCp E rfl rfl) ?_; clear E a; intro a E
     refine zAe E rfl rfl rfl rfl rfl hb34 rfl dZ (fun w h => zLl E rfl rfl rfl) ?_; clear E a; intro a E
     refine zm E rfl (fun w h => zAi E rfl rfl hb34 rfl) ?_; clear E a; intro a E
     refine zmd E ?_; clear E a; intro a E
     refine zBd ?_
     refine zAb hK ?_; clear hK K
     refine wp_ret ?_
     refine ret1 E rfl rfl ?_
     exact ⟨_, rfl, by congr 1; rw [Bool.eq_iff_iff, decide_eq_true_eq (p := Tp.made _)]; unfold Tp.made; simp; omega, (S.only (Bs := []) sZ).tr⟩
    ·have hb34n := hb34; replace hb34n := Nrm.nrm hb34n
     iterate 4 (refine zBb E rfl rfl rfl rfl rfl hb34 rfl dZ ?_; clear E a; intro a E)
     refine zm E rfl (fun w h => zAk E rfl rfl hb34 rfl) ?_; clear E a; intro a E
     refine zmd E ?_; clear E a; intro a E
     refine zBd ?_
     refine zAb hK ?_; clear hK K
     refine wp_ret ?_
     refine ret1 E rfl rfl ?_
     exact ⟨_, rfl, by congr 1; rw [Bool.eq_iff_iff, decide_eq_true_eq (p := Tp.made _)]; unfold Tp.made; simp; omega, (S.only (Bs := []) sZ).tr⟩
   ·skip
    refine zd E ?_; clear E a; intro a E
    refine wpList_nil ?_
    refine zAb hK ?_; clear hK K
    refine zAt E rfl (dZ) ?_
    refine wp_skip ?_
    refine zAb hK ?_; clear hK K
    refine wp_seq_k ?_; intro K hK
    refine zAw S (.ofL [(0, 0), (1, 0), (2, 0), (3, 0), (4, 0), (5, 0), (6, 0), (7, 0), (8, 0), (9, 0), (10, 0), (11, 0), (12, 0), (13, 0)]) yZ yZ ?_
    clear S; intro w S
    refine zm E rfl (fun w h => by first | exact zAc (q := 1) E rfl rfl rfl | exact zAd (q := 1) E rfl rfl rfl) ?_; clear E a; intro a E
    refine zmd E ?_; clear E a; intro a E
    refine zm E rfl (fun w h => by first | exact zAc (q := 0) E rfl rfl rfl | exact zAd (q := 0) E rfl rfl rfl) ?_; clear E a; intro a E
    refine zmd E ?_; clear E a; intro a E
    refine zm E rfl (fun w h => zAm (i := 2) E rfl rfl rfl rfl rfl rfl oZ) ?_; clear E a; intro a E
    iterate 3 (refine zmd E ?_; clear E a; intro a E)
    refine zAr E (t := 34) rfl (fun hb34 => ?_) (fun hb34 => ?_)
    ·have hb34n := hb34; replace hb34n := Nrm.nrm hb34n
     refine zAe E rfl rfl rfl rfl rfl hb34 rfl dZ (fun w h => by first | exact zAc (q := 1) E rfl rfl rfl | exact zAd (q := 1) E rfl rfl rfl) ?_; clear E a; intro a E
     refine zAe E rfl rfl rfl rfl rfl hb34 rfl dZ (fun w h => by first | exact zCl E rfl rfl rfl (h.one mZ) rfl | exact zAo E rfl rfl rfl (by assumption)) ?_; clear E a; intro a E
     refine zAe E rfl rfl rfl rfl rfl hb34 rfl dZ (fun w h => zCp E rfl rfl) ?_; clear E a; intro a E
     refine zAe E rfl rfl rfl rfl rfl hb34 rfl dZ (fun w h => zLl E rfl rfl rfl) ?_; clear E a; intro a E
     refine zm E rfl (fun w h => zAi E rfl rfl hb34 rfl) ?_; clear E a; intro a E
     refine zmd E ?_; clear E a; intro a E
     refine zBd ?_
     refine zAb hK ?_; clear hK K
     refine wp_ret ?_
     refine ret1 E rfl rfl ?_
     exact ⟨_, rfl, by congr 1; rw [Bool.eq_iff_iff, decide_eq_true_eq (p := Tp.made _)]; unfold Tp.made; simp; omega, (S.only (Bs := []) sZ).tr⟩
    ·have hb34n := hb34; replace hb34n := Nrm.nrm hb34n
     iterate 4 (refine zBb E rfl rfl rfl rfl rfl hb34 rfl dZ ?_; clear E a; intro a E)
     refine zm E rfl (fun w h => zAk E rfl rfl hb34 rfl) ?_; clear E a; intro a E
     refine zmd E ?_; clear E a; intro a E
     refine zBd ?_
     refine zAb hK ?_; clear hK K
     refine wp_ret ?_
     refine ret1 E rfl rfl ?_
     exact ⟨_, rfl, by congr 1; rw [Bool.eq_iff_iff, decide_eq_true_eq (p := Tp.made _)]; unfold Tp.made; simp; omega, (S.only (Bs := []) sZ).tr⟩
   ·skip
    refine zd E ?_; clear E a; intro a E
    refine wpList_nil ?_
    refine zAb hK ?_; clear hK K
    refine zAt E rfl (dZ) ?_
    refine wp_skip ?_
    refine zAb hK ?_; clear hK K
    refine wp_seq_k ?_; intro K hK
    refine zAw S (.ofL [(0, 0), (1, 0), (2, 0), (3, 0), (4, 0), (5, 0), (6, 0), (7, 0), (8, 0), (9, 0), (10, 0), (11, 0), (12, 0), (13, 0)]) yZ yZ ?_
    clear S; intro w S
    refine zm E rfl (fun w h => by first | exact zAc (q := 1) E rfl rfl rfl | exact zAd (q := 1) E rfl rfl rfl) ?_; clear E a; intro a E
    refine zmd E ?_; clear E a; intro a E
    refine zm E rfl (fun w h => by first | exact zAc (q := 0) E rfl rfl rfl | exact zAd (q := 0) E rfl rfl rfl) ?_; clear E a; intro a E
    refine zmd E ?_; clear E a; intro a E
    refine zm E rfl (fun w h => zAm (i := 3) E rfl rfl rfl rfl rfl rfl oZ) ?_; clear E a; intro a E
    iterate 3 (refine zmd E ?_; clear E a; intro a E)
    refine zAr E (t := 34) rfl (fun hb34 => ?_) (fun hb34 => ?_)
    ·have hb34n := hb34; replace hb34n := Nrm.nrm hb34n
     refine zAe E rfl rfl rfl rfl rfl hb34 rfl dZ (fun w h => by first | exact zAc (q := 1) E rfl rfl rfl | exact zAd (q := 1) E rfl rfl rfl) ?_; clear E a; intro a E
     refine zAe E rfl rfl rfl rfl rfl hb34 rfl dZ (fun w h => by first | exact zCl E rfl rfl rfl (h.one mZ) rfl | exact zAo E rfl rfl rfl (by assumption)) ?_; clear E a; intro a E
     refine zAe E rfl rfl rfl rfl rfl hb34 rfl dZ (fun w h => zCp E rfl rfl) ?_; clear E a; intro a E
     refine zAe E rfl rfl rfl rfl rfl hb34 rfl dZ (fun w h => zLl E rfl rfl rfl) ?_; clear E a; intro a E
     refine zm E rfl (fun w h => zAi E rfl rfl hb34 rfl) ?_; clear E a; intro a E
     refine zmd E ?_; clear E a; intro a E
     refine zBd ?_
     refine zAb hK ?_; clear hK K
     refine wp_ret ?_
     refine ret1 E rfl rfl ?_
     exact ⟨_, rfl, by congr 1; rw [Bool.eq_iff_iff, decide_eq_true_eq (p := Tp.made _)]; unfold Tp.made; simp; omega, (S.only (Bs := []) sZ).tr⟩
    ·have hb34n := hb34; replace hb34n := Nrm.nrm hb34n
     iterate 4 (refine zBb E rfl rfl rfl rfl rfl hb34 rfl dZ ?_; clear E a; intro a E)
     refine zm E rfl (fun w h => zAk E rfl rfl hb34 rfl) ?_; clear E a; intro a E
     refine zmd E ?_; clear E a; intro a E
     refine zBd ?_
     refine zAb hK ?_; clear hK K
     refine wp_ret ?_
     refine ret1 E rfl rfl ?_
     exact ⟨_, rfl, by congr 1; rw [Bool.eq_iff_iff, decide_eq_true_eq (p := Tp.made _)]; unfold Tp.made; simp; omega, (S.only (Bs := []) sZ).tr⟩
theorem dmade_ret (t : Tp) (w0 : World) : Ret Tryz.prog 106 #[t.agg] w0 fun u w' => u = .bool (decide t.made) ∧ Trs w0 w' [] [] := by
 have S := St.begin (zDz w0)
 obtain ⟨k, lv, sc⟩ := t
 change Ret Tryz.prog _ #[.agg #[.int .i64 k, .int .i64 lv, .int .i64 sc]] w0 _
 refine zCh 44 Tryz.func106 rfl rfl dZ ?_; intro a E
 refine wp_seq_k ?_; intro K hK
 refine zAa ?_
 refine zAf rfl (zBz E S rfl rfl dZ rfl rfl ?_); clear E S a; intro a w b1 E S
 refine zd E ?_; clear E a; intro a E
 refine wpList_nil ?_
 refine zAb hK ?_; clear hK K
 iterate 2 (refine wp_seq_k ?_; intro K hK)
 refine zDl (fun (a : Act) (w' : World) => ∃ bt : Bool, (bt = false ↔ 324 ≤ sc ∧ sc ≤ 8192 ∧ lv ≤ 5) ∧ (∃ Ls, St w0 [] w' ([(b1, cel [.int .i64 k, .int .i64 lv, .int .i64 sc] 144)] :: Ls)) ∧ Fr a 44 [(1, ptr b1), (15, .bool bt)]) ?_ ?_
 ·skip
  refine zAa ?_
  refine zp E (by first | exact zAc (q := 2) E rfl rfl rfl | exact zAd (q := 2) E rfl rfl rfl) ?_; clear E a; intro a E
  iterate 3 (refine zd E ?_; clear E a; intro a E)
  refine zAr E (t := 6) rfl (fun hb6 => ?_) (fun hb6 => ?_)
  ·have hb6n := hb6; replace hb6n := Nrm.nrm hb6n
   iterate 3 (refine zn E hb6 ?_; clear E a; intro a E)
   refine zp E (zAi E rfl rfl hb6 rfl) ?_; clear E a; intro a E
   refine zd E ?_; clear E a; intro a E
   iterate 3 (refine zn E rfl ?_; clear E a; intro a E)
   refine zp E (zAi E rfl rfl rfl rfl) ?_; clear E a; intro a E
   refine wpList_nil ?_
   refine zAx ?_
   exact ⟨_, by simp; omega, ⟨_, S.front1 pZ⟩, E.keep (kE2 rfl rfl)⟩
  ·have hb6n := hb6; replace hb6n := Nrm.nrm hb6n
   refine zy E hb6 (by first | exact zAc (q := 2) E rfl rfl rfl | exact zAd (q := 2) E rfl rfl rfl) ?_; clear E a; intro a E
   iterate 2 (refine zyd E hb6 ?_; clear E a; intro a E)
   refine zp E (zAk E rfl rfl hb6 rfl) ?_; clear E a; intro a E
   refine zd E ?_; clear E a; intro a E
   refine zAr E (t := 11) rfl (fun hb11 => ?_) (fun hb11 => ?_)
   ·have hb11n := hb11; replace hb11n := Nrm.nrm hb11n
    iterate 3 (refine zn E hb11 ?_; clear E a; intro a E)
    refine zp E (zAi E rfl rfl hb11 rfl) ?_; clear E a; intro a E
    refine wpList_nil ?_
    refine zAx ?_
    exact ⟨_, by simp; omega, ⟨_, S.front1 pZ⟩, E.keep (kE2 rfl rfl)⟩
   ·have hb11n := hb11; replace hb11n := Nrm.nrm hb11n
    refine zy E hb11 (by first | exact zAc (q := 1) E rfl rfl rfl | exact zAd (q := 1) E rfl rfl rfl) ?_; clear E a; intro a E
    iterate 2 (refine zyd E hb11 ?_; clear E a; intro a E)
    refine zp E (zAk E rfl rfl hb11 rfl) ?_; clear E a; intro a E
    refine wpList_nil ?_
    refine zAx ?_
    exact ⟨_, by simp; omega, ⟨_, S.front1 pZ⟩, E.keep (kE2 rfl rfl)⟩
 ·clear E S a; intro a w J; obtain ⟨bt, hbt, ⟨Ls, S⟩, E⟩ := J
  refine zAb hK ?_; clear hK K
  refine zAs E rfl (fun hb => ?_) (fun hb => ?_)
  ·replace hb := Nrm.nrm hb
   have hno : ¬ (324 ≤ sc ∧ sc ≤ 8192 ∧ lv ≤ 5) := (fun q => by rw [hbt.2 q] at hb; cases hb)
   refine wp_seq_k ?_; intro K hK
   refine zAa ?_
   refine zd E ?_; clear E a; intro a E
   refine wpList_nil ?_
   refine zAb hK ?_; clear hK K
   refine wp_ret ?_
   refine zBc ?_; clear hK K
   refine ret1 E rfl rfl ?_
   exact ⟨_, rfl, by rw [decide_eq_false]; unfold Tp.made; simp only; omega, (S.only (Bs := []) sZ).tr⟩
  ·replace hb := Nrm.nrm hb
   obtain ⟨h1, h2, h3⟩ := hbt.1 hb
   refine wp_skip ?_
   refine zAb hK ?_; clear hK K
   refine wp_seq_k ?_; intro K hK
   refine zAa ?_
   refine zp E (by first | exact zAc (q := 0) E rfl rfl rfl | exact zAd (q := 0) E rfl rfl rfl) ?_; clear E a; intro a E
   iterate 3 (refine zd E ?_; clear E a; intro a E)
   refine zAr E (t := 19) rfl (fun hb19 => ?_) (fun hb19 => ?_)
   ·have hb19n := hb19; replace hb19n := Nrm.nrm hb19n
    refine zy E hb19 (by first | exact zAc (q := 1) E rfl rfl rfl | exact zAd (q := 1) E rfl rfl rfl) ?_; clear E a; intro a E
    iterate 2 (refine zyd E hb19 ?_; clear E a; intro a E)
    refine zp E (zAi E rfl rfl hb19 rfl) ?_; clear E a; intro a E
    refine zd E ?_; clear E a; intro a E
    refine zAr E (t := 24) rfl (fun hb24 => ?_) (fun hb24 => ?_)
    ·have hb24n := hb24; replace hb24n := Nrm.nrm hb24n
     iterate 4 (refine zn E hb24 ?_; clear E a; intro a E)
     iterate 3 (refine zu E ?_; clear E a; intro a E)
     refine zn E hb24 ?_; clear E a; intro a E
     refine zp E (zAi E rfl rfl hb24 rfl) ?_; clear E a; intro a E
     refine zd E ?_; clear E a; intro a E
     iterate 4 (refine zn E rfl ?_; clear E a; intro a E)
     iterate 3 (refine zu E ?_; clear E a; intro a E)
     refine zn E rfl ?_; clear E a; intro a E
     refine zp E (zAi E rfl rfl rfl rfl) ?_; clear E a; intro a E
     refine zd E ?_; clear E a; intro a E
     refine wpList_nil ?_
     refine zAb hK ?_; clear hK K
     refine wp_ret ?_
     refine ret1 E rfl rfl ?_
     exact ⟨_, rfl, by congr 1; rw [Bool.eq_iff_iff, decide_eq_true_eq (p := Tp.made _)]; unfold Tp.made; simp; omega, (S.only (Bs := []) sZ).tr⟩
    ·have hb24n := hb24; replace hb24n := Nrm.nrm hb24n
     refine zy E hb24 (by first | exact zAc (q := 0) E rfl rfl rfl | exact zAd (q := 0) E rfl rfl rfl) ?_; clear E a; intro a E
     iterate 3 (refine zyd E hb24 ?_; clear E a; intro a E)
     refine zAr E (t := 28) rfl (fun hb28 => ?_) (fun hb28 => ?_)
     ·have hb28n := hb28; replace hb28n := Nrm.nrm hb28n
      refine zy E hb28 (by first | exact zAc (q := 1) E rfl rfl rfl | exact zAd (q := 1) E rfl rfl rfl) ?_; clear E a; intro a E
      iterate 2 (refine zyd E hb28 ?_; clear E a; intro a E)
      refine zy E hb24 (zAi E rfl rfl hb28 rfl) ?_; clear E a; intro a E
      refine zp E (zAk E rfl rfl hb24 rfl) ?_; clear E a; intro a E
      refine zd E ?_; clear E a; intro a E
      refine zAr E (t := 34) rfl (fun hb34 => ?_) (fun hb34 => ?_)
      ·have hb34n := hb34; replace hb34n := Nrm.nrm hb34n
       iterate 4 (refine zn E hb34 ?_; clear E a; intro a E)
       iterate 3 (refine zu E ?_; clear E a; intro a E)
       refine zn E hb34 ?_; clear E a; intro a E
       refine zp E (zAi E rfl rfl hb34 rfl) ?_; clear E a; intro a E
       refine zd E ?_; clear E a; intro a E
       refine wpList_nil ?_
       refine zAb hK ?_; clear hK K
       refine wp_ret ?_
       refine ret1 E rfl rfl ?_
       exact ⟨_, rfl, by congr 1; rw [Bool.eq_iff_iff, decide_eq_true_eq (p := Tp.made _)]; unfold Tp.made; simp; omega, (S.only (Bs := []) sZ).tr⟩
      ·have hb34n := hb34; replace hb34n := Nrm.nrm hb34n
       refine zy E hb34 (by first | exact zAc (q := 0) E rfl rfl rfl | exact zAd (q := 0) E rfl rfl rfl) ?_; clear E a; intro a E
       iterate 3 (refine zyd E hb34 ?_; clear E a; intro a E)
       refine zAr E (t := 38) rfl (fun hb38 => ?_) (fun hb38 => ?_)
       ·have hb38n := hb38; replace hb38n := Nrm.nrm hb38n
        refine zy E hb38 (by first | exact zAc (q := 1) E rfl rfl rfl | exact zAd (q := 1) E rfl rfl rfl) ?_; clear E a; intro a E
        iterate 2 (refine zyd E hb38 ?_; clear E a; intro a E)
        refine zy E hb34 (zAi E rfl rfl hb38 rfl) ?_; clear E a; intro a E
        refine zp E (zAk E rfl rfl hb34 rfl) ?_; clear E a; intro a E
        refine zd E ?_; clear E a; intro a E
        refine wpList_nil ?_
        refine zAb hK ?_; clear hK K
        refine wp_ret ?_
        refine ret1 E rfl rfl ?_
        exact ⟨_, rfl, by congr 1; rw [Bool.eq_iff_iff, decide_eq_true_eq (p := Tp.made _)]; unfold Tp.made; simp; omega, (S.only (Bs := []) sZ).tr⟩
       ·have hb38n := hb38; replace hb38n := Nrm.nrm hb38n
        iterate 3 (refine zn E hb38 ?_; clear E a; intro a E)
        refine zy E hb34 (zAk E rfl rfl hb38 rfl) ?_; clear E a; intro a E
        refine zp E (zAk E rfl rfl hb34 rfl) ?_; clear E a; intro a E
        refine zd E ?_; clear E a; intro a E
        refine wpList_nil ?_
        refine zAb hK ?_; clear hK K
        refine wp_ret ?_
        refine ret1 E rfl rfl ?_
        exact ⟨_, rfl, by congr 1; rw [Bool.eq_iff_iff, decide_eq_true_eq (p := Tp.made _)]; unfold Tp.made; simp; omega, (S.only (Bs := []) sZ).tr⟩
     ·have hb28n := hb28; replace hb28n := Nrm.nrm hb28n
      iterate 3 (refine zn E hb28 ?_; clear E a; intro a E)
      refine zy E hb24 (zAk E rfl rfl hb28 rfl) ?_; clear E a; intro a E
      refine zp E (zAk E rfl rfl hb24 rfl) ?_; clear E a; intro a E
      refine zd E ?_; clear E a; intro a E
      refine zy E rfl (by first | exact zAc (q := 0) E rfl rfl rfl | exact zAd (q := 0) E rfl rfl rfl) ?_; clear E a; intro a E
      iterate 3 (refine zyd E rfl ?_; clear E a; intro a E)
      refine zAr E (t := 38) rfl (fun hb38 => ?_) (fun hb38 => ?_)
      ·have hb38n := hb38; replace hb38n := Nrm.nrm hb38n
       refine zy E hb38 (by first | exact zAc (q := 1) E rfl rfl rfl | exact zAd (q := 1) E rfl rfl rfl) ?_; clear E a; intro a E
       iterate 2 (refine zyd E hb38 ?_; clear E a; intro a E)
       refine zy E rfl (zAi E rfl rfl hb38 rfl) ?_; clear E a; intro a E
       refine zp E (zAk E rfl rfl rfl rfl) ?_; clear E a; intro a E
       refine zd E ?_; clear E a; intro a E
       refine wpList_nil ?_
       refine zAb hK ?_; clear hK K
       refine wp_ret ?_
       refine ret1 E rfl rfl ?_
       exact ⟨_, rfl, by congr 1; rw [Bool.eq_iff_iff, decide_eq_true_eq (p := Tp.made _)]; unfold Tp.made; simp; omega, (S.only (Bs := []) sZ).tr⟩
      ·have hb38n := hb38; replace hb38n := Nrm.nrm hb38n
       iterate 3 (refine zn E hb38 ?_; clear E a; intro a E)
       refine zy E rfl (zAk E rfl rfl hb38 rfl) ?_; clear E a; intro a E
       refine zp E (zAk E rfl rfl rfl rfl) ?_; clear E a; intro a E
       refine zd E ?_; clear E a; intro a E
       refine wpList_nil ?_
       refine zAb hK ?_; clear hK K
       refine wp_ret ?_
       refine ret1 E rfl rfl ?_
       exact ⟨_, rfl, by congr 1; rw [Bool.eq_iff_iff, decide_eq_true_eq (p := Tp.made _)]; unfold Tp.made; simp; omega, (S.only (Bs := []) sZ).tr⟩
   ·have hb19n := hb19; replace hb19n := Nrm.nrm hb19n
    iterate 3 (refine zn E hb19 ?_; clear E a; intro a E)
    refine zp E (zAk E rfl rfl hb19 rfl) ?_; clear E a; intro a E
    refine zd E ?_; clear E a; intro a E
    refine zy E rfl (by first | exact zAc (q := 0) E rfl rfl rfl | exact zAd (q := 0) E rfl rfl rfl) ?_; clear E a; intro a E
    iterate 3 (refine zyd E rfl ?_; clear E a; intro a E)
    refine zAr E (t := 28) rfl (fun hb28 => ?_) (fun hb28 => ?_)
    ·have hb28n := hb28; replace hb28n := Nrm.nrm hb28n
     refine zy E hb28 (by first | exact zAc (q := 1) E rfl rfl rfl | exact zAd (q := 1) E rfl rfl rfl) ?_; clear E a; intro a E
     iterate 2 (refine zyd E hb28 ?_; clear E a; intro a E)
     refine zy E rfl (zAi E rfl rfl hb28 rfl) ?_; clear E a; intro a E
     refine zp E (zAk E rfl rfl rfl rfl) ?_; clear E a; intro a E
     refine zd E ?_; clear E a; intro a E
     refine zAr E (t := 34) rfl (fun hb34 => ?_) (fun hb34 => ?_)
     ·have hb34n := hb34; replace hb34n := Nrm.nrm hb34n
      iterate 4 (refine zn E hb34 ?_; clear E a; intro a E)
      iterate 3 (refine zu E ?_; clear E a; intro a E)
      refine zn E hb34 ?_; clear E a; intro a E
      refine zp E (zAi E rfl rfl hb34 rfl) ?_; clear E a; intro a E
      refine zd E ?_; clear E a; intro a E
      refine wpList_nil ?_
      refine zAb hK ?_; clear hK K
      refine wp_ret ?_
      refine ret1 E rfl rfl ?_
      exact ⟨_, rfl, by congr 1; rw [Bool.eq_iff_iff, decide_eq_true_eq (p := Tp.made _)]; unfold Tp.made; simp; omega, (S.only (Bs := []) sZ).tr⟩
     ·have hb34n := hb34; replace hb34n := Nrm.nrm hb34n
      refine zy E hb34 (by first | exact zAc (q := 0) E rfl rfl rfl | exact zAd (q := 0) E rfl rfl rfl) ?_; clear E a; intro a E
      iterate 3 (refine zyd E hb34 ?_; clear E a; intro a E)
      refine zAr E (t := 38) rfl (fun hb38 => ?_) (fun hb38 => ?_)
      ·have hb38n := hb38; replace hb38n := Nrm.nrm hb38n
       refine zy E hb38 (by first | exact zAc (q := 1) E rfl rfl rfl | exact zAd (q := 1) E rfl rfl rfl) ?_; clear E a; intro a E
       iterate 2 (refine zyd E hb38 ?_; clear E a; intro a E)
       refine zy E hb34 (zAi E rfl rfl hb38 rfl) ?_; clear E a; intro a E
       refine zp E (zAk E rfl rfl hb34 rfl) ?_; clear E a; intro a E
       refine zd E ?_; clear E a; intro a E
       refine wpList_nil ?_
       refine zAb hK ?_; clear hK K
       refine wp_ret ?_
       refine ret1 E rfl rfl ?_
       exact ⟨_, rfl, by congr 1; rw [Bool.eq_iff_iff, decide_eq_true_eq (p := Tp.made _)]; unfold Tp.made; simp; omega, (S.only (Bs := []) sZ).tr⟩
      ·have hb38n := hb38; replace hb38n := Nrm.nrm hb38n
       iterate 3 (refine zn E hb38 ?_; clear E a; intro a E)
       refine zy E hb34 (zAk E rfl rfl hb38 rfl) ?_; clear E a; intro a E
       refine zp E (zAk E rfl rfl hb34 rfl) ?_; clear E a; intro a E
       refine zd E ?_; clear E a; intro a E
       refine wpList_nil ?_
       refine zAb hK ?_; clear hK K
       refine wp_ret ?_
       refine ret1 E rfl rfl ?_
       exact ⟨_, rfl, by congr 1; rw [Bool.eq_iff_iff, decide_eq_true_eq (p := Tp.made _)]; unfold Tp.made; simp; omega, (S.only (Bs := []) sZ).tr⟩
    ·have hb28n := hb28; replace hb28n := Nrm.nrm hb28n
     iterate 3 (refine zn E hb28 ?_; clear E a; intro a E)
     refine zy E rfl (zAk E rfl rfl hb28 rfl) ?_; clear E a; intro a E
     refine zp E (zAk E rfl rfl rfl rfl) ?_; clear E a; intro a E
     refine zd E ?_; clear E a; intro a E
     refine zy E rfl (by first | exact zAc (q := 0) E rfl rfl rfl | exact zAd (q := 0) E rfl rfl rfl) ?_; clear E a; intro a E
     iterate 3 (refine zyd E rfl ?_; clear E a; intro a E)
     refine zAr E (t := 38) rfl (fun hb38 => ?_) (fun hb38 => ?_)
     ·have hb38n := hb38; replace hb38n := Nrm.nrm hb38n
      refine zy E hb38 (by first | exact zAc (q := 1) E rfl rfl rfl | exact zAd (q := 1) E rfl rfl rfl) ?_; clear E a; intro a E
      iterate 2 (refine zyd E hb38 ?_; clear E a; intro a E)
      refine zy E rfl (zAi E rfl rfl hb38 rfl) ?_; clear E a; intro a E
      refine zp E (zAk E rfl rfl rfl rfl) ?_; clear E a; intro a E
      refine zd E ?_; clear E a; intro a E
      refine wpList_nil ?_
      refine zAb hK ?_; clear hK K
      refine wp_ret ?_
      refine ret1 E rfl rfl ?_
      exact ⟨_, rfl, by congr 1; rw [Bool.eq_iff_iff, decide_eq_true_eq (p := Tp.made _)]; unfold Tp.made; simp; omega, (S.only (Bs := []) sZ).tr⟩
     ·have hb38n := hb38; replace hb38n := Nrm.nrm hb38n
      iterate 3 (refine zn E hb38 ?_; clear E a; intro a E)
      refine zy E rfl (zAk E rfl rfl hb38 rfl) ?_; clear E a; intro a E
      refine zp E (zAk E rfl rfl rfl rfl) ?_; clear E a; intro a E
      refine zd E ?_; clear E a; intro a E
      refine wpList_nil ?_
      refine zAb hK ?_; clear hK K
      refine wp_ret ?_
      refine ret1 E rfl rfl ?_
      exact ⟨_, rfl, by congr 1; rw [Bool.eq_iff_iff, decide_eq_true_eq (p := Tp.made _)]; unfold Tp.made; simp; omega, (S.only (Bs := []) sZ).tr⟩
theorem notmade_ret (t : Tp) (w0 : World) : Ret Tryz.prog 103 #[t.agg] w0 fun u w' => u = .bool (!decide t.made) ∧ Trs w0 w' [] [] := by
 have S := St.begin (zDz w0)
 refine zCh 6 Tryz.func103 rfl rfl dZ ?_; intro a E
 refine wp_seq_k ?_; intro K hK
 refine zAa ?_
 refine zAf rfl (zBz E S rfl rfl dZ rfl rfl ?_); clear E S a; intro a w b1 E S
 refine zd E ?_; clear E a; intro a E
 refine wpList_nil ?_
 refine zAb hK ?_; clear hK K
 refine wp_seq_k ?_; intro K hK
 refine zAa ?_
 refine zp E (zBf (vs := [_, _, _]) E rfl rfl rfl (S.get pZ) rfl rfl) ?_; clear E a; intro a E
 refine zAg E rfl rfl dZ rfl Tryz.func104 rfl yZ rfl (made_ret t _) ?_
 rintro v4 w ⟨rfl, hT⟩; clear E a; intro a E
 have S := S.quiet hT
 iterate 2 (refine zd E ?_; clear E a; intro a E)
 refine wpList_nil ?_
 refine zAb hK ?_; clear hK K
 refine wp_ret ?_
 refine ret1 E rfl rfl ?_
 exact ⟨_, rfl, rfl, (S.only (Bs := []) sZ).tr⟩
theorem topindex_ret (O : zAj) (v : Value) (l : List Tp) (hO : Rd O 3 v l.length (l.flatMap Tp.lay)) (w0 : World) (H : Hp w0 [O]) :
  Ret Tryz.prog 119 #[v, .func (.func 103) #[] #[]] w0 fun u w' => ∃ r : Int, u = .int .i64 r ∧ (0 ≤ r ↔ ¬ ∀ t ∈ l, t.made) ∧ Trs w0 w' [O] [O] := by
 have S := St.begin H
 have hmx := hO.2.2.1
 simp only [maxLen] at hmx
 obtain ⟨ad, c, rfl⟩ := hO.slice
 refine zBx 19 Tryz.func119 rfl rfl dZ ?_; intro a E
 refine wp_seq_k ?_; intro K hK
 refine zAa ?_
 refine zd E ?_; clear E a; intro a E
 refine wpList_nil ?_
 refine zAb hK ?_; clear hK K
 iterate 2 (refine wp_seq_k ?_; intro K hK)
 refine zAa ?_
 iterate 3 (refine zd E ?_; clear E a; intro a E)
 refine wpList_nil ?_
 refine zAb hK ?_; clear hK K
 refine wp_block ?_
 refine wp_loop_ghost (fun (m : Nat) (a : Act) (w' : World) => ∃ i : Nat, m = l.length - i ∧ i ≤ l.length ∧ (∀ j (hj : j < l.length), j < i → l[j].made) ∧ St w0 [O] w' [O] ∧ Fr a 19 [(0, .slice ad l.length c), (1, .func (.func 103) #[] #[]), (7, .int .i64 l.length), (8, .int .i64 i)]) (l.length - 0) ?_ ?_
 ·exact ⟨0, rfl, by omega, fun j _ h => by omega, S, E.keep (kE4 rfl rfl rfl rfl)⟩
 clear E; clear a; (try clear S); rintro m a w ⟨i, rfl, hi, hm, S, E⟩
 refine wp_seq_k ?_; intro K hK
 refine zAa ?_
 refine zd E ?_; clear E a; intro a E
 refine wpList_nil ?_
 refine zAb hK ?_; clear hK K
 refine wp_seq_k ?_; intro K hK
 refine zAs E rfl (fun hb => ?_) (fun hb => ?_)
 ·replace hb := Nrm.nrm hb
  refine wp_skip ?_
  refine zAb hK ?_; clear hK K
  refine wp_seq_k ?_; intro K hK
  refine wp_block ?_
  refine wp_seq_k ?_; intro K hK
  refine zAa ?_
  iterate 2 (refine zd E ?_; clear E a; intro a E)
  refine wpList_nil ?_
  refine zAb hK ?_; clear hK K
  refine wp_seq_k ?_; intro K hK
  have hib : i < l.length := by omega
  obtain ⟨g, off, rfl⟩ := hO.addr oZ
  refine zAa ?_
  iterate 3 (refine zd E ?_; clear E a; intro a E)
  refine zp E (by first | exact zAp E rfl rfl rfl rfl rfl rfl oZ | exact zAz E rfl rfl rfl rfl rfl rfl oZ | exact zAm E rfl rfl rfl rfl rfl rfl oZ) ?_; clear E a; intro a E
  refine zp E (zDx (vs := [_, _, _]) E rfl rfl rfl rfl (hO.elem (lay := Tp.lay) Tp.lay_len (S.stab.at mZ) (i := i) hib)) ?_; clear E a; intro a E
  refine zCy E rfl rfl dZ rfl rfl Tryz.func103 rfl yZ rfl (notmade_ret (l[i]'hib) _) ?_
  rintro v16 w ⟨rfl, hT⟩; clear E a; intro a E
  have S := S.quiet hT
  refine wpList_nil ?_
  refine zAb hK ?_; clear hK K
  refine zAs E rfl (fun hb => ?_) (fun hb => ?_)
  ·replace hb := Nrm.nrm hb
   have hno : ¬ (l[i]'hib).made := (by simpa using hb)
   refine wp_seq_k ?_; intro K hK
   refine zAa ?_
   iterate 2 (refine zd E ?_; clear E a; intro a E)
   refine wpList_nil ?_
   refine zAb hK ?_; clear hK K
   refine wp_ret ?_
   refine zDr ?_
   refine zBc ?_; clear hK K
   refine zBc ?_
   refine zDr ?_
   refine zBc ?_; clear hK K
   refine ret1 E rfl rfl ?_
   exact ⟨_, rfl, _, rfl, ⟨fun _ q => hno (q _ (List.getElem_mem hib)), fun _ => by omega⟩, S.tr⟩
  ·replace hb := Nrm.nrm hb
   have hyes : (l[i]'hib).made := (by simpa using hb)
   refine wp_skip ?_
   refine zAq ?_
   refine zAb hK ?_; clear hK K
   refine zAa ?_
   refine zp E (zAy E rfl rfl rfl (by first | exact zBq (y := 1) oZ | exact w_in oZ | exact zBj oZ | exact rfl)) ?_; clear E a; intro a E
   refine zd E ?_; clear E a; intro a E
   refine wpList_nil ?_
   refine zAn ?_
   exact ⟨_, by omega, i + 1, rfl, by omega, fun j hj h => (by rcases Nat.lt_or_ge j i with c1 | c1; exact hm j hj c1; obtain rfl : j = i := oZ; exact hyes), S, E.keep (kE4 rfl rfl rfl rfl)⟩
 ·replace hb := Nrm.nrm hb
  refine wp_exit ?_
  refine zAl ?_; clear hK K
  refine zAl ?_
  refine zBi ?_
  refine zAb hK ?_; clear hK K
  refine wp_seq_k ?_; intro K hK
  refine zAa ?_
  refine zd E ?_; clear E a; intro a E
  refine wpList_nil ?_
  refine zAb hK ?_; clear hK K
  refine wp_ret ?_
  refine ret1 E rfl rfl ?_
  exact ⟨_, rfl, _, rfl, ⟨fun q => absurd q dZ, fun q => absurd (made_all hm oZ) q⟩, S.tr⟩
theorem topany_ret (O : zAj) (v : Value) (l : List Tp) (hO : Rd O 3 v l.length (l.flatMap Tp.lay)) (w0 : World) (H : Hp w0 [O]) :
  Ret Tryz.prog 102 #[v, .func (.func 103) #[] #[]] w0 fun u w' => u = .bool (!decide (∀ t ∈ l, t.made)) ∧ Trs w0 w' [O] [O] := by
 have S := St.begin H
 refine zBx 9 Tryz.func102 rfl rfl dZ ?_; intro a E
 refine wp_seq_k ?_; intro K hK
 refine zAa ?_
 refine zd E ?_; clear E a; intro a E
 refine wpList_nil ?_
 refine zAb hK ?_; clear hK K
 refine wp_seq_k ?_; intro K hK
 refine zAa ?_
 iterate 2 (refine zd E ?_; clear E a; intro a E)
 refine zAg E rfl rfl dZ rfl Tryz.func119 rfl yZ rfl (topindex_ret O v l hO _ (S.hp.sel sZ)) ?_
 rintro v7 w ⟨r, rfl, hr, hT⟩; clear E a; intro a E
 have S := S.call1 sZ hT
 iterate 2 (refine zd E ?_; clear E a; intro a E)
 refine wpList_nil ?_
 refine zAb hK ?_; clear hK K
 refine wp_ret ?_
 refine ret1 E rfl rfl ?_
 have hx : decide ((0 : Int) ≤ r) = !decide (∀ t ∈ l, t.made) := by
  rw [Bool.eq_iff_iff, decide_eq_true_eq, hr]; simp
 exact ⟨_, rfl, by rw [← hx], S.tr⟩
theorem lbcheck_ret (O : zAj) (v : Value) (l : Lbl) (hO : Rd O 3 v l.tops.length (l.tops.flatMap Tp.lay)) (w0 : World) (H : Hp w0 [O]) :
  Ret Tryz.prog 85 #[lbagg l v] w0 fun u w' => u = .int .i64 (lbE l) ∧ Trs w0 w' [O] [O] := by
 have S := St.begin H
 have hO0 := hO
 obtain ⟨ad, c, rfl⟩ := hO.slice
 refine zCh 46 Tryz.func85 rfl rfl dZ ?_; intro a E
 refine wp_seq_k ?_; intro K hK
 refine zAa ?_
 refine zAf rfl (zBz E S rfl rfl dZ rfl rfl ?_); clear E S a; intro a w b1 E S
 refine zd E ?_; clear E a; intro a E
 refine wpList_nil ?_
 refine zAb hK ?_; clear hK K
 iterate 2 (refine wp_seq_k ?_; intro K hK)
 refine zDl (fun (a : Act) (w' : World) => ∃ bt : Bool, (bt = false ↔ l.half) ∧ St w0 [O] w' [[(b1, cel [.int .u64 l.pool, .slice ad l.tops.length c, .int .i64 l.top, .int .i64 l.place] 76)], O] ∧ Fr a 46 [(1, ptr b1), (42, .bool bt)]) ?_ ?_
 ·skip
  refine zAw S (.ofL [(0, 0), (1, 0), (2, 0), (3, 0), (4, 0), (5, 0), (6, 0), (7, 0), (8, 0), (9, 0), (10, 0), (11, 0), (12, 0), (13, 0), (14, 0), (15, 0), (16, 0), (17, 0), (18, 0), (19, 0), (20, 0), (21, 0), (22, 0), (23, 0), (24, 0), (25, 0), (26, 0), (27, 0), (28, 0), (29, 0), (30, 0), (31, 0), (32, 0), (33, 0), (34, 0), (35, 0), (36, 0), (37, 0), (38, 0), (39, 0)]) yZ yZ ?_
  clear S; intro w S
  refine zm E rfl (fun w h => by first | exact zAc (q := 1) E rfl rfl rfl | exact zAd (q := 1) E rfl rfl rfl) ?_; clear E a; intro a E
  iterate 4 (refine zmd E ?_; clear E a; intro a E)
  refine zAr E (t := 7) rfl (fun hb7 => ?_) (fun hb7 => ?_)
  ·have hb7n := hb7; replace hb7n := Nrm.nrm hb7n
   iterate 4 (refine zBb E rfl rfl rfl rfl rfl hb7 rfl dZ ?_; clear E a; intro a E)
   refine zm E rfl (fun w h => zAi E rfl rfl hb7 rfl) ?_; clear E a; intro a E
   refine zmd E ?_; clear E a; intro a E
   iterate 3 (refine zBb E rfl rfl rfl rfl rfl rfl rfl dZ ?_; clear E a; intro a E)
   refine zm E rfl (fun w h => zAi E rfl rfl rfl rfl) ?_; clear E a; intro a E
   refine zmd E ?_; clear E a; intro a E
   iterate 6 (refine zBb E rfl rfl rfl rfl rfl rfl rfl dZ ?_; clear E a; intro a E)
   refine zm E rfl (fun w h => zAi E rfl rfl rfl rfl) ?_; clear E a; intro a E
   refine zmd E ?_; clear E a; intro a E
   iterate 3 (refine zBb E rfl rfl rfl rfl rfl rfl rfl dZ ?_; clear E a; intro a E)
   refine zm E rfl (fun w h => zAi E rfl rfl rfl rfl) ?_; clear E a; intro a E
   refine zmd E ?_; clear E a; intro a E
   iterate 10 (refine zBb E rfl rfl rfl rfl rfl rfl rfl dZ ?_; clear E a; intro a E)
   refine zm E rfl (fun w h => zAi E rfl rfl rfl rfl) ?_; clear E a; intro a E
   refine zBd ?_
   refine zAx ?_
   exact ⟨_, by unfold Lbl.half; first | (simp; omega) | (rw [hgd]; simp; omega), S, E.keep (kE2 rfl rfl)⟩
  ·have hb7n := hb7; replace hb7n := Nrm.nrm hb7n
   refine zAe E rfl rfl rfl rfl rfl hb7 rfl dZ (fun w h => by first | exact zAc (q := 1) E rfl rfl rfl | exact zAd (q := 1) E rfl rfl rfl) ?_; clear E a; intro a E
   refine zAe E rfl rfl rfl rfl rfl hb7 rfl dZ (fun w h => by first | exact zCl E rfl rfl rfl (h.one mZ) rfl | exact zAo E rfl rfl rfl (by assumption)) ?_; clear E a; intro a E
   refine zAe E rfl rfl rfl rfl rfl hb7 rfl dZ (fun w h => by first | exact zJw E rfl rfl rfl | exact zEe E rfl rfl rfl | exact zCs E rfl rfl rfl) ?_; clear E a; intro a E
   refine zAe E rfl rfl rfl rfl rfl hb7 rfl dZ (fun w h => rn_gtr E rfl rfl rfl) ?_; clear E a; intro a E
   refine zm E rfl (fun w h => zAk E rfl rfl hb7 rfl) ?_; clear E a; intro a E
   refine zmd E ?_; clear E a; intro a E
   refine zAr E (t := 13) rfl (fun hb13 => ?_) (fun hb13 => ?_)
   ·have hb13n := hb13; replace hb13n := Nrm.nrm hb13n
    iterate 3 (refine zBb E rfl rfl rfl rfl rfl hb13 rfl dZ ?_; clear E a; intro a E)
    refine zm E rfl (fun w h => zAi E rfl rfl hb13 rfl) ?_; clear E a; intro a E
    refine zmd E ?_; clear E a; intro a E
    iterate 6 (refine zBb E rfl rfl rfl rfl rfl rfl rfl dZ ?_; clear E a; intro a E)
    refine zm E rfl (fun w h => zAi E rfl rfl rfl rfl) ?_; clear E a; intro a E
    refine zmd E ?_; clear E a; intro a E
    iterate 3 (refine zBb E rfl rfl rfl rfl rfl rfl rfl dZ ?_; clear E a; intro a E)
    refine zm E rfl (fun w h => zAi E rfl rfl rfl rfl) ?_; clear E a; intro a E
    refine zmd E ?_; clear E a; intro a E
    iterate 10 (refine zBb E rfl rfl rfl rfl rfl rfl rfl dZ ?_; clear E a; intro a E)
    refine zm E rfl (fun w h => zAi E rfl rfl rfl rfl) ?_; clear E a; intro a E
    refine zBd ?_
    refine zAx ?_
    exact ⟨_, by unfold Lbl.half; first | (simp; omega) | (rw [hgd]; simp; omega), S, E.keep (kE2 rfl rfl)⟩
   ·have hb13n := hb13; replace hb13n := Nrm.nrm hb13n
    refine zAe E rfl rfl rfl rfl rfl hb13 rfl dZ (fun w h => by first | exact zAc (q := 2) E rfl rfl rfl | exact zAd (q := 2) E rfl rfl rfl) ?_; clear E a; intro a E
    refine zAe E rfl rfl rfl rfl rfl hb13 rfl dZ (fun w h => by first | exact zCl E rfl rfl rfl (h.one mZ) rfl | exact zAo E rfl rfl rfl (by assumption)) ?_; clear E a; intro a E
    refine zAe E rfl rfl rfl rfl rfl hb13 rfl dZ (fun w h => zJx E rfl rfl rfl) ?_; clear E a; intro a E
    refine zm E rfl (fun w h => zAk E rfl rfl hb13 rfl) ?_; clear E a; intro a E
    refine zmd E ?_; clear E a; intro a E
    refine zAr E (t := 18) rfl (fun hb18 => ?_) (fun hb18 => ?_)
    ·have hb18n := hb18; replace hb18n := Nrm.nrm hb18n
     iterate 6 (refine zBb E rfl rfl rfl rfl rfl hb18 rfl dZ ?_; clear E a; intro a E)
     refine zm E rfl (fun w h => zAi E rfl rfl hb18 rfl) ?_; clear E a; intro a E
     refine zmd E ?_; clear E a; intro a E
     iterate 3 (refine zBb E rfl rfl rfl rfl rfl rfl rfl dZ ?_; clear E a; intro a E)
     refine zm E rfl (fun w h => zAi E rfl rfl rfl rfl) ?_; clear E a; intro a E
     refine zmd E ?_; clear E a; intro a E
     iterate 10 (refine zBb E rfl rfl rfl rfl rfl rfl rfl dZ ?_; clear E a; intro a E)
     refine zm E rfl (fun w h => zAi E rfl rfl rfl rfl) ?_; clear E a; intro a E
     refine zBd ?_
     refine zAx ?_
     exact ⟨_, by unfold Lbl.half; first | (simp; omega) | (rw [hgd]; simp; omega), S, E.keep (kE2 rfl rfl)⟩
    ·have hb18n := hb18; replace hb18n := Nrm.nrm hb18n
     refine zAe E rfl rfl rfl rfl rfl hb18 rfl dZ (fun w h => by first | exact zAc (q := 2) E rfl rfl rfl | exact zAd (q := 2) E rfl rfl rfl) ?_; clear E a; intro a E
     refine zAe E rfl rfl rfl rfl rfl hb18 rfl dZ (fun w h => by first | exact zCl E rfl rfl rfl (h.one mZ) rfl | exact zAo E rfl rfl rfl (by assumption)) ?_; clear E a; intro a E
     refine zAe E rfl rfl rfl rfl rfl hb18 rfl dZ (fun w h => by first | exact zAc (q := 1) E rfl rfl rfl | exact zAd (q := 1) E rfl rfl rfl) ?_; clear E a; intro a E
     refine zAe E rfl rfl rfl rfl rfl hb18 rfl dZ (fun w h => by first | exact zCl E rfl rfl rfl (h.one mZ) rfl | exact zAo E rfl rfl rfl (by assumption)) ?_; clear E a; intro a E
     refine zAe E rfl rfl rfl rfl rfl hb18 rfl dZ (fun w h => by first | exact zJw E rfl rfl rfl | exact zEe E rfl rfl rfl | exact zCs E rfl rfl rfl) ?_; clear E a; intro a E
     refine zAe E rfl rfl rfl rfl rfl hb18 rfl dZ (fun w h => zJy E rfl rfl rfl) ?_; clear E a; intro a E
     refine zm E rfl (fun w h => zAk E rfl rfl hb18 rfl) ?_; clear E a; intro a E
     refine zmd E ?_; clear E a; intro a E
     refine zAr E (t := 26) rfl (fun hb26 => ?_) (fun hb26 => ?_)
     ·have hb26n := hb26; replace hb26n := Nrm.nrm hb26n
      iterate 3 (refine zBb E rfl rfl rfl rfl rfl hb26 rfl dZ ?_; clear E a; intro a E)
      refine zm E rfl (fun w h => zAi E rfl rfl hb26 rfl) ?_; clear E a; intro a E
      refine zmd E ?_; clear E a; intro a E
      iterate 10 (refine zBb E rfl rfl rfl rfl rfl rfl rfl dZ ?_; clear E a; intro a E)
      refine zm E rfl (fun w h => zAi E rfl rfl rfl rfl) ?_; clear E a; intro a E
      refine zBd ?_
      refine zAx ?_
      exact ⟨_, by unfold Lbl.half; first | (simp; omega) | (rw [hgd]; simp; omega), S, E.keep (kE2 rfl rfl)⟩
     ·have hb26n := hb26; replace hb26n := Nrm.nrm hb26n
      refine zAe E rfl rfl rfl rfl rfl hb26 rfl dZ (fun w h => by first | exact zAc (q := 3) E rfl rfl rfl | exact zAd (q := 3) E rfl rfl rfl) ?_; clear E a; intro a E
      refine zAe E rfl rfl rfl rfl rfl hb26 rfl dZ (fun w h => by first | exact zCl E rfl rfl rfl (h.one mZ) rfl | exact zAo E rfl rfl rfl (by assumption)) ?_; clear E a; intro a E
      refine zAe E rfl rfl rfl rfl rfl hb26 rfl dZ (fun w h => zJx E rfl rfl rfl) ?_; clear E a; intro a E
      refine zm E rfl (fun w h => zAk E rfl rfl hb26 rfl) ?_; clear E a; intro a E
      refine zmd E ?_; clear E a; intro a E
      refine zAr E (t := 31) rfl (fun hb31 => ?_) (fun hb31 => ?_)
      ·have hb31n := hb31; replace hb31n := Nrm.nrm hb31n
       iterate 10 (refine zBb E rfl rfl rfl rfl rfl hb31 rfl dZ ?_; clear E a; intro a E)
       refine zm E rfl (fun w h => zAi E rfl rfl hb31 rfl) ?_; clear E a; intro a E
       refine zBd ?_
       refine zAx ?_
       exact ⟨_, by unfold Lbl.half; first | (simp; omega) | (rw [hgd]; simp; omega), S, E.keep (kE2 rfl rfl)⟩
      ·have hb31n := hb31; replace hb31n := Nrm.nrm hb31n
       obtain ⟨n, hn⟩ : ∃ n : Nat, l.top = n := ⟨l.top.toNat, by omega⟩
       have hnl : n < l.tops.length := by omega
       have hgd := getD_at hn hnl
       obtain ⟨g, off, rfl⟩ := hO.addr oZ
       refine zAe E rfl rfl rfl rfl rfl hb31 rfl dZ (fun w h => by first | exact zAc (q := 3) E rfl rfl rfl | exact zAd (q := 3) E rfl rfl rfl) ?_; clear E a; intro a E
       refine zAe E rfl rfl rfl rfl rfl hb31 rfl dZ (fun w h => by first | exact zCl E rfl rfl rfl (h.one mZ) rfl | exact zAo E rfl rfl rfl (by assumption)) ?_; clear E a; intro a E
       refine zAe E rfl rfl rfl rfl rfl hb31 rfl dZ (fun w h => by first | exact zAc (q := 1) E rfl rfl rfl | exact zAd (q := 1) E rfl rfl rfl) ?_; clear E a; intro a E
       refine zAe E rfl rfl rfl rfl rfl hb31 rfl dZ (fun w h => by first | exact zCl E rfl rfl rfl (h.one mZ) rfl | exact zAo E rfl rfl rfl (by assumption)) ?_; clear E a; intro a E
       refine zAe E rfl rfl rfl rfl rfl hb31 rfl dZ (fun w h => by first | exact zAc (q := 2) E rfl rfl rfl | exact zAd (q := 2) E rfl rfl rfl) ?_; clear E a; intro a E
       refine zAe E rfl rfl rfl rfl rfl hb31 rfl dZ (fun w h => by first | exact zCl E rfl rfl rfl (h.one mZ) rfl | exact zAo E rfl rfl rfl (by assumption)) ?_; clear E a; intro a E
       refine zAe E rfl rfl rfl rfl rfl hb31 rfl dZ (fun w h => zAz (i := n) E rfl rfl rfl rfl rfl hn oZ) ?_; clear E a; intro a E
       refine zAe E rfl rfl rfl rfl rfl hb31 rfl dZ (fun w h => by first | exact zAc (q := 1) E rfl rfl rfl | exact zAd (q := 1) E rfl rfl rfl) ?_; clear E a; intro a E
       refine zAe E rfl rfl rfl rfl rfl hb31 rfl dZ (fun w h => zAo E rfl rfl rfl (hO.elem (lay := Tp.lay) Tp.lay_len (h.at mZ) (i := n) hnl 1 _ rfl)) ?_; clear E a; intro a E
       refine zAe E rfl rfl rfl rfl rfl hb31 rfl dZ (fun w h => zJy E rfl rfl rfl) ?_; clear E a; intro a E
       refine zm E rfl (fun w h => zAk E rfl rfl hb31 rfl) ?_; clear E a; intro a E
       refine zBd ?_
       refine zAx ?_
       exact ⟨_, by unfold Lbl.half; first | (simp; omega) | (rw [hgd]; simp; omega), S, E.keep (kE2 rfl rfl)⟩
 ·clear E S a; intro a w J; obtain ⟨bt, hbt, S, E⟩ := J
  refine zAb hK ?_; clear hK K
  refine zAs E rfl (fun hb => ?_) (fun hb => ?_)
  ·replace hb := Nrm.nrm hb
   have hno : ¬ l.half := (fun q => by rw [hbt.2 q] at hb; cases hb)
   refine wp_seq_k ?_; intro K hK
   refine zAa ?_
   refine zd E ?_; clear E a; intro a E
   refine wpList_nil ?_
   refine zAb hK ?_; clear hK K
   refine wp_ret ?_
   refine zBc ?_; clear hK K
   refine ret1 E rfl rfl ?_
   exact ⟨_, rfl, by rw [lbE_half hno], (S.only (Bs := [O]) sZ).tr⟩
  ·replace hb := Nrm.nrm hb
   have hh : l.half := hbt.1 hb
   refine wp_skip ?_
   refine zAb hK ?_; clear hK K
   iterate 2 (refine wp_seq_k ?_; intro K hK)
   refine zAa ?_
   refine zp E (by first | exact zAc (q := 1) E rfl rfl rfl | exact zAd (q := 1) E rfl rfl rfl) ?_; clear E a; intro a E
   refine zd E ?_; clear E a; intro a E
   refine zAg E rfl rfl dZ rfl Tryz.func102 rfl yZ rfl (topany_ret O _ l.tops hO0 _ (S.hp.sel sZ)) ?_
   rintro v45 w ⟨rfl, hT⟩; clear E a; intro a E
   have S := S.call1 sZ hT
   refine wpList_nil ?_
   refine zAb hK ?_; clear hK K
   refine zAs E rfl (fun hb => ?_) (fun hb => ?_)
   ·replace hb := Nrm.nrm hb
    have hnm : ¬ ∀ t ∈ l.tops, t.made := (by simpa using hb)
    refine wp_seq_k ?_; intro K hK
    refine zAa ?_
    refine zd E ?_; clear E a; intro a E
    refine wpList_nil ?_
    refine zAb hK ?_; clear hK K
    refine wp_ret ?_
    refine zBc ?_; clear hK K
    refine ret1 E rfl rfl ?_
    exact ⟨_, rfl, by rw [lbE_no (fun q => hnm ((zGr l).1 q).2)], (S.only (Bs := [O]) sZ).tr⟩
   ·replace hb := Nrm.nrm hb
    have hm : ∀ t ∈ l.tops, t.made := (by simpa using hb)
    refine wp_skip ?_
    refine zAb hK ?_; clear hK K
    refine wp_seq_k ?_; intro K hK
    refine zAa ?_
    refine zd E ?_; clear E a; intro a E
    refine wpList_nil ?_
    refine zAb hK ?_; clear hK K
    refine wp_ret ?_
    refine ret1 E rfl rfl ?_
    exact ⟨_, rfl, by rw [(zGr l).2 ⟨hh, hm⟩], (S.only (Bs := [O]) sZ).tr⟩
theorem dlbcheck_ret (O : zAj) (v : Value) (l : Lbl) (hO : Rd O 3 v l.tops.length (l.tops.flatMap Tp.lay)) (w0 : World) (H : Hp w0 [O]) :
  Ret Tryz.prog 87 #[lbagg l v] w0 fun u w' => u = .int .i64 (lbE l) ∧ Trs w0 w' [O] [O] := by
 have S := St.begin H
 obtain ⟨ad, c, rfl⟩ := hO.slice
 refine zCh 60 Tryz.func87 rfl rfl dZ ?_; intro a E
 refine wp_seq_k ?_; intro K hK
 refine zAa ?_
 refine zAf rfl (zBz E S rfl rfl dZ rfl rfl ?_); clear E S a; intro a w b1 E S
 refine zd E ?_; clear E a; intro a E
 refine wpList_nil ?_
 refine zAb hK ?_; clear hK K
 iterate 2 (refine wp_seq_k ?_; intro K hK)
 refine zDl (fun (a : Act) (w' : World) => ∃ bt : Bool, (bt = false ↔ l.half) ∧ St w0 [O] w' [[(b1, cel [.int .u64 l.pool, .slice ad l.tops.length c, .int .i64 l.top, .int .i64 l.place] 76)], O] ∧ Fr a 60 [(1, ptr b1), (44, .bool bt)]) ?_ ?_
 ·skip
  refine zAw S (.ofL [(0, 0), (1, 0), (2, 0), (3, 0), (4, 0), (5, 0), (6, 0), (7, 0), (8, 0), (9, 0), (10, 0), (11, 0), (12, 0), (13, 0), (14, 0), (15, 0), (16, 0), (17, 0), (18, 0), (19, 0), (20, 0), (21, 0), (22, 0), (23, 0), (24, 0), (25, 0), (26, 0), (27, 0), (28, 0), (29, 0), (30, 0), (31, 0), (32, 0), (33, 0), (34, 0), (35, 0), (36, 0), (37, 0), (38, 0), (39, 0)]) yZ yZ ?_
  clear S; intro w S
  refine zm E rfl (fun w h => by first | exact zAc (q := 1) E rfl rfl rfl | exact zAd (q := 1) E rfl rfl rfl) ?_; clear E a; intro a E
  iterate 4 (refine zmd E ?_; clear E a; intro a E)
  refine zAr E (t := 9) rfl (fun hb9 => ?_) (fun hb9 => ?_)
  ·have hb9n := hb9; replace hb9n := Nrm.nrm hb9n
   iterate 4 (refine zBb E rfl rfl rfl rfl rfl hb9 rfl dZ ?_; clear E a; intro a E)
   refine zm E rfl (fun w h => zAi E rfl rfl hb9 rfl) ?_; clear E a; intro a E
   refine zmd E ?_; clear E a; intro a E
   iterate 3 (refine zBb E rfl rfl rfl rfl rfl rfl rfl dZ ?_; clear E a; intro a E)
   refine zm E rfl (fun w h => zAi E rfl rfl rfl rfl) ?_; clear E a; intro a E
   refine zmd E ?_; clear E a; intro a E
   iterate 6 (refine zBb E rfl rfl rfl rfl rfl rfl rfl dZ ?_; clear E a; intro a E)
   refine zm E rfl (fun w h => zAi E rfl rfl rfl rfl) ?_; clear E a; intro a E
   refine zmd E ?_; clear E a; intro a E
   iterate 3 (refine zBb E rfl rfl rfl rfl rfl rfl rfl dZ ?_; clear E a; intro a E)
   refine zm E rfl (fun w h => zAi E rfl rfl rfl rfl) ?_; clear E a; intro a E
   refine zmd E ?_; clear E a; intro a E
   iterate 10 (refine zBb E rfl rfl rfl rfl rfl rfl rfl dZ ?_; clear E a; intro a E)
   refine zm E rfl (fun w h => zAi E rfl rfl rfl rfl) ?_; clear E a; intro a E
   refine zBd ?_
   refine zAx ?_
   exact ⟨_, by unfold Lbl.half; first | (simp; omega) | (rw [hgd]; simp; omega), S, E.keep (kE2 rfl rfl)⟩
  ·have hb9n := hb9; replace hb9n := Nrm.nrm hb9n
   refine zAe E rfl rfl rfl rfl rfl hb9 rfl dZ (fun w h => by first | exact zAc (q := 1) E rfl rfl rfl | exact zAd (q := 1) E rfl rfl rfl) ?_; clear E a; intro a E
   refine zAe E rfl rfl rfl rfl rfl hb9 rfl dZ (fun w h => by first | exact zCl E rfl rfl rfl (h.one mZ) rfl | exact zAo E rfl rfl rfl (by assumption)) ?_; clear E a; intro a E
   refine zAe E rfl rfl rfl rfl rfl hb9 rfl dZ (fun w h => by first | exact zJw E rfl rfl rfl | exact zEe E rfl rfl rfl | exact zCs E rfl rfl rfl) ?_; clear E a; intro a E
   refine zAe E rfl rfl rfl rfl rfl hb9 rfl dZ (fun w h => rn_gtr E rfl rfl rfl) ?_; clear E a; intro a E
   refine zm E rfl (fun w h => zAk E rfl rfl hb9 rfl) ?_; clear E a; intro a E
   refine zmd E ?_; clear E a; intro a E
   refine zAr E (t := 15) rfl (fun hb15 => ?_) (fun hb15 => ?_)
   ·have hb15n := hb15; replace hb15n := Nrm.nrm hb15n
    iterate 3 (refine zBb E rfl rfl rfl rfl rfl hb15 rfl dZ ?_; clear E a; intro a E)
    refine zm E rfl (fun w h => zAi E rfl rfl hb15 rfl) ?_; clear E a; intro a E
    refine zmd E ?_; clear E a; intro a E
    iterate 6 (refine zBb E rfl rfl rfl rfl rfl rfl rfl dZ ?_; clear E a; intro a E)
    refine zm E rfl (fun w h => zAi E rfl rfl rfl rfl) ?_; clear E a; intro a E
    refine zmd E ?_; clear E a; intro a E
    iterate 3 (refine zBb E rfl rfl rfl rfl rfl rfl rfl dZ ?_; clear E a; intro a E)
    refine zm E rfl (fun w h => zAi E rfl rfl rfl rfl) ?_; clear E a; intro a E
    refine zmd E ?_; clear E a; intro a E
    iterate 10 (refine zBb E rfl rfl rfl rfl rfl rfl rfl dZ ?_; clear E a; intro a E)
    refine zm E rfl (fun w h => zAi E rfl rfl rfl rfl) ?_; clear E a; intro a E
    refine zBd ?_
    refine zAx ?_
    exact ⟨_, by unfold Lbl.half; first | (simp; omega) | (rw [hgd]; simp; omega), S, E.keep (kE2 rfl rfl)⟩
   ·have hb15n := hb15; replace hb15n := Nrm.nrm hb15n
    refine zAe E rfl rfl rfl rfl rfl hb15 rfl dZ (fun w h => by first | exact zAc (q := 2) E rfl rfl rfl | exact zAd (q := 2) E rfl rfl rfl) ?_; clear E a; intro a E
    refine zAe E rfl rfl rfl rfl rfl hb15 rfl dZ (fun w h => by first | exact zCl E rfl rfl rfl (h.one mZ) rfl | exact zAo E rfl rfl rfl (by assumption)) ?_; clear E a; intro a E
    refine zAe E rfl rfl rfl rfl rfl hb15 rfl dZ (fun w h => zJx E rfl rfl rfl) ?_; clear E a; intro a E
    refine zm E rfl (fun w h => zAk E rfl rfl hb15 rfl) ?_; clear E a; intro a E
    refine zmd E ?_; clear E a; intro a E
    refine zAr E (t := 20) rfl (fun hb20 => ?_) (fun hb20 => ?_)
    ·have hb20n := hb20; replace hb20n := Nrm.nrm hb20n
     iterate 6 (refine zBb E rfl rfl rfl rfl rfl hb20 rfl dZ ?_; clear E a; intro a E)
     refine zm E rfl (fun w h => zAi E rfl rfl hb20 rfl) ?_; clear E a; intro a E
     refine zmd E ?_; clear E a; intro a E
     iterate 3 (refine zBb E rfl rfl rfl rfl rfl rfl rfl dZ ?_; clear E a; intro a E)
     refine zm E rfl (fun w h => zAi E rfl rfl rfl rfl) ?_; clear E a; intro a E
     refine zmd E ?_; clear E a; intro a E
     iterate 10 (refine zBb E rfl rfl rfl rfl rfl rfl rfl dZ ?_; clear E a; intro a E)
     refine zm E rfl (fun w h => zAi E rfl rfl rfl rfl) ?_; clear E a; intro a E
     refine zBd ?_
     refine zAx ?_
     exact ⟨_, by unfold Lbl.half; first | (simp; omega) | (rw [hgd]; simp; omega), S, E.keep (kE2 rfl rfl)⟩
    ·have hb20n := hb20; replace hb20n := Nrm.nrm hb20n
     refine zAe E rfl rfl rfl rfl rfl hb20 rfl dZ (fun w h => by first | exact zAc (q := 2) E rfl rfl rfl | exact zAd (q := 2) E rfl rfl rfl) ?_; clear E a; intro a E
     refine zAe E rfl rfl rfl rfl rfl hb20 rfl dZ (fun w h => by first | exact zCl E rfl rfl rfl (h.one mZ) rfl | exact zAo E rfl rfl rfl (by assumption)) ?_; clear E a; intro a E
     refine zAe E rfl rfl rfl rfl rfl hb20 rfl dZ (fun w h => by first | exact zAc (q := 1) E rfl rfl rfl | exact zAd (q := 1) E rfl rfl rfl) ?_; clear E a; intro a E
     refine zAe E rfl rfl rfl rfl rfl hb20 rfl dZ (fun w h => by first | exact zCl E rfl rfl rfl (h.one mZ) rfl | exact zAo E rfl rfl rfl (by assumption)) ?_; clear E a; intro a E
     refine zAe E rfl rfl rfl rfl rfl hb20 rfl dZ (fun w h => by first | exact zJw E rfl rfl rfl | exact zEe E rfl rfl rfl | exact zCs E rfl rfl rfl) ?_; clear E a; intro a E
     refine zAe E rfl rfl rfl rfl rfl hb20 rfl dZ (fun w h => zJy E rfl rfl rfl) ?_; clear E a; intro a E
     refine zm E rfl (fun w h => zAk E rfl rfl hb20 rfl) ?_; clear E a; intro a E
     refine zmd E ?_; clear E a; intro a E
     refine zAr E (t := 28) rfl (fun hb28 => ?_) (fun hb28 => ?_)
     ·have hb28n := hb28; replace hb28n := Nrm.nrm hb28n
      iterate 3 (refine zBb E rfl rfl rfl rfl rfl hb28 rfl dZ ?_; clear E a; intro a E)
      refine zm E rfl (fun w h => zAi E rfl rfl hb28 rfl) ?_; clear E a; intro a E
      refine zmd E ?_; clear E a; intro a E
      iterate 10 (refine zBb E rfl rfl rfl rfl rfl rfl rfl dZ ?_; clear E a; intro a E)
      refine zm E rfl (fun w h => zAi E rfl rfl rfl rfl) ?_; clear E a; intro a E
      refine zBd ?_
      refine zAx ?_
      exact ⟨_, by unfold Lbl.half; first | (simp; omega) | (rw [hgd]; simp; omega), S, E.keep (kE2 rfl rfl)⟩
     ·have hb28n := hb28; replace hb28n := Nrm.nrm hb28n
      refine zAe E rfl rfl rfl rfl rfl hb28 rfl dZ (fun w h => by first | exact zAc (q := 3) E rfl rfl rfl | exact zAd (q := 3) E rfl rfl rfl) ?_; clear E a; intro a E
      refine zAe E rfl rfl rfl rfl rfl hb28 rfl dZ (fun w h => by first | exact zCl E rfl rfl rfl (h.one mZ) rfl | exact zAo E rfl rfl rfl (by assumption)) ?_; clear E a; intro a E
      refine zAe E rfl rfl rfl rfl rfl hb28 rfl dZ (fun w h => zJx E rfl rfl rfl) ?_; clear E a; intro a E
      refine zm E rfl (fun w h => zAk E rfl rfl hb28 rfl) ?_; clear E a; intro a E
      refine zmd E ?_; clear E a; intro a E
      refine zAr E (t := 33) rfl (fun hb33 => ?_) (fun hb33 => ?_)
      ·have hb33n := hb33; replace hb33n := Nrm.nrm hb33n
       iterate 10 (refine zBb E rfl rfl rfl rfl rfl hb33 rfl dZ ?_; clear E a; intro a E)
       refine zm E rfl (fun w h => zAi E rfl rfl hb33 rfl) ?_; clear E a; intro a E
       refine zBd ?_
       refine zAx ?_
       exact ⟨_, by unfold Lbl.half; first | (simp; omega) | (rw [hgd]; simp; omega), S, E.keep (kE2 rfl rfl)⟩
      ·have hb33n := hb33; replace hb33n := Nrm.nrm hb33n
       obtain ⟨n, hn⟩ : ∃ n : Nat, l.top = n := ⟨l.top.toNat, by omega⟩
       have hnl : n < l.tops.length := by omega
       have hgd := getD_at hn hnl
       obtain ⟨g, off, rfl⟩ := hO.addr oZ
       refine zAe E rfl rfl rfl rfl rfl hb33 rfl dZ (fun w h => by first | exact zAc (q := 3) E rfl rfl rfl | exact zAd (q := 3) E rfl rfl rfl) ?_; clear E a; intro a E
       refine zAe E rfl rfl rfl rfl rfl hb33 rfl dZ (fun w h => by first | exact zCl E rfl rfl rfl (h.one mZ) rfl | exact zAo E rfl rfl rfl (by assumption)) ?_; clear E a; intro a E
       refine zAe E rfl rfl rfl rfl rfl hb33 rfl dZ (fun w h => by first | exact zAc (q := 1) E rfl rfl rfl | exact zAd (q := 1) E rfl rfl rfl) ?_; clear E a; intro a E
       refine zAe E rfl rfl rfl rfl rfl hb33 rfl dZ (fun w h => by first | exact zCl E rfl rfl rfl (h.one mZ) rfl | exact zAo E rfl rfl rfl (by assumption)) ?_; clear E a; intro a E
       refine zAe E rfl rfl rfl rfl rfl hb33 rfl dZ (fun w h => by first | exact zAc (q := 2) E rfl rfl rfl | exact zAd (q := 2) E rfl rfl rfl) ?_; clear E a; intro a E
       refine zAe E rfl rfl rfl rfl rfl hb33 rfl dZ (fun w h => by first | exact zCl E rfl rfl rfl (h.one mZ) rfl | exact zAo E rfl rfl rfl (by assumption)) ?_; clear E a; intro a E
       refine zAe E rfl rfl rfl rfl rfl hb33 rfl dZ (fun w h => zAz (i := n) E rfl rfl rfl rfl rfl hn oZ) ?_; clear E a; intro a E
       refine zAe E rfl rfl rfl rfl rfl hb33 rfl dZ (fun w h => by first | exact zAc (q := 1) E rfl rfl rfl | exact zAd (q := 1) E rfl rfl rfl) ?_; clear E a; intro a E
       refine zAe E rfl rfl rfl rfl rfl hb33 rfl dZ (fun w h => zAo E rfl rfl rfl (hO.elem (lay := Tp.lay) Tp.lay_len (h.at mZ) (i := n) hnl 1 _ rfl)) ?_; clear E a; intro a E
       refine zAe E rfl rfl rfl rfl rfl hb33 rfl dZ (fun w h => zJy E rfl rfl rfl) ?_; clear E a; intro a E
       refine zm E rfl (fun w h => zAk E rfl rfl hb33 rfl) ?_; clear E a; intro a E
       refine zBd ?_
       refine zAx ?_
       exact ⟨_, by unfold Lbl.half; first | (simp; omega) | (rw [hgd]; simp; omega), S, E.keep (kE2 rfl rfl)⟩
 ·clear E S a; intro a w J; obtain ⟨bt, hbt, S, E⟩ := J
  refine zAb hK ?_; clear hK K
  refine zAs E rfl (fun hb => ?_) (fun hb => ?_)
  ·replace hb := Nrm.nrm hb
   have hno : ¬ l.half := (fun q => by rw [hbt.2 q] at hb; cases hb)
   refine wp_seq_k ?_; intro K hK
   refine zAa ?_
   refine zd E ?_; clear E a; intro a E
   refine wpList_nil ?_
   refine zAb hK ?_; clear hK K
   refine wp_ret ?_
   refine zBc ?_; clear hK K
   refine ret1 E rfl rfl ?_
   exact ⟨_, rfl, by rw [lbE_half hno], (S.only (Bs := [O]) sZ).tr⟩
  ·replace hb := Nrm.nrm hb
   have hh : l.half := hbt.1 hb
   refine wp_skip ?_
   refine zAb hK ?_; clear hK K
   iterate 2 (refine wp_seq_k ?_; intro K hK)
   have hl4 : l.tops.length ≤ 4 := hh.2.1
   refine zAa ?_
   refine zd E ?_; clear E a; intro a E
   refine wpList_nil ?_
   refine zAb hK ?_; clear hK K
   refine wp_block ?_
   refine wp_loop_ghost (fun (m : Nat) (a : Act) (w' : World) => ∃ i : Nat, m = l.tops.length - i ∧ i ≤ l.tops.length ∧ (∀ j (hj : j < l.tops.length), j < i → l.tops[j].made) ∧ St w0 [O] w' [[(b1, cel [.int .u64 l.pool, .slice ad l.tops.length c, .int .i64 l.top, .int .i64 l.place] 76)], O] ∧ Fr a 60 [(1, ptr b1), (3, .int .i64 i)]) (l.tops.length - 0) ?_ ?_
   ·exact ⟨0, rfl, by omega, fun j _ h => by omega, S, E.keep (kE2 rfl rfl)⟩
   clear E; clear a; (try clear S); rintro m a w ⟨i, rfl, hi, hm, S, E⟩
   iterate 2 (refine wp_seq_k ?_; intro K hK)
   refine zAa ?_
   refine zd E ?_; clear E a; intro a E
   refine zp E (by first | exact zAc (q := 1) E rfl rfl rfl | exact zAd (q := 1) E rfl rfl rfl) ?_; clear E a; intro a E
   iterate 3 (refine zd E ?_; clear E a; intro a E)
   refine wpList_nil ?_
   refine zAb hK ?_; clear hK K
   refine zAs E rfl (fun hb => ?_) (fun hb => ?_)
   ·replace hb := Nrm.nrm hb
    refine wp_skip ?_
    refine zAb hK ?_; clear hK K
    refine wp_seq_k ?_; intro K hK
    refine wp_block ?_
    refine wp_seq_k ?_; intro K hK
    have hib : i < l.tops.length := by omega
    obtain ⟨g, off, rfl⟩ := hO.addr oZ
    refine zAa ?_
    refine zp E (by first | exact zAc (q := 1) E rfl rfl rfl | exact zAd (q := 1) E rfl rfl rfl) ?_; clear E a; intro a E
    iterate 2 (refine zd E ?_; clear E a; intro a E)
    refine zp E (by first | exact zAp E rfl rfl rfl rfl rfl rfl oZ | exact zAz E rfl rfl rfl rfl rfl rfl oZ | exact zAm E rfl rfl rfl rfl rfl rfl oZ) ?_; clear E a; intro a E
    refine zp E (zDx (vs := [_, _, _]) E rfl rfl rfl rfl (hO.elem (lay := Tp.lay) Tp.lay_len (S.stab.at mZ) (i := i) hib)) ?_; clear E a; intro a E
    refine zAg E rfl rfl dZ rfl Tryz.func106 rfl yZ rfl (dmade_ret (l.tops[i]'hib) _) ?_
    rintro v57 w ⟨rfl, hT⟩; clear E a; intro a E
    have S := S.quiet hT
    refine zd E ?_; clear E a; intro a E
    refine wpList_nil ?_
    refine zAb hK ?_; clear hK K
    refine wp_seq_k ?_; intro K hK
    refine zAa ?_
    iterate 2 (refine zd E ?_; clear E a; intro a E)
    refine wpList_nil ?_
    refine zAb hK ?_; clear hK K
    refine zAs E rfl (fun hb => ?_) (fun hb => ?_)
    ·replace hb := Nrm.nrm hb
     have hno : ¬ (l.tops[i]'hib).made := (by simpa using hb)
     refine wp_seq_k ?_; intro K hK
     refine zAa ?_
     refine zd E ?_; clear E a; intro a E
     refine wpList_nil ?_
     refine zAb hK ?_; clear hK K
     refine wp_ret ?_
     refine zDr ?_
     refine zBc ?_; clear hK K
     refine zBc ?_
     refine zDr ?_
     refine zBc ?_; clear hK K
     refine ret1 E rfl rfl ?_
     exact ⟨_, rfl, by rw [lbE_no (fun q => hno (((zGr l).1 q).2 _ (List.getElem_mem hib)))], (S.only (Bs := [O]) sZ).tr⟩
    ·replace hb := Nrm.nrm hb
     have hyes : (l.tops[i]'hib).made := (by simpa using hb)
     refine wp_skip ?_
     refine zAq ?_
     refine zAb hK ?_; clear hK K
     refine zAa ?_
     refine zd E ?_; clear E a; intro a E
     refine zp E (zAy E rfl rfl rfl (by first | exact zBq (y := 1) oZ | exact w_in oZ | exact zBj oZ | exact rfl)) ?_; clear E a; intro a E
     refine zd E ?_; clear E a; intro a E
     refine wpList_nil ?_
     refine zAn ?_
     exact ⟨_, by omega, i + 1, rfl, by omega, fun j hj h => (by rcases Nat.lt_or_ge j i with c1 | c1; exact hm j hj c1; obtain rfl : j = i := oZ; exact hyes), S, E.keep (kE2 rfl rfl)⟩
   ·replace hb := Nrm.nrm hb
    refine wp_exit ?_
    refine zAl ?_; clear hK K
    refine zAl ?_
    refine zBi ?_
    refine zAb hK ?_; clear hK K
    refine wp_seq_k ?_; intro K hK
    refine zAa ?_
    refine zd E ?_; clear E a; intro a E
    refine wpList_nil ?_
    refine zAb hK ?_; clear hK K
    refine wp_ret ?_
    refine ret1 E rfl rfl ?_
    exact ⟨_, rfl, by rw [(zGr l).2 ⟨hh, made_all hm oZ⟩], (S.only (Bs := [O]) sZ).tr⟩
end Go.Proofs.YtpjidiaekifmbaaGreatDoor
namespace Go.Sl
theorem zHh (l : List Tp) {i : Nat} (hi : i < l.length) : (l.take (i + 1)).flatMap tpB = (l.take i).flatMap tpB ++ tpB l[i] := by
 rw [← List.take_append_getElem hi, List.flatMap_append]; simp
theorem half_place {l : Lbl} (h : l.half) (hm : ∀ t ∈ l.tops, t.made) : l.place ≤ 5 := by
 obtain ⟨m1, m2, m3, m4, m5, m6⟩ := h
 have : l.top.toNat < l.tops.length := by omega
 have hmem : l.tops.getD l.top.toNat zIe ∈ l.tops := by simp [List.getD, this]
 have := hm _ hmem
 unfold Tp.made at this
 omega
def lbP (l : Lbl) : List UInt8 := if lbE l = 0 then zGd (lbB l) else []
theorem lbP_ok {u : Lbl} (h : lbE u = 0) : lbP u = zGd (lbB u) := by simp [lbP, h]
theorem lbP_no {u : Lbl} (h : lbE u ≠ 0) : lbP u = [] := by simp [lbP, h]
theorem lbO_ok {u : Lbl} (h : lbE u = 0) : lbO u = whole (lbB u) := by simp [lbO, h]
theorem lbO_no {u : Lbl} (h : lbE u ≠ 0) : lbO u = [] := by simp [lbO, h]
theorem zKn {u : Lbl} (h : lbE u = 0) : (lbB u).length ≤ 39 := by rw [lbB_length]; have := ((zGr u).1 h).1.2.1; omega
end Go.Sl
namespace Go.Proofs.YtpjidiaekifmbaaGreatDoor
open Go.Sl
set_option maxRecDepth 10000
theorem laylb_ret (p room : Nat) (A O : zAj) (v : Value) (l : Lbl) (hO : Rd O 3 v l.tops.length (l.tops.flatMap Tp.lay)) (ho : l.Ok) (hm : lbE l = 0) (w0 : World) (hA : WrC 202 p ⟨room, [], 0⟩ A) (H : Hp w0 [A, O]) (hr : room ≤ 140737488355328) (hl : 39 ≤ room) :
  Ret Tryz.prog 86 #[ptr p, lbagg l v] w0 fun _ w' => ∃ A', WrC 202 p ⟨room, lbB l, 0⟩ A' ∧ Trs w0 w' [A, O] [A', O] := by
 have S := St.begin H
 have e1 := p1
 have e4 := p4
 have e8 := p8
 have o1 := ho.pool
 have hl4 : lLet.length = 4 := rfl
 obtain ⟨hh, hmm⟩ := (zGr l).1 hm
 have hpl := half_place hh hmm
 obtain ⟨m1, m2, m3, m4, m5, m6⟩ := hh
 obtain ⟨tn, htn⟩ : ∃ n : Nat, l.top = n := ⟨l.top.toNat, by omega⟩
 obtain ⟨pn, hpn⟩ : ∃ n : Nat, l.place = n := ⟨l.place.toNat, by omega⟩
 obtain ⟨ad, c, rfl⟩ := hO.slice
 obtain ⟨g, off, rfl⟩ := hO.addr oZ
 have hH : lbH l = lLet ++ zBu l.pool 8 ++ zBu tn 1 ++ zBu pn 1 ++ zBu l.tops.length 1 := by simp [lbH, htn, hpn]
 have hHl := zGz l
 refine zBx 53 Tryz.func86 rfl rfl dZ ?_; intro a E
 refine wp_seq_k ?_; intro K hK
 refine zAa ?_
 refine zAf rfl (zBz E S rfl rfl dZ rfl rfl ?_); clear E S a; intro a w b3 E S
 refine wpList_nil ?_
 refine zAb hK ?_; clear hK K
 refine wp_seq_k ?_; intro K hK
 refine zAa ?_
 refine zd E ?_; clear E a; intro a E
 refine zAf rfl (zBm (cells := [_, _, _, _]) E S rfl rfl dZ rfl rfl rfl rfl rfl dZ rfl ?_); clear E S a; intro a w b7 E S
 refine zAf rfl (wp_mark E S rfl rfl rfl dZ rfl rfl rfl pZ ?_); clear E S a; intro a w E S
 refine zAg E rfl rfl dZ rfl Tryz.func98 rfl yZ rfl (bytes_fit p room [] A _ _ hA _ lLet (rd_mark (g := b7) lLet oZ) (S.hp.sel (zCj pk3 (zCj pk1 sZ))) hr (by simp only [List.length_nil]; omega)) ?_
 rintro v9 w ⟨A1, hA1, hT⟩; clear E a; intro a E
 have S := S.call2 (zCj pk3 (zCj pk1 sZ)) hT; rw [List.nil_append] at hA1
 refine wpList_nil ?_
 refine zAb hK ?_; clear hK K
 refine wp_seq_k ?_; intro K hK
 refine zAa ?_
 refine zd E ?_; clear E a; intro a E
 refine zp E (by first | exact zAc (q := 0) E rfl rfl rfl | exact zAd (q := 0) E rfl rfl rfl) ?_; clear E a; intro a E
 refine zd E ?_; clear E a; intro a E
 refine zAg E rfl rfl dZ rfl Tryz.func105 rfl yZ rfl (zGq p room _ A1 _ hA1 l.pool 8 (S.hp.sel sZ) hr oZ oZ oZ oZ) ?_
 rintro v13 w ⟨A2, hA2, hT⟩; clear E a; intro a E
 have S := S.call1 sZ hT
 refine wpList_nil ?_
 refine zAb hK ?_; clear hK K
 refine wp_seq_k ?_; intro K hK
 refine zAa ?_
 refine zd E ?_; clear E a; intro a E
 refine zp E (by first | exact zAc (q := 2) E rfl rfl rfl | exact zAd (q := 2) E rfl rfl rfl) ?_; clear E a; intro a E
 refine zd E ?_; clear E a; intro a E
 rw [htn] at E
 refine zp E (by first | exact zBe E rfl rfl rfl rfl (by first | exact wu8 _ | exact zHm oZ | exact zEo oZ | exact w_in oZ | exact zBj oZ | exact rfl) | exact zCc E rfl rfl rfl rfl rfl (by assumption) (S.stab.at (by simp))) ?_; clear E a; intro a E
 refine zAg E rfl rfl dZ rfl Tryz.func105 rfl yZ rfl (zGq p room _ A2 _ hA2 tn 1 (S.hp.sel sZ) hr oZ oZ oZ (by simp only [List.length_append, zBh]; omega)) ?_
 rintro v18 w ⟨A3, hA3, hT⟩; clear E a; intro a E
 have S := S.call1 sZ hT
 refine wpList_nil ?_
 refine zAb hK ?_; clear hK K
 refine wp_seq_k ?_; intro K hK
 refine zAa ?_
 refine zd E ?_; clear E a; intro a E
 refine zp E (by first | exact zAc (q := 3) E rfl rfl rfl | exact zAd (q := 3) E rfl rfl rfl) ?_; clear E a; intro a E
 refine zd E ?_; clear E a; intro a E
 rw [hpn] at E
 refine zp E (by first | exact zBe E rfl rfl rfl rfl (by first | exact wu8 _ | exact zHm oZ | exact zEo oZ | exact w_in oZ | exact zBj oZ | exact rfl) | exact zCc E rfl rfl rfl rfl rfl (by assumption) (S.stab.at (by simp))) ?_; clear E a; intro a E
 refine zAg E rfl rfl dZ rfl Tryz.func105 rfl yZ rfl (zGq p room _ A3 _ hA3 pn 1 (S.hp.sel sZ) hr oZ oZ oZ (by simp only [List.length_append, zBh]; omega)) ?_
 rintro v23 w ⟨A4, hA4, hT⟩; clear E a; intro a E
 have S := S.call1 sZ hT
 refine wpList_nil ?_
 refine zAb hK ?_; clear hK K
 refine wp_seq_k ?_; intro K hK
 refine zAa ?_
 refine zd E ?_; clear E a; intro a E
 refine zp E (by first | exact zAc (q := 1) E rfl rfl rfl | exact zAd (q := 1) E rfl rfl rfl) ?_; clear E a; intro a E
 iterate 2 (refine zd E ?_; clear E a; intro a E)
 refine zp E (by first | exact zBe E rfl rfl rfl rfl (by first | exact wu8 _ | exact zHm oZ | exact zEo oZ | exact w_in oZ | exact zBj oZ | exact rfl) | exact zCc E rfl rfl rfl rfl rfl (by assumption) (S.stab.at (by simp))) ?_; clear E a; intro a E
 refine zAg E rfl rfl dZ rfl Tryz.func105 rfl yZ rfl (zGq p room _ A4 _ hA4 l.tops.length 1 (S.hp.sel sZ) hr oZ oZ oZ (by simp only [List.length_append, zBh]; omega)) ?_
 rintro v29 w ⟨A5, hA5, hT⟩; clear E a; intro a E
 have S := S.call1 sZ hT; rw [← hH] at hA5
 refine wpList_nil ?_
 refine zAb hK ?_; clear hK K
 refine wp_seq_k ?_; intro K hK
 replace E := E.keep (e' := [(0, _), (3, _)]) (kE2 rfl rfl)
 refine zAa ?_
 refine zp E (by first | exact zAc (q := 1) E rfl rfl rfl | exact zAd (q := 1) E rfl rfl rfl) ?_; clear E a; intro a E
 iterate 3 (refine zd E ?_; clear E a; intro a E)
 refine wpList_nil ?_
 refine zAb hK ?_; clear hK K
 refine wp_block ?_
 refine wp_loop_ghost (fun (m : Nat) (a : Act) (w' : World) => ∃ (i : Nat) (A' : zAj), m = l.tops.length - i ∧ i ≤ l.tops.length ∧ WrC 202 p ⟨room, lbH l ++ (l.tops.take i).flatMap tpB, 0⟩ A' ∧ (∃ Ls, St w0 [A, O] w' (A' :: O :: Ls)) ∧ Fr a 53 [(0, ptr p), (31, .slice (some ⟨g, off, none⟩) l.tops.length c), (32, .int .i64 l.tops.length), (33, .int .i64 i)]) (l.tops.length - 0) ?_ ?_
 ·exact ⟨0, A5, rfl, by omega, by simpa using hA5, ⟨_, S.front2 pZ (B := O) pZ⟩, E.keep (kE4 rfl rfl rfl rfl)⟩
 clear E; clear a; (try clear S); rintro m a w ⟨i, A', rfl, hi, hA', ⟨Ls, S⟩, E⟩
 refine wp_seq_k ?_; intro K hK
 refine zAa ?_
 refine zd E ?_; clear E a; intro a E
 refine wpList_nil ?_
 refine zAb hK ?_; clear hK K
 refine wp_seq_k ?_; intro K hK
 refine zAs E rfl (fun hb => ?_) (fun hb => ?_)
 ·replace hb := Nrm.nrm hb
  refine wp_skip ?_
  refine zAb hK ?_; clear hK K
  refine wp_seq_k ?_; intro K hK
  refine wp_block ?_
  refine wp_seq_k ?_; intro K hK
  have hib : i < l.tops.length := by omega
  have hmd := hmm _ (List.getElem_mem hib)
  obtain ⟨t, ht⟩ : ∃ t, t = l.tops[i] := ⟨_, rfl⟩
  have hst := zHh l.tops hib
  rw [← ht] at hmd hst
  have htl := zJn (l.tops.take i)
  rw [List.length_take, Nat.min_eq_left oZ] at htl
  unfold Tp.made at hmd
  obtain ⟨kn, hkn⟩ : ∃ n : Nat, t.kind = n := ⟨t.kind.toNat, by omega⟩
  obtain ⟨vn, hvn⟩ : ∃ n : Nat, t.leaves = n := ⟨t.leaves.toNat, by omega⟩
  obtain ⟨sn, hsn⟩ : ∃ n : Nat, t.sectors = n := ⟨t.sectors.toNat, by omega⟩
  have hB : tpB t = zBu kn 1 ++ zBu vn 1 ++ zBu sn 4 := by simp [tpB, hkn, hvn, hsn]
  refine zAa ?_
  refine zp E (by first | exact zAp E rfl rfl rfl rfl rfl rfl oZ | exact zAz E rfl rfl rfl rfl rfl rfl oZ | exact zAm E rfl rfl rfl rfl rfl rfl oZ) ?_; clear E a; intro a E
  refine zp E (zDx (vs := [_, _, _]) E rfl rfl rfl rfl (hO.elem (lay := Tp.lay) Tp.lay_len (S.stab.at mZ) (i := i) hib)) ?_; clear E a; intro a E
  rw [← ht, hkn, hvn, hsn] at E
  refine zAf rfl (zBs E S rfl rfl dZ rfl rfl rfl ?_); clear E S a; intro a w b5 E S
  refine zAf rfl (zBr E S rfl rfl rfl rfl (by simp [Value.oneCell']) rfl pZ (by simp) ?_); clear E S a; intro a w E S; simp only [List.take_succ_cons, List.take_zero, List.drop_succ_cons, List.drop_zero, List.cons_append, List.nil_append, List.append_nil, List.length_cons, List.length_nil, Nat.zero_add, Nat.add_zero] at S
  refine wpList_nil ?_
  refine zAb hK ?_; clear hK K
  refine wp_seq_k ?_; intro K hK
  refine zAa ?_
  refine zd E ?_; clear E a; intro a E
  refine zp E (by first | exact zAc (q := 0) E rfl rfl rfl | exact zAd (q := 0) E rfl rfl rfl) ?_; clear E a; intro a E
  refine zd E ?_; clear E a; intro a E
  refine zp E (by first | exact zBe E rfl rfl rfl rfl (by first | exact wu8 _ | exact zHm oZ | exact zEo oZ | exact w_in oZ | exact zBj oZ | exact rfl) | exact zCc E rfl rfl rfl rfl rfl (by assumption) (S.stab.at (by simp))) ?_; clear E a; intro a E
  refine zAg E rfl rfl dZ rfl Tryz.func105 rfl yZ rfl (zGq p room _ A' _ hA' kn 1 (S.hp.sel sZ) hr oZ oZ oZ (by simp only [List.length_append, zBh]; omega)) ?_
  rintro v41 w ⟨B1, hB1, hT⟩; clear E a; intro a E
  have S := S.call1 sZ hT
  refine wpList_nil ?_
  refine zAb hK ?_; clear hK K
  refine wp_seq_k ?_; intro K hK
  refine zAa ?_
  refine zd E ?_; clear E a; intro a E
  refine zp E (by first | exact zAc (q := 1) E rfl rfl rfl | exact zAd (q := 1) E rfl rfl rfl) ?_; clear E a; intro a E
  refine zd E ?_; clear E a; intro a E
  refine zp E (by first | exact zBe E rfl rfl rfl rfl (by first | exact wu8 _ | exact zHm oZ | exact zEo oZ | exact w_in oZ | exact zBj oZ | exact rfl) | exact zCc E rfl rfl rfl rfl rfl (by assumption) (S.stab.at (by simp))) ?_; clear E a; intro a E
  refine zAg E rfl rfl dZ rfl Tryz.func105 rfl yZ rfl (zGq p room _ B1 _ hB1 vn 1 (S.hp.sel sZ) hr oZ oZ oZ (by simp only [List.length_append, zBh]; omega)) ?_
  rintro v46 w ⟨B2, hB2, hT⟩; clear E a; intro a E
  have S := S.call1 sZ hT
  refine wpList_nil ?_
  refine zAb hK ?_; clear hK K
  refine zAa ?_
  refine zd E ?_; clear E a; intro a E
  refine zp E (by first | exact zAc (q := 2) E rfl rfl rfl | exact zAd (q := 2) E rfl rfl rfl) ?_; clear E a; intro a E
  refine zd E ?_; clear E a; intro a E
  refine zp E (by first | exact zBe E rfl rfl rfl rfl (by first | exact wu8 _ | exact zHm oZ | exact zEo oZ | exact w_in oZ | exact zBj oZ | exact rfl) | exact zCc E rfl rfl rfl rfl rfl (by assumption) (S.stab.at (by simp))) ?_; clear E a; intro a E
  refine zAg E rfl rfl dZ rfl Tryz.func105 rfl yZ rfl (zGq p room _ B2 _ hB2 sn 4 (S.hp.sel sZ) hr oZ oZ oZ (by simp only [List.length_append, zBh]; omega)) ?_
  rintro v51 w ⟨B3, hB3, hT⟩; clear E a; intro a E
  have S := S.call1 sZ hT
  refine wpList_nil ?_
  refine zAq ?_
  refine zAb hK ?_; clear hK K
  refine zAa ?_
  refine zp E (zAy E rfl rfl rfl (by first | exact zBq (y := 1) oZ | exact w_in oZ | exact zBj oZ | exact rfl)) ?_; clear E a; intro a E
  refine zd E ?_; clear E a; intro a E
  refine wpList_nil ?_
  refine zAn ?_
  exact ⟨_, by omega, i + 1, B3, rfl, by omega, by rw [hst, hB]; simpa using hB3, ⟨_, S.front2 pZ (B := O) pZ⟩, E.keep (kE4 rfl rfl rfl rfl)⟩
 ·replace hb := Nrm.nrm hb
  refine wp_exit ?_
  refine zAl ?_; clear hK K
  refine zAl ?_
  refine zBi ?_
  refine end0 E rfl ?_
  obtain rfl : i = l.tops.length := by omega
  rw [List.take_length] at hA'
  exact ⟨_, rfl, A', hA', (S.only (Bs := [A', O]) sZ).tr⟩
theorem laidlb_ret (O : zAj) (v : Value) (l : Lbl) (hO : Rd O 3 v l.tops.length (l.tops.flatMap Tp.lay)) (ho : l.Ok) (w0 : World) (H : Hp w0 [O]) :
  Ret Tryz.prog 84 #[lbagg l v, .func (.func 85) #[] #[], .int .i64 96, .func (.func 86) #[] #[]] w0 fun u w' => ∃ v C, u = .tuple #[v, .int .i64 (lbE l)] ∧ Buf C 5 1 v (lbP l).length (byt (lbP l)) ∧ Trs w0 w' [O] [C, O] := by
 have S := St.begin H
 refine enter4 31 Tryz.func84 rfl rfl dZ ?_; intro a E
 refine wp_seq_k ?_; intro K hK
 refine zAa ?_
 refine zAf rfl (zBz E S rfl rfl dZ rfl rfl ?_); clear E S a; intro a w b4 E S
 iterate 2 (refine zd E ?_; clear E a; intro a E)
 refine wpList_nil ?_
 refine zAb hK ?_; clear hK K
 iterate 2 (refine wp_seq_k ?_; intro K hK)
 refine zAa ?_
 refine zd E ?_; clear E a; intro a E
 refine zp E (zBf (vs := [_, _, _, _]) E rfl rfl rfl (S.get pZ) rfl rfl) ?_; clear E a; intro a E
 refine zCy E rfl rfl dZ rfl rfl Tryz.func85 rfl yZ rfl (lbcheck_ret O v l hO _ (S.hp.sel sZ)) ?_
 rintro v14 w ⟨rfl, hT⟩; clear E a; intro a E
 have S := S.call1 sZ hT
 refine zd E ?_; clear E a; intro a E
 refine wpList_nil ?_
 refine zAb hK ?_; clear hK K
 refine wp_seq_k ?_; intro K hK
 refine zAa ?_
 iterate 2 (refine zd E ?_; clear E a; intro a E)
 refine wpList_nil ?_
 refine zAb hK ?_; clear hK K
 refine zAs E rfl (fun hb => ?_) (fun hb => ?_)
 ·replace hb := Nrm.nrm hb
  refine wp_seq_k ?_; intro K hK
  refine zAa ?_
  iterate 3 (refine zd E ?_; clear E a; intro a E)
  refine wpList_nil ?_
  refine zAb hK ?_; clear hK K
  refine wp_ret ?_
  refine zBc ?_; clear hK K
  refine ret2 E rfl rfl rfl ?_
  exact ⟨_, rfl, _, [], rfl, by rw [lbP_no hb]; exact Buf.nil _ _, by have h := (S.addNil.only (Bs := [[], O]) sZ).tr; exact h⟩
 ·replace hb := Nrm.nrm hb
  refine wp_skip ?_
  refine zAb hK ?_; clear hK K
  refine wp_seq_k ?_; intro K hK
  have hpe := hb
  have hsm := zKn hb
  have hp96 : (zGd (lbB l)).length = 96 := zFm oZ
  refine zAa ?_
  refine zd E ?_; clear E a; intro a E
  refine zAg E rfl rfl dZ rfl Tryz.func97 rfl yZ rfl (writer_ret 96 _) ?_
  rintro v19 w ⟨p, A, rfl, hA, hT⟩; clear E a; intro a E
  have S := S.fresh hT; have hA : WrC 202 p ⟨96, [], 0⟩ A := hA
  refine zd E ?_; clear E a; intro a E
  refine wpList_nil ?_
  refine zAb hK ?_; clear hK K
  refine wp_seq_k ?_; intro K hK
  refine zAa ?_
  iterate 2 (refine zd E ?_; clear E a; intro a E)
  refine zp E (zBf (vs := [_, _, _, _]) E rfl rfl rfl (S.get pZ) rfl rfl) ?_; clear E a; intro a E
  refine zCy E rfl rfl dZ rfl rfl Tryz.func86 rfl yZ rfl (laylb_ret p 96 A O v l hO ho hpe _ hA (S.hp.sel sZ) oZ oZ) ?_
  rintro v23 w ⟨A1, hA1, hT⟩; clear E a; intro a E
  have S := S.call2 sZ hT
  refine wpList_nil ?_
  refine zAb hK ?_; clear hK K
  refine wp_seq_k ?_; intro K hK
  refine zAa ?_
  iterate 2 (refine zd E ?_; clear E a; intro a E)
  refine zAg E rfl rfl dZ rfl Tryz.func101 rfl yZ rfl (pad_fit p 96 _ A1 _ hA1 96 (S.hp.sel sZ) oZ oZ oZ) ?_
  rintro v26 w ⟨A2, hA2, hT⟩; clear E a; intro a E
  have S := S.call1 sZ hT; have hA2 : WrC 202 p ⟨96, zGd (lbB l), 0⟩ A2 := hA2
  refine wpList_nil ?_
  refine zAb hK ?_; clear hK K
  refine wp_seq_k ?_; intro K hK
  refine zAa ?_
  refine zd E ?_; clear E a; intro a E
  refine zAg E rfl rfl dZ rfl Tryz.func100 rfl yZ rfl (done_fit p 96 _ A2 _ hA2 (S.hp.sel sZ) oZ) ?_
  rintro v28 w ⟨g, rfl, hT⟩; clear E a; intro a E
  have S := S.call2 sZ hT
  iterate 4 (refine zd E ?_; clear E a; intro a E)
  refine wpList_nil ?_
  refine zAb hK ?_; clear hK K
  refine wp_ret ?_
  refine ret2 E rfl rfl rfl ?_
  exact ⟨_, rfl, _, _, by rw [hpe], by rw [lbP_ok hpe]; exact zFv g (zGd (lbB l)) _ oZ, (S.only (Bs := [[(g, _)], O]) (zCj pk1 sZ)).tr⟩
theorem lbencode_ret (O : zAj) (v : Value) (l : Lbl) (hO : Rd O 3 v l.tops.length (l.tops.flatMap Tp.lay)) (ho : l.Ok) (w0 : World) (H : Hp w0 [O]) :
  Ret Tryz.prog 59 #[lbagg l v] w0 fun u w' => ∃ v C, u = .tuple #[v, .int .i64 (lbE l)] ∧ Buf C 5 1 v (lbO l).length (byt (lbO l)) ∧ Trs w0 w' [O] [C, O] := by
 have S := St.begin H
 refine zCh 11 Tryz.func59 rfl rfl dZ ?_; intro a E
 refine wp_seq_k ?_; intro K hK
 refine zAa ?_
 refine zAf rfl (zBz E S rfl rfl dZ rfl rfl ?_); clear E S a; intro a w b1 E S
 iterate 2 (refine zd E ?_; clear E a; intro a E)
 refine wpList_nil ?_
 refine zAb hK ?_; clear hK K
 refine wp_seq_k ?_; intro K hK
 refine zAa ?_
 refine zp E (zBf (vs := [_, _, _, _]) E rfl rfl rfl (S.get pZ) rfl rfl) ?_; clear E a; intro a E
 refine zAg E rfl rfl dZ rfl Tryz.func84 rfl yZ rfl (laidlb_ret O v l hO ho _ (S.hp.sel sZ)) ?_
 rintro v5 w ⟨x, C, rfl, hC, hT⟩; clear E a; intro a E
 have S := S.call2 sZ hT
 iterate 2 (refine zd E ?_; clear E a; intro a E)
 by_cases hz : lbE l = 0
 ·skip
  rw [hz] at E
  have hsm := zKn hz
  have hpl : (zGd (lbB l)).length = 96 := zFm oZ
  rw [lbP_ok hz] at hC
  refine zAg E rfl rfl dZ rfl Tryz.func83 rfl yZ rfl (whole_ret C x (zGd (lbB l)) hC.rd hpl _ (S.hp.sel sZ)) ?_
  rintro v8 w ⟨g, rfl, hT⟩; clear E a; intro a E
  have S := S.call2 sZ hT
  iterate 4 (refine zd E ?_; clear E a; intro a E)
  refine wpList_nil ?_
  refine zAb hK ?_; clear hK K
  refine wp_ret ?_
  refine ret2 E rfl rfl rfl ?_
  have hwl : (whole (lbB l)).length = 128 := zJc oZ
  have hB := zFv g (whole (lbB l)) 5 oZ
  rw [hwl] at hB
  exact ⟨_, rfl, _, _, by rw [hz], by rw [lbO_ok hz, hwl]; exact hB, (S.only (Bs := [[(g, _)], O]) (zCj pk1 sZ)).tr⟩
 ·skip
  refine zAg E rfl rfl dZ rfl Tryz.func83 rfl yZ rfl (wholeno_ret x _ hz _) ?_
  rintro v8 w ⟨rfl, hT⟩; clear E a; intro a E
  have S := S.quiet hT
  iterate 4 (refine zd E ?_; clear E a; intro a E)
  refine wpList_nil ?_
  refine zAb hK ?_; clear hK K
  refine wp_ret ?_
  refine ret2 E rfl rfl rfl ?_
  exact ⟨_, rfl, _, [], rfl, by rw [lbO_no hz]; exact Buf.nil _ _, (S.addNil.only (Bs := [[], O]) sZ).tr⟩
end Go.Proofs.YtpjidiaekifmbaaGreatDoor
namespace Go.Sl
section
variable {P : Program} {a : Act} {w : World} {n : Nat} {e : List (Nat × Value)} {ds : List Deferred} {fn : Func} {R : Ending → World → Prop}
end
theorem St.front7 {w0 w : World} {As Ls L1 L2 L3 L4 L5 L6 L7 : List zAj} {A B C D F G I : zAj} (S : St w0 As w Ls) (p : Ls.Perm (A :: L1)) (q : L1.Perm (B :: L2)) (r : L2.Perm (C :: L3)) (t : L3.Perm (D :: L4)) (u : L4.Perm (F :: L5)) (v : L5.Perm (G :: L6)) (x : L6.Perm (I :: L7)) : St w0 As w (A :: B :: C :: D :: F :: G :: I :: L7) := S.front6 p q r t u (v.trans (x.cons _))
theorem St.front8 {w0 w : World} {As Ls L1 L2 L3 L4 L5 L6 L7 L8 : List zAj} {A B C D F G I J : zAj} (S : St w0 As w Ls) (p : Ls.Perm (A :: L1)) (q : L1.Perm (B :: L2)) (r : L2.Perm (C :: L3)) (t : L3.Perm (D :: L4)) (u : L4.Perm (F :: L5)) (v : L5.Perm (G :: L6)) (x : L6.Perm (I :: L7)) (y : L7.Perm (J :: L8)) : St w0 As w (A :: B :: C :: D :: F :: G :: I :: J :: L8) := S.front7 p q r t u v (x.trans (y.cons _))
end Go.Sl
namespace Go.Sl
structure Wrote (R : Rk) (x : Dk) (k : Nat) (nw : List UInt8) (R' : Rk) : Prop where
 on : On R'
 ds : R'.ds = setD R.ds x.d fun y => { y with now := nw }
 ln : nw.length = x.pl.length
 ws : ∃ t, R'.ws = R.ws ++ t ∧ (∀ w ∈ t, w.d = x.d) ∧ t.length = k
 wr : R'.pw.wr = R.pw.wr + k
theorem wrote_one {R : Rk} (hO : On R) {x : Dk} (hf : x.failed = false) (hnw : x.now.length = x.pl.length) {at_ : Int} {b : List UInt8} (hm : zDy x.pl.length at_ b) :
  R.writeE x at_ b = 0 ∧ Wrote R x (b.length / 128) (zHd x.now at_.toNat b) (R.write x at_ b) := by
 obtain ⟨h1, t, h2, h3, h4⟩ := write_on hO hf hnw hm
 obtain ⟨m1, m2, m3, m4⟩ := hm
 rw [h2]
 exact ⟨h1, ⟨rfl, rfl⟩, rfl, by rw [zJa oZ]; exact hnw, ⟨t, rfl, h3, h4⟩, rfl⟩
theorem Wrote.more {R R' : Rk} {x : Dk} {k : Nat} {nw : List UInt8} (h : Wrote R x k nw R') {k2 : Nat} {nw2 : List UInt8} {R2 : Rk} (h2 : Wrote R' { x with now := nw } k2 nw2 R2) : Wrote R x (k + k2) nw2 R2 := by
 obtain ⟨t, e1, e2, e3⟩ := h.ws
 obtain ⟨t2, f1, f2, f3⟩ := h2.ws
 refine ⟨h2.on, ?_, h2.ln, ⟨t ++ t2, by rw [f1, e1, List.append_assoc], fun w hw => ?_, by rw [List.length_append]; omega⟩, by rw [h2.wr, h.wr]; omega⟩
 ·rw [h2.ds, h.ds]; exact setD_comp (d := x.d) (g := fun y => { y with now := nw }) (h := fun y => { y with now := nw2 }) (fun y _ hy => hy)
 ·rcases List.mem_append.1 hw with hw | hw
  ·exact e2 w hw
  ·exact f2 w hw
theorem Wrote.zero {R : Rk} (hO : On R) {x : Dk} (hnd : (R.ds.map Dk.d).Nodup) (hx : x ∈ R.ds) (hnw : x.now.length = x.pl.length) : Wrote R x 0 x.now R := by
 refine ⟨hO, ?_, hnw, ⟨[], by simp, by simp, rfl⟩, rfl⟩
 conv => lhs; rw [← List.map_id R.ds]
 refine (List.map_congr_left fun y hy => ?_).symm
 by_cases h : y.d = x.d
 ·rw [if_pos h, zGx hnd hy hx h]; rfl
 ·rw [if_neg h]; rfl
theorem Wrote.at {R R' : Rk} {x : Dk} {k : Nat} {nw : List UInt8} (h : Wrote R x k nw R') (hx : x ∈ R.ds) : { x with now := nw } ∈ R'.ds := by
 rw [h.ds]; exact setD_has (g := fun y => { y with now := nw }) hx
structure Wrote.Fl (R : Rk) (x : Dk) (k : Nat) (nw : List UInt8) (R' : Rk) : Prop where
 on : On R'
 ds : R'.ds = setD R.ds x.d fun y => { y with pl := nw, now := nw }
 ln : nw.length = x.pl.length
 ws : R'.ws = outW x.d R.ws
 wr : R'.pw.wr = R.pw.wr + k
theorem Wrote.flush {R R' : Rk} {x : Dk} {k : Nat} {nw : List UInt8} (h : Wrote R x k nw R') (hf : x.failed = false) : flE R'.pw x.failed = 0 ∧ Wrote.Fl R x k nw (R'.flush { x with now := nw }) := by
 have h0 : flE R'.pw x.failed = 0 := by unfold flE; rw [h.on.off, hf]; rfl
 refine ⟨h0, ⟨h.on.off, h.on.left⟩, ?_, h.ln, ?_, h.wr⟩
 ·unfold Rk.flush flP
  rw [if_pos h0, h.ds]
  exact setD_comp (d := x.d) (g := fun y => { y with now := nw }) (h := fun y => { y with pl := nw }) (fun y _ hy => hy)
 ·obtain ⟨t, e1, e2, e3⟩ := h.ws
  unfold Rk.flush flW
  rw [if_pos h0, e1, outW_app, outW_self e2, List.append_nil]
def plc (n k : Nat) : Nat := if k = 0 then 0 else if k = 1 then 9 else if k = 2 then n - 18 else n - 9
end Go.Sl
namespace Go.Proofs.YtpjidiaekifmbaaGreatDoor
open Go.Sl
set_option maxRecDepth 10000
section
variable (P : Nat) (R : Rk) (C : zAj) (hC : RkC P R C) (x : Dk) (hx : x ∈ R.ds)
include hC hx
theorem places_ret (n : Nat) (hn : x.pl.length = n * 128) (h18 : 18 ≤ n) (w0 : World) (H : Hp w0 [C]) :
  Ret Tryz.prog 63 #[ptr x.d] w0 fun u w' => u = .agg #[.int .i64 (plc n 0), .int .i64 (plc n 1), .int .i64 (plc n 2), .int .i64 (plc n 3)] ∧ Trs w0 w' [C] [C] := by
 have S := St.begin H
 have hl := (hC.ok.1.2 x hx).2
 have hd : x.pl.length / 128 = n := by omega
 refine zCh 11 Tryz.func63 rfl rfl dZ ?_; intro a E
 refine wp_seq_k ?_; intro K hK
 refine zAa ?_
 refine zAf rfl (zBs E S rfl rfl dZ rfl rfl rfl ?_); clear E S a; intro a w b2 E S
 refine wpList_nil ?_
 refine zAb hK ?_; clear hK K
 refine wp_seq_k ?_; intro K hK
 refine zAa ?_
 refine zd E ?_; clear E a; intro a E
 refine zAg E rfl rfl dZ rfl Tryz.func53 rfl yZ rfl (zFu P R C hC x hx _ (S.hp.sel sZ)) ?_
 rintro v5 w ⟨rfl, hT⟩; clear E a; intro a E
 have S := S.call1 sZ hT; rw [hd] at E
 refine zd E ?_; clear E a; intro a E
 refine wpList_nil ?_
 refine zAb hK ?_; clear hK K
 refine wp_seq_k ?_; intro K hK
 refine zAa ?_
 refine zd E ?_; clear E a; intro a E
 refine zp E (zCo E rfl rfl rfl (by first | exact zEc (y := 18) oZ oZ | exact w_in oZ | exact zBj oZ | exact rfl)) ?_; clear E a; intro a E
 refine zd E ?_; clear E a; intro a E
 refine zp E (zCo E rfl rfl rfl (by first | exact zEc (y := 9) oZ oZ | exact w_in oZ | exact zBj oZ | exact rfl)) ?_; clear E a; intro a E
 refine zp E (zBt (cells := [_, _, _, _]) E rfl rfl rfl) ?_; clear E a; intro a E
 refine zAf rfl (zBr E S rfl rfl rfl rfl (by simp [Value.oneCell']) rfl pZ (by simp) ?_); clear E S a; intro a w E S; simp only [List.take_succ_cons, List.take_zero, List.drop_succ_cons, List.drop_zero, List.cons_append, List.nil_append, List.append_nil, List.length_cons, List.length_nil, Nat.zero_add, Nat.add_zero] at S
 refine wpList_nil ?_
 refine zAb hK ?_; clear hK K
 refine wp_ret ?_
 refine zKj E rfl rfl (S.get pZ) rfl ?_
 exact ⟨_, rfl, by simp [plc], (S.only (Bs := [C]) sZ).tr⟩
theorem won_ret (hO : On R) (hf : x.failed = false) (hws : R.ws.length + 8192 ≤ 244335861110) (hwr : R.pw.wr ≤ 1000000000000000000) (at_ : Nat) (v : Value) (b : List UInt8) (D : zAj) (hD : Rd D 1 v b.length (byt b)) (hcap : ∃ ad c, v = .slice ad b.length c ∧ b.length ≤ c)
  (hm : zDy x.pl.length at_ b) (w0 : World) (H : Hp w0 [C, D]) :
  Ret Tryz.prog 61 #[ptr x.d, .int .i64 at_, v] w0 fun u w' => u = .int .i64 0 ∧ ∃ R' C', Wrote R x (b.length / 128) (zHd x.now at_ b) R' ∧ RkC P R' C' ∧ Trs w0 w' [C, D] [C', D] := by
 have hl := hC.ok.1.2 x hx
 obtain ⟨m1, m2, m3, m4⟩ := id hm
 refine (rk_write P R C hC x hx hws hwr (by rw [hO.left]; decide) at_ oZ v b D hD hcap w0 H).mono fun u w' ⟨C', hu, hC', hT⟩ => ?_
 obtain ⟨h1, h2⟩ := wrote_one hO hf hl.1 hm
 rw [h1] at hu
 exact ⟨hu, _, C', h2, hC', hT⟩
theorem format1_ret (hO : On R) (hf : x.failed = false) (hws : R.ws.length + 8192 ≤ 244335861110) (hwr : R.pw.wr ≤ 1000000000000000000) (n : Nat) (hn : x.pl.length = n * 128) (h274 : 274 ≤ n) (b2 : Nat) (w0 : World) (H : Hp w0 [C, [(b2, cel [ptr x.d] 56)]]) :
  Ret Tryz.prog 60 #[ptr b2] w0 fun u w' => u = .int .i64 0 ∧ ∃ nw R' C', Wrote R x 274 nw R' ∧ RkC P R' C' ∧ Trs w0 w' [C, [(b2, cel [ptr x.d] 56)]] [C', [(b2, cel [ptr x.d] 56)]] := by
 have S := St.begin H
 have hz : List.replicate 35072 (.int .u8 0) = byt (List.replicate 35072 0) := (zFd 35072).symm
 have hzl : (List.replicate 35072 (0 : UInt8)).length = 35072 := List.length_replicate
 obtain ⟨zs, hzs⟩ : ∃ zs, zs = List.replicate 35072 (0 : UInt8) := ⟨_, rfl⟩
 rw [← hzs] at hz hzl
 refine zCh 5 Tryz.func60 rfl rfl dZ ?_; intro a E
 refine wp_seq_k ?_; intro K hK
 refine zAa ?_
 refine zd E ?_; clear E a; intro a E
 refine wpList_nil ?_
 refine zAb hK ?_; clear hK K
 refine wp_seq_k ?_; intro K hK
 refine zDe S (.ofL [(0, 0), (1, 1), (2, 3), (3, 2)]) [[(b2, cel [ptr x.d] 56)]] (fun h => h.sub (by first | (simp; done) | (simp +contextual; done) | (simp [*]; done))) yZ yZ ?_
 clear S; intro w S
 refine zmd E ?_; clear E a; intro a E
 refine zDb rfl rfl (zCn (by' := 1) E S rfl rfl dZ rfl rfl rfl rfl rfl rfl rfl rfl rfl rfl rfl (k := 35072) (mkb oZ) (by simp only [maxLen]; omega) ?_); clear E S a; intro a w g3 E S; refine ⟨S.stab.sub (fun D hD => by rw [List.mem_singleton.1 hD]; exact mZ), ?_⟩
 rw [hz] at S
 refine zDd E rfl rfl rfl dZ rfl Tryz.func61 rfl yZ rfl (won_ret P R C hC x hx hO hf hws hwr 0 _ zs [(g3, _)] (by rw [hzl]; exact zBn (T := 5) (by rw [zAv, hzl]) (zCq _) oZ _) ⟨_, _, by rw [hzl], by rw [hzl]; exact Nat.le_refl _⟩ (by unfold zDy; rw [hzl]; omega) _ (S.hp.sel sZ)) ?_
 rintro v4 w ⟨rfl, R', C', hW, hC', hT⟩; clear E a; intro a E
 have S := S.call2 sZ hT
 refine zBp E rfl rfl rfl dZ (fun w => zCi E rfl rfl) ?_; clear E a; intro a E
 refine zBd ?_
 refine zAb hK ?_; clear hK K
 refine wp_ret ?_
 refine ret1 E rfl rfl ?_
 exact ⟨_, rfl, rfl, _, R', C', by rw [hzl] at hW; exact hW, hC', (S.only (Bs := [C', [(b2, _)]]) sZ).tr⟩
theorem format2_ret (hO : On R) (hf : x.failed = false) (hws : R.ws.length + 8192 ≤ 244335861110) (hwr : R.pw.wr ≤ 1000000000000000000) (n : Nat) (hn : x.pl.length = n * 128) (h274 : 274 ≤ n) (b2 : Nat) (w0 : World) (H : Hp w0 [C, [(b2, cel [ptr x.d] 56)]]) :
  Ret Tryz.prog 62 #[ptr b2] w0 fun u w' => u = .int .i64 0 ∧ ∃ nw R' C', Wrote R x 18 nw R' ∧ RkC P R' C' ∧ Trs w0 w' [C, [(b2, cel [ptr x.d] 56)]] [C', [(b2, cel [ptr x.d] 56)]] := by
 have S := St.begin H
 have hl := (hC.ok.1.2 x hx).2
 have hd : x.pl.length / 128 = n := by omega
 have hz : List.replicate 2304 (.int .u8 0) = byt (List.replicate 2304 0) := (zFd 2304).symm
 have hzl : (List.replicate 2304 (0 : UInt8)).length = 2304 := List.length_replicate
 obtain ⟨zs, hzs⟩ : ∃ zs, zs = List.replicate 2304 (0 : UInt8) := ⟨_, rfl⟩
 rw [← hzs] at hz hzl
 refine zCh 8 Tryz.func62 rfl rfl dZ ?_; intro a E
 refine wp_seq_k ?_; intro K hK
 refine zAa ?_
 refine zd E ?_; clear E a; intro a E
 refine wpList_nil ?_
 refine zAb hK ?_; clear hK K
 refine wp_seq_k ?_; intro K hK
 refine zDe S (.cons (0, 0) (.cons (1, 0) (.fork 2 (.ofL [(3, 0), (4, 1), (5, 3), (6, 2)]) 4 (.ofL [(2, 1), (3, 0), (5, 3), (6, 2)])))) [[(b2, cel [ptr x.d] 56)]] (fun h => h.sub (by first | (simp; done) | (simp +contextual; done) | (simp [*]; done))) yZ yZ ?_
 clear S; intro w S
 iterate 2 (refine zmd E ?_; clear E a; intro a E)
 refine ⟨?_, ?_⟩
 ·skip
  refine zBo E rfl rfl rfl dZ rfl Tryz.func53 rfl yZ rfl (zFu P R C hC x hx _ (S.hp.sel sZ)) ?_
  rintro v4 w ⟨rfl, hT⟩; clear E a; intro a E
  have S := S.call1 sZ hT; rw [hd] at E
  refine ⟨S.stab.sub (fun D hD => by rw [List.mem_singleton.1 hD]; exact mZ), ?_⟩
  refine zm E rfl (fun w h => zCo E rfl rfl rfl (by first | exact zEc (y := 18) oZ oZ | exact w_in oZ | exact zBj oZ | exact rfl)) ?_; clear E a; intro a E
  refine zDb rfl rfl (zCn (by' := 1) E S rfl rfl dZ rfl rfl rfl rfl rfl rfl rfl rfl rfl rfl rfl (k := 2304) (mkb oZ) (by simp only [maxLen]; omega) ?_); clear E S a; intro a w g6 E S; refine ⟨S.stab.sub (fun D hD => by rw [List.mem_singleton.1 hD]; exact mZ), ?_⟩
  rw [hz] at S
  refine zDd E rfl rfl rfl dZ rfl Tryz.func61 rfl yZ rfl (won_ret P R C hC x hx hO hf hws hwr (n - 18) _ zs [(g6, _)] (by rw [hzl]; exact zBn (T := 5) (by rw [zAv, hzl]) (zCq _) oZ _) ⟨_, _, by rw [hzl], by rw [hzl]; exact Nat.le_refl _⟩ (by unfold zDy; rw [hzl]; omega) _ (S.hp.sel sZ)) ?_
  rintro v7 w ⟨rfl, R', C', hW, hC', hT⟩; clear E a; intro a E
  have S := S.call2 sZ hT
  refine zBp E rfl rfl rfl dZ (fun w => zCi E rfl rfl) ?_; clear E a; intro a E
  refine zBd ?_
  refine zAb hK ?_; clear hK K
  refine wp_ret ?_
  refine ret1 E rfl rfl ?_
  exact ⟨_, rfl, rfl, _, R', C', by rw [hzl] at hW; exact hW, hC', (S.only (Bs := [C', [(b2, _)]]) sZ).tr⟩
 ·skip
  refine zDb rfl rfl (zCn (by' := 1) E S rfl rfl dZ rfl rfl rfl rfl rfl rfl rfl rfl rfl rfl rfl (k := 2304) (mkb oZ) (by simp only [maxLen]; omega) ?_); clear E S a; intro a w g6 E S; refine ⟨S.stab.sub (fun D hD => by rw [List.mem_singleton.1 hD]; exact mZ), ?_⟩
  rw [hz] at S
  refine zBo E rfl rfl rfl dZ rfl Tryz.func53 rfl yZ rfl (zFu P R C hC x hx _ (S.hp.sel sZ)) ?_
  rintro v4 w ⟨rfl, hT⟩; clear E a; intro a E
  have S := S.call1 sZ hT; rw [hd] at E
  refine ⟨S.stab.sub (fun D hD => by rw [List.mem_singleton.1 hD]; exact mZ), ?_⟩
  refine zm E rfl (fun w h => zCo E rfl rfl rfl (by first | exact zEc (y := 18) oZ oZ | exact w_in oZ | exact zBj oZ | exact rfl)) ?_; clear E a; intro a E
  refine zDd E rfl rfl rfl dZ rfl Tryz.func61 rfl yZ rfl (won_ret P R C hC x hx hO hf hws hwr (n - 18) _ zs [(g6, _)] (by rw [hzl]; exact zBn (T := 5) (by rw [zAv, hzl]) (zCq _) oZ _) ⟨_, _, by rw [hzl], by rw [hzl]; exact Nat.le_refl _⟩ (by unfold zDy; rw [hzl]; omega) _ (S.hp.sel sZ)) ?_
  rintro v7 w ⟨rfl, R', C', hW, hC', hT⟩; clear E a; intro a E
  have S := S.call2 sZ hT
  refine zBp E rfl rfl rfl dZ (fun w => zCi E rfl rfl) ?_; clear E a; intro a E
  refine zBd ?_
  refine zAb hK ?_; clear hK K
  refine wp_ret ?_
  refine ret1 E rfl rfl ?_
  exact ⟨_, rfl, rfl, _, R', C', by rw [hzl] at hW; exact hW, hC', (S.only (Bs := [C', [(b2, _)]]) sZ).tr⟩
theorem format3_ret (hO : On R) (hf : x.failed = false) (hws : R.ws.length + 8192 ≤ 244335861110) (hwr : R.pw.wr ≤ 1000000000000000000) (n k : Nat) (hn : x.pl.length = n * 128) (h274 : 274 ≤ n) (v : Value) (b : List UInt8) (hbl : b.length = 128) (D : zAj) (hD : Rd D 1 v b.length (byt b)) (hcap : ∃ ad c, v = .slice ad b.length c ∧ b.length ≤ c)
  (b2 b10 b6 : Nat) (G : zAj) (hG : (b10, cel [.int .i64 (plc n k)] 3) ∈ G) (T2 : TypeId) (w0 : World) (H : Hp w0 [C, D, G, [(b2, cel [ptr x.d] 56)], [(b6, cel [v] T2)]]) :
  Ret Tryz.prog 64 #[ptr b2, ptr b10, ptr b6] w0 fun u w' => u = .int .i64 0 ∧ ∃ nw R' C', Wrote R x 1 nw R' ∧ RkC P R' C' ∧ Trs w0 w' [C, D, G, [(b2, cel [ptr x.d] 56)], [(b6, cel [v] T2)]] [C', D, G, [(b2, cel [ptr x.d] 56)], [(b6, cel [v] T2)]] := by
 have S := St.begin H
 have hp : plc n k + 1 ≤ n := by unfold plc; split; omega; split; omega; split <;> omega
 obtain ⟨ad, c, rfl, hcl⟩ := hcap
 refine zDi 8 Tryz.func64 rfl rfl dZ ?_; intro a E
 refine wp_seq_k ?_; intro K hK
 refine zAa ?_
 refine zd E ?_; clear E a; intro a E
 refine wpList_nil ?_
 refine zAb hK ?_; clear hK K
 refine wp_seq_k ?_; intro K hK
 refine zAa ?_
 refine zd E ?_; clear E a; intro a E
 refine zp E (zAo E rfl rfl rfl (zBv (j := 0) (S.stab.at (C := G) mZ _ hG) rfl)) ?_; clear E a; intro a E
 refine zd E ?_; clear E a; intro a E
 refine zAg E rfl rfl dZ rfl Tryz.func61 rfl yZ rfl (won_ret P R C hC x hx hO hf hws hwr (plc n k) _ b D hD ⟨_, _, rfl, hcl⟩ (by unfold zDy; omega) _ (S.hp.sel sZ)) ?_
 rintro v7 w ⟨rfl, R', C', hW, hC', hT⟩; clear E a; intro a E
 have S := S.call2 sZ hT
 refine zd E ?_; clear E a; intro a E
 refine wpList_nil ?_
 refine zAb hK ?_; clear hK K
 refine wp_ret ?_
 refine ret1 E rfl rfl ?_
 exact ⟨_, rfl, rfl, _, R', C', by rw [hbl] at hW; exact hW, hC', (S.front5 (A := C') pZ (B := D) pZ (C := G) pZ (D := [(b2, _)]) pZ (F := [(b6, _)]) pZ).tr⟩
end
end Go.Proofs.YtpjidiaekifmbaaGreatDoor
