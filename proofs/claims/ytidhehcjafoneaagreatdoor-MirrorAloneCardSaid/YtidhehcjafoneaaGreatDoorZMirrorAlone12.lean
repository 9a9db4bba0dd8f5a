/-
  Texts put together (12).
-/
import Derived.Test.YtidhehcjafoneaaGreatDoorZMirrorAlone11
namespace Go.Sl
def patS (D : List Nat) (a : Nat) (b : List UInt8) (ds : List Dk) : List Dk := ds.map fun y => if y.d ∈ D then { y with now := zHn y.now a b } else y
theorem patS_d (D : List Nat) (a : Nat) (b : List UInt8) (ds : List Dk) : (patS D a b ds).map Dk.d = ds.map Dk.d := by
  rw [patS, List.map_map]
  refine List.map_congr_left fun y _ => ?_
  simp only [Function.comp]; split <;> rfl
theorem patS_has {D : List Nat} {a : Nat} {b : List UInt8} {ds : List Dk} {x : Dk} (hx : x ∈ ds) : (if x.d ∈ D then { x with now := zHn x.now a b } else x) ∈ patS D a b ds := List.mem_map.2 ⟨x, hx, rfl⟩
structure LaidOn (R : Rk) (D : List Nat) (a : Nat) (b : List UInt8) (R' : Rk) : Prop where
  on : On R'
  ds : R'.ds = patS D a b R.ds
  ws : R'.ws.length ≤ R.ws.length + 8 * D.length
  wr : R'.pw.wr ≤ R.pw.wr + 8 * D.length
theorem LaidOn.nil {R : Rk} (hO : On R) (a : Nat) (b : List UInt8) : LaidOn R [] a b R :=
  ⟨hO, by simp [patS], by simp, by simp⟩
theorem LaidOn.has {R R' : Rk} {D : List Nat} {a : Nat} {b : List UInt8} (h : LaidOn R D a b R') {d : Nat} (hd : R.has d) : R'.has d := by
  obtain ⟨x, h1, h2⟩ := hd
  have := patS_has (D := D) (a := a) (b := b) h1
  rw [← h.ds] at this
  exact ⟨_, this, by split <;> exact h2⟩
theorem LaidOn.nodup {R R' : Rk} {D : List Nat} {a : Nat} {b : List UInt8} (h : LaidOn R D a b R') (hnd : (R.ds.map Dk.d).Nodup) : (R'.ds.map Dk.d).Nodup := by
  rw [h.ds, patS_d]; exact hnd
theorem LaidOn.at {R R' : Rk} {D : List Nat} {a : Nat} {b : List UInt8} (h : LaidOn R D a b R') (hnd : (R.ds.map Dk.d).Nodup) {d : Nat} (hd : R.has d) :
    dkOf R' d = if d ∈ D then { dkOf R d with now := zHn (dkOf R d).now a b } else dkOf R d := by
  obtain ⟨h1, h2⟩ := zDb hd
  have h3 := patS_has (D := D) (a := a) (b := b) h1
  rw [← h.ds, h2] at h3
  have h4 := dkOf_eq (h.nodup hnd) h3
  split at h4
  · rename_i q; rw [if_pos q]
    rw [h4]
    generalize dkOf R d = z at h2
    cases z; simp only at h2; subst h2; rfl
  · rename_i q; rw [if_neg q]
    rw [h2] at h4; exact h4
theorem LaidOn.more {R R' : Rk} {D : List Nat} {a : Nat} {b : List UInt8} (h : LaidOn R D a b R') (hnd : (R.ds.map Dk.d).Nodup) (hok : ∀ x ∈ R.ds, x.now.length = x.pl.length) {d : Nat} (hd : R.has d) (hD : d ∉ D)
    (hf : (dkOf R d).failed = false) {at_ : Int} (ha : a = (274 + at_).toNat) (hb : b.length % 128 = 0) (hb8 : b.length / 128 ≤ 8) (hfit : zIr (dkOf R d) at_ (b.length / 128 : Nat)) :
    (zDw R' (dkOf R' d) at_ b).2 = 0 ∧ LaidOn R (D ++ [d]) a b (zDw R' (dkOf R' d) at_ b).1 := by
  have he : dkOf R' d = dkOf R d := by rw [h.at hnd hd, if_neg hD]
  obtain ⟨h1, h2⟩ := zDb hd
  have g1 := hok _ h1
  have hask : zJg R' (dkOf R d) = 0 := by unfold zJg; rw [h.on.off, hf]; rfl
  obtain ⟨f1, f2, f3, f4⟩ := hfit
  have hl : zEl (dkOf R d) = (((dkOf R d).pl.length / 128 : Nat) : Int) - 292 := rfl
  have hm : zEu (dkOf R d).pl.length (274 + at_) b := by
    unfold zEu; refine ⟨hb, by omega, by omega, by omega⟩
  obtain ⟨e1, t, e2, e3, e4⟩ := write_on h.on hf g1 hm
  have hw : zDw R' (dkOf R' d) at_ b = (R'.write (dkOf R d) (274 + at_) b, R'.writeE (dkOf R d) (274 + at_) b) := by
    rw [he]; unfold zDw; rw [if_neg (fun q => q hask), if_neg (fun q => q.elim (fun q => q hb) (fun q => q ⟨f1, f2, f3, f4⟩))]
  rw [hw]
  refine ⟨e1, ?_⟩
  rw [e2]
  refine ⟨⟨rfl, rfl⟩, ?_, ?_, ?_⟩
  · show setD R'.ds _ _ = _
    rw [h.ds, h2, setD, patS, patS, List.map_map]
    refine List.map_congr_left fun y hy => ?_
    simp only [Function.comp, List.mem_append, List.mem_singleton]
    by_cases hyd : y.d = d
    · have : y = dkOf R d := zHi hnd hy h1 (hyd.trans h2.symm)
      rw [if_neg (show y.d ∉ D by rw [hyd]; exact hD), if_pos hyd, if_pos (Or.inr hyd), ha, this]
    · by_cases hyD : y.d ∈ D
      · rw [if_pos hyD, if_neg hyd, if_pos (Or.inl hyD)]
      · rw [if_neg hyD, if_neg hyd, if_neg (fun q => q.elim hyD hyd)]
  · show (R'.ws ++ t).length ≤ _
    rw [List.length_append, List.length_append]
    have := h.ws
    simp only [List.length_singleton]; omega
  · show R'.pw.wr + b.length / 128 ≤ _
    have := h.wr
    rw [List.length_append]
    simp only [List.length_singleton]; omega
abbrev lvs (xs : List (Nat × Nat)) : List Lf := xs.map some
theorem lvs_at {xs : List (Nat × Nat)} {i : Nat} (hi : i < xs.length) : (lvs xs)[i]? = some (some xs[i]) := by simp [lvs, hi]
theorem zIh {P : Nat} {R : Rk} {C : zAs} (hC : Go.Proofs.YtidhehcjafoneaaGreatDoor.RkC P R C) : (R.ds.map Dk.d).Nodup ∧ ∀ x ∈ R.ds, x.now.length = x.pl.length :=
  ⟨hC.ok.1.1, fun x hx => (hC.ok.1.2 x hx).1⟩
theorem take_not {xs : List Nat} (hnd : xs.Nodup) {i : Nat} (hi : i < xs.length) : xs[i] ∉ xs.take i := by
  intro hm
  obtain ⟨j, hj, he⟩ := List.mem_iff_getElem.1 hm
  rw [List.length_take] at hj
  rw [List.getElem_take] at he
  have := (List.getElem_inj hnd).1 he
  omega
end Go.Sl
namespace Go.Proofs.YtidhehcjafoneaaGreatDoor
open Go.Sl
set_option maxRecDepth 10000
section
variable (P : Nat) (R : Rk) (C : zAs) (hC : RkC P R C) (hO : On R) (xs : List (Nat × Nat)) (hx5 : xs.length ≤ 5) (hnd : (xs.map Prod.snd).Nodup) (Lv : zAs) (hLv : LvC (lvs xs) Lv) (hds : ∀ x ∈ xs, R.has x.2) (hnf : ∀ x ∈ xs, (dkOf R x.2).failed = false)
  (z : Int) (hz : ∀ x ∈ xs, zEl (dkOf R x.2) = z) (hz0 : 0 ≤ z ∧ z ≤ 8192) (hws : R.ws.length + 10000 ≤ 244335861110) (hwr : R.pw.wr + 10000 ≤ 1000000000000000000)
  (t : Nat) (vl vk : Value) (CL : zAs) (hCL : Buf CL 49 1 vl xs.length ((lvs xs).map lv)) (at_ : Int) (ha : -9223372036854775808 ≤ at_ ∧ at_ ≤ 9223372036854775807) (b : List UInt8) (v : Value) (D : zAs) (hD : Rd D 1 v b.length (byt b))
include hC hO hx5 hnd hLv hds hnf hz hz0 hws hwr hCL ha hD
theorem mwrite_ret (h1 : 1 ≤ xs.length) (hbl : b.length ≤ 9223372036854775807) (txg : Int) (ht : 1 ≤ txg ∧ txg ≤ 281474976710656) (w0 : World) (H : Hp w0 [C, Lv, [(t, mtcl vl vk z)], CL, D]) :
    Ret Tryz.prog 8 #[ptr t, .int .i64 at_, v, .int .u64 txg] w0 fun u w' => (¬ zEj z at_ b.length ∧ u = .int .i64 1 ∧ Trs w0 w' [C, Lv, [(t, mtcl vl vk z)], CL, D] [C, Lv, [(t, mtcl vl vk z)], CL, D]) ∨
      (zEj z at_ b.length ∧ u = .int .i64 0 ∧ ∃ R' C' Lv', LaidOn R (xs.map Prod.snd) (274 + at_).toNat (padM b) R' ∧ RkC P R' C' ∧ LvC (lvs xs) Lv' ∧ Trs w0 w' [C, Lv, [(t, mtcl vl vk z)], CL, D] [C', Lv', [(t, mtcl vl vk z)], CL, D]) := by
  have S := St.begin H
  have hsh := zIh hC
  obtain ⟨ad, c, rfl⟩ := hCL.slice
  obtain ⟨adb, cb, rfl⟩ := hD.slice
  obtain ⟨g, rfl⟩ := hCL.addr (by omega)
  by_cases hfit : ¬ zEj z at_ b.length
  · skip
    refine enter4 60 Tryz.func8 rfl rfl (by decide) ?_; intro a E
    refine wp_seq_k ?_; intro K hK
    refine zAc ?_
    refine zp E (zAg E rfl rfl) ?_; clear E a; intro a E
    refine wpList_nil ?_
    refine zAh hK ?_; clear hK; clear K
    iterate 2 (refine wp_seq_k ?_; intro K hK)
    refine zAc ?_
    iterate 3 (refine zp E (zAe E rfl rfl) ?_; clear E a; intro a E)
    refine zp E (by first | exact zCa E rfl rfl rfl | exact zBa E rfl rfl rfl | exact zAt E rfl rfl rfl) ?_; clear E a; intro a E
    refine zAr E rfl rfl (by decide) rfl Tryz.func34 rfl (by kernel_rfl) rfl (zKh t _ vk z at_ b.length hz0 (by omega) _ (S.hp.sel (zAd (by repeat (first | exact pk1 | apply zAa)) (zAk _)))) ?_
    rintro v17 w ⟨rfl, hT⟩; clear E a; intro a E
    have S := S.call1 (zAd (by repeat (first | exact pk1 | apply zAa)) (zAk _)) hT; rw [decide_eq_false hfit] at E
    refine zp E (zEg E rfl rfl) ?_; clear E a; intro a E
    refine zp E (zAe E rfl rfl) ?_; clear E a; intro a E
    refine zCp E (t := 19) rfl (rfl) (fun hb19 => ?_)
    iterate 2 (refine zn E hb19 ?_; clear E a; intro a E)
    refine zp E (zAm E rfl rfl hb19 rfl) ?_; clear E a; intro a E
    refine zp E (zAe E rfl rfl) ?_; clear E a; intro a E
    iterate 2 (refine zn E rfl ?_; clear E a; intro a E)
    refine zp E (zAm E rfl rfl rfl rfl) ?_; clear E a; intro a E
    refine wpList_nil ?_
    refine zAh hK ?_; clear hK; clear K
    refine zDa E rfl rfl ?_
    refine wp_seq_k ?_; intro K hK
    refine zAc ?_
    refine zp E (zAg E rfl rfl) ?_; clear E a; intro a E
    refine wpList_nil ?_
    refine zAh hK ?_; clear hK; clear K
    refine wp_ret ?_
    refine zBi ?_; clear hK; clear K
    refine ret1 E rfl rfl ?_
    exact ⟨_, rfl, .inl ⟨hfit, rfl, (S.only (Bs := [C, Lv, [(t, _)], CL, D]) (zAd (by repeat (first | exact pk1 | apply zAa)) (zAd (by repeat (first | exact pk1 | apply zAa)) (zAd (by repeat (first | exact pk1 | apply zAa)) (zAd (by repeat (first | exact pk1 | apply zAa)) (zAd (by repeat (first | exact pk1 | apply zAa)) (zAk _))))))).tr⟩⟩
  have hfit : zEj z at_ b.length := Classical.not_not.1 hfit
  obtain ⟨f1, f2, f3, f4⟩ := id hfit
  obtain ⟨n1, n2, n3, n4⟩ := zEo b.length
  have hpl := zEr f1
  have ha0 : 0 ≤ at_ := f2
  have hfin : ∀ (i : Nat) (hi : i < xs.length) (R' : Rk), LaidOn R ((xs.map Prod.snd).take i) (274 + at_).toNat (padM b) R' → (zDw R' (dkOf R' xs[i].2) at_ (padM b)).2 = 0 ∧ LaidOn R ((xs.map Prod.snd).take (i + 1)) (274 + at_).toNat (padM b) (zDw R' (dkOf R' xs[i].2) at_ (padM b)).1 := fun i hi R' hL => by
    have hm : xs[i] ∈ xs := List.getElem_mem hi
    have hi' : i < (xs.map Prod.snd).length := by simpa using hi
    have he : (xs.map Prod.snd)[i] = xs[i].2 := List.getElem_map ..
    have hnot := take_not hnd hi'
    rw [he] at hnot
    have := hL.more hsh.1 hsh.2 (hds _ hm) hnot (hnf _ hm) rfl (by omega) (by omega) (by rw [hpl]; unfold zIr; rw [hz _ hm]; omega)
    rw [← List.take_append_getElem hi', he]; exact this
  refine enter4 60 Tryz.func8 rfl rfl (by decide) ?_; intro a E
  refine wp_seq_k ?_; intro K hK
  refine zAc ?_
  refine zp E (zAg E rfl rfl) ?_; clear E a; intro a E
  refine wpList_nil ?_
  refine zAh hK ?_; clear hK; clear K
  iterate 2 (refine wp_seq_k ?_; intro K hK)
  refine zAc ?_
  iterate 3 (refine zp E (zAe E rfl rfl) ?_; clear E a; intro a E)
  refine zp E (by first | exact zCa E rfl rfl rfl | exact zBa E rfl rfl rfl | exact zAt E rfl rfl rfl) ?_; clear E a; intro a E
  refine zAr E rfl rfl (by decide) rfl Tryz.func34 rfl (by kernel_rfl) rfl (zKh t _ vk z at_ b.length hz0 (by omega) _ (S.hp.sel (zAd (by repeat (first | exact pk1 | apply zAa)) (zAk _)))) ?_
  rintro v17 w ⟨rfl, hT⟩; clear E a; intro a E
  have S := S.call1 (zAd (by repeat (first | exact pk1 | apply zAa)) (zAk _)) hT; rw [decide_eq_true hfit] at E
  refine zp E (zEg E rfl rfl) ?_; clear E a; intro a E
  refine zp E (zAe E rfl rfl) ?_; clear E a; intro a E
  refine zCh E (t := 19) rfl (rfl) (fun hb19 => ?_)
  refine zy E hb19 (zAe E rfl rfl) ?_; clear E a; intro a E
  refine zy E hb19 (zCb E rfl rfl rfl) ?_; clear E a; intro a E
  refine zp E (zAq E rfl rfl hb19 rfl) ?_; clear E a; intro a E
  refine zp E (zAe E rfl rfl) ?_; clear E a; intro a E
  refine zCh E (t := 23) rfl ((by simp; omega)) (fun hb23 => ?_)
  refine zy E hb23 (zAe E rfl rfl) ?_; clear E a; intro a E
  refine zy E hb23 (zDd E rfl rfl rfl) ?_; clear E a; intro a E
  refine zp E (zAq E rfl rfl hb23 rfl) ?_; clear E a; intro a E
  refine wpList_nil ?_
  refine zAh hK ?_; clear hK; clear K
  refine zBt E rfl ((by simp; omega)) ?_
  refine wp_skip ?_
  refine zAh hK ?_; clear hK; clear K
  refine wp_seq_k ?_; intro K hK
  refine zAc ?_
  refine zp E (zAg E rfl rfl) ?_; clear E a; intro a E
  refine wpList_nil ?_
  refine zAh hK ?_; clear hK; clear K
  iterate 2 (refine wp_seq_k ?_; intro K hK)
  refine zAc ?_
  refine zp E (zAe E rfl rfl) ?_; clear E a; intro a E
  refine zp E (zAl E rfl rfl) ?_; clear E a; intro a E
  refine zp E (by first | exact zAf (q := 0) E rfl rfl rfl | exact zAi (q := 0) E rfl rfl rfl) ?_; clear E a; intro a E
  refine zp E (by first | exact zAn E rfl rfl rfl (S.get (by repeat (first | exact pk1 | apply zAa))) rfl | exact zAj E rfl rfl rfl (by assumption)) ?_; clear E a; intro a E
  refine zp E (by first | exact zCa E rfl rfl rfl | exact zBa E rfl rfl rfl | exact zAt E rfl rfl rfl) ?_; clear E a; intro a E
  refine zp E (zAe E rfl rfl) ?_; clear E a; intro a E
  refine wpList_nil ?_
  refine zAh hK ?_; clear hK; clear K
  refine wp_block ?_
  refine wp_loop_ghost (fun (m : Nat) (a : Act) (w' : World) => ∃ (i : Nat) (R' : Rk) (C' Lv' : zAs), m = xs.length - i ∧ i ≤ xs.length ∧ LaidOn R ((xs.map Prod.snd).take i) (274 + at_).toNat (padM b) R' ∧ RkC P R' C' ∧ LvC (lvs xs) Lv' ∧ St w0 [C, Lv, [(t, mtcl (.slice (some ⟨g, 0, none⟩) xs.length c) vk z)], CL, D] w' [C', Lv', [(t, mtcl (.slice (some ⟨g, 0, none⟩) xs.length c) vk z)], CL, D] ∧ Fr a 60 [(0, ptr t), (1, .int .i64 at_), (2, .slice adb b.length cb), (3, .int .u64 txg), (9, .bool (decide (0 < i))), (30, .slice (some ⟨g, 0, none⟩) xs.length c), (31, .int .i64 xs.length), (32, .int .i64 i)]) (xs.length - 0) ?_ ?_
  · exact ⟨0, R, C, Lv, rfl, by omega, LaidOn.nil hO _ _, hC, hLv, S.only (zAd (by repeat (first | exact pk1 | apply zAa)) (zAd (by repeat (first | exact pk1 | apply zAa)) (zAd (by repeat (first | exact pk1 | apply zAa)) (zAd (by repeat (first | exact pk1 | apply zAa)) (zAd (by repeat (first | exact pk1 | apply zAa)) (zAk _)))))), E.keep (zAb rfl (zAb rfl (zAb rfl (zAb rfl (zAb rfl (zAb rfl (zAb rfl (zAb rfl zAp))))))))⟩
  clear E; clear a; (try clear S); rintro m a w ⟨i, R', C', Lv', rfl, hi, hL, hC', hLv', S, E⟩
  refine wp_seq_k ?_; intro K hK
  refine zAc ?_
  refine zp E (zCb E rfl rfl rfl) ?_; clear E a; intro a E
  refine wpList_nil ?_
  refine zAh hK ?_; clear hK; clear K
  refine wp_seq_k ?_; intro K hK
  refine zBl E rfl (fun hb => ?_) (fun hb => ?_)
  · replace hb := Nrm.nrm hb
    refine wp_skip ?_
    refine zAh hK ?_; clear hK; clear K
    refine wp_seq_k ?_; intro K hK
    refine wp_block ?_
    refine wp_seq_k ?_; intro K hK
    have hil : i < xs.length := by omega
    have hm : xs[i] ∈ xs := List.getElem_mem hil
    obtain ⟨h20, hL2⟩ := hfin i hil R' hL
    have hcell : ((lvs xs).map lv)[i]? = some (ptr xs[i].1) := by rw [List.getElem?_map, lvs_at hil]; rfl
    have b1 := hL.ws
    have b2 := hL.wr
    have b3 : ((xs.map Prod.snd).take i).length ≤ 5 := by rw [List.length_take]; omega
    refine zAc ?_
    refine zp E (zAe E rfl rfl) ?_; clear E a; intro a E
    refine zp E (by first | exact zBk E rfl rfl rfl rfl rfl rfl (by omega) | exact zBn E rfl rfl rfl rfl rfl rfl (by omega) | exact zAx E rfl rfl rfl rfl rfl rfl (by omega)) ?_; clear E a; intro a E
    refine zp E (zAj E rfl rfl rfl (hCL.rd.cells (S.stab.at (by repeat (first | exact mm1 | assumption | apply List.Mem.tail))) rfl i _ hcell)) ?_; clear E a; intro a E
    iterate 2 (refine zp E (zAg E rfl rfl) ?_; clear E a; intro a E)
    refine wpList_nil ?_
    refine zAh hK ?_; clear hK; clear K
    refine wp_seq_k ?_; intro K hK
    refine zAc ?_
    refine zp E (zAg E rfl rfl) ?_; clear E a; intro a E
    refine wpList_nil ?_
    refine zAh hK ?_; clear hK; clear K
    iterate 2 (refine wp_seq_k ?_; intro K hK)
    refine zAc ?_
    refine zp E (zAe E rfl rfl) ?_; clear E a; intro a E
    refine zp E (by first | exact zCu E rfl rfl rfl | exact zAz E rfl rfl rfl rfl | exact zBj E rfl rfl rfl rfl | exact zBd E rfl rfl rfl) ?_; clear E a; intro a E
    refine wpList_nil ?_
    refine zAh hK ?_; clear hK; clear K
    refine zDa E rfl (rfl) ?_
    refine zAc ?_
    iterate 4 (refine zp E (zAe E rfl rfl) ?_; clear E a; intro a E)
    refine zAr E rfl rfl (by decide) rfl Tryz.func36 rfl (by kernel_rfl) rfl (zKi (ptr t) _ b (by omega) D hD _ (by repeat (first | exact mm1 | assumption | apply List.Mem.tail)) _ S.hp) ?_
    rintro v43 w ⟨g9, rfl, hT⟩; clear E a; intro a E
    have S := S.all hT
    refine zAr E rfl rfl (by decide) rfl Tryz.func35 rfl (by kernel_rfl) rfl (lwrite_in P R' C' hC' (lvs xs) Lv' hLv' i xs[i] (lvs_at hil) (hL.has (hds _ hm)) (by omega) (by omega) (by rw [hL.on.left]; decide) at_ ha _ (padM b) [(g9, _)] (zCr (T := 5) (by rw [zBm, Nat.mul_one]) (zDv _) (by omega) _) ⟨_, _, rfl, Nat.le_refl _⟩ _ (S.hp.sel (zAd (by repeat (first | exact pk1 | apply zAa)) (zAd (by repeat (first | exact pk1 | apply zAa)) (zAd (by repeat (first | exact pk1 | apply zAa)) (zAk _)))))) ?_
    rintro v44 w ⟨rfl, C2, Lv2, hC2, hLv2, hT⟩; clear E a; intro a E
    have S := S.call3 (zAd (by repeat (first | exact pk1 | apply zAa)) (zAd (by repeat (first | exact pk1 | apply zAa)) (zAd (by repeat (first | exact pk1 | apply zAa)) (zAk _)))) hT; rw [h20] at E
    refine zp E (zAg E rfl rfl) ?_; clear E a; intro a E
    refine wpList_nil ?_
    refine zAh hK ?_; clear hK; clear K
    refine wp_seq_k ?_; intro K hK
    refine zAc ?_
    refine zp E (zAe E rfl rfl) ?_; clear E a; intro a E
    refine wpList_nil ?_
    refine zAh hK ?_; clear hK; clear K
    refine wp_block ?_
    refine wp_seq_k ?_; intro K hK
    refine zAc ?_
    refine zp E (by first | exact zCf E rfl rfl rfl | exact zAu E rfl rfl rfl rfl | exact zBc E rfl rfl rfl rfl | exact zAw E rfl rfl rfl) ?_; clear E a; intro a E
    refine zp E (zAg E rfl rfl) ?_; clear E a; intro a E
    refine wpList_nil ?_
    refine zAh hK ?_; clear hK; clear K
    refine zBt E rfl (rfl) ?_
    refine wp_seq_k ?_; intro K hK
    refine zAc ?_
    refine zp E (by first | exact zCf E rfl rfl rfl | exact zAu E rfl rfl rfl rfl | exact zBc E rfl rfl rfl rfl | exact zAw E rfl rfl rfl) ?_; clear E a; intro a E
    refine zp E (zAg E rfl rfl) ?_; clear E a; intro a E
    refine wpList_nil ?_
    refine zAh hK ?_; clear hK; clear K
    refine zDa E rfl (rfl) ?_
    refine zAc ?_
    refine zp E (zAg E rfl rfl) ?_; clear E a; intro a E
    refine wpList_nil ?_
    iterate 2 (refine zBf ?_)
    refine zAh hK ?_; clear hK; clear K
    refine zAc ?_
    refine zp E (zBu E rfl rfl rfl (by first | exact zCj (y := 1) (by omega) | exact w_in (by omega) | exact zBy (by omega) | exact rfl)) ?_; clear E a; intro a E
    refine zp E (zAe E rfl rfl) ?_; clear E a; intro a E
    refine wpList_nil ?_
    refine zBe ?_
    exact ⟨_, by omega, i + 1, _, C2, Lv2, rfl, by omega, hL2, hC2, hLv2, S.only (zAd (by repeat (first | exact pk1 | apply zAa)) (zAd (by repeat (first | exact pk1 | apply zAa)) (zAd (by repeat (first | exact pk1 | apply zAa)) (zAd (by repeat (first | exact pk1 | apply zAa)) (zAd (by repeat (first | exact pk1 | apply zAa)) (zAk _)))))), by rw [show decide (0 < i + 1) = true by simp]; exact E.keep (zAb rfl (zAb rfl (zAb rfl (zAb rfl (zAb rfl (zAb rfl (zAb rfl (zAb rfl zAp))))))))⟩
  · replace hb := Nrm.nrm hb
    refine wp_exit ?_
    refine zBb ?_; clear hK; clear K
    refine zBb ?_
    refine zCm ?_
    refine zAh hK ?_; clear hK; clear K
    iterate 2 (refine wp_seq_k ?_; intro K hK)
    obtain rfl : i = xs.length := by omega
    refine zAc ?_
    refine zp E (zAe E rfl rfl) ?_; clear E a; intro a E
    refine zp E (zEg E rfl rfl) ?_; clear E a; intro a E
    refine wpList_nil ?_
    refine zAh hK ?_; clear hK; clear K
    refine zBt E rfl ((by simp; omega)) ?_
    refine wp_skip ?_
    refine zAh hK ?_; clear hK; clear K
    refine wp_seq_k ?_; intro K hK
    refine zAc ?_
    refine zp E (zAg E rfl rfl) ?_; clear E a; intro a E
    refine wpList_nil ?_
    refine zAh hK ?_; clear hK; clear K
    refine wp_ret ?_
    refine ret1 E rfl rfl ?_
    refine ⟨_, rfl, .inr ⟨hfit, rfl, R', C', Lv', ?_, hC', hLv', S.tr⟩⟩
    have := hL; rwa [List.take_of_length_le (by simp)] at this
omit hCL hnf hx5 hnd hz0 in
theorem mfix_ret (hfit : zEj z at_ b.length) (ys : List (Nat × Nat)) (hy : ∀ y ∈ ys, y ∈ xs) (hyf : ∀ y ∈ ys, (dkOf R y.2).failed = false) (hyn : (ys.map Prod.snd).Nodup) (hy5 : ys.length ≤ 5) (vw : Value) (W : zAs) (hW : Rd W 1 vw ys.length (ys.map fun y => ptr y.1)) (w0 : World) (H : Hp w0 [C, Lv, [(t, mtcl vl vk z)], W, D]) :
    Ret Tryz.prog 74 #[ptr t, vw, .int .i64 at_, v] w0 fun u w' => u = .tuple #[.int .i64 ys.length, .int .i64 0] ∧ ∃ R' C' Lv', LaidOn R (ys.map Prod.snd) (274 + at_).toNat (padM b) R' ∧ RkC P R' C' ∧ LvC (lvs xs) Lv' ∧ Trs w0 w' [C, Lv, [(t, mtcl vl vk z)], W, D] [C', Lv', [(t, mtcl vl vk z)], W, D] := by
  have S := St.begin H
  have hsh := zIh hC
  obtain ⟨ad, c, rfl⟩ := hW.slice
  obtain ⟨adb, cb, rfl⟩ := hD.slice
  obtain ⟨f1, f2, f3, f4⟩ := id hfit
  obtain ⟨n1, n2, n3, n4⟩ := zEo b.length
  have hpl := zEr f1
  have ha0 : 0 ≤ at_ := f2
  have hfin : ∀ (i : Nat) (hi : i < ys.length) (R' : Rk), LaidOn R ((ys.map Prod.snd).take i) (274 + at_).toNat (padM b) R' → (zDw R' (dkOf R' ys[i].2) at_ (padM b)).2 = 0 ∧ LaidOn R ((ys.map Prod.snd).take (i + 1)) (274 + at_).toNat (padM b) (zDw R' (dkOf R' ys[i].2) at_ (padM b)).1 := fun i hi R' hL => by
    have hm : ys[i] ∈ xs := hy _ (List.getElem_mem hi)
    have hi' : i < (ys.map Prod.snd).length := by simpa using hi
    have he : (ys.map Prod.snd)[i] = ys[i].2 := List.getElem_map ..
    have hnot := take_not hyn hi'
    rw [he] at hnot
    have := hL.more hsh.1 hsh.2 (hds _ hm) hnot (hyf _ (List.getElem_mem hi)) rfl (by omega) (by omega) (by rw [hpl]; unfold zIr; rw [hz _ hm]; omega)
    rw [← List.take_append_getElem hi', he]; exact this
  refine enter4 33 Tryz.func74 rfl rfl (by decide) ?_; intro a E
  refine wp_seq_k ?_; intro K hK
  refine zAc ?_
  iterate 2 (refine zp E (zAg E rfl rfl) ?_; clear E a; intro a E)
  refine wpList_nil ?_
  refine zAh hK ?_; clear hK; clear K
  refine wp_seq_k ?_; intro K hK
  refine zAc ?_
  refine zp E (zAg E rfl rfl) ?_; clear E a; intro a E
  refine wpList_nil ?_
  refine zAh hK ?_; clear hK; clear K
  iterate 2 (refine wp_seq_k ?_; intro K hK)
  refine zAc ?_
  refine zp E (zAe E rfl rfl) ?_; clear E a; intro a E
  refine zp E (by first | exact zCa E rfl rfl rfl | exact zBa E rfl rfl rfl | exact zAt E rfl rfl rfl) ?_; clear E a; intro a E
  refine zp E (zAe E rfl rfl) ?_; clear E a; intro a E
  refine wpList_nil ?_
  refine zAh hK ?_; clear hK; clear K
  refine wp_block ?_
  refine wp_loop_ghost (fun (m : Nat) (a : Act) (w' : World) => ∃ (i : Nat) (R' : Rk) (C' Lv' : zAs), m = ys.length - i ∧ i ≤ ys.length ∧ LaidOn R ((ys.map Prod.snd).take i) (274 + at_).toNat (padM b) R' ∧ RkC P R' C' ∧ LvC (lvs xs) Lv' ∧ St w0 [C, Lv, [(t, mtcl vl vk z)], W, D] w' [C', Lv', [(t, mtcl vl vk z)], W, D] ∧ Fr a 33 [(0, ptr t), (2, .int .i64 at_), (3, .slice adb b.length cb), (10, .int .i64 i), (13, .slice ad ys.length c), (14, .int .i64 ys.length), (15, .int .i64 i)]) (ys.length - 0) ?_ ?_
  · exact ⟨0, R, C, Lv, rfl, by omega, LaidOn.nil hO _ _, hC, hLv, S, E.keep (zAb rfl (zAb rfl (zAb rfl (zAb rfl (zAb rfl (zAb rfl (zAb rfl zAp)))))))⟩
  clear E; clear a; (try clear S); rintro m a w ⟨i, R', C', Lv', rfl, hi, hL, hC', hLv', S, E⟩
  refine wp_seq_k ?_; intro K hK
  refine zAc ?_
  refine zp E (zCb E rfl rfl rfl) ?_; clear E a; intro a E
  refine wpList_nil ?_
  refine zAh hK ?_; clear hK; clear K
  refine wp_seq_k ?_; intro K hK
  refine zBl E rfl (fun hb => ?_) (fun hb => ?_)
  · replace hb := Nrm.nrm hb
    refine wp_skip ?_
    refine zAh hK ?_; clear hK; clear K
    refine wp_seq_k ?_; intro K hK
    refine wp_block ?_
    refine wp_seq_k ?_; intro K hK
    have hil : i < ys.length := by omega
    have hm : ys[i] ∈ xs := hy _ (List.getElem_mem hil)
    obtain ⟨j, hj, hje⟩ := List.mem_iff_getElem.1 hm
    have hat := lvs_at hj
    rw [hje] at hat
    obtain ⟨h20, hL2⟩ := hfin i hil R' hL
    have hcell : (ys.map fun y => ptr y.1)[i]? = some (ptr ys[i].1) := by simp [hil]
    have b1 := hL.ws
    have b2 := hL.wr
    have b3 : ((ys.map Prod.snd).take i).length ≤ 5 := by rw [List.length_take]; omega
    obtain ⟨g, off, rfl⟩ := hW.addr (by omega)
    refine zAc ?_
    refine zp E (by first | exact zBk E rfl rfl rfl rfl rfl rfl (by omega) | exact zBn E rfl rfl rfl rfl rfl rfl (by omega) | exact zAx E rfl rfl rfl rfl rfl rfl (by omega)) ?_; clear E a; intro a E
    refine zp E (zAj E rfl rfl rfl (hW.cells (S.stab.at (by repeat (first | exact mm1 | assumption | apply List.Mem.tail))) rfl i _ hcell)) ?_; clear E a; intro a E
    refine zp E (zAg E rfl rfl) ?_; clear E a; intro a E
    refine wpList_nil ?_
    refine zAh hK ?_; clear hK; clear K
    refine wp_seq_k ?_; intro K hK
    refine zAc ?_
    iterate 4 (refine zp E (zAe E rfl rfl) ?_; clear E a; intro a E)
    refine zAr E rfl rfl (by decide) rfl Tryz.func36 rfl (by kernel_rfl) rfl (zKi (ptr t) _ b (by omega) D hD _ (by repeat (first | exact mm1 | assumption | apply List.Mem.tail)) _ S.hp) ?_
    rintro v23 w ⟨g9, rfl, hT⟩; clear E a; intro a E
    have S := S.all hT
    refine zAr E rfl rfl (by decide) rfl Tryz.func35 rfl (by kernel_rfl) rfl (lwrite_in P R' C' hC' (lvs xs) Lv' hLv' j ys[i] hat (hL.has (hds _ hm)) (by omega) (by omega) (by rw [hL.on.left]; decide) at_ ha _ (padM b) [(g9, _)] (zCr (T := 5) (by rw [zBm, Nat.mul_one]) (zDv _) (by omega) _) ⟨_, _, rfl, Nat.le_refl _⟩ _ (S.hp.sel (zAd (by repeat (first | exact pk1 | apply zAa)) (zAd (by repeat (first | exact pk1 | apply zAa)) (zAd (by repeat (first | exact pk1 | apply zAa)) (zAk _)))))) ?_
    rintro v24 w ⟨rfl, C2, Lv2, hC2, hLv2, hT⟩; clear E a; intro a E
    have S := S.call3 (zAd (by repeat (first | exact pk1 | apply zAa)) (zAd (by repeat (first | exact pk1 | apply zAa)) (zAd (by repeat (first | exact pk1 | apply zAa)) (zAk _)))) hT; rw [h20] at E
    refine wpList_nil ?_
    refine zAh hK ?_; clear hK; clear K
    refine wp_block ?_
    refine wp_seq_k ?_; intro K hK
    refine zAc ?_
    refine zp E (by first | exact zCf E rfl rfl rfl | exact zAu E rfl rfl rfl rfl | exact zBc E rfl rfl rfl rfl | exact zAw E rfl rfl rfl) ?_; clear E a; intro a E
    refine zp E (zAg E rfl rfl) ?_; clear E a; intro a E
    refine wpList_nil ?_
    refine zAh hK ?_; clear hK; clear K
    refine zBt E rfl (rfl) ?_
    refine wp_seq_k ?_; intro K hK
    refine zAc ?_
    refine zp E (by first | exact zCf E rfl rfl rfl | exact zAu E rfl rfl rfl rfl | exact zBc E rfl rfl rfl rfl | exact zAw E rfl rfl rfl) ?_; clear E a; intro a E
    refine zp E (zAg E rfl rfl) ?_; clear E a; intro a E
    refine wpList_nil ?_
    refine zAh hK ?_; clear hK; clear K
    refine zDa E rfl (rfl) ?_
    refine zAc ?_
    refine zp E (zAe E rfl rfl) ?_; clear E a; intro a E
    refine zp E (zBu E rfl rfl rfl (w_in (by omega))) ?_; clear E a; intro a E
    refine zp E (zAg E rfl rfl) ?_; clear E a; intro a E
    refine wpList_nil ?_
    iterate 2 (refine zBf ?_)
    refine zAh hK ?_; clear hK; clear K
    refine zAc ?_
    refine zp E (zBu E rfl rfl rfl (by first | exact zCj (y := 1) (by omega) | exact w_in (by omega) | exact zBy (by omega) | exact rfl)) ?_; clear E a; intro a E
    refine zp E (zAe E rfl rfl) ?_; clear E a; intro a E
    refine wpList_nil ?_
    refine zBe ?_
    exact ⟨_, by omega, i + 1, _, C2, Lv2, rfl, by omega, hL2, hC2, hLv2, S.only (zAd (by repeat (first | exact pk1 | apply zAa)) (zAd (by repeat (first | exact pk1 | apply zAa)) (zAd (by repeat (first | exact pk1 | apply zAa)) (zAd (by repeat (first | exact pk1 | apply zAa)) (zAd (by repeat (first | exact pk1 | apply zAa)) (zAk _)))))), E.keep (zAb rfl (zAb rfl (zAb rfl (zAb rfl (zAb rfl (zAb rfl (zAb rfl zAp)))))))⟩
  · replace hb := Nrm.nrm hb
    refine wp_exit ?_
    refine zBb ?_; clear hK; clear K
    refine zBb ?_
    refine zCm ?_
    refine zAh hK ?_; clear hK; clear K
    refine wp_seq_k ?_; intro K hK
    obtain rfl : i = ys.length := by omega
    refine zAc ?_
    refine zp E (zAe E rfl rfl) ?_; clear E a; intro a E
    iterate 2 (refine zp E (zAg E rfl rfl) ?_; clear E a; intro a E)
    refine wpList_nil ?_
    refine zAh hK ?_; clear hK; clear K
    refine wp_ret ?_
    refine ret2 E rfl rfl rfl ?_
    refine ⟨_, rfl, rfl, R', C', Lv', ?_, hC', hLv', S.tr⟩
    have := hL; rwa [List.take_of_length_le (by simp)] at this
end
end Go.Proofs.YtidhehcjafoneaaGreatDoor
namespace Go.Sl
def secC (y : Dk) (a n k : Nat) : List UInt8 := ((y.now.drop (a * 128)).take (n * 128)).take k
theorem lfRead_on {R : Rk} (hoff : R.pw.off = false) {y : Dk} (hnw : y.now.length = y.pl.length) {at_ : Int} {n : Nat} (hfit : zIr y at_ n) :
    zFy R y at_ n = if y.failed then (30, []) else (0, (y.now.drop ((274 + at_).toNat * 128)).take (n * 128)) := by
  obtain ⟨f1, f2, f3, f4⟩ := id hfit
  have hl : zEl y = ((y.pl.length / 128 : Nat) : Int) - 292 := rfl
  unfold zFy zJg
  rw [hoff]
  cases hf : y.failed with
  | true => simp
  | false =>
    rw [if_neg (by simp), if_neg (fun q => q hfit)]
    unfold rdS
    rw [hoff, if_neg (by simp), if_neg (by simp), if_neg]
    · simp
    · intro q; exact q ⟨by omega, by omega, by omega, by omega⟩
def zJb (chk : List UInt8 → Bool) (rd : Nat × Nat → Option (List UInt8)) (q : Option (List UInt8) × List (Nat × Nat)) (x : Nat × Nat) : Option (List UInt8) × List (Nat × Nat) :=
  match rd x with
  | none => q
  | some c => if chk c then (if q.1.isSome then q else (some c, q.2)) else (q.1, q.2 ++ [x])
def cpTo (chk : List UInt8 → Bool) (rd : Nat × Nat → Option (List UInt8)) (xs : List (Nat × Nat)) (i : Nat) : Option (List UInt8) × List (Nat × Nat) := (xs.take i).foldl (zJb chk rd) (none, [])
theorem zIi {chk : List UInt8 → Bool} {rd : Nat × Nat → Option (List UInt8)} {xs : List (Nat × Nat)} {i : Nat} (hi : i < xs.length) : cpTo chk rd xs (i + 1) = zJb chk rd (cpTo chk rd xs i) xs[i] := by
  unfold cpTo
  rw [← List.take_append_getElem hi, List.foldl_append]; rfl
def rdC (R : Rk) (a n k : Nat) (x : Nat × Nat) : Option (List UInt8) := if (dkOf R x.2).failed then none else some (secC (dkOf R x.2) a n k)
theorem zFk {chk : List UInt8 → Bool} {rd : Nat × Nat → Option (List UInt8)} (xs : List (Nat × Nat)) : ∀ i, i ≤ xs.length →
    ((cpTo chk rd xs i).2.Sublist (xs.take i)) ∧ (∀ y ∈ (cpTo chk rd xs i).2, ∃ c, rd y = some c ∧ chk c = false) ∧ (∀ g, (cpTo chk rd xs i).1 = some g → chk g = true ∧ ∃ x ∈ xs.take i, rd x = some g) ∧
    ((cpTo chk rd xs i).1 = none → ∀ x ∈ xs.take i, ∀ c, rd x = some c → chk c = false) ∧ (∀ x ∈ xs.take i, ∀ c, rd x = some c → chk c = false → x ∈ (cpTo chk rd xs i).2)
  | 0, _ => by simp [cpTo]
  | i + 1, h => by
    obtain ⟨h1, h2, h3, h4, h5⟩ := zFk (chk := chk) (rd := rd) xs i (by omega)
    rw [zIi (by omega), ← List.take_append_getElem (show i < xs.length by omega)]
    generalize xs[i]'(by omega) = x at *
    generalize cpTo chk rd xs i = q at *
    generalize xs.take i = l at *
    unfold zJb
    cases hr : rd x with
    | none =>
      refine ⟨h1.trans (List.sublist_append_left _ _), h2, fun g hg => ⟨(h3 g hg).1, ?_⟩, fun hn y hy c hc => ?_, fun y hy c hc hk => ?_⟩
      · obtain ⟨z, hz, he⟩ := (h3 g hg).2
        exact ⟨z, List.mem_append.2 (.inl hz), he⟩
      · rcases List.mem_append.1 hy with hy | hy
        · exact h4 hn y hy c hc
        · rw [List.mem_singleton.1 hy, hr] at hc; cases hc
      · rcases List.mem_append.1 hy with hy | hy
        · exact h5 y hy c hc hk
        · rw [List.mem_singleton.1 hy, hr] at hc; cases hc
    | some c0 =>
      simp only
      cases hk0 : chk c0 with
      | true =>
        rw [if_pos rfl]
        cases hq : q.1 with
        | none =>
          rw [if_neg (by simp)]
          refine ⟨h1.trans (List.sublist_append_left _ _), h2, fun g hg => ?_, fun hn => (by simp at hn), fun y hy c hc hk => ?_⟩
          · simp only [Option.some.injEq] at hg; subst hg
            exact ⟨hk0, x, List.mem_append.2 (.inr (List.mem_singleton.2 rfl)), hr⟩
          · rcases List.mem_append.1 hy with hy | hy
            · exact h5 y hy c hc hk
            · rw [List.mem_singleton.1 hy, hr] at hc; cases hc; rw [hk0] at hk; cases hk
        | some g0 =>
          rw [if_pos (by simp)]
          refine ⟨h1.trans (List.sublist_append_left _ _), h2, fun g hg => ?_, fun hn => (by rw [hq] at hn; cases hn), fun y hy c hc hk => ?_⟩
          · obtain ⟨z, hz, he⟩ := (h3 g hg).2
            exact ⟨(h3 g hg).1, z, List.mem_append.2 (.inl hz), he⟩
          · rcases List.mem_append.1 hy with hy | hy
            · exact h5 y hy c hc hk
            · rw [List.mem_singleton.1 hy, hr] at hc; cases hc; rw [hk0] at hk; cases hk
      | false =>
        rw [if_neg (by simp)]
        refine ⟨h1.append (List.Sublist.refl _), fun y hy => ?_, fun g hg => ?_, fun hn y hy c hc => ?_, fun y hy c hc hk => ?_⟩
        · rcases List.mem_append.1 hy with hy | hy
          · exact h2 y hy
          · rw [List.mem_singleton.1 hy]; exact ⟨c0, hr, hk0⟩
        · obtain ⟨z, hz, he⟩ := (h3 g hg).2
          exact ⟨(h3 g hg).1, z, List.mem_append.2 (.inl hz), he⟩
        · rcases List.mem_append.1 hy with hy | hy
          · exact h4 hn y hy c hc
          · rw [List.mem_singleton.1 hy, hr] at hc; cases hc; exact hk0
        · rcases List.mem_append.1 hy with hy | hy
          · exact List.mem_append.2 (.inl (h5 y hy c hc hk))
          · exact List.mem_append.2 (.inr hy)
end Go.Sl
namespace Go.Proofs.YtidhehcjafoneaaGreatDoor
open Go.Sl
set_option maxRecDepth 10000
def GdB (v : Value) (C : zAs) : Option (List UInt8) → Prop
  | none => v = .slice none 0 0 ∧ C = []
  | some c => 0 < c.length ∧ Buf C 5 1 v c.length (byt c)
theorem GdB.slice {v : Value} {C : zAs} {o : Option (List UInt8)} (h : GdB v C o) : ∃ ad k c, v = .slice ad k c := by
  cases o with
  | none => exact ⟨_, _, _, h.1⟩
  | some b => obtain ⟨ad, c, e⟩ := h.2.slice; exact ⟨ad, _, c, e⟩
def CpEnd (all : Bool) (n i : Nat) (q : Option (List UInt8) × List (Nat × Nat)) : Prop := i ≤ n ∧ (i = n ∨ all = false ∧ q.1 ≠ none)
theorem Buf.pre {C : zAs} {T : TypeId} {k n c : Nat} {g : Nat} {b : List UInt8} (h : Buf C T 1 (.slice (some ⟨g, 0, none⟩) n c) n (byt b)) (hk : k ≤ n) : Buf C T 1 (.slice (some ⟨g, 0, none⟩) k c) k (byt (b.take k)) := by
  obtain ⟨h1, h2, h3⟩ := h
  rw [zBm] at h1
  refine ⟨by rw [zBm, List.length_take]; omega, zDv _, ?_⟩
  rcases h3 with ⟨e1, e2, e3⟩ | ⟨g', c', r, e1, e2, e3, e4, e5⟩
  · cases e1
  · cases e1
    rw [zBm] at e5
    refine .inr ⟨g, c, byt (b.drop k) ++ r, rfl, ?_, by omega, e4, ?_⟩
    · rw [e2, ← List.append_assoc, ← zCx, List.take_append_drop]
    · rw [List.length_append, zBm, zBm, List.length_drop, List.length_take]; omega
theorem sliced_pre (g k c : Nat) : sliced (some ⟨g, 0, none⟩) 0 k c 1 = .slice (some ⟨g, 0, none⟩) k c := by
  simp [sliced, Addr.add_lit]
theorem zKp (P : Nat) (R : Rk) (C : zAs) (hC : RkC P R C) (hoff : R.pw.off = false) (xs : List (Nat × Nat)) (hx5 : xs.length ≤ 5) (Lv : zAs) (hLv : LvC (lvs xs) Lv) (hds : ∀ x ∈ xs, R.has x.2)
    (z : Int) (hz : ∀ x ∈ xs, zEl (dkOf R x.2) = z) (t : Nat) (vl vk : Value) (CL : zAs) (hCL : Buf CL 49 1 vl xs.length ((lvs xs).map lv)) (G : zAs) (hG : Tab [G] 2 shaK)
    (at_ : Int) (ha : -9223372036854775808 ≤ at_ ∧ at_ ≤ 9223372036854775807) (bl : Nat) (hfit : zEj z at_ bl) (kind : Int) (s : Fs) (all : Bool) (w0 : World) (H : Hp w0 [C, Lv, [(t, mtcl vl vk z)], CL, G]) :
    Ret Tryz.prog 73 #[ptr t, .int .i64 at_, .int .i64 bl, .int .i64 kind, s.agg, .bool all] w0 fun u w' => ∃ (i : Nat) (Lv' : zAs) (vg : Value) (Cg : zAs) (vw : Value) (Cw : zAs),
      CpEnd all xs.length i (cpTo (chkK kind s) (rdC R (274 + at_).toNat (zDm bl).toNat bl) xs i) ∧ u = .tuple #[vg, vw, .int .i64 0] ∧ LvC (lvs xs) Lv' ∧ GdB vg Cg (cpTo (chkK kind s) (rdC R (274 + at_).toNat (zDm bl).toNat bl) xs i).1 ∧
      Buf Cw 49 1 vw (cpTo (chkK kind s) (rdC R (274 + at_).toNat (zDm bl).toNat bl) xs i).2.length ((cpTo (chkK kind s) (rdC R (274 + at_).toNat (zDm bl).toNat bl) xs i).2.map fun y => ptr y.1) ∧
      Trs w0 w' [C, Lv, [(t, mtcl vl vk z)], CL, G] [Cg, Cw, C, Lv', [(t, mtcl vl vk z)], CL, G] := by
  have S := St.begin H
  have hsh := zIh hC
  obtain ⟨f1, f2, f3, f4⟩ := id hfit
  obtain ⟨n1, n2, n3, n4⟩ := zEo bl
  obtain ⟨n, hn⟩ : ∃ n : Nat, zDm bl = n := ⟨(zDm bl).toNat, by omega⟩
  rw [hn] at f1 f4 n1 n2 n3 n4
  rw [show (zDm bl).toNat = n by omega]
  obtain ⟨q, hq⟩ : ∃ q, q = cpTo (chkK kind s) (rdC R (274 + at_).toNat n bl) xs := ⟨_, rfl⟩
  rw [← hq]
  have hq0 : q 0 = (none, []) := by rw [hq]; simp [cpTo]
  have hqs : ∀ i (hi : i < xs.length), q (i + 1) = zJb (chkK kind s) (rdC R (274 + at_).toNat n bl) (q i) xs[i] := fun i hi => by rw [hq]; exact zIi hi
  have hql : ∀ i, i ≤ xs.length → (q i).2.length ≤ 5 := fun i hi => by
    have := ((zFk (chk := chkK kind s) (rd := rdC R (274 + at_).toNat n bl) xs i hi).1).length_le
    rw [← hq, List.length_take] at this; omega
  refine enterM6 69 Tryz.func73 rfl rfl (by decide) ?_; intro a E
  refine wp_seq_k ?_; intro K hK
  refine zAc ?_
  refine zAo rfl (zCs E S rfl rfl (by decide) rfl rfl ?_); clear E S a; intro a w b6 E S
  refine zAo rfl (zCs E S rfl rfl (by decide) rfl rfl ?_); clear E S a; intro a w b7 E S
  refine zAo rfl (zCs E S rfl rfl (by decide) rfl rfl ?_); clear E S a; intro a w b8 E S
  refine zAo rfl (zCs E S rfl rfl (by decide) rfl rfl ?_); clear E S a; intro a w b9 E S
  refine zAo rfl (zCs E S rfl rfl (by decide) rfl rfl ?_); clear E S a; intro a w b10 E S
  refine zAo rfl (zCs E S rfl rfl (by decide) rfl rfl ?_); clear E S a; intro a w b11 E S
  refine zAo rfl (zCc E S rfl rfl (by decide) rfl rfl rfl ?_); clear E S a; intro a w b12 E S
  refine zAo rfl (zCc E S rfl rfl (by decide) rfl rfl rfl ?_); clear E S a; intro a w b13 E S
  refine zAo rfl (zCc E S rfl rfl (by decide) rfl rfl rfl ?_); clear E S a; intro a w b14 E S
  refine wpList_nil ?_
  refine zAh hK ?_; clear hK; clear K
  iterate 2 (refine wp_seq_k ?_; intro K hK)
  refine zAc ?_
  refine zp E (by first | exact zAn E rfl rfl rfl (S.get (by repeat (first | exact pk1 | apply zAa))) rfl | exact zAj E rfl rfl rfl (by assumption)) ?_; clear E a; intro a E
  refine zAr E rfl rfl (by decide) rfl Tryz.func48 rfl (by kernel_rfl) rfl (zKj t _) ?_
  rintro v20 w ⟨bt, rfl, hT⟩; clear E a; intro a E
  have S := S.fresh hT
  refine wpList_nil ?_
  refine zAh hK ?_; clear hK; clear K
  refine wp_block ?_
  refine wp_range E S rfl Tryz.func75 rfl (by kernel_rfl) (fun rc lp rp w hL S => ?_)
  refine CallsIn.mono (there_in lp bt t (lvs xs) (by simp; omega) _ CL (by simpa using hCL) vk z (fun i w' => ∃ (Li : zAs) (vg : Value) (Cg : zAs) (vw : Value) (Cw : zAs), (all = false → (q i).1 = none) ∧ LvC (lvs xs) Li ∧ GdB vg Cg (q i).1 ∧ Buf Cw 49 1 vw (q i).2.length ((q i).2.map fun y => ptr y.1) ∧ St w0 [C, Lv, [(t, mtcl vl vk z)], CL, G] w' [[(lp, .loop rc)], [(rp, .deferred (some []))], [(bt, cel [ptr t] 38)], [(b6, cel [ptr t] 38)], [(b7, cel [.int .i64 at_] 3)], [(b8, cel [.int .i64 bl] 3)], [(b9, cel [.int .i64 kind] 3)], [(b10, cel [.int .u64 s.a, .int .u64 s.b, .int .u64 s.c, .int .u64 s.d] 31)], [(b11, cel [.bool all] 4)], [(b12, cel [vg] 22)], [(b13, cel [vw] 37)], [(b14, cel [.int .i64 0] 32)], Cg, Cw, C, Li, [(t, mtcl vl vk z)], CL, G])
  (fun w' => ∃ (i : Nat) (Li : zAs) (vg : Value) (Cg : zAs) (vw : Value) (Cw : zAs), CpEnd all xs.length i (q i) ∧ LvC (lvs xs) Li ∧ GdB vg Cg (q i).1 ∧ Buf Cw 49 1 vw (q i).2.length ((q i).2.map fun y => ptr y.1) ∧ St w0 [C, Lv, [(t, mtcl vl vk z)], CL, G] w' [[(lp, .loop (stopd rc))], [(rp, .deferred (some []))], [(b12, cel [vg] 22)], [(b13, cel [vw] 37)], [(b14, cel [.int .i64 0] 32)], Cg, Cw, C, Li, [(t, mtcl vl vk z)], CL, G]) ?_ ?_ ?_ ?_ _ ?_) ?_
  · rintro w ⟨Li, vg, Cg, vw, Cw, hal, hLi, hGd, hW, S⟩; exact ⟨S.get (show List.Perm _ ([(bt, _)] :: _) from (by repeat (first | exact pk1 | apply zAa))), S.get (show List.Perm _ ([(t, _)] :: _) from (by repeat (first | exact pk1 | apply zAa)))⟩
  · rintro i w ⟨Li, vg, Cg, vw, Cw, hal, hLi, hGd, hW, S⟩; exact S.stab.at (by repeat (first | exact mm1 | assumption | apply List.Mem.tail))
  · rintro i w hno _; simp [lvs] at hno
  · rintro i x w hx ⟨Li, vg, Cg, vw, Cw, hal, hLi, hGd, hW, S⟩
    have hil : i < xs.length := by have := (List.getElem?_eq_some_iff.1 hx).1; simpa using this
    have hxe : xs[i] = x := by rw [lvs_at hil] at hx; simpa using hx
    have hm : x ∈ xs := hxe ▸ List.getElem_mem hil
    have hxd := hds x hm
    have hnw := hsh.2 _ (zDb hxd).1
    have hlz := hz x hm
    have hrd := lfRead_on (R := R) hoff (y := dkOf R x.2) hnw (at_ := at_) (n := n) ⟨by omega, by omega, by omega, by omega⟩
    have hsc := hqs i hil
    rw [hxe] at hsc
    have hlz2 : (((dkOf R x.2).pl.length / 128 : Nat) : Int) - 292 = z := hlz
    have hl5 := hql i (by omega)
    obtain ⟨adw, cw, rfl⟩ := hW.slice
    refine ⟨rc, S.stab.one (List.Mem.head _), by rw [hL.pr]; rfl, ?_⟩
    refine round2 hL S E (by decide) (by decide) ?_; clear E; intro a E
    refine zCe rfl ?_
    refine zp E (zAg E rfl rfl) ?_; clear E a; intro a E
    refine wpList_nil ?_; refine zBq ?_
    refine zBe ?_; refine ⟨_, S, ?_⟩; clear S; intro w S
    refine zGa ?_
    refine zCz ?_; intro K hK
    refine zFd S (.ofL [(0, 0), (1, 0), (2, 0), (3, 0), (4, 1), (5, 3), (6, 2), (7, 2), (8, 2), (9, 2), (10, 2)]) rfl (by kernel_rfl) (by kernel_rfl) ?_
    clear S; intro w S
    rcases hfd : (dkOf R x.2).failed with _ | _
    · skip
      rw [hfd, if_neg (by simp)] at hrd
      have hstep : q (i + 1) = if chkK kind s (secC (dkOf R x.2) (274 + at_).toNat n bl) then (if (q i).1.isSome then q i else (some (secC (dkOf R x.2) (274 + at_).toNat n bl), (q i).2)) else ((q i).1, (q i).2 ++ [x]) := by rw [hsc]; unfold zJb rdC; rw [hfd]; rfl
      obtain ⟨cc, hcc⟩ : ∃ cc, cc = ((dkOf R x.2).now.drop ((274 + at_).toNat * 128)).take (n * 128) := ⟨_, rfl⟩
      have hcl : cc.length = n * 128 := by rw [hcc, List.length_take, List.length_drop]; omega
      rw [show secC (dkOf R x.2) (274 + at_).toNat n bl = cc.take bl by rw [hcc]; rfl] at hstep
      have hcb : (cc.take bl).length = bl := by rw [List.length_take]; omega
      rw [← hcc] at hrd
      refine zm E rfl (fun w h => zAe E rfl rfl) ?_; clear E a; intro a E
      iterate 3 (refine zm E rfl (fun w h => by first | exact zAn E rfl rfl rfl (h.one (by repeat (first | exact mm1 | assumption | apply List.Mem.tail))) rfl | exact zAj E rfl rfl rfl (by assumption)) ?_; clear E a; intro a E)
      refine zCn E rfl rfl rfl (by decide) rfl Tryz.func22 rfl (by kernel_rfl) rfl (zHf (ptr t) bl (by omega) _) ?_
      rintro v28 w ⟨rfl, hT⟩; clear E a; intro a E
      have S := S.quiet hT; rw [hn] at E
      refine ⟨S.stab.sub (by first | (simp; done) | (simp +contextual; done) | (simp [*]; done)), ?_⟩
      refine zDl E rfl rfl rfl (by decide) rfl Tryz.func11 rfl (by kernel_rfl) rfl (lread_in P R C hC (lvs xs) Li hLi i x hx hxd at_ n ha _ (S.hp.sel (zAd (by repeat (first | exact pk1 | apply zAa)) (zAd (by repeat (first | exact pk1 | apply zAa)) (zAk _))))) ?_
      rintro v29 w ⟨vb, Cb, Lj, rfl, hCb, hLj, hT⟩; clear E a; intro a E
      have S := S.call3 (zAd (by repeat (first | exact pk1 | apply zAa)) (zAd (by repeat (first | exact pk1 | apply zAa)) (zAk _))) hT; rw [hrd] at E hCb
      refine zCl E rfl rfl rfl (by decide) (fun w => zAe E rfl rfl) ?_; clear E a; intro a E
      iterate 2 (refine zCl E rfl rfl rfl (by decide) (fun w => zBx E rfl rfl rfl) ?_; clear E a; intro a E)
      iterate 2 (refine zCl E rfl rfl rfl (by decide) (fun w => zAg E rfl rfl) ?_; clear E a; intro a E)
      refine zBs ?_
      refine zAh hK ?_; clear hK; clear K
      refine zCz ?_; intro K hK
      refine wr_join (fun (a : Act) (w' : World) => ∃ (Li : zAs) (vg : Value) (Cg : zAs) (vw : Value) (Cw : zAs), LvC (lvs xs) Li ∧ GdB vg Cg (q (i + 1)).1 ∧ Buf Cw 49 1 vw (q (i + 1)).2.length ((q (i + 1)).2.map fun y => ptr y.1) ∧ St w0 [C, Lv, [(t, mtcl vl vk z)], CL, G] w' [[(lp, .loop (zHw rc))], [(rp, .deferred (some []))], [(bt, cel [ptr t] 38)], [(b6, cel [ptr t] 38)], [(b7, cel [.int .i64 at_] 3)], [(b8, cel [.int .i64 bl] 3)], [(b9, cel [.int .i64 kind] 3)], [(b10, cel [.int .u64 s.a, .int .u64 s.b, .int .u64 s.c, .int .u64 s.d] 31)], [(b11, cel [.bool all] 4)], [(b12, cel [vg] 22)], [(b13, cel [vw] 37)], [(b14, cel [.int .i64 0] 32)], Cg, Cw, C, Li, [(t, mtcl vl vk z)], CL, G] ∧ Fr a 69 [(11, ptr b11), (12, ptr b12), (13, ptr b13), (14, ptr b14)]) ?_ ?_
      · refine zGa ?_
        refine zCz ?_; intro K hK
        replace E := E.keep (e' := [(8, _), (9, _), (10, _), (11, _), (12, _), (13, _), (14, _), (16, _), (17, _), (18, _)]) (zAb rfl (zAb rfl (zAb rfl (zAb rfl (zAb rfl (zAb rfl (zAb rfl (zAb rfl (zAb rfl (zAb rfl (zAp)))))))))))
        refine zCe rfl ?_
        refine zp E (zAe E rfl rfl) ?_; clear E a; intro a E
        refine zp E (by first | exact zCf E rfl rfl rfl | exact zAu E rfl rfl rfl rfl | exact zBc E rfl rfl rfl rfl | exact zAw E rfl rfl rfl) ?_; clear E a; intro a E
        refine zp E (zAg E rfl rfl) ?_; clear E a; intro a E
        refine wpList_nil ?_; refine zBq ?_
        refine zAh hK ?_; clear hK; clear K
        refine zDx E rfl (rfl) ?_
        refine zCz ?_; intro K hK
        refine zCe rfl ?_
        refine zp E (zAe E rfl rfl) ?_; clear E a; intro a E
        refine zp E (by first | exact zCu E rfl rfl rfl | exact zAz E rfl rfl rfl rfl | exact zBj E rfl rfl rfl rfl | exact zBd E rfl rfl rfl) ?_; clear E a; intro a E
        refine zp E (zAg E rfl rfl) ?_; clear E a; intro a E
        refine wpList_nil ?_; refine zBq ?_
        refine zAh hK ?_; clear hK; clear K
        refine zDx E rfl (rfl) ?_
        refine zCz ?_; intro K hK
        have hCb : Buf Cb 5 1 vb cc.length (byt cc) := hCb
        obtain ⟨adb, cb, rfl⟩ := hCb.slice
        obtain ⟨gb, rfl⟩ := hCb.addr (by omega)
        have hCp := Buf.pre hCb (k := bl) (by omega)
        have hCp2 : Buf Cb 5 1 (.slice (some ⟨gb, 0, none⟩) bl cb) (cc.take bl).length (byt (cc.take bl)) := by rw [hcb]; exact hCp
        have hcap := hCb.cap_le
        refine zFd S (.ofL [(0, 0), (1, 0), (2, 0), (3, 0), (4, 0), (5, 3), (6, 2), (7, 2)]) rfl (by kernel_rfl) (by kernel_rfl) ?_
        clear S; intro w S
        refine zm E rfl (fun w h => by first | exact zAn E rfl rfl rfl (h.one (by repeat (first | exact mm1 | assumption | apply List.Mem.tail))) rfl | exact zAj E rfl rfl rfl (by assumption)) ?_; clear E a; intro a E
        refine zm E rfl (fun w h => zBw (vs := [_, _, _, _]) E rfl rfl rfl (h.one (by repeat (first | exact mm1 | assumption | apply List.Mem.tail))) rfl rfl) ?_; clear E a; intro a E
        refine zm E rfl (fun w h => zAe E rfl rfl) ?_; clear E a; intro a E
        refine zm E rfl (fun w h => by first | exact zAn E rfl rfl rfl (h.one (by repeat (first | exact mm1 | assumption | apply List.Mem.tail))) rfl | exact zAj E rfl rfl rfl (by assumption)) ?_; clear E a; intro a E
        refine zm E rfl (fun w h => zGd (s := 1) (hi := bl) E rfl rfl rfl rfl rfl rfl (by omega)) ?_; clear E a; intro a E
        rw [sliced_pre] at E
        refine zDl E rfl rfl rfl (by decide) rfl Tryz.func87 rfl (by kernel_rfl) rfl (chkK_ret Cb _ (cc.take bl) hCp2.rd (by omega) _ (by repeat (first | exact mm1 | assumption | apply List.Mem.tail)) (hG.sub (fun Q hQ => by rw [List.mem_singleton.1 hQ]; exact (by repeat (first | exact mm1 | assumption | apply List.Mem.tail)))) kind s _ S.hp) ?_
        rintro v45 w ⟨rfl, hT⟩; clear E a; intro a E
        have S := S.all hT
        refine zCl E rfl rfl rfl (by decide) (fun w => zEg E rfl rfl) ?_; clear E a; intro a E
        refine zCl E rfl rfl rfl (by decide) (fun w => zAg E rfl rfl) ?_; clear E a; intro a E
        refine zBs ?_
        refine zAh hK ?_; clear hK; clear K
        refine if_boolR E rfl (fun hb => ?_) (fun hb => ?_)
        · replace hb := Nrm.nrm hb
          have hck : chkK kind s (cc.take bl) = false := (by simpa using hb)
          refine zCz ?_; intro K hK
          replace E := E.keep (e' := [(11, _), (12, _), (13, _), (14, _), (16, _)]) (zAb rfl (zAb rfl (zAb rfl (zAb rfl (zAb rfl (zAp))))))
          refine zCe rfl ?_
          refine zp E (zAe E rfl rfl) ?_; clear E a; intro a E
          refine zAr E rfl rfl (by decide) rfl Tryz.func88 rfl (by kernel_rfl) rfl (blame_in (lvs xs) Lj hLj i x hx _ (S.hp.sel (zAd (by repeat (first | exact pk1 | apply zAa)) (zAk _)))) ?_
          rintro v48 w ⟨Lk, hLk, hT⟩; clear E a; intro a E
          have S := S.call1 (zAd (by repeat (first | exact pk1 | apply zAa)) (zAk _)) hT
          refine wpList_nil ?_; refine zBq ?_
          refine zAh hK ?_; clear hK; clear K
          refine zCe rfl ?_
          refine zp E (by first | exact zAn E rfl rfl rfl (S.get (by repeat (first | exact pk1 | apply zAa))) rfl | exact zAj E rfl rfl rfl (by assumption)) ?_; clear E a; intro a E
          refine zp E (zAe E rfl rfl) ?_; clear E a; intro a E
          refine zAo rfl (zCk (cells := [_]) E S rfl rfl (by decide) rfl rfl rfl rfl rfl (by decide) rfl ?_); clear E S a; intro a w b51 E S
          refine zAo rfl (zCi (by' := 8) E S rfl rfl (by decide) rfl rfl hW (by repeat (first | exact pk1 | apply zAa)) ((zCr (g := b51) (T := 49) (xs := [ptr x.1]) (s := 1) (m := 1) rfl (by simp [Value.oneCell']) (by omega) 1).src (S.stab.at (by repeat (first | exact mm1 | assumption | apply List.Mem.tail))) rfl) rfl rfl rfl rfl rfl rfl (by simp only [maxLen]; omega) (by omega) ?_); clear E S a; intro a w v52 C52 E S hB52
          obtain ⟨adv, cv, rfl⟩ := hB52.slice
          refine zAo rfl (zBg E S rfl rfl rfl rfl rfl rfl (by repeat (first | exact pk1 | apply zAa)) (by first | exact Nat.le_of_ble_eq_true rfl | (simp; done) | (simp; omega)) ?_); clear E S a; intro a w E S; try dsimp only [List.set] at S
          refine wpList_nil ?_; refine zBq ?_
          refine zBf ?_
          refine zBp ?_
          rw [hstep, hck, if_neg (by simp)]
          exact ⟨Lk, vg, Cg, _, C52, hLk, hGd, by rw [List.length_append, List.map_append]; exact hB52, S.only (zAd (by repeat (first | exact pk1 | apply zAa)) (zAd (by repeat (first | exact pk1 | apply zAa)) (zAd (by repeat (first | exact pk1 | apply zAa)) (zAd (by repeat (first | exact pk1 | apply zAa)) (zAd (by repeat (first | exact pk1 | apply zAa)) (zAd (by repeat (first | exact pk1 | apply zAa)) (zAd (by repeat (first | exact pk1 | apply zAa)) (zAd (by repeat (first | exact pk1 | apply zAa)) (zAd (by repeat (first | exact pk1 | apply zAa)) (zAd (by repeat (first | exact pk1 | apply zAa)) (zAd (by repeat (first | exact pk1 | apply zAa)) (zAd (by repeat (first | exact pk1 | apply zAa)) (zAd (by repeat (first | exact pk1 | apply zAa)) (zAd (by repeat (first | exact pk1 | apply zAa)) (zAd (by repeat (first | exact pk1 | apply zAa)) (zAd (by repeat (first | exact pk1 | apply zAa)) (zAd (by repeat (first | exact pk1 | apply zAa)) (zAd (by repeat (first | exact pk1 | apply zAa)) (zAd (by repeat (first | exact pk1 | apply zAa)) (zAk _)))))))))))))))))))), E.keep (zAb rfl (zAb rfl (zAb rfl (zAb rfl zAp))))⟩
        · replace hb := Nrm.nrm hb
          have hck : chkK kind s (cc.take bl) = true := (by simpa using hb)
          refine zCz ?_; intro K hK
          replace E := E.keep (e' := [(8, _), (11, _), (12, _), (13, _), (14, _), (17, _)]) (zAb rfl (zAb rfl (zAb rfl (zAb rfl (zAb rfl (zAb rfl (zAp)))))))
          refine zCe rfl ?_
          rcases hgd : (q i).1 with _ | gd
          · skip
            rw [hgd] at hGd; obtain ⟨rfl, rfl⟩ := hGd
            refine zp E (by first | exact zAn E rfl rfl rfl (S.get (by repeat (first | exact pk1 | apply zAa))) rfl | exact zAj E rfl rfl rfl (by assumption)) ?_; clear E a; intro a E
            refine zp E (zDi E rfl rfl rfl rfl) ?_; clear E a; intro a E
            refine zp E (zAg E rfl rfl) ?_; clear E a; intro a E
            refine wpList_nil ?_; refine zBq ?_
            refine zAh hK ?_; clear hK; clear K
            refine zIg E rfl (rfl) ?_
            refine zCe rfl ?_
            refine zp E (zAe E rfl rfl) ?_; clear E a; intro a E
            refine zp E (by first | exact zAn E rfl rfl rfl (S.get (by repeat (first | exact pk1 | apply zAa))) rfl | exact zAj E rfl rfl rfl (by assumption)) ?_; clear E a; intro a E
            refine zp E (zGd (s := 1) (hi := bl) E rfl rfl rfl rfl rfl rfl (by omega)) ?_; clear E a; intro a E
            rw [sliced_pre] at E
            refine zAo rfl (zBg E S rfl rfl rfl rfl rfl rfl (by repeat (first | exact pk1 | apply zAa)) (by first | exact Nat.le_of_ble_eq_true rfl | (simp; done) | (simp; omega)) ?_); clear E S a; intro a w E S; try dsimp only [List.set] at S
            refine wpList_nil ?_; refine zBq ?_
            refine zBf ?_
            refine zBp ?_
            rw [hstep, hck, if_pos rfl, hgd, if_neg (by simp)]
            exact ⟨Lj, _, Cb, _, Cw, hLj, ⟨by omega, hCp2⟩, hW, S.only (zAd (by repeat (first | exact pk1 | apply zAa)) (zAd (by repeat (first | exact pk1 | apply zAa)) (zAd (by repeat (first | exact pk1 | apply zAa)) (zAd (by repeat (first | exact pk1 | apply zAa)) (zAd (by repeat (first | exact pk1 | apply zAa)) (zAd (by repeat (first | exact pk1 | apply zAa)) (zAd (by repeat (first | exact pk1 | apply zAa)) (zAd (by repeat (first | exact pk1 | apply zAa)) (zAd (by repeat (first | exact pk1 | apply zAa)) (zAd (by repeat (first | exact pk1 | apply zAa)) (zAd (by repeat (first | exact pk1 | apply zAa)) (zAd (by repeat (first | exact pk1 | apply zAa)) (zAd (by repeat (first | exact pk1 | apply zAa)) (zAd (by repeat (first | exact pk1 | apply zAa)) (zAd (by repeat (first | exact pk1 | apply zAa)) (zAd (by repeat (first | exact pk1 | apply zAa)) (zAd (by repeat (first | exact pk1 | apply zAa)) (zAd (by repeat (first | exact pk1 | apply zAa)) (zAd (by repeat (first | exact pk1 | apply zAa)) (zAk _)))))))))))))))))))), E.keep (zAb rfl (zAb rfl (zAb rfl (zAb rfl zAp))))⟩
          · skip
            have hGd2 := hGd; rw [hgd] at hGd2; obtain ⟨hpos, hBg⟩ := hGd2; obtain ⟨adg, cg, rfl⟩ := hBg.slice; obtain ⟨gg, rfl⟩ := hBg.addr hpos
            refine zp E (by first | exact zAn E rfl rfl rfl (S.get (by repeat (first | exact pk1 | apply zAa))) rfl | exact zAj E rfl rfl rfl (by assumption)) ?_; clear E a; intro a E
            refine zp E (zDi E rfl rfl rfl rfl) ?_; clear E a; intro a E
            refine zp E (zAg E rfl rfl) ?_; clear E a; intro a E
            refine wpList_nil ?_; refine zBq ?_
            refine zAh hK ?_; clear hK; clear K
            refine zDx E rfl (rfl) ?_
            refine zFg ?_
            refine zBf ?_
            refine zBp ?_
            rw [hstep, hck, if_pos rfl, hgd, if_pos (by simp)]
            exact ⟨Lj, _, Cg, _, Cw, hLj, hGd, hW, S.only (zAd (by repeat (first | exact pk1 | apply zAa)) (zAd (by repeat (first | exact pk1 | apply zAa)) (zAd (by repeat (first | exact pk1 | apply zAa)) (zAd (by repeat (first | exact pk1 | apply zAa)) (zAd (by repeat (first | exact pk1 | apply zAa)) (zAd (by repeat (first | exact pk1 | apply zAa)) (zAd (by repeat (first | exact pk1 | apply zAa)) (zAd (by repeat (first | exact pk1 | apply zAa)) (zAd (by repeat (first | exact pk1 | apply zAa)) (zAd (by repeat (first | exact pk1 | apply zAa)) (zAd (by repeat (first | exact pk1 | apply zAa)) (zAd (by repeat (first | exact pk1 | apply zAa)) (zAd (by repeat (first | exact pk1 | apply zAa)) (zAd (by repeat (first | exact pk1 | apply zAa)) (zAd (by repeat (first | exact pk1 | apply zAa)) (zAd (by repeat (first | exact pk1 | apply zAa)) (zAd (by repeat (first | exact pk1 | apply zAa)) (zAd (by repeat (first | exact pk1 | apply zAa)) (zAd (by repeat (first | exact pk1 | apply zAa)) (zAk _)))))))))))))))))))), E.keep (zAb rfl (zAb rfl (zAb rfl (zAb rfl zAp))))⟩
      · clear S E a; intro a w J; obtain ⟨Li, vg, Cg, vw, Cw, hLi, hGd, hW, S, E⟩ := J
        refine zAh hK ?_; clear hK; clear K
        refine zCz ?_; intro K hK
        refine zCe rfl ?_
        rcases hgd : (q (i + 1)).1 with _ | gd; case' some => rcases all with _ | _
        · skip
          have hGd2 := hGd; rw [hgd] at hGd2; obtain ⟨hpos, hBg⟩ := hGd2; obtain ⟨adg, cg, rfl⟩ := hBg.slice; obtain ⟨gg, rfl⟩ := hBg.addr hpos
          refine zp E (by first | exact zAn E rfl rfl rfl (S.get (by repeat (first | exact pk1 | apply zAa))) rfl | exact zAj E rfl rfl rfl (by assumption)) ?_; clear E a; intro a E
          refine zp E (zDn E rfl rfl rfl rfl) ?_; clear E a; intro a E
          refine zp E (zAe E rfl rfl) ?_; clear E a; intro a E
          refine zCp E (t := 61) rfl (rfl) (fun hb61 => ?_)
          refine zy E hb61 (by first | exact zAn E rfl rfl rfl (S.get (by repeat (first | exact pk1 | apply zAa))) rfl | exact zAj E rfl rfl rfl (by assumption)) ?_; clear E a; intro a E
          refine zy E hb61 (zEg E rfl rfl) ?_; clear E a; intro a E
          refine zp E (zAm E rfl rfl hb61 rfl) ?_; clear E a; intro a E
          refine wpList_nil ?_; refine zBq ?_
          refine zAh hK ?_; clear hK; clear K
          refine zIg E rfl (rfl) ?_
          refine zCz ?_; intro K hK
          obtain ⟨adw, cw, rfl⟩ := hW.slice
          refine zFd S (.ofL [(0, 0), (1, 0), (2, 1), (3, 1), (4, 3)]) rfl (by kernel_rfl) (by kernel_rfl) ?_
          clear S; intro w S
          iterate 2 (refine zm E rfl (fun w h => by first | exact zAn E rfl rfl rfl (h.one (by repeat (first | exact mm1 | assumption | apply List.Mem.tail))) rfl | exact zAj E rfl rfl rfl (by assumption)) ?_; clear E a; intro a E)
          iterate 2 (refine zDp rfl rfl (zBg E S rfl rfl rfl rfl rfl rfl (by repeat (first | exact pk1 | apply zAa)) (by first | exact Nat.le_of_ble_eq_true rfl | (simp; done) | (simp; omega)) ?_); clear E S a; intro a w E S; try dsimp only [List.set] at S; refine ⟨S.stab.sub (by first | (simp; done) | (simp +contextual; done) | (simp [*]; done)), ?_⟩)
          refine zCq rfl rfl (zBg E S rfl rfl rfl rfl rfl rfl (by repeat (first | exact pk1 | apply zAa)) (by first | exact Nat.le_of_ble_eq_true rfl | (simp; done) | (simp; omega)) ?_); clear E S a; intro a w E S; try dsimp only [List.set] at S
          refine zBs ?_
          refine zAh hK ?_; clear hK; clear K
          refine wr_ret ?_
          refine zEc ?_
          refine ⟨_, S.front1 (A := [(lp, .loop (zHw rc))]) (by repeat (first | exact pk1 | apply zAa)), ?_⟩; clear S; intro w S; refine .inr ⟨rfl, ?_⟩
          exact ⟨i + 1, Li, _, Cg, _, Cw, ⟨by omega, .inr ⟨rfl, by rw [hgd]; simp⟩⟩, hLi, hGd, hW, S.only (zAd (by repeat (first | exact pk1 | apply zAa)) (zAd (by repeat (first | exact pk1 | apply zAa)) (zAd (by repeat (first | exact pk1 | apply zAa)) (zAd (by repeat (first | exact pk1 | apply zAa)) (zAd (by repeat (first | exact pk1 | apply zAa)) (zAd (by repeat (first | exact pk1 | apply zAa)) (zAd (by repeat (first | exact pk1 | apply zAa)) (zAd (by repeat (first | exact pk1 | apply zAa)) (zAd (by repeat (first | exact pk1 | apply zAa)) (zAd (by repeat (first | exact pk1 | apply zAa)) (zAd (by repeat (first | exact pk1 | apply zAa)) (zAd (by repeat (first | exact pk1 | apply zAa)) (zAk _)))))))))))))⟩
        · skip
          have hGd2 := hGd; rw [hgd] at hGd2; obtain ⟨hpos, hBg⟩ := hGd2; obtain ⟨adg, cg, rfl⟩ := hBg.slice; obtain ⟨gg, rfl⟩ := hBg.addr hpos
          refine zp E (by first | exact zAn E rfl rfl rfl (S.get (by repeat (first | exact pk1 | apply zAa))) rfl | exact zAj E rfl rfl rfl (by assumption)) ?_; clear E a; intro a E
          refine zp E (zDn E rfl rfl rfl rfl) ?_; clear E a; intro a E
          refine zp E (zAe E rfl rfl) ?_; clear E a; intro a E
          refine zCp E (t := 61) rfl (rfl) (fun hb61 => ?_)
          refine zy E hb61 (by first | exact zAn E rfl rfl rfl (S.get (by repeat (first | exact pk1 | apply zAa))) rfl | exact zAj E rfl rfl rfl (by assumption)) ?_; clear E a; intro a E
          refine zy E hb61 (zEg E rfl rfl) ?_; clear E a; intro a E
          refine zp E (zAm E rfl rfl hb61 rfl) ?_; clear E a; intro a E
          refine wpList_nil ?_; refine zBq ?_
          refine zAh hK ?_; clear hK; clear K
          refine zDx E rfl (rfl) ?_
          refine zFg ?_
          refine zBf ?_
          refine ⟨_, S.front1 (A := [(lp, .loop (zHw rc))]) (by repeat (first | exact pk1 | apply zAa)), ?_⟩; clear S; intro w S; refine .inl ⟨rfl, ?_⟩
          exact ⟨Li, _, _, _, Cw, (by first | exact fun _ => hgd | exact fun q => (by cases q)), hLi, hGd, hW, S.only (zAd (by repeat (first | exact pk1 | apply zAa)) (zAd (by repeat (first | exact pk1 | apply zAa)) (zAd (by repeat (first | exact pk1 | apply zAa)) (zAd (by repeat (first | exact pk1 | apply zAa)) (zAd (by repeat (first | exact pk1 | apply zAa)) (zAd (by repeat (first | exact pk1 | apply zAa)) (zAd (by repeat (first | exact pk1 | apply zAa)) (zAd (by repeat (first | exact pk1 | apply zAa)) (zAd (by repeat (first | exact pk1 | apply zAa)) (zAd (by repeat (first | exact pk1 | apply zAa)) (zAd (by repeat (first | exact pk1 | apply zAa)) (zAd (by repeat (first | exact pk1 | apply zAa)) (zAd (by repeat (first | exact pk1 | apply zAa)) (zAd (by repeat (first | exact pk1 | apply zAa)) (zAd (by repeat (first | exact pk1 | apply zAa)) (zAd (by repeat (first | exact pk1 | apply zAa)) (zAd (by repeat (first | exact pk1 | apply zAa)) (zAd (by repeat (first | exact pk1 | apply zAa)) (zAd (by repeat (first | exact pk1 | apply zAa)) (zAk _))))))))))))))))))))⟩
        · skip
          have hGd2 := hGd; rw [hgd] at hGd2; obtain ⟨rfl, rfl⟩ := hGd2
          refine zp E (by first | exact zAn E rfl rfl rfl (S.get (by repeat (first | exact pk1 | apply zAa))) rfl | exact zAj E rfl rfl rfl (by assumption)) ?_; clear E a; intro a E
          refine zp E (zDn E rfl rfl rfl rfl) ?_; clear E a; intro a E
          refine zp E (zAe E rfl rfl) ?_; clear E a; intro a E
          refine zCh E (t := 61) rfl (rfl) (fun hb61 => ?_)
          iterate 2 (refine zn E hb61 ?_; clear E a; intro a E)
          refine zp E (zAq E rfl rfl hb61 rfl) ?_; clear E a; intro a E
          refine wpList_nil ?_; refine zBq ?_
          refine zAh hK ?_; clear hK; clear K
          refine zDx E rfl rfl ?_
          refine zFg ?_
          refine zBf ?_
          refine ⟨_, S.front1 (A := [(lp, .loop (zHw rc))]) (by repeat (first | exact pk1 | apply zAa)), ?_⟩; clear S; intro w S; refine .inl ⟨rfl, ?_⟩
          exact ⟨Li, _, _, _, Cw, (by first | exact fun _ => hgd | exact fun q => (by cases q)), hLi, hGd, hW, S.only (zAd (by repeat (first | exact pk1 | apply zAa)) (zAd (by repeat (first | exact pk1 | apply zAa)) (zAd (by repeat (first | exact pk1 | apply zAa)) (zAd (by repeat (first | exact pk1 | apply zAa)) (zAd (by repeat (first | exact pk1 | apply zAa)) (zAd (by repeat (first | exact pk1 | apply zAa)) (zAd (by repeat (first | exact pk1 | apply zAa)) (zAd (by repeat (first | exact pk1 | apply zAa)) (zAd (by repeat (first | exact pk1 | apply zAa)) (zAd (by repeat (first | exact pk1 | apply zAa)) (zAd (by repeat (first | exact pk1 | apply zAa)) (zAd (by repeat (first | exact pk1 | apply zAa)) (zAd (by repeat (first | exact pk1 | apply zAa)) (zAd (by repeat (first | exact pk1 | apply zAa)) (zAd (by repeat (first | exact pk1 | apply zAa)) (zAd (by repeat (first | exact pk1 | apply zAa)) (zAd (by repeat (first | exact pk1 | apply zAa)) (zAd (by repeat (first | exact pk1 | apply zAa)) (zAd (by repeat (first | exact pk1 | apply zAa)) (zAk _))))))))))))))))))))⟩
    · skip
      rw [hfd, if_pos rfl] at hrd
      have hstep : q (i + 1) = q i := by rw [hsc]; unfold zJb rdC; rw [hfd]; rfl
      refine zm E rfl (fun w h => zAe E rfl rfl) ?_; clear E a; intro a E
      iterate 3 (refine zm E rfl (fun w h => by first | exact zAn E rfl rfl rfl (h.one (by repeat (first | exact mm1 | assumption | apply List.Mem.tail))) rfl | exact zAj E rfl rfl rfl (by assumption)) ?_; clear E a; intro a E)
      refine zCn E rfl rfl rfl (by decide) rfl Tryz.func22 rfl (by kernel_rfl) rfl (zHf (ptr t) bl (by omega) _) ?_
      rintro v28 w ⟨rfl, hT⟩; clear E a; intro a E
      have S := S.quiet hT; rw [hn] at E
      refine ⟨S.stab.sub (by first | (simp; done) | (simp +contextual; done) | (simp [*]; done)), ?_⟩
      refine zDl E rfl rfl rfl (by decide) rfl Tryz.func11 rfl (by kernel_rfl) rfl (lread_in P R C hC (lvs xs) Li hLi i x hx hxd at_ n ha _ (S.hp.sel (zAd (by repeat (first | exact pk1 | apply zAa)) (zAd (by repeat (first | exact pk1 | apply zAa)) (zAk _))))) ?_
      rintro v29 w ⟨vb, Cb, Lj, rfl, hCb, hLj, hT⟩; clear E a; intro a E
      have S := S.call3 (zAd (by repeat (first | exact pk1 | apply zAa)) (zAd (by repeat (first | exact pk1 | apply zAa)) (zAk _))) hT; rw [hrd] at E hCb
      refine zCl E rfl rfl rfl (by decide) (fun w => zAe E rfl rfl) ?_; clear E a; intro a E
      iterate 2 (refine zCl E rfl rfl rfl (by decide) (fun w => zBx E rfl rfl rfl) ?_; clear E a; intro a E)
      iterate 2 (refine zCl E rfl rfl rfl (by decide) (fun w => zAg E rfl rfl) ?_; clear E a; intro a E)
      refine zBs ?_
      refine zAh hK ?_; clear hK; clear K
      refine zCz ?_; intro K hK
      refine wr_join (fun (a : Act) (w' : World) => ∃ (Li : zAs) (vg : Value) (Cg : zAs) (vw : Value) (Cw : zAs), LvC (lvs xs) Li ∧ GdB vg Cg (q (i + 1)).1 ∧ Buf Cw 49 1 vw (q (i + 1)).2.length ((q (i + 1)).2.map fun y => ptr y.1) ∧ St w0 [C, Lv, [(t, mtcl vl vk z)], CL, G] w' [[(lp, .loop (zHw rc))], [(rp, .deferred (some []))], [(bt, cel [ptr t] 38)], [(b6, cel [ptr t] 38)], [(b7, cel [.int .i64 at_] 3)], [(b8, cel [.int .i64 bl] 3)], [(b9, cel [.int .i64 kind] 3)], [(b10, cel [.int .u64 s.a, .int .u64 s.b, .int .u64 s.c, .int .u64 s.d] 31)], [(b11, cel [.bool all] 4)], [(b12, cel [vg] 22)], [(b13, cel [vw] 37)], [(b14, cel [.int .i64 0] 32)], Cg, Cw, C, Li, [(t, mtcl vl vk z)], CL, G] ∧ Fr a 69 [(11, ptr b11), (12, ptr b12), (13, ptr b13), (14, ptr b14)]) ?_ ?_
      · refine zGa ?_
        refine zCz ?_; intro K hK
        replace E := E.keep (e' := [(8, _), (9, _), (10, _), (11, _), (12, _), (13, _), (14, _), (16, _), (17, _), (18, _)]) (zAb rfl (zAb rfl (zAb rfl (zAb rfl (zAb rfl (zAb rfl (zAb rfl (zAb rfl (zAb rfl (zAb rfl (zAp)))))))))))
        refine zCe rfl ?_
        refine zp E (zAe E rfl rfl) ?_; clear E a; intro a E
        refine zp E (by first | exact zCf E rfl rfl rfl | exact zAu E rfl rfl rfl rfl | exact zBc E rfl rfl rfl rfl | exact zAw E rfl rfl rfl) ?_; clear E a; intro a E
        refine zp E (zAg E rfl rfl) ?_; clear E a; intro a E
        refine wpList_nil ?_; refine zBq ?_
        refine zAh hK ?_; clear hK; clear K
        refine zDx E rfl (rfl) ?_
        refine zCz ?_; intro K hK
        refine zCe rfl ?_
        refine zp E (zAe E rfl rfl) ?_; clear E a; intro a E
        refine zp E (by first | exact zCu E rfl rfl rfl | exact zAz E rfl rfl rfl rfl | exact zBj E rfl rfl rfl rfl | exact zBd E rfl rfl rfl) ?_; clear E a; intro a E
        refine zp E (zAg E rfl rfl) ?_; clear E a; intro a E
        refine wpList_nil ?_; refine zBq ?_
        refine zAh hK ?_; clear hK; clear K
        refine zIg E rfl (rfl) ?_
        refine zFg ?_
        refine zBf ?_
        refine zBp ?_
        rw [hstep]; exact ⟨Lj, vg, Cg, _, Cw, hLj, hGd, hW, S.only (zAd (by repeat (first | exact pk1 | apply zAa)) (zAd (by repeat (first | exact pk1 | apply zAa)) (zAd (by repeat (first | exact pk1 | apply zAa)) (zAd (by repeat (first | exact pk1 | apply zAa)) (zAd (by repeat (first | exact pk1 | apply zAa)) (zAd (by repeat (first | exact pk1 | apply zAa)) (zAd (by repeat (first | exact pk1 | apply zAa)) (zAd (by repeat (first | exact pk1 | apply zAa)) (zAd (by repeat (first | exact pk1 | apply zAa)) (zAd (by repeat (first | exact pk1 | apply zAa)) (zAd (by repeat (first | exact pk1 | apply zAa)) (zAd (by repeat (first | exact pk1 | apply zAa)) (zAd (by repeat (first | exact pk1 | apply zAa)) (zAd (by repeat (first | exact pk1 | apply zAa)) (zAd (by repeat (first | exact pk1 | apply zAa)) (zAd (by repeat (first | exact pk1 | apply zAa)) (zAd (by repeat (first | exact pk1 | apply zAa)) (zAd (by repeat (first | exact pk1 | apply zAa)) (zAd (by repeat (first | exact pk1 | apply zAa)) (zAk _)))))))))))))))))))), E.keep (zAb rfl (zAb rfl (zAb rfl (zAb rfl zAp))))⟩
      · clear S E a; intro a w J; obtain ⟨Li, vg, Cg, vw, Cw, hLi, hGd, hW, S, E⟩ := J
        refine zAh hK ?_; clear hK; clear K
        refine zCz ?_; intro K hK
        refine zCe rfl ?_
        rcases hgd : (q (i + 1)).1 with _ | gd; case' some => rcases all with _ | _
        · skip
          have hGd2 := hGd; rw [hgd] at hGd2; obtain ⟨hpos, hBg⟩ := hGd2; obtain ⟨adg, cg, rfl⟩ := hBg.slice; obtain ⟨gg, rfl⟩ := hBg.addr hpos
          refine zp E (by first | exact zAn E rfl rfl rfl (S.get (by repeat (first | exact pk1 | apply zAa))) rfl | exact zAj E rfl rfl rfl (by assumption)) ?_; clear E a; intro a E
          refine zp E (zDn E rfl rfl rfl rfl) ?_; clear E a; intro a E
          refine zp E (zAe E rfl rfl) ?_; clear E a; intro a E
          refine zCp E (t := 61) rfl (rfl) (fun hb61 => ?_)
          refine zy E hb61 (by first | exact zAn E rfl rfl rfl (S.get (by repeat (first | exact pk1 | apply zAa))) rfl | exact zAj E rfl rfl rfl (by assumption)) ?_; clear E a; intro a E
          refine zy E hb61 (zEg E rfl rfl) ?_; clear E a; intro a E
          refine zp E (zAm E rfl rfl hb61 rfl) ?_; clear E a; intro a E
          refine wpList_nil ?_; refine zBq ?_
          refine zAh hK ?_; clear hK; clear K
          refine zIg E rfl (rfl) ?_
          refine zCz ?_; intro K hK
          obtain ⟨adw, cw, rfl⟩ := hW.slice
          refine zFd S (.ofL [(0, 0), (1, 0), (2, 1), (3, 1), (4, 3)]) rfl (by kernel_rfl) (by kernel_rfl) ?_
          clear S; intro w S
          iterate 2 (refine zm E rfl (fun w h => by first | exact zAn E rfl rfl rfl (h.one (by repeat (first | exact mm1 | assumption | apply List.Mem.tail))) rfl | exact zAj E rfl rfl rfl (by assumption)) ?_; clear E a; intro a E)
          iterate 2 (refine zDp rfl rfl (zBg E S rfl rfl rfl rfl rfl rfl (by repeat (first | exact pk1 | apply zAa)) (by first | exact Nat.le_of_ble_eq_true rfl | (simp; done) | (simp; omega)) ?_); clear E S a; intro a w E S; try dsimp only [List.set] at S; refine ⟨S.stab.sub (by first | (simp; done) | (simp +contextual; done) | (simp [*]; done)), ?_⟩)
          refine zCq rfl rfl (zBg E S rfl rfl rfl rfl rfl rfl (by repeat (first | exact pk1 | apply zAa)) (by first | exact Nat.le_of_ble_eq_true rfl | (simp; done) | (simp; omega)) ?_); clear E S a; intro a w E S; try dsimp only [List.set] at S
          refine zBs ?_
          refine zAh hK ?_; clear hK; clear K
          refine wr_ret ?_
          refine zEc ?_
          refine ⟨_, S.front1 (A := [(lp, .loop (zHw rc))]) (by repeat (first | exact pk1 | apply zAa)), ?_⟩; clear S; intro w S; refine .inr ⟨rfl, ?_⟩
          exact ⟨i + 1, Li, _, Cg, _, Cw, ⟨by omega, .inr ⟨rfl, by rw [hgd]; simp⟩⟩, hLi, hGd, hW, S.only (zAd (by repeat (first | exact pk1 | apply zAa)) (zAd (by repeat (first | exact pk1 | apply zAa)) (zAd (by repeat (first | exact pk1 | apply zAa)) (zAd (by repeat (first | exact pk1 | apply zAa)) (zAd (by repeat (first | exact pk1 | apply zAa)) (zAd (by repeat (first | exact pk1 | apply zAa)) (zAd (by repeat (first | exact pk1 | apply zAa)) (zAd (by repeat (first | exact pk1 | apply zAa)) (zAd (by repeat (first | exact pk1 | apply zAa)) (zAd (by repeat (first | exact pk1 | apply zAa)) (zAd (by repeat (first | exact pk1 | apply zAa)) (zAd (by repeat (first | exact pk1 | apply zAa)) (zAk _)))))))))))))⟩
        · skip
          have hGd2 := hGd; rw [hgd] at hGd2; obtain ⟨hpos, hBg⟩ := hGd2; obtain ⟨adg, cg, rfl⟩ := hBg.slice; obtain ⟨gg, rfl⟩ := hBg.addr hpos
          refine zp E (by first | exact zAn E rfl rfl rfl (S.get (by repeat (first | exact pk1 | apply zAa))) rfl | exact zAj E rfl rfl rfl (by assumption)) ?_; clear E a; intro a E
          refine zp E (zDn E rfl rfl rfl rfl) ?_; clear E a; intro a E
          refine zp E (zAe E rfl rfl) ?_; clear E a; intro a E
          refine zCp E (t := 61) rfl (rfl) (fun hb61 => ?_)
          refine zy E hb61 (by first | exact zAn E rfl rfl rfl (S.get (by repeat (first | exact pk1 | apply zAa))) rfl | exact zAj E rfl rfl rfl (by assumption)) ?_; clear E a; intro a E
          refine zy E hb61 (zEg E rfl rfl) ?_; clear E a; intro a E
          refine zp E (zAm E rfl rfl hb61 rfl) ?_; clear E a; intro a E
          refine wpList_nil ?_; refine zBq ?_
          refine zAh hK ?_; clear hK; clear K
          refine zDx E rfl (rfl) ?_
          refine zFg ?_
          refine zBf ?_
          refine ⟨_, S.front1 (A := [(lp, .loop (zHw rc))]) (by repeat (first | exact pk1 | apply zAa)), ?_⟩; clear S; intro w S; refine .inl ⟨rfl, ?_⟩
          exact ⟨Li, _, _, _, Cw, (by first | exact fun _ => hgd | exact fun q => (by cases q)), hLi, hGd, hW, S.only (zAd (by repeat (first | exact pk1 | apply zAa)) (zAd (by repeat (first | exact pk1 | apply zAa)) (zAd (by repeat (first | exact pk1 | apply zAa)) (zAd (by repeat (first | exact pk1 | apply zAa)) (zAd (by repeat (first | exact pk1 | apply zAa)) (zAd (by repeat (first | exact pk1 | apply zAa)) (zAd (by repeat (first | exact pk1 | apply zAa)) (zAd (by repeat (first | exact pk1 | apply zAa)) (zAd (by repeat (first | exact pk1 | apply zAa)) (zAd (by repeat (first | exact pk1 | apply zAa)) (zAd (by repeat (first | exact pk1 | apply zAa)) (zAd (by repeat (first | exact pk1 | apply zAa)) (zAd (by repeat (first | exact pk1 | apply zAa)) (zAd (by repeat (first | exact pk1 | apply zAa)) (zAd (by repeat (first | exact pk1 | apply zAa)) (zAd (by repeat (first | exact pk1 | apply zAa)) (zAd (by repeat (first | exact pk1 | apply zAa)) (zAd (by repeat (first | exact pk1 | apply zAa)) (zAd (by repeat (first | exact pk1 | apply zAa)) (zAk _))))))))))))))))))))⟩
        · skip
          have hGd2 := hGd; rw [hgd] at hGd2; obtain ⟨rfl, rfl⟩ := hGd2
          refine zp E (by first | exact zAn E rfl rfl rfl (S.get (by repeat (first | exact pk1 | apply zAa))) rfl | exact zAj E rfl rfl rfl (by assumption)) ?_; clear E a; intro a E
          refine zp E (zDn E rfl rfl rfl rfl) ?_; clear E a; intro a E
          refine zp E (zAe E rfl rfl) ?_; clear E a; intro a E
          refine zCh E (t := 61) rfl (rfl) (fun hb61 => ?_)
          iterate 2 (refine zn E hb61 ?_; clear E a; intro a E)
          refine zp E (zAq E rfl rfl hb61 rfl) ?_; clear E a; intro a E
          refine wpList_nil ?_; refine zBq ?_
          refine zAh hK ?_; clear hK; clear K
          refine zDx E rfl rfl ?_
          refine zFg ?_
          refine zBf ?_
          refine ⟨_, S.front1 (A := [(lp, .loop (zHw rc))]) (by repeat (first | exact pk1 | apply zAa)), ?_⟩; clear S; intro w S; refine .inl ⟨rfl, ?_⟩
          exact ⟨Li, _, _, _, Cw, (by first | exact fun _ => hgd | exact fun q => (by cases q)), hLi, hGd, hW, S.only (zAd (by repeat (first | exact pk1 | apply zAa)) (zAd (by repeat (first | exact pk1 | apply zAa)) (zAd (by repeat (first | exact pk1 | apply zAa)) (zAd (by repeat (first | exact pk1 | apply zAa)) (zAd (by repeat (first | exact pk1 | apply zAa)) (zAd (by repeat (first | exact pk1 | apply zAa)) (zAd (by repeat (first | exact pk1 | apply zAa)) (zAd (by repeat (first | exact pk1 | apply zAa)) (zAd (by repeat (first | exact pk1 | apply zAa)) (zAd (by repeat (first | exact pk1 | apply zAa)) (zAd (by repeat (first | exact pk1 | apply zAa)) (zAd (by repeat (first | exact pk1 | apply zAa)) (zAd (by repeat (first | exact pk1 | apply zAa)) (zAd (by repeat (first | exact pk1 | apply zAa)) (zAd (by repeat (first | exact pk1 | apply zAa)) (zAd (by repeat (first | exact pk1 | apply zAa)) (zAd (by repeat (first | exact pk1 | apply zAa)) (zAd (by repeat (first | exact pk1 | apply zAa)) (zAd (by repeat (first | exact pk1 | apply zAa)) (zAk _))))))))))))))))))))⟩
  · exact ⟨Lv, _, [], _, [], fun _ => by rw [hq0], hLv, by rw [hq0]; exact ⟨rfl, rfl⟩, by rw [hq0]; exact Buf.nil _ _, S.addNil.addNil.only (zAd (by repeat (first | exact pk1 | apply zAa)) (zAd (by repeat (first | exact pk1 | apply zAa)) (zAd (by repeat (first | exact pk1 | apply zAa)) (zAd (by repeat (first | exact pk1 | apply zAa)) (zAd (by repeat (first | exact pk1 | apply zAa)) (zAd (by repeat (first | exact pk1 | apply zAa)) (zAd (by repeat (first | exact pk1 | apply zAa)) (zAd (by repeat (first | exact pk1 | apply zAa)) (zAd (by repeat (first | exact pk1 | apply zAa)) (zAd (by repeat (first | exact pk1 | apply zAa)) (zAd (by repeat (first | exact pk1 | apply zAa)) (zAd (by repeat (first | exact pk1 | apply zAa)) (zAd (by repeat (first | exact pk1 | apply zAa)) (zAd (by repeat (first | exact pk1 | apply zAa)) (zAd (by repeat (first | exact pk1 | apply zAa)) (zAd (by repeat (first | exact pk1 | apply zAa)) (zAd (by repeat (first | exact pk1 | apply zAa)) (zAd (by repeat (first | exact pk1 | apply zAa)) (zAd (by repeat (first | exact pk1 | apply zAa)) (zAk _))))))))))))))))))))⟩
  · rintro en w ⟨v, rfl, hJ | hJ⟩
    · obtain ⟨Li, vg, Cg, vw, Cw, hal, hLi, hGd, hW, S⟩ := hJ
      refine ⟨v, rfl, .inl ⟨_, S, ?_⟩⟩; clear E S; intro w S a E
      refine zBf ?_
      refine zAh hK ?_; clear hK; clear K
      refine wp_seq_k ?_; intro K hK
      obtain ⟨adg, kg, cg, rfl⟩ := hGd.slice
      obtain ⟨adw, cw, rfl⟩ := hW.slice
      refine zBo S (.ofL [(0, 0), (1, 0), (2, 1), (3, 1), (4, 3)]) (by kernel_rfl) (by kernel_rfl) ?_
      clear S; intro w S
      iterate 2 (refine zm E rfl (fun w h => by first | exact zAn E rfl rfl rfl (h.one (by repeat (first | exact mm1 | assumption | apply List.Mem.tail))) rfl | exact zAj E rfl rfl rfl (by assumption)) ?_; clear E a; intro a E)
      iterate 2 (refine zDp rfl rfl (zBg E S rfl rfl rfl rfl rfl rfl (by repeat (first | exact pk1 | apply zAa)) (by first | exact Nat.le_of_ble_eq_true rfl | (simp; done) | (simp; omega)) ?_); clear E S a; intro a w E S; try dsimp only [List.set] at S; refine ⟨S.stab.sub (by first | (simp; done) | (simp +contextual; done) | (simp [*]; done)), ?_⟩)
      refine zCq rfl rfl (zBg E S rfl rfl rfl rfl rfl rfl (by repeat (first | exact pk1 | apply zAa)) (by first | exact Nat.le_of_ble_eq_true rfl | (simp; done) | (simp; omega)) ?_); clear E S a; intro a w E S; try dsimp only [List.set] at S
      refine zBs ?_
      refine zAh hK ?_; clear hK; clear K
      refine wp_ret ?_
      refine retM3 E S (by repeat (first | exact pk1 | apply zAa)) rfl (fun w S => zFj rfl rfl (S.get (by repeat (first | exact pk1 | apply zAa))) rfl) (fun w S => zFj rfl rfl (S.get (by repeat (first | exact pk1 | apply zAa))) rfl) (fun w S => zFj rfl rfl (S.get (by repeat (first | exact pk1 | apply zAa))) rfl) ?_; clear S; intro w S
      have hll : (lvs xs).length = xs.length := by simp
      rw [hll] at hGd hW
      exact ⟨_, rfl, xs.length, Li, _, Cg, _, Cw, ⟨Nat.le_refl _, .inl rfl⟩, by rw [hll], hLi, hGd, hW, (S.only (Bs := [Cg, Cw, C, Li, [(t, _)], CL, G]) (zAd (by repeat (first | exact pk1 | apply zAa)) (zAd (by repeat (first | exact pk1 | apply zAa)) (zAd (by repeat (first | exact pk1 | apply zAa)) (zAd (by repeat (first | exact pk1 | apply zAa)) (zAd (by repeat (first | exact pk1 | apply zAa)) (zAd (by repeat (first | exact pk1 | apply zAa)) (zAd (by repeat (first | exact pk1 | apply zAa)) (zAk _))))))))).tr⟩
    · obtain ⟨i, Li, vg, Cg, vw, Cw, hce, hLi, hGd, hW, S⟩ := hJ
      refine ⟨v, rfl, .inr ⟨_, S, ?_⟩⟩; clear E S; intro w S a E
      refine zEc ?_
      refine zBi ?_; clear hK; clear K
      refine retM3 E S (by repeat (first | exact pk1 | apply zAa)) rfl (fun w S => zFj rfl rfl (S.get (by repeat (first | exact pk1 | apply zAa))) rfl) (fun w S => zFj rfl rfl (S.get (by repeat (first | exact pk1 | apply zAa))) rfl) (fun w S => zFj rfl rfl (S.get (by repeat (first | exact pk1 | apply zAa))) rfl) ?_; clear S; intro w S
      exact ⟨_, rfl, i, Li, vg, Cg, vw, Cw, hce, rfl, hLi, hGd, hW, (S.only (Bs := [Cg, Cw, C, Li, [(t, _)], CL, G]) (zAd (by repeat (first | exact pk1 | apply zAa)) (zAd (by repeat (first | exact pk1 | apply zAa)) (zAd (by repeat (first | exact pk1 | apply zAa)) (zAd (by repeat (first | exact pk1 | apply zAa)) (zAd (by repeat (first | exact pk1 | apply zAa)) (zAd (by repeat (first | exact pk1 | apply zAa)) (zAd (by repeat (first | exact pk1 | apply zAa)) (zAk _))))))))).tr⟩
end Go.Proofs.YtidhehcjafoneaaGreatDoor
