/-
  Texts put together (13).
-/
import Derived.Test.YtidhehcjafoneaaGreatDoorZMirrorAlone12
namespace Go.Sl
theorem enter6 {P : Program} {f : FuncId} {fn : Func} {c : Code} {w : World} {R : Ending → World → Prop} (n : Nat) {x0 x1 x2 x3 x4 x5 : Value} (hf : P.funcs[f]? = some fn) (hb : fn.body = some c) (hn : fn.ntmps = n) (hs : 6 ≤ n)
    (h : ∀ a, Fr a n [(0, x0), (1, x1), (2, x2), (3, x3), (4, x4), (5, x5)] → c.wp P (bodyPost P fn R) a w) : Calls P f #[x0, x1, x2, x3, x4, x5] w R :=
  zFl n _ _ hf hb hn hs (zGh _ _ (by simp)) h
theorem rdC_len {R : Rk} {x : Nat × Nat} {at_ z : Int} {bl : Nat} {g : List UInt8} (hfit : zEj z at_ bl) (hz : zEl (dkOf R x.2) = z) (hnw : (dkOf R x.2).now.length = (dkOf R x.2).pl.length) (h : rdC R (274 + at_).toNat (zDm bl).toNat bl x = some g) :
    (dkOf R x.2).failed = false ∧ g = secC (dkOf R x.2) (274 + at_).toNat (zDm bl).toNat bl ∧ g.length = bl := by
  obtain ⟨n1, n2, n3, n4⟩ := zEo bl
  obtain ⟨f1, f2, f3, f4⟩ := hfit
  have hl : (((dkOf R x.2).pl.length / 128 : Nat) : Int) - 292 = z := hz
  unfold rdC at h
  cases hf : (dkOf R x.2).failed with
  | true => rw [hf] at h; simp at h
  | false =>
    rw [hf] at h
    simp only [Bool.false_eq_true, if_false, Option.some.injEq] at h
    refine ⟨rfl, h.symm, ?_⟩
    rw [← h, secC, List.length_take, List.length_take, List.length_drop]; omega
end Go.Sl
namespace Go.Proofs.YtidhehcjafoneaaGreatDoor
open Go.Sl
set_option maxRecDepth 10000
def LkEnd (R : Rk) (q : Option (List UInt8) × List (Nat × Nat)) (a : Nat) (e : Int) (R' : Rk) : Prop :=
  (q.1 = none ∧ e = 4 ∧ R' = R) ∨ ∃ g, q.1 = some g ∧ e = 0 ∧ LaidOn R (q.2.map Prod.snd) a (padM g) R'
def GdR (v : Value) (C : zAs) : Option (List UInt8) → Prop
  | none => v = .slice none 0 0
  | some c => 0 < c.length ∧ Rd C 1 v c.length (byt c) ∧ ∃ ad k, v = .slice ad c.length k ∧ c.length ≤ k
theorem GdR.slice {v : Value} {C : zAs} {o : Option (List UInt8)} (h : GdR v C o) : ∃ ad k c, v = .slice ad k c ∧ k ≤ c := by
  cases o with
  | none => exact ⟨_, _, _, h, Nat.le_refl _⟩
  | some b => obtain ⟨ad, c, e, h1⟩ := h.2.2; exact ⟨ad, _, c, e, h1⟩
section
variable (P : Nat) (R : Rk) (C : zAs) (hC : RkC P R C) (hO : On R) (xs : List (Nat × Nat)) (hx5 : xs.length ≤ 5) (hnd : (xs.map Prod.snd).Nodup) (Lv : zAs) (hLv : LvC (lvs xs) Lv) (hds : ∀ x ∈ xs, R.has x.2)
    (z : Int) (hz : ∀ x ∈ xs, zEl (dkOf R x.2) = z) (hz0 : 0 ≤ z ∧ z ≤ 8192) (hws : R.ws.length + 10000 ≤ 244335861110) (hwr : R.pw.wr + 10000 ≤ 1000000000000000000)
    (t : Nat) (vl vk : Value) (CL : zAs) (hCL : Buf CL 49 1 vl xs.length ((lvs xs).map lv)) (G : zAs) (hG : Tab [G] 2 shaK)
    (at_ : Int) (ha : -9223372036854775808 ≤ at_ ∧ at_ ≤ 9223372036854775807) (bl : Nat) (hfit : zEj z at_ bl) (kind : Int) (hk : kind = 1 ∨ kind = 2) (s : Fs)
include hC hO hx5 hnd hLv hds hz hz0 hws hwr hCL hG ha hfit hk
theorem mlook_ret (all : Bool) (w0 : World) (H : Hp w0 [C, Lv, [(t, mtcl vl vk z)], CL, G]) :
    Ret Tryz.prog 46 #[ptr t, .int .i64 at_, .int .i64 bl, .int .i64 kind, s.agg, .bool all] w0 fun u w' =>
      ∃ (i : Nat) (vg : Value) (n e : Int) (Cg : zAs) (R' : Rk) (C' Lv' : zAs), CpEnd all xs.length i (cpTo (chkK kind s) (rdC R (274 + at_).toNat (zDm bl).toNat bl) xs i) ∧ 0 ≤ n ∧ u = .tuple #[vg, .int .i64 n, .int .i64 e] ∧ GdR vg Cg (cpTo (chkK kind s) (rdC R (274 + at_).toNat (zDm bl).toNat bl) xs i).1 ∧ RkC P R' C' ∧ LvC (lvs xs) Lv' ∧
        LkEnd R (cpTo (chkK kind s) (rdC R (274 + at_).toNat (zDm bl).toNat bl) xs i) (274 + at_).toNat e R' ∧ Trs w0 w' [C, Lv, [(t, mtcl vl vk z)], CL, G] [Cg, C', Lv', [(t, mtcl vl vk z)], CL, G] := by
  have S := St.begin H
  obtain ⟨n1, n2, n3, n4⟩ := zEo bl
  obtain ⟨f1, f2, f3, f4⟩ := id hfit
  obtain ⟨q, hq⟩ : ∃ q, q = cpTo (chkK kind s) (rdC R (274 + at_).toNat (zDm bl).toNat bl) xs := ⟨_, rfl⟩
  have hfa := zFk (chk := chkK kind s) (rd := rdC R (274 + at_).toNat (zDm bl).toNat bl) xs
  rw [← hq] at hfa ⊢
  refine enter6 61 Tryz.func46 rfl rfl (by decide) ?_; intro a E
  refine wp_seq_k ?_; intro K hK
  refine zAc ?_
  refine zAo rfl (zCs E S rfl rfl (by decide) rfl rfl ?_); clear E S a; intro a w b10 E S
  iterate 3 (refine zp E (zAg E rfl rfl) ?_; clear E a; intro a E)
  refine wpList_nil ?_
  refine zAh hK ?_; clear hK; clear K
  iterate 2 (refine wp_seq_k ?_; intro K hK)
  refine zAc ?_
  iterate 3 (refine zp E (zAe E rfl rfl) ?_; clear E a; intro a E)
  refine zAr E rfl rfl (by decide) rfl Tryz.func34 rfl (by kernel_rfl) rfl (zKh t _ vk z at_ bl hz0 (by omega) _ (S.hp.sel (zAd (by repeat (first | exact pk1 | apply zAa)) (zAk _)))) ?_
  rintro v22 w ⟨rfl, hT⟩; clear E a; intro a E
  have S := S.call1 (zAd (by repeat (first | exact pk1 | apply zAa)) (zAk _)) hT; rw [decide_eq_true hfit] at E
  refine zp E (zEg E rfl rfl) ?_; clear E a; intro a E
  refine zp E (zAe E rfl rfl) ?_; clear E a; intro a E
  refine zCh E (t := 24) rfl (rfl) (fun hb24 => ?_)
  refine zy E hb24 (zAe E rfl rfl) ?_; clear E a; intro a E
  refine zy E hb24 (by first | exact zCu E rfl rfl rfl | exact zAz E rfl rfl rfl rfl | exact zBj E rfl rfl rfl rfl | exact zBd E rfl rfl rfl) ?_; clear E a; intro a E
  refine zy E hb24 (zAe E rfl rfl) ?_; clear E a; intro a E
  refine zAy E (t := 27) rfl (fun hb27 => ?_) (fun hb27 => ?_)
  · have hb27n := hb27; replace hb27n := Nrm.nrm hb27n
    refine zy E hb27 (zAe E rfl rfl) ?_; clear E a; intro a E
    refine zy E hb27 (by first | exact zCu E rfl rfl rfl | exact zAz E rfl rfl rfl rfl | exact zBj E rfl rfl rfl rfl | exact zBd E rfl rfl rfl) ?_; clear E a; intro a E
    refine zy E hb24 (zAm E rfl rfl hb27 rfl) ?_; clear E a; intro a E
    refine zp E (zAq E rfl rfl hb24 rfl) ?_; clear E a; intro a E
    refine wpList_nil ?_
    refine zAh hK ?_; clear hK; clear K
    refine zBt E rfl ((by first | rfl | (rcases hk with rfl | rfl <;> simp_all))) ?_
    refine wp_skip ?_
    refine zAh hK ?_; clear hK; clear K
    refine wp_seq_k ?_; intro K hK
    refine zAc ?_
    iterate 4 (refine zp E (zAe E rfl rfl) ?_; clear E a; intro a E)
    refine zp E (zBw (vs := [_, _, _, _]) E rfl rfl rfl (S.get (by repeat (first | exact pk1 | apply zAa))) rfl rfl) ?_; clear E a; intro a E
    refine zp E (zAe E rfl rfl) ?_; clear E a; intro a E
    refine zAr E rfl rfl (by decide) rfl Tryz.func73 rfl (by kernel_rfl) rfl (zKp P R C hC hO.off xs hx5 Lv hLv hds z hz t vl vk CL hCL G hG at_ ha bl hfit kind s all _ (S.hp.sel (zAd (by repeat (first | exact pk1 | apply zAa)) (zAd (by repeat (first | exact pk1 | apply zAa)) (zAd (by repeat (first | exact pk1 | apply zAa)) (zAd (by repeat (first | exact pk1 | apply zAa)) (zAd (by repeat (first | exact pk1 | apply zAa)) (zAk _)))))))) ?_
    rintro v39 w ⟨i, Lj, vg, Cg, vw, Cw, hce, rfl, hLj, hGd, hW, hT⟩; clear E a; intro a E
    have S := S.call (zAd (by repeat (first | exact pk1 | apply zAa)) (zAd (by repeat (first | exact pk1 | apply zAa)) (zAd (by repeat (first | exact pk1 | apply zAa)) (zAd (by repeat (first | exact pk1 | apply zAa)) (zAd (by repeat (first | exact pk1 | apply zAa)) (zAk _)))))) hT; simp only [List.cons_append, List.nil_append] at S; rw [← hq] at hce hGd hW
    refine zp E (zAe E rfl rfl) ?_; clear E a; intro a E
    iterate 3 (refine zp E (zBx E rfl rfl rfl) ?_; clear E a; intro a E)
    iterate 3 (refine zp E (zAg E rfl rfl) ?_; clear E a; intro a E)
    refine wpList_nil ?_
    refine zAh hK ?_; clear hK; clear K
    iterate 2 (refine wp_seq_k ?_; intro K hK)
    replace E := E.keep (e' := [(0, _), (1, _), (12, _), (13, _), (14, _), (15, _), (16, _), (17, _)]) (zAb rfl (zAb rfl (zAb rfl (zAb rfl (zAb rfl (zAb rfl (zAb rfl (zAb rfl (zAp)))))))))
    refine zAc ?_
    refine zp E (zAe E rfl rfl) ?_; clear E a; intro a E
    refine zp E (by first | exact zCu E rfl rfl rfl | exact zAz E rfl rfl rfl rfl | exact zBj E rfl rfl rfl rfl | exact zBd E rfl rfl rfl) ?_; clear E a; intro a E
    refine wpList_nil ?_
    refine zAh hK ?_; clear hK; clear K
    refine zBt E rfl (rfl) ?_
    refine wp_skip ?_
    refine zAh hK ?_; clear hK; clear K
    iterate 2 (refine wp_seq_k ?_; intro K hK)
    refine zAc ?_
    rcases hgd : (q i).1 with _ | g
    · skip
      have hGd2 := hGd; rw [hgd] at hGd2; obtain ⟨rfl, rfl⟩ := hGd2
      refine zp E (zAe E rfl rfl) ?_; clear E a; intro a E
      refine zp E (zDi E rfl rfl rfl rfl) ?_; clear E a; intro a E
      refine wpList_nil ?_
      refine zAh hK ?_; clear hK; clear K
      refine zDa E rfl (rfl) ?_
      refine wp_seq_k ?_; intro K hK
      refine zAc ?_
      iterate 3 (refine zp E (zAg E rfl rfl) ?_; clear E a; intro a E)
      refine wpList_nil ?_
      refine zAh hK ?_; clear hK; clear K
      refine wp_ret ?_
      refine zBi ?_; clear hK; clear K
      refine ret3 E rfl rfl rfl rfl ?_
      exact ⟨_, rfl, i, _, 0, 4, [], R, C, Lj, hce, Int.le_refl _, rfl, by rw [hgd]; rfl, hC, hLj, .inl ⟨hgd, rfl, rfl⟩, (S.addNil.only (Bs := [[], C, Lj, [(t, _)], CL, G]) (zAd (by repeat (first | exact pk1 | apply zAa)) (zAd (by repeat (first | exact pk1 | apply zAa)) (zAd (by repeat (first | exact pk1 | apply zAa)) (zAd (by repeat (first | exact pk1 | apply zAa)) (zAd (by repeat (first | exact pk1 | apply zAa)) (zAd (by repeat (first | exact pk1 | apply zAa)) (zAk _)))))))).tr⟩
    · skip
      have hGd2 := hGd; rw [hgd] at hGd2; obtain ⟨hpos, hBg⟩ := hGd2; obtain ⟨adg, cg, rfl⟩ := hBg.slice; obtain ⟨gg, rfl⟩ := hBg.addr hpos
      obtain ⟨q1, q2, q3, q4, q5⟩ := hfa i hce.1
      obtain ⟨_, x0, hx0, hr0⟩ := q3 g hgd
      have hx0 : x0 ∈ xs := List.mem_of_mem_take hx0
      have hsh := (zIh hC).2
      obtain ⟨_, _, hgl⟩ := rdC_len hfit (hz x0 hx0) (hsh _ (zDb (hds x0 hx0)).1) hr0
      have hyx : ∀ y ∈ (q i).2, y ∈ xs := fun y hy => List.mem_of_mem_take (q1.subset hy)
      have hyf : ∀ y ∈ (q i).2, (dkOf R y.2).failed = false := fun y hy => by obtain ⟨c, hc, _⟩ := q2 y hy; exact (rdC_len hfit (hz y (hyx y hy)) (hsh _ (zDb (hds y (hyx y hy))).1) hc).1
      have hyn : ((q i).2.map Prod.snd).Nodup := ((q1.trans (List.take_sublist _ _)).map _).nodup hnd
      have hy5 : (q i).2.length ≤ 5 := by have := (q1.trans (List.take_sublist _ _)).length_le; omega
      obtain ⟨adw, cw, rfl⟩ := hW.slice
      refine zp E (zAe E rfl rfl) ?_; clear E a; intro a E
      refine zp E (zDi E rfl rfl rfl rfl) ?_; clear E a; intro a E
      refine wpList_nil ?_
      refine zAh hK ?_; clear hK; clear K
      refine zBt E rfl (rfl) ?_
      refine wp_skip ?_
      refine zAh hK ?_; clear hK; clear K
      refine wp_seq_k ?_; intro K hK
      refine zAc ?_
      iterate 4 (refine zp E (zAe E rfl rfl) ?_; clear E a; intro a E)
      refine zAr E rfl rfl (by decide) rfl Tryz.func74 rfl (by kernel_rfl) rfl (mfix_ret P R C hC hO xs Lj hLj hds z hz hws hwr t vl vk at_ ha g _ Cg hBg.rd (by rw [hgl]; exact hfit) (q i).2 hyx hyf hyn hy5 _ Cw hW.rd _ (S.hp.sel (zAd (by repeat (first | exact pk1 | apply zAa)) (zAd (by repeat (first | exact pk1 | apply zAa)) (zAd (by repeat (first | exact pk1 | apply zAa)) (zAd (by repeat (first | exact pk1 | apply zAa)) (zAd (by repeat (first | exact pk1 | apply zAa)) (zAk _)))))))) ?_
      rintro v53 w ⟨rfl, R', C', Lk, hLd, hC', hLk, hT⟩; clear E a; intro a E
      have S := S.call (zAd (by repeat (first | exact pk1 | apply zAa)) (zAd (by repeat (first | exact pk1 | apply zAa)) (zAd (by repeat (first | exact pk1 | apply zAa)) (zAd (by repeat (first | exact pk1 | apply zAa)) (zAd (by repeat (first | exact pk1 | apply zAa)) (zAk _)))))) hT; simp only [List.cons_append, List.nil_append] at S
      refine zp E (zAe E rfl rfl) ?_; clear E a; intro a E
      iterate 2 (refine zp E (zBx E rfl rfl rfl) ?_; clear E a; intro a E)
      iterate 2 (refine zp E (zAg E rfl rfl) ?_; clear E a; intro a E)
      refine wpList_nil ?_
      refine zAh hK ?_; clear hK; clear K
      iterate 2 (refine wp_seq_k ?_; intro K hK)
      refine zAc ?_
      refine zp E (zAe E rfl rfl) ?_; clear E a; intro a E
      refine zp E (by first | exact zCu E rfl rfl rfl | exact zAz E rfl rfl rfl rfl | exact zBj E rfl rfl rfl rfl | exact zBd E rfl rfl rfl) ?_; clear E a; intro a E
      refine wpList_nil ?_
      refine zAh hK ?_; clear hK; clear K
      refine zBt E rfl (rfl) ?_
      refine wp_skip ?_
      refine zAh hK ?_; clear hK; clear K
      refine wp_seq_k ?_; intro K hK
      replace E := E.keep (e' := [(12, _), (13, _), (14, _), (15, _), (18, _)]) (zAb rfl (zAb rfl (zAb rfl (zAb rfl (zAb rfl (zAp))))))
      refine zAc ?_
      iterate 2 (refine zp E (zAe E rfl rfl) ?_; clear E a; intro a E)
      iterate 3 (refine zp E (zAg E rfl rfl) ?_; clear E a; intro a E)
      refine wpList_nil ?_
      refine zAh hK ?_; clear hK; clear K
      refine wp_ret ?_
      refine ret3 E rfl rfl rfl rfl ?_
      exact ⟨_, rfl, i, _, (q i).2.length, 0, Cg, R', C', Lk, hce, by omega, rfl, by rw [hgd]; exact ⟨hpos, hBg.rd, _, _, rfl, hBg.cap_le⟩, hC', hLk, .inr ⟨g, hgd, rfl, hLd⟩, (S.only (Bs := [Cg, C', Lk, [(t, _)], CL, G]) (zAd (by repeat (first | exact pk1 | apply zAa)) (zAd (by repeat (first | exact pk1 | apply zAa)) (zAd (by repeat (first | exact pk1 | apply zAa)) (zAd (by repeat (first | exact pk1 | apply zAa)) (zAd (by repeat (first | exact pk1 | apply zAa)) (zAd (by repeat (first | exact pk1 | apply zAa)) (zAk _)))))))).tr⟩
  · have hb27n := hb27; replace hb27n := Nrm.nrm hb27n
    iterate 2 (refine zn E hb27 ?_; clear E a; intro a E)
    refine zy E hb24 (zAq E rfl rfl hb27 rfl) ?_; clear E a; intro a E
    refine zp E (zAq E rfl rfl hb24 rfl) ?_; clear E a; intro a E
    refine wpList_nil ?_
    refine zAh hK ?_; clear hK; clear K
    refine zBt E rfl rfl ?_
    refine wp_skip ?_
    refine zAh hK ?_; clear hK; clear K
    refine wp_seq_k ?_; intro K hK
    refine zAc ?_
    iterate 4 (refine zp E (zAe E rfl rfl) ?_; clear E a; intro a E)
    refine zp E (zBw (vs := [_, _, _, _]) E rfl rfl rfl (S.get (by repeat (first | exact pk1 | apply zAa))) rfl rfl) ?_; clear E a; intro a E
    refine zp E (zAe E rfl rfl) ?_; clear E a; intro a E
    refine zAr E rfl rfl (by decide) rfl Tryz.func73 rfl (by kernel_rfl) rfl (zKp P R C hC hO.off xs hx5 Lv hLv hds z hz t vl vk CL hCL G hG at_ ha bl hfit kind s all _ (S.hp.sel (zAd (by repeat (first | exact pk1 | apply zAa)) (zAd (by repeat (first | exact pk1 | apply zAa)) (zAd (by repeat (first | exact pk1 | apply zAa)) (zAd (by repeat (first | exact pk1 | apply zAa)) (zAd (by repeat (first | exact pk1 | apply zAa)) (zAk _)))))))) ?_
    rintro v39 w ⟨i, Lj, vg, Cg, vw, Cw, hce, rfl, hLj, hGd, hW, hT⟩; clear E a; intro a E
    have S := S.call (zAd (by repeat (first | exact pk1 | apply zAa)) (zAd (by repeat (first | exact pk1 | apply zAa)) (zAd (by repeat (first | exact pk1 | apply zAa)) (zAd (by repeat (first | exact pk1 | apply zAa)) (zAd (by repeat (first | exact pk1 | apply zAa)) (zAk _)))))) hT; simp only [List.cons_append, List.nil_append] at S; rw [← hq] at hce hGd hW
    refine zp E (zAe E rfl rfl) ?_; clear E a; intro a E
    iterate 3 (refine zp E (zBx E rfl rfl rfl) ?_; clear E a; intro a E)
    iterate 3 (refine zp E (zAg E rfl rfl) ?_; clear E a; intro a E)
    refine wpList_nil ?_
    refine zAh hK ?_; clear hK; clear K
    iterate 2 (refine wp_seq_k ?_; intro K hK)
    replace E := E.keep (e' := [(0, _), (1, _), (12, _), (13, _), (14, _), (15, _), (16, _), (17, _)]) (zAb rfl (zAb rfl (zAb rfl (zAb rfl (zAb rfl (zAb rfl (zAb rfl (zAb rfl (zAp)))))))))
    refine zAc ?_
    refine zp E (zAe E rfl rfl) ?_; clear E a; intro a E
    refine zp E (by first | exact zCu E rfl rfl rfl | exact zAz E rfl rfl rfl rfl | exact zBj E rfl rfl rfl rfl | exact zBd E rfl rfl rfl) ?_; clear E a; intro a E
    refine wpList_nil ?_
    refine zAh hK ?_; clear hK; clear K
    refine zBt E rfl (rfl) ?_
    refine wp_skip ?_
    refine zAh hK ?_; clear hK; clear K
    iterate 2 (refine wp_seq_k ?_; intro K hK)
    refine zAc ?_
    rcases hgd : (q i).1 with _ | g
    · skip
      have hGd2 := hGd; rw [hgd] at hGd2; obtain ⟨rfl, rfl⟩ := hGd2
      refine zp E (zAe E rfl rfl) ?_; clear E a; intro a E
      refine zp E (zDi E rfl rfl rfl rfl) ?_; clear E a; intro a E
      refine wpList_nil ?_
      refine zAh hK ?_; clear hK; clear K
      refine zDa E rfl (rfl) ?_
      refine wp_seq_k ?_; intro K hK
      refine zAc ?_
      iterate 3 (refine zp E (zAg E rfl rfl) ?_; clear E a; intro a E)
      refine wpList_nil ?_
      refine zAh hK ?_; clear hK; clear K
      refine wp_ret ?_
      refine zBi ?_; clear hK; clear K
      refine ret3 E rfl rfl rfl rfl ?_
      exact ⟨_, rfl, i, _, 0, 4, [], R, C, Lj, hce, Int.le_refl _, rfl, by rw [hgd]; rfl, hC, hLj, .inl ⟨hgd, rfl, rfl⟩, (S.addNil.only (Bs := [[], C, Lj, [(t, _)], CL, G]) (zAd (by repeat (first | exact pk1 | apply zAa)) (zAd (by repeat (first | exact pk1 | apply zAa)) (zAd (by repeat (first | exact pk1 | apply zAa)) (zAd (by repeat (first | exact pk1 | apply zAa)) (zAd (by repeat (first | exact pk1 | apply zAa)) (zAd (by repeat (first | exact pk1 | apply zAa)) (zAk _)))))))).tr⟩
    · skip
      have hGd2 := hGd; rw [hgd] at hGd2; obtain ⟨hpos, hBg⟩ := hGd2; obtain ⟨adg, cg, rfl⟩ := hBg.slice; obtain ⟨gg, rfl⟩ := hBg.addr hpos
      obtain ⟨q1, q2, q3, q4, q5⟩ := hfa i hce.1
      obtain ⟨_, x0, hx0, hr0⟩ := q3 g hgd
      have hx0 : x0 ∈ xs := List.mem_of_mem_take hx0
      have hsh := (zIh hC).2
      obtain ⟨_, _, hgl⟩ := rdC_len hfit (hz x0 hx0) (hsh _ (zDb (hds x0 hx0)).1) hr0
      have hyx : ∀ y ∈ (q i).2, y ∈ xs := fun y hy => List.mem_of_mem_take (q1.subset hy)
      have hyf : ∀ y ∈ (q i).2, (dkOf R y.2).failed = false := fun y hy => by obtain ⟨c, hc, _⟩ := q2 y hy; exact (rdC_len hfit (hz y (hyx y hy)) (hsh _ (zDb (hds y (hyx y hy))).1) hc).1
      have hyn : ((q i).2.map Prod.snd).Nodup := ((q1.trans (List.take_sublist _ _)).map _).nodup hnd
      have hy5 : (q i).2.length ≤ 5 := by have := (q1.trans (List.take_sublist _ _)).length_le; omega
      obtain ⟨adw, cw, rfl⟩ := hW.slice
      refine zp E (zAe E rfl rfl) ?_; clear E a; intro a E
      refine zp E (zDi E rfl rfl rfl rfl) ?_; clear E a; intro a E
      refine wpList_nil ?_
      refine zAh hK ?_; clear hK; clear K
      refine zBt E rfl (rfl) ?_
      refine wp_skip ?_
      refine zAh hK ?_; clear hK; clear K
      refine wp_seq_k ?_; intro K hK
      refine zAc ?_
      iterate 4 (refine zp E (zAe E rfl rfl) ?_; clear E a; intro a E)
      refine zAr E rfl rfl (by decide) rfl Tryz.func74 rfl (by kernel_rfl) rfl (mfix_ret P R C hC hO xs Lj hLj hds z hz hws hwr t vl vk at_ ha g _ Cg hBg.rd (by rw [hgl]; exact hfit) (q i).2 hyx hyf hyn hy5 _ Cw hW.rd _ (S.hp.sel (zAd (by repeat (first | exact pk1 | apply zAa)) (zAd (by repeat (first | exact pk1 | apply zAa)) (zAd (by repeat (first | exact pk1 | apply zAa)) (zAd (by repeat (first | exact pk1 | apply zAa)) (zAd (by repeat (first | exact pk1 | apply zAa)) (zAk _)))))))) ?_
      rintro v53 w ⟨rfl, R', C', Lk, hLd, hC', hLk, hT⟩; clear E a; intro a E
      have S := S.call (zAd (by repeat (first | exact pk1 | apply zAa)) (zAd (by repeat (first | exact pk1 | apply zAa)) (zAd (by repeat (first | exact pk1 | apply zAa)) (zAd (by repeat (first | exact pk1 | apply zAa)) (zAd (by repeat (first | exact pk1 | apply zAa)) (zAk _)))))) hT; simp only [List.cons_append, List.nil_append] at S
      refine zp E (zAe E rfl rfl) ?_; clear E a; intro a E
      iterate 2 (refine zp E (zBx E rfl rfl rfl) ?_; clear E a; intro a E)
      iterate 2 (refine zp E (zAg E rfl rfl) ?_; clear E a; intro a E)
      refine wpList_nil ?_
      refine zAh hK ?_; clear hK; clear K
      iterate 2 (refine wp_seq_k ?_; intro K hK)
      refine zAc ?_
      refine zp E (zAe E rfl rfl) ?_; clear E a; intro a E
      refine zp E (by first | exact zCu E rfl rfl rfl | exact zAz E rfl rfl rfl rfl | exact zBj E rfl rfl rfl rfl | exact zBd E rfl rfl rfl) ?_; clear E a; intro a E
      refine wpList_nil ?_
      refine zAh hK ?_; clear hK; clear K
      refine zBt E rfl (rfl) ?_
      refine wp_skip ?_
      refine zAh hK ?_; clear hK; clear K
      refine wp_seq_k ?_; intro K hK
      replace E := E.keep (e' := [(12, _), (13, _), (14, _), (15, _), (18, _)]) (zAb rfl (zAb rfl (zAb rfl (zAb rfl (zAb rfl (zAp))))))
      refine zAc ?_
      iterate 2 (refine zp E (zAe E rfl rfl) ?_; clear E a; intro a E)
      iterate 3 (refine zp E (zAg E rfl rfl) ?_; clear E a; intro a E)
      refine wpList_nil ?_
      refine zAh hK ?_; clear hK; clear K
      refine wp_ret ?_
      refine ret3 E rfl rfl rfl rfl ?_
      exact ⟨_, rfl, i, _, (q i).2.length, 0, Cg, R', C', Lk, hce, by omega, rfl, by rw [hgd]; exact ⟨hpos, hBg.rd, _, _, rfl, hBg.cap_le⟩, hC', hLk, .inr ⟨g, hgd, rfl, hLd⟩, (S.only (Bs := [Cg, C', Lk, [(t, _)], CL, G]) (zAd (by repeat (first | exact pk1 | apply zAa)) (zAd (by repeat (first | exact pk1 | apply zAa)) (zAd (by repeat (first | exact pk1 | apply zAa)) (zAd (by repeat (first | exact pk1 | apply zAa)) (zAd (by repeat (first | exact pk1 | apply zAa)) (zAd (by repeat (first | exact pk1 | apply zAa)) (zAk _)))))))).tr⟩
theorem mread_ret (w0 : World) (H : Hp w0 [C, Lv, [(t, mtcl vl vk z)], CL, G]) :
    Ret Tryz.prog 13 #[ptr t, .int .i64 at_, .int .i64 bl, .int .i64 kind, s.agg] w0 fun u w' =>
      ∃ (i : Nat) (vg : Value) (n e : Int) (Cg : zAs) (R' : Rk) (C' Lv' : zAs), CpEnd false xs.length i (cpTo (chkK kind s) (rdC R (274 + at_).toNat (zDm bl).toNat bl) xs i) ∧ u = .tuple #[vg, .int .i64 e] ∧ (∀ g, (cpTo (chkK kind s) (rdC R (274 + at_).toNat (zDm bl).toNat bl) xs i).1 = some g → Rd Cg 1 vg g.length (byt g)) ∧ RkC P R' C' ∧ LvC (lvs xs) Lv' ∧
        LkEnd R (cpTo (chkK kind s) (rdC R (274 + at_).toNat (zDm bl).toNat bl) xs i) (274 + at_).toNat e R' ∧ Trs w0 w' [C, Lv, [(t, mtcl vl vk z)], CL, G] [Cg, C', Lv', [(t, mtcl vl vk z)], CL, G] := by
  have S := St.begin H
  refine enter5 32 Tryz.func13 rfl rfl (by decide) ?_; intro a E
  refine wp_seq_k ?_; intro K hK
  refine zAc ?_
  refine zAo rfl (zCs E S rfl rfl (by decide) rfl rfl ?_); clear E S a; intro a w b9 E S
  iterate 2 (refine zp E (zAg E rfl rfl) ?_; clear E a; intro a E)
  refine wpList_nil ?_
  refine zAh hK ?_; clear hK; clear K
  refine wp_seq_k ?_; intro K hK
  refine zAc ?_
  iterate 4 (refine zp E (zAe E rfl rfl) ?_; clear E a; intro a E)
  refine zp E (zBw (vs := [_, _, _, _]) E rfl rfl rfl (S.get (by repeat (first | exact pk1 | apply zAa))) rfl rfl) ?_; clear E a; intro a E
  refine zAr E rfl rfl (by decide) rfl Tryz.func46 rfl (by kernel_rfl) rfl (mlook_ret P R C hC hO xs hx5 hnd Lv hLv hds z hz hz0 hws hwr t vl vk CL hCL G hG at_ ha bl hfit kind hk s false _ (S.hp.sel (zAd (by repeat (first | exact pk1 | apply zAa)) (zAd (by repeat (first | exact pk1 | apply zAa)) (zAd (by repeat (first | exact pk1 | apply zAa)) (zAd (by repeat (first | exact pk1 | apply zAa)) (zAd (by repeat (first | exact pk1 | apply zAa)) (zAk _)))))))) ?_
  rintro v21 w ⟨i, vg, n, e, Cg, R', C', Lj, hce, hn0, rfl, hGd, hC', hLj, hle, hT⟩; clear E a; intro a E
  have S := S.call (zAd (by repeat (first | exact pk1 | apply zAa)) (zAd (by repeat (first | exact pk1 | apply zAa)) (zAd (by repeat (first | exact pk1 | apply zAa)) (zAd (by repeat (first | exact pk1 | apply zAa)) (zAd (by repeat (first | exact pk1 | apply zAa)) (zAk _)))))) hT; simp only [List.cons_append, List.nil_append] at S; obtain ⟨adg, kg, cg, rfl, hkc⟩ := hGd.slice
  refine zp E (zAe E rfl rfl) ?_; clear E a; intro a E
  iterate 3 (refine zp E (zBx E rfl rfl rfl) ?_; clear E a; intro a E)
  iterate 3 (refine zp E (zAg E rfl rfl) ?_; clear E a; intro a E)
  refine wpList_nil ?_
  refine zAh hK ?_; clear hK; clear K
  refine wp_seq_k ?_; intro K hK
  refine zAc ?_
  iterate 2 (refine zp E (zAe E rfl rfl) ?_; clear E a; intro a E)
  refine zp E (by first | exact zCa E rfl rfl rfl | exact zBa E rfl rfl rfl | exact zAt E rfl rfl rfl) ?_; clear E a; intro a E
  refine zp E (zAe E rfl rfl) ?_; clear E a; intro a E
  refine zp E (by first | exact zCa E rfl rfl rfl | exact zBa E rfl rfl rfl | exact zAt E rfl rfl rfl) ?_; clear E a; intro a E
  refine zp E (rn_slice_hm (s := 1) E rfl rfl rfl rfl rfl rfl rfl rfl (by omega) (by omega)) ?_; clear E a; intro a E
  refine zp E (zAe E rfl rfl) ?_; clear E a; intro a E
  iterate 2 (refine zp E (zAg E rfl rfl) ?_; clear E a; intro a E)
  refine wpList_nil ?_
  refine zAh hK ?_; clear hK; clear K
  refine wp_ret ?_
  refine ret2 E rfl rfl rfl ?_
  refine ⟨_, rfl, i, _, n, e, Cg, R', C', Lj, hce, rfl, fun g hg => ?_, hC', hLj, hle, (S.only (Bs := [Cg, C', Lj, [(t, _)], CL, G]) (zAd (by repeat (first | exact pk1 | apply zAa)) (zAd (by repeat (first | exact pk1 | apply zAa)) (zAd (by repeat (first | exact pk1 | apply zAa)) (zAd (by repeat (first | exact pk1 | apply zAa)) (zAd (by repeat (first | exact pk1 | apply zAa)) (zAd (by repeat (first | exact pk1 | apply zAa)) (zAk _)))))))).tr⟩
  rw [hg] at hGd
  obtain ⟨_, hR, _⟩ := hGd
  obtain ⟨ad', c', hv⟩ := hR.slice
  cases hv
  have := hR.piece rfl (lo := 0) (hi := g.length) (mx := g.length) (Nat.zero_le _) (Nat.le_refl _) (Nat.le_refl _)
  simpa [List.take_of_length_le (Nat.le_of_eq (zBm g))] using this
theorem mscrub_ret (w0 : World) (H : Hp w0 [C, Lv, [(t, mtcl vl vk z)], CL, G]) :
    Ret Tryz.prog 14 #[ptr t, .int .i64 at_, .int .i64 bl, .int .i64 kind, s.agg] w0 fun u w' =>
      ∃ (i : Nat) (vg : Value) (n e : Int) (Cg : zAs) (R' : Rk) (C' Lv' : zAs), CpEnd true xs.length i (cpTo (chkK kind s) (rdC R (274 + at_).toNat (zDm bl).toNat bl) xs i) ∧ 0 ≤ n ∧ u = .tuple #[.int .i64 n, .int .i64 e] ∧ RkC P R' C' ∧ LvC (lvs xs) Lv' ∧
        LkEnd R (cpTo (chkK kind s) (rdC R (274 + at_).toNat (zDm bl).toNat bl) xs i) (274 + at_).toNat e R' ∧ Trs w0 w' [C, Lv, [(t, mtcl vl vk z)], CL, G] [Cg, C', Lv', [(t, mtcl vl vk z)], CL, G] := by
  have S := St.begin H
  refine enter5 27 Tryz.func14 rfl rfl (by decide) ?_; intro a E
  refine wp_seq_k ?_; intro K hK
  refine zAc ?_
  refine zAo rfl (zCs E S rfl rfl (by decide) rfl rfl ?_); clear E S a; intro a w b9 E S
  iterate 2 (refine zp E (zAg E rfl rfl) ?_; clear E a; intro a E)
  refine wpList_nil ?_
  refine zAh hK ?_; clear hK; clear K
  refine wp_seq_k ?_; intro K hK
  refine zAc ?_
  iterate 4 (refine zp E (zAe E rfl rfl) ?_; clear E a; intro a E)
  refine zp E (zBw (vs := [_, _, _, _]) E rfl rfl rfl (S.get (by repeat (first | exact pk1 | apply zAa))) rfl rfl) ?_; clear E a; intro a E
  refine zAr E rfl rfl (by decide) rfl Tryz.func46 rfl (by kernel_rfl) rfl (mlook_ret P R C hC hO xs hx5 hnd Lv hLv hds z hz hz0 hws hwr t vl vk CL hCL G hG at_ ha bl hfit kind hk s true _ (S.hp.sel (zAd (by repeat (first | exact pk1 | apply zAa)) (zAd (by repeat (first | exact pk1 | apply zAa)) (zAd (by repeat (first | exact pk1 | apply zAa)) (zAd (by repeat (first | exact pk1 | apply zAa)) (zAd (by repeat (first | exact pk1 | apply zAa)) (zAk _)))))))) ?_
  rintro v21 w ⟨i, vg, n, e, Cg, R', C', Lj, hce, hn0, rfl, hGd, hC', hLj, hle, hT⟩; clear E a; intro a E
  have S := S.call (zAd (by repeat (first | exact pk1 | apply zAa)) (zAd (by repeat (first | exact pk1 | apply zAa)) (zAd (by repeat (first | exact pk1 | apply zAa)) (zAd (by repeat (first | exact pk1 | apply zAa)) (zAd (by repeat (first | exact pk1 | apply zAa)) (zAk _)))))) hT; simp only [List.cons_append, List.nil_append] at S; obtain ⟨adg, kg, cg, rfl, hkc⟩ := hGd.slice
  refine zp E (zAe E rfl rfl) ?_; clear E a; intro a E
  iterate 3 (refine zp E (zBx E rfl rfl rfl) ?_; clear E a; intro a E)
  iterate 3 (refine zp E (zAg E rfl rfl) ?_; clear E a; intro a E)
  refine wpList_nil ?_
  refine zAh hK ?_; clear hK; clear K
  refine wp_seq_k ?_; intro K hK
  refine zAc ?_
  iterate 2 (refine zp E (zAe E rfl rfl) ?_; clear E a; intro a E)
  iterate 2 (refine zp E (zAg E rfl rfl) ?_; clear E a; intro a E)
  refine wpList_nil ?_
  refine zAh hK ?_; clear hK; clear K
  refine wp_ret ?_
  refine ret2 E rfl rfl rfl ?_
  exact ⟨_, rfl, i, .int .i64 0, n, e, Cg, R', C', Lj, hce, hn0, rfl, hC', hLj, hle, (S.only (Bs := [Cg, C', Lj, [(t, _)], CL, G]) (zAd (by repeat (first | exact pk1 | apply zAa)) (zAd (by repeat (first | exact pk1 | apply zAa)) (zAd (by repeat (first | exact pk1 | apply zAa)) (zAd (by repeat (first | exact pk1 | apply zAa)) (zAd (by repeat (first | exact pk1 | apply zAa)) (zAd (by repeat (first | exact pk1 | apply zAa)) (zAk _)))))))).tr⟩
end
end Go.Proofs.YtidhehcjafoneaaGreatDoor
namespace Go.Sl
def All2 {α β : Type} (P : α → β → Prop) (al : List α) (bl : List β) : Prop := al.length = bl.length ∧ ∀ (i : Nat) (a : α) (b : β), al[i]? = some a → bl[i]? = some b → P a b
section
variable {α β : Type} {P Q : α → β → Prop} {al al2 : List α} {bl bl2 : List β} {a : α} {b : β}
theorem All2.nil : All2 P [] [] := ⟨rfl, fun i a b h => by simp at h⟩
theorem All2.imp (h : All2 P al bl) (k : ∀ a b, P a b → Q a b) : All2 Q al bl := ⟨h.1, fun i a b h1 h2 => k a b (h.2 i a b h1 h2)⟩
theorem All2.snoc (h : All2 P al bl) (k : P a b) : All2 P (al ++ [a]) (bl ++ [b]) := by
  refine ⟨by simp [h.1], fun i x y h1 h2 => ?_⟩
  have hl := h.1
  by_cases hi : i < al.length
  · rw [List.getElem?_append_left hi] at h1
    rw [List.getElem?_append_left (by omega)] at h2
    exact h.2 i x y h1 h2
  · rw [List.getElem?_append_right (by omega)] at h1
    rw [List.getElem?_append_right (by omega)] at h2
    have hi2 : i - al.length = 0 := by have := (List.getElem?_eq_some_iff.1 h1).1; simp at this; omega
    rw [hi2] at h1
    rw [show i - bl.length = 0 by omega] at h2
    simp at h1 h2
    rw [← h1, ← h2]; exact k
theorem All2.set (h : All2 P al bl) (i : Nat) (k : P a b) : All2 P (al.set i a) (bl.set i b) := by
  refine ⟨by simp [h.1], fun j x y h1 h2 => ?_⟩
  rw [List.getElem?_set] at h1 h2
  have hl := h.1
  split at h1
  · split at h1
    · rename_i q1 q2
      rw [if_pos q1, if_pos (by omega)] at h2
      cases h1; cases h2; exact k
    · cases h1
  · rename_i q1
    rw [if_neg q1] at h2
    exact h.2 j x y h1 h2
theorem All2.get (h : All2 P al bl) {i : Nat} (hi : i < al.length) : ∃ a b, al[i]? = some a ∧ bl[i]? = some b ∧ P a b := by
  have hl := h.1
  have h1 := List.getElem?_eq_getElem hi
  have h2 := List.getElem?_eq_getElem (show i < bl.length by omega)
  exact ⟨_, _, h1, h2, h.2 i _ _ h1 h2⟩
theorem All2.at (h : All2 P al bl) {i : Nat} (hi : al[i]? = some a) : ∃ b, bl[i]? = some b ∧ P a b := by
  have hl := h.1
  have h0 := (List.getElem?_eq_some_iff.1 hi).1
  have h2 := List.getElem?_eq_getElem (show i < bl.length by omega)
  exact ⟨_, h2, h.2 i _ _ hi h2⟩
end
structure Dd where
  b : Nat
  vp : Value
  C : zAs
  vs : List Value
  f : Bool
structure Dw where
  k : Nat
  at_ : Nat
  v : Value
def Dw.lay (x : Dw) : List Value := [.int .i64 x.k, .int .i64 x.at_, x.v]
theorem Dw.lay_len (x : Dw) : x.lay.length = 3 := rfl
theorem zHh {α : Type} {l : List α} {i : Nat} {a : α} (h : l[i]? = some a) : ∃ A B, l = A ++ a :: B ∧ A.length = i := by
  obtain ⟨hi, rfl⟩ := List.getElem?_eq_some_iff.1 h
  refine ⟨l.take i, l.drop (i + 1), ?_, by rw [List.length_take]; omega⟩
  rw [← List.drop_eq_getElem_cons hi, List.take_append_drop]
theorem set_mid {α : Type} {A B : List α} {a b : α} : (A ++ a :: B).set A.length b = A ++ b :: B := by simp
end Go.Sl
namespace Go.Proofs.YtidhehcjafoneaaGreatDoor
open Go.Sl
set_option maxRecDepth 10000
abbrev qcl (s : Pw) (vd vw : Value) : Obj := cel [vd, vw, .int .i64 s.left, .bool s.off, .int .i64 s.wr] 124
abbrev dd1 (y : Dd) : zAs := [(y.b, cel [y.vp, .bool y.f] 127)]
def dch (ys : List Dd) : List zAs := ys.flatMap fun y => [dd1 y, y.C]
theorem dch_open (X Y Z V : zAs) (A B : List Dd) (y : Dd) (As : List zAs) : (X :: Y :: Z :: V :: (dch (A ++ y :: B) ++ As)).Perm (dd1 y :: y.C :: X :: Y :: Z :: V :: (dch (A ++ B) ++ As)) := by
  have e1 : dch (A ++ y :: B) ++ As = dch A ++ (dd1 y :: y.C :: (dch B ++ As)) := by simp [dch]
  have e2 : dch (A ++ B) ++ As = dch A ++ (dch B ++ As) := by simp [dch]
  rw [e1, e2]
  have h : ∀ (l : List zAs) (a : zAs) (r : List zAs), (X :: Y :: Z :: V :: (l ++ a :: r)).Perm (a :: X :: Y :: Z :: V :: (l ++ r)) := fun l a r =>
    (List.perm_middle (l₁ := X :: Y :: Z :: V :: l) (a := a) (l₂ := r))
  exact (h _ _ _).trans ((h _ _ _).cons _)
def DdOk (J : zAs) (x : Dk) (y : Dd) : Prop := y.f = x.failed ∧ Buf y.C 22 1 y.vp y.vs.length y.vs ∧ 128 * y.vs.length = x.pl.length ∧ ∀ i v, y.vs[i]? = some v → Rd J 1 v 128 (byt (secB x.pl i))
def DwOk (J : zAs) (ds : List Dk) (w : Wt) (u : Dw) : Prop := (∃ x, ds[u.k]? = some x ∧ x.d = w.d) ∧ u.at_ = w.at_ ∧ Rd J 1 u.v 128 (byt w.b)
theorem DdOk.sub {J J' : zAs} {x : Dk} {y : Dd} (h : DdOk J x y) (k : ∀ c ∈ J, c ∈ J') : DdOk J' x y := ⟨h.1, h.2.1, h.2.2.1, fun i v hv => (h.2.2.2 i v hv).sub k⟩
theorem DwOk.sub {J J' : zAs} {ds : List Dk} {w : Wt} {u : Dw} (h : DwOk J ds w u) (k : ∀ c ∈ J, c ∈ J') : DwOk J' ds w u := ⟨h.1, h.2.1, h.2.2.sub k⟩
abbrev RfL (q : Nat) (s : Pw) (vd vw : Value) (Cd Cw J : zAs) (ys : List Dd) : List zAs := [(q, qcl s vd vw)] :: Cd :: Cw :: J :: dch ys
def RfC (q : Nat) (R : Rk) (C : zAs) : Prop :=
  ∃ vd vw Cd Cw J ys us, Buf Cd 125 1 vd ys.length (ys.map fun y => ptr y.b) ∧ Buf Cw 166 3 vw us.length (us.flatMap Dw.lay) ∧ All2 (DdOk J) R.ds ys ∧ All2 (DwOk J R.ds) R.ws us ∧ C = (RfL q R.pw vd vw Cd Cw J ys).flatten
section
variable {w0 w : World} {As Ls : List zAs} {q : Nat} {s : Pw} {vd vw : Value} {Cd Cw J : zAs} {A B ys : List Dd} {y : Dd}
theorem rf_open (S : St w0 As w ((RfL q s vd vw Cd Cw J ys).flatten :: Ls)) : St w0 As w ([(q, qcl s vd vw)] :: Cd :: Cw :: J :: (dch ys ++ Ls)) := S.openF
theorem zGq (S : St w0 As w ([(q, qcl s vd vw)] :: Cd :: Cw :: J :: (dch ys ++ Ls))) : St w0 As w ((RfL q s vd vw Cd Cw J ys).flatten :: Ls) := St.closeF (Ms := RfL q s vd vw Cd Cw J ys) S
theorem rf_out (S : St w0 As w ([(q, qcl s vd vw)] :: Cd :: Cw :: J :: (dch (A ++ y :: B) ++ Ls))) : St w0 As w ([(q, qcl s vd vw)] :: Cd :: Cw :: J :: dd1 y :: y.C :: (dch (A ++ B) ++ Ls)) := by
  have S := S.perm (dch_open _ _ _ _ A B y Ls)
  exact S.front6 (A := [(q, qcl s vd vw)]) (by repeat (first | exact pk1 | apply zAa)) (B := Cd) (by repeat (first | exact pk1 | apply zAa)) (C := Cw) (by repeat (first | exact pk1 | apply zAa)) (D := J) (by repeat (first | exact pk1 | apply zAa)) (F := dd1 y) (by repeat (first | exact pk1 | apply zAa)) (G := y.C) (by repeat (first | exact pk1 | apply zAa))
theorem rf_in (S : St w0 As w ([(q, qcl s vd vw)] :: Cd :: Cw :: J :: dd1 y :: y.C :: (dch (A ++ B) ++ Ls))) : St w0 As w ([(q, qcl s vd vw)] :: Cd :: Cw :: J :: (dch (A ++ y :: B) ++ Ls)) := by
  have S := S.front6 (A := dd1 y) (by repeat (first | exact pk1 | apply zAa)) (B := y.C) (by repeat (first | exact pk1 | apply zAa)) (C := [(q, qcl s vd vw)]) (by repeat (first | exact pk1 | apply zAa)) (D := Cd) (by repeat (first | exact pk1 | apply zAa)) (F := Cw) (by repeat (first | exact pk1 | apply zAa)) (G := J) (by repeat (first | exact pk1 | apply zAa))
  exact S.perm (dch_open _ _ _ _ A B y Ls).symm
end
theorem qnew_ret (w0 : World) : Ret Tryz.prog 25 #[] w0 fun u w' => ∃ q C, u = ptr q ∧ RfC q ⟨⟨-1, false, 0⟩, [], []⟩ C ∧ Trs w0 w' [] [C] := by
  have S := St.begin (zEt w0)
  refine zKx 3 Tryz.func25 rfl rfl ?_; intro a E
  refine wp_seq_k ?_; intro K hK
  refine zAc ?_
  refine zp E (zAg E rfl rfl) ?_; clear E a; intro a E
  refine wpList_nil ?_
  refine zAh hK ?_; clear hK; clear K
  refine wp_seq_k ?_; intro K hK
  refine zAc ?_
  refine zp E (zCo (cells := [_, _, _, _, _]) E rfl rfl rfl) ?_; clear E a; intro a E
  refine zAo rfl (zCs E S rfl rfl (by decide) rfl rfl ?_); clear E S a; intro a w b2 E S
  refine zp E (zAg E rfl rfl) ?_; clear E a; intro a E
  refine wpList_nil ?_
  refine zAh hK ?_; clear hK; clear K
  refine wp_ret ?_
  refine ret1 E rfl rfl ?_
  exact ⟨_, rfl, b2, _, rfl, ⟨.slice none 0 0, .slice none 0 0, [], [], [], [], [], Buf.nil _ _, Buf.nil _ _, All2.nil, All2.nil, rfl⟩, by have h := S.tr; simp only [dch, List.flatMap_nil, List.flatten_cons, List.flatten_nil, List.append_nil]; exact h⟩
theorem noughts_ret (w0 : World) : Ret Tryz.prog 51 #[] w0 fun u w' => ∃ v C, u = v ∧ Buf C 5 1 v 128 (byt (List.replicate 128 0)) ∧ Trs w0 w' [] [C] := by
  have S := St.begin (zEt w0)
  refine zKx 2 Tryz.func51 rfl rfl ?_; intro a E
  refine wp_seq_k ?_; intro K hK
  refine zAc ?_
  refine zp E (zAg E rfl rfl) ?_; clear E a; intro a E
  refine wpList_nil ?_
  refine zAh hK ?_; clear hK; clear K
  refine wp_seq_k ?_; intro K hK
  refine zAc ?_
  refine zAo rfl (zDq (by' := 1) E S rfl rfl (by decide) rfl rfl rfl rfl rfl rfl rfl rfl rfl rfl rfl (by decide) (by decide) ?_); clear E S a; intro a w g1 E S
  rw [show List.replicate 128 (Value.int .u8 0) = byt (List.replicate 128 0) from (zGz 128).symm] at S
  refine zp E (zAg E rfl rfl) ?_; clear E a; intro a E
  refine wpList_nil ?_
  refine zAh hK ?_; clear hK; clear K
  refine wp_ret ?_
  refine ret1 E rfl rfl ?_
  have hB := zJx (g := g1) (c := 128) (s := 1) (m := 128) (T := 5) (xs := byt (List.replicate 128 0)) (r := []) (by rw [zBm, List.length_replicate]) (zDv _) (Nat.le_refl _) (by decide) (by rw [zBm, List.length_replicate]; rfl)
  rw [List.append_nil] at hB
  exact ⟨_, rfl, _, _, rfl, hB, S.tr⟩
theorem qdown_ret (q : Nat) (s : Pw) (vd vw : Value) (Cd : zAs) (ys : List Dd) (hCd : Buf Cd 125 1 vd ys.length (ys.map fun y => ptr y.b)) (n : Nat) (y : Dd) (hy : ys[n]? = some y) (w0 : World) (H : Hp w0 [[(q, qcl s vd vw)], Cd, dd1 y]) :
    Ret Tryz.prog 83 #[ptr q, .int .i64 n] w0 fun u w' => u = .int .i64 (flE s y.f) ∧ Trs w0 w' [[(q, qcl s vd vw)], Cd, dd1 y] [[(q, qcl s vd vw)], Cd, dd1 y] := by
  have S := St.begin H
  obtain ⟨add, cd, rfl⟩ := hCd.slice
  have hn : n < ys.length := (List.getElem?_eq_some_iff.1 hy).1
  obtain ⟨gd, rfl⟩ := hCd.addr (by omega)
  refine zCy 19 Tryz.func83 rfl rfl (by decide) ?_; intro a E
  refine wp_seq_k ?_; intro K hK
  refine zAc ?_
  refine zp E (zAg E rfl rfl) ?_; clear E a; intro a E
  refine wpList_nil ?_
  refine zAh hK ?_; clear hK; clear K
  iterate 2 (refine wp_seq_k ?_; intro K hK)
  refine zAc ?_
  refine zp E (zAe E rfl rfl) ?_; clear E a; intro a E
  refine zp E (zAl E rfl rfl) ?_; clear E a; intro a E
  refine zp E (by first | exact zAf (q := 3) E rfl rfl rfl | exact zAi (q := 3) E rfl rfl rfl) ?_; clear E a; intro a E
  refine zp E (by first | exact zAn E rfl rfl rfl (S.get (by repeat (first | exact pk1 | apply zAa))) rfl | exact zAj E rfl rfl rfl (by assumption)) ?_; clear E a; intro a E
  refine wpList_nil ?_
  refine zAh hK ?_; clear hK; clear K
  refine zBl E rfl (fun hb => ?_) (fun hb => ?_)
  · replace hb := Nrm.nrm hb
    refine wp_seq_k ?_; intro K hK
    refine zAc ?_
    refine zp E (zAg E rfl rfl) ?_; clear E a; intro a E
    refine wpList_nil ?_
    refine zAh hK ?_; clear hK; clear K
    refine wp_ret ?_
    refine zBi ?_; clear hK; clear K
    refine ret1 E rfl rfl ?_
    exact ⟨_, rfl, by unfold flE; simp [*], S.tr⟩
  · replace hb := Nrm.nrm hb
    refine wp_skip ?_
    refine zAh hK ?_; clear hK; clear K
    iterate 2 (refine wp_seq_k ?_; intro K hK)
    refine zAc ?_
    refine zp E (zAe E rfl rfl) ?_; clear E a; intro a E
    refine zp E (zAl E rfl rfl) ?_; clear E a; intro a E
    refine zp E (by first | exact zAf (q := 0) E rfl rfl rfl | exact zAi (q := 0) E rfl rfl rfl) ?_; clear E a; intro a E
    refine zp E (by first | exact zAn E rfl rfl rfl (S.get (by repeat (first | exact pk1 | apply zAa))) rfl | exact zAj E rfl rfl rfl (by assumption)) ?_; clear E a; intro a E
    refine zp E (zAe E rfl rfl) ?_; clear E a; intro a E
    refine zp E (zBk (i := n) E rfl rfl rfl rfl rfl rfl (by omega)) ?_; clear E a; intro a E
    refine zp E (zAj E rfl rfl rfl (hCd.rd.cells (S.stab.at (by repeat (first | exact mm1 | assumption | apply List.Mem.tail))) rfl n (ptr y.b) (by rw [List.getElem?_map, hy]; rfl))) ?_; clear E a; intro a E
    refine zp E (zAl E rfl rfl) ?_; clear E a; intro a E
    refine zp E (by first | exact zAf (q := 1) E rfl rfl rfl | exact zAi (q := 1) E rfl rfl rfl) ?_; clear E a; intro a E
    refine zp E (by first | exact zAn E rfl rfl rfl (S.get (by repeat (first | exact pk1 | apply zAa))) rfl | exact zAj E rfl rfl rfl (by assumption)) ?_; clear E a; intro a E
    refine wpList_nil ?_
    refine zAh hK ?_; clear hK; clear K
    refine zBl E rfl (fun hb => ?_) (fun hb => ?_)
    · replace hb := Nrm.nrm hb
      refine wp_seq_k ?_; intro K hK
      refine zAc ?_
      refine zp E (zAg E rfl rfl) ?_; clear E a; intro a E
      refine wpList_nil ?_
      refine zAh hK ?_; clear hK; clear K
      refine wp_ret ?_
      refine zBi ?_; clear hK; clear K
      refine ret1 E rfl rfl ?_
      exact ⟨_, rfl, by unfold flE; simp [*], S.tr⟩
    · replace hb := Nrm.nrm hb
      refine wp_skip ?_
      refine zAh hK ?_; clear hK; clear K
      refine wp_seq_k ?_; intro K hK
      refine zAc ?_
      refine zp E (zAg E rfl rfl) ?_; clear E a; intro a E
      refine wpList_nil ?_
      refine zAh hK ?_; clear hK; clear K
      refine wp_ret ?_
      refine ret1 E rfl rfl ?_
      exact ⟨_, rfl, by unfold flE; simp [*], S.tr⟩
end Go.Proofs.YtidhehcjafoneaaGreatDoor
namespace Go.Sl
def nowW (d : Nat) (ws : List Wt) (pl : List UInt8) : List UInt8 := (ws.filter fun w => decide (w.d = d)).foldl putS pl
theorem nowW_snoc (d : Nat) (ws : List Wt) (w : Wt) (pl : List UInt8) : nowW d (ws ++ [w]) pl = if w.d = d then putS (nowW d ws pl) w else nowW d ws pl := by
  rw [nowW, nowW, List.filter_append, List.foldl_append]
  by_cases h : w.d = d <;> simp [h]
theorem nowW_take (d : Nat) (ws : List Wt) (pl : List UInt8) {i : Nat} {w : Wt} (hw : ws[i]? = some w) : nowW d (ws.take (i + 1)) pl = if w.d = d then putS (nowW d (ws.take i) pl) w else nowW d (ws.take i) pl := by
  obtain ⟨hi, rfl⟩ := List.getElem?_eq_some_iff.1 hw
  rw [← List.take_append_getElem hi, nowW_snoc]
theorem zHx {d n : Nat} : ∀ (ws : List Wt) (pl : List UInt8), pl.length = n → (∀ w ∈ ws, w.d = d → 128 * w.at_ + 128 ≤ n) → (nowW d ws pl).length = n
  | [], pl, h, _ => h
  | w :: ws, pl, h, hw => by
    rw [nowW, List.filter_cons]
    by_cases hd : w.d = d
    · rw [if_pos (by simpa using hd), List.foldl_cons]
      exact zHx ws (putS pl w) (by rw [putS, zEh (by rw [h]; exact hw w (List.mem_cons_self ..) hd) w.hb]; exact h) fun x hx => hw x (List.mem_cons_of_mem _ hx)
    · rw [if_neg (by simpa using hd)]
      exact zHx ws pl h fun x hx => hw x (List.mem_cons_of_mem _ hx)
theorem idx_one {ds : List Dk} (h : (ds.map Dk.d).Nodup) {i j : Nat} {a b : Dk} (ha : ds[i]? = some a) (hb : ds[j]? = some b) (hd : a.d = b.d) : i = j := by
  have h2 := List.pairwise_iff_getElem.1 h
  obtain ⟨hi, rfl⟩ := List.getElem?_eq_some_iff.1 ha
  obtain ⟨hj, rfl⟩ := List.getElem?_eq_some_iff.1 hb
  rcases Nat.lt_trichotomy i j with c | c | c
  · exact absurd (by rw [List.getElem_map, List.getElem_map]; exact hd) (h2 i j (by simpa using hi) (by simpa using hj) c)
  · exact c
  · exact absurd (by rw [List.getElem_map, List.getElem_map]; exact hd.symm) (h2 j i (by simpa using hj) (by simpa using hi) c)
end Go.Sl
namespace Go.Proofs.YtidhehcjafoneaaGreatDoor
open Go.Sl
set_option maxRecDepth 10000
def zKw (R : Rk) : Prop := ∀ x ∈ R.ds, x.now = nowW x.d R.ws x.pl ∧ x.pl.length % 128 = 0
end Go.Proofs.YtidhehcjafoneaaGreatDoor
namespace Go.Sl
theorem setD_get {ds : List Dk} {d : Nat} {g : Dk → Dk} {i : Nat} {x : Dk} (h : ds[i]? = some x) : (setD ds d g)[i]? = some (if x.d = d then g x else x) := by
  rw [setD, List.getElem?_map, h]; rfl
theorem setD_inv {ds : List Dk} {d : Nat} {g : Dk → Dk} {i : Nat} {z : Dk} (h : (setD ds d g)[i]? = some z) : ∃ x, ds[i]? = some x ∧ z = if x.d = d then g x else x := by
  rw [setD, List.getElem?_map] at h
  cases hq : ds[i]? with
  | none => rw [hq] at h; cases h
  | some x => rw [hq] at h; exact ⟨x, rfl, (Option.some.inj h).symm⟩
end Go.Sl
namespace Go.Proofs.YtidhehcjafoneaaGreatDoor
open Go.Sl
set_option maxRecDepth 10000
theorem dd_now {J : zAs} {ds : List Dk} {ys : List Dd} (h : All2 (DdOk J) ds ys) (d : Nat) (g : Dk → Dk) (hg : ∀ x, (g x).failed = x.failed ∧ (g x).pl = x.pl) : All2 (DdOk J) (setD ds d g) ys := by
  refine ⟨by rw [setD, List.length_map]; exact h.1, fun i z y hz hy => ?_⟩
  obtain ⟨x, hx, rfl⟩ := setD_inv hz
  have := h.2 i x y hx hy
  split
  · obtain ⟨h1, h2⟩ := hg x
    unfold DdOk at *; rw [h1, h2]; exact this
  · exact this
theorem dw_set {J : zAs} {ds : List Dk} {ws : List Wt} {us : List Dw} (h : All2 (DwOk J ds) ws us) (d : Nat) (g : Dk → Dk) (hg : ∀ x, (g x).d = x.d) : All2 (DwOk J (setD ds d g)) ws us :=
  h.imp fun w u ⟨⟨x, h1, h2⟩, h3, h4⟩ => ⟨⟨_, setD_get h1, by split; rw [hg]; exact h2; exact h2⟩, h3, h4⟩
theorem qwrite_ret (q : Nat) (R : Rk) (C : zAs) (hC : RfC q R C) (hok : DkOk R.ds) (n : Nat) (x : Dk) (hx : R.ds[n]? = some x) (hmod : x.pl.length % 128 = 0) (hws : R.ws.length + 8192 ≤ 244335861110) (hwr : R.pw.wr ≤ 1000000000000000000) (hlf : R.pw.left ≤ 9223372036854775807)
    (at_ : Int) (ha : -9223372036854775808 ≤ at_ ∧ at_ ≤ 9223372036854775807) (v : Value) (b : List UInt8) (D : zAs) (hD : Rd D 1 v b.length (byt b)) (hcap : ∃ ad c, v = .slice ad b.length c ∧ b.length ≤ c) (w0 : World) (H : Hp w0 [C, D]) :
    Ret Tryz.prog 62 #[ptr q, .int .i64 n, .int .i64 at_, v] w0 fun u w' => ∃ C', u = .int .i64 (R.writeE x at_ b) ∧ RfC q (R.write x at_ b) C' ∧ Trs w0 w' [C, D] [C', D] := by
  obtain ⟨vd, vw, Cd, Cw, J, ys, us, h1, h2, h3, h4, rfl⟩ := hC
  obtain ⟨adb, cb, rfl, hcb⟩ := hcap
  have S := rf_open (St.begin H)
  obtain ⟨y, hy, hyo⟩ := h3.at hx
  have hxm : x ∈ R.ds := List.mem_of_getElem? hx
  have hxl := hok.2 x hxm
  have hbl := hD.2.2.1
  simp only [maxLen] at hbl
  obtain ⟨y1, y2, y3, y4⟩ := hyo
  obtain ⟨A, B, rfl, hAl⟩ := zHh hy
  have S := rf_out S
  obtain ⟨add, cd, rfl⟩ := h1.slice
  obtain ⟨adp, cp, hvp⟩ := y2.slice
  obtain ⟨gd, rfl⟩ := h1.addr (by simp; omega)
  obtain ⟨s, ws, ds⟩ := R
  simp only at h3 h4 hok hx hxm hxl S hws hwr hlf
  have hnlt : n < (A ++ y :: B).length := by simp; omega
  have hpt : ((A ++ y :: B).map fun y => ptr y.b)[n]? = some (ptr y.b) := by rw [List.getElem?_map, hy]; rfl
  have hdd1 : dd1 y = [(y.b, cel [.slice adp y.vs.length cp, .bool x.failed] 127)] := by show [(y.b, cel [y.vp, .bool y.f] _)] = _; rw [hvp, y1]
  obtain ⟨C0, hC0⟩ : ∃ C0, C0 = (RfL q s (.slice (some ⟨gd, 0, none⟩) (A ++ y :: B).length cd) vw Cd Cw J (A ++ y :: B)).flatten := ⟨_, rfl⟩
  rw [← hC0] at S ⊢
  obtain ⟨fin, hfin⟩ : ∃ fin, fin = wrS x.d x.pl.length at_ b s x.failed x.now ws := ⟨_, rfl⟩
  have done : ∀ {w' : World} {s' : Pw} {vw' : Value} {Cw' J' : zAs} {us' : List Dw} {nw' : List UInt8} {ws' : List Wt} {e : Int}, fin = (s', nw', ws', e) → Buf Cw' 166 3 vw' us'.length (us'.flatMap Dw.lay) → All2 (DdOk J') ds (A ++ y :: B) → All2 (DwOk J' ds) ws' us' →
      St w0 [C0, D] w' ([(q, qcl s' (.slice (some ⟨gd, 0, none⟩) (A ++ y :: B).length cd) vw')] :: Cd :: Cw' :: J' :: dd1 y :: y.C :: (dch (A ++ B) ++ [D])) →
      ∃ C', Value.int .i64 e = .int .i64 (Rk.writeE ⟨s, ws, ds⟩ x at_ b) ∧ RfC q (Rk.write ⟨s, ws, ds⟩ x at_ b) C' ∧ Trs w0 w' [C0, D] [C', D] := by
    intro w' s' vw' Cw' J' us' nw' ws' e hf hB hA2 hW2 S
    have S := zGq (Ls := [D]) (rf_in S)
    rw [hf] at hfin
    refine ⟨_, by rw [Rk.writeE, ← hfin], ⟨_, vw', Cd, Cw', J', A ++ y :: B, us', h1, hB, ?_, ?_, rfl⟩, ?_⟩
    · rw [Rk.write, ← hfin]; exact dd_now hA2 _ _ fun _ => ⟨rfl, rfl⟩
    · rw [Rk.write, ← hfin]; exact dw_set hW2 _ _ fun _ => rfl
    · rw [Rk.write, ← hfin]; exact S.tr
  refine enter4 112 Tryz.func62 rfl rfl (by decide) ?_; intro a E
  refine wp_seq_k ?_; intro K hK
  refine zAc ?_
  refine zp E (zAg E rfl rfl) ?_; clear E a; intro a E
  refine wpList_nil ?_
  refine zAh hK ?_; clear hK; clear K
  refine wp_seq_k ?_; intro K hK
  refine zAc ?_
  iterate 2 (refine zp E (zAe E rfl rfl) ?_; clear E a; intro a E)
  refine zAr E rfl rfl (by decide) rfl Tryz.func83 rfl (by kernel_rfl) rfl (qdown_ret q s _ _ Cd _ h1 n y hy _ (S.hp.sel (zAd (by repeat (first | exact pk1 | apply zAa)) (zAd (by repeat (first | exact pk1 | apply zAa)) (zAd (by repeat (first | exact pk1 | apply zAa)) (zAk _)))))) ?_
  rintro v15 w ⟨rfl, hT⟩; clear E a; intro a E
  have S := (S.call3 (zAd (by repeat (first | exact pk1 | apply zAa)) (zAd (by repeat (first | exact pk1 | apply zAa)) (zAd (by repeat (first | exact pk1 | apply zAa)) (zAk _)))) hT).front6 (A := [(q, _)]) (by repeat (first | exact pk1 | apply zAa)) (B := Cd) (by repeat (first | exact pk1 | apply zAa)) (C := Cw) (by repeat (first | exact pk1 | apply zAa)) (D := J) (by repeat (first | exact pk1 | apply zAa)) (F := dd1 y) (by repeat (first | exact pk1 | apply zAa)) (G := y.C) (by repeat (first | exact pk1 | apply zAa)); rw [y1] at E
  refine zp E (zAg E rfl rfl) ?_; clear E a; intro a E
  refine wpList_nil ?_
  refine zAh hK ?_; clear hK; clear K
  iterate 2 (refine wp_seq_k ?_; intro K hK)
  refine zAc ?_
  refine zp E (zAe E rfl rfl) ?_; clear E a; intro a E
  refine zp E (by first | exact zCu E rfl rfl rfl | exact zAz E rfl rfl rfl rfl | exact zBj E rfl rfl rfl rfl | exact zBd E rfl rfl rfl) ?_; clear E a; intro a E
  refine wpList_nil ?_
  refine zAh hK ?_; clear hK; clear K
  refine zBl E rfl (fun hb => ?_) (fun hb => ?_)
  · replace hb := Nrm.nrm hb
    refine wp_seq_k ?_; intro K hK
    refine zAc ?_
    refine zp E (zAe E rfl rfl) ?_; clear E a; intro a E
    refine zp E (zAg E rfl rfl) ?_; clear E a; intro a E
    refine wpList_nil ?_
    refine zAh hK ?_; clear hK; clear K
    refine wp_ret ?_
    refine zBi ?_; clear hK; clear K
    refine ret1 E rfl rfl ?_
    have hfe : fin = (s, x.now, ws, flE s x.failed) := by
      rw [hfin]; unfold wrS flE
      by_cases hs : s.off = true
      · rw [if_pos hs, if_pos hs]
      · by_cases hf : x.failed = true
        · rw [if_neg hs, if_pos hf, if_neg hs, if_pos hf]
        · unfold flE at hb; rw [if_neg hs, if_neg hf] at hb; exact absurd rfl hb
    obtain ⟨C', e1, e2, e3⟩ := done hfe h2 h3 h4 S
    exact ⟨_, rfl, C', e1, e2, e3⟩
  · replace hb := Nrm.nrm hb
    refine wp_skip ?_
    refine zAh hK ?_; clear hK; clear K
    refine wp_seq_k ?_; intro K hK
    have hs : s.off = false := by cases h : s.off; rfl; simp [flE, h] at hb
    have hf : x.failed = false := by cases h : x.failed; rfl; simp [flE, hs, h] at hb
    rw [hdd1] at S
    refine zAc ?_
    refine zp E (zAe E rfl rfl) ?_; clear E a; intro a E
    refine zp E (zAl E rfl rfl) ?_; clear E a; intro a E
    refine zp E (by first | exact zAf (q := 0) E rfl rfl rfl | exact zAi (q := 0) E rfl rfl rfl) ?_; clear E a; intro a E
    refine zp E (by first | exact zAn E rfl rfl rfl (S.get (by repeat (first | exact pk1 | apply zAa))) rfl | exact zAj E rfl rfl rfl (by assumption)) ?_; clear E a; intro a E
    refine zp E (zAe E rfl rfl) ?_; clear E a; intro a E
    refine zp E (zBk (i := n) E rfl rfl rfl rfl rfl rfl (by omega)) ?_; clear E a; intro a E
    refine zp E (zAj E rfl rfl rfl (h1.rd.cells (S.stab.at (by repeat (first | exact mm1 | assumption | apply List.Mem.tail))) rfl n _ hpt)) ?_; clear E a; intro a E
    refine zp E (zAl E rfl rfl) ?_; clear E a; intro a E
    refine zp E (by first | exact zAf (q := 0) E rfl rfl rfl | exact zAi (q := 0) E rfl rfl rfl) ?_; clear E a; intro a E
    refine zp E (by first | exact zAn E rfl rfl rfl (S.get (by repeat (first | exact pk1 | apply zAa))) rfl | exact zAj E rfl rfl rfl (by assumption)) ?_; clear E a; intro a E
    refine zp E (by first | exact zCa E rfl rfl rfl | exact zBa E rfl rfl rfl | exact zAt E rfl rfl rfl) ?_; clear E a; intro a E
    refine zp E (zAg E rfl rfl) ?_; clear E a; intro a E
    refine wpList_nil ?_
    refine zAh hK ?_; clear hK; clear K
    iterate 2 (refine wp_seq_k ?_; intro K hK)
    refine zFe (fun (a : Act) (w' : World) => ∃ c : Bool, c = decide (¬ zEu x.pl.length at_ b) ∧ St w0 [C0, D] w' ([(q, qcl s (.slice (some ⟨gd, 0, none⟩) (A ++ y :: B).length cd) vw)] :: Cd :: Cw :: J :: dd1 y :: y.C :: (dch (A ++ B) ++ [D])) ∧ Fr a 112 [(0, ptr q), (1, .int .i64 n), (2, .int .i64 at_), (3, .slice adb b.length cb), (51, .bool c)]) ?_ ?_
    · skip
      refine zAc ?_
      refine zp E (zAe E rfl rfl) ?_; clear E a; intro a E
      refine zp E (by first | exact zCa E rfl rfl rfl | exact zBa E rfl rfl rfl | exact zAt E rfl rfl rfl) ?_; clear E a; intro a E
      refine zp E (zKy E rfl rfl rfl (by decide) (by first | exact zLb (y := 128) | exact rfl)) ?_; clear E a; intro a E
      refine zp E (by first | exact zCu E rfl rfl rfl | exact zAz E rfl rfl rfl rfl | exact zBj E rfl rfl rfl rfl | exact zBd E rfl rfl rfl) ?_; clear E a; intro a E
      refine zp E (zAe E rfl rfl) ?_; clear E a; intro a E
      refine zAy E (t := 34) rfl (fun hb34 => ?_) (fun hb34 => ?_)
      · have hb34n := hb34; replace hb34n := Nrm.nrm hb34n
        iterate 2 (refine zn E hb34 ?_; clear E a; intro a E)
        refine zp E (zAm E rfl rfl hb34 rfl) ?_; clear E a; intro a E
        refine zp E (zAe E rfl rfl) ?_; clear E a; intro a E
        iterate 3 (refine zn E rfl ?_; clear E a; intro a E)
        refine zp E (zAm E rfl rfl rfl rfl) ?_; clear E a; intro a E
        refine zp E (zAe E rfl rfl) ?_; clear E a; intro a E
        iterate 7 (refine zn E rfl ?_; clear E a; intro a E)
        refine zp E (zAm E rfl rfl rfl rfl) ?_; clear E a; intro a E
        refine wpList_nil ?_
        refine zBp ?_
        refine ⟨_, ?_, by rw [hdd1]; exact S, E.keep (zAb rfl (zAb rfl (zAb rfl (zAb rfl (zAb rfl zAp)))))⟩
        rw [Bool.eq_iff_iff]; simp only [decide_eq_true_eq, eq_self, true_iff]; unfold zEu; rw [← y3, Nat.mul_div_cancel_left _ (by decide : 0 < 128)]; omega
      · have hb34n := hb34; replace hb34n := Nrm.nrm hb34n
        refine zy E hb34 (zAe E rfl rfl) ?_; clear E a; intro a E
        refine zy E hb34 (zCb E rfl rfl rfl) ?_; clear E a; intro a E
        refine zp E (zAq E rfl rfl hb34 rfl) ?_; clear E a; intro a E
        refine zp E (zAe E rfl rfl) ?_; clear E a; intro a E
        refine zAy E (t := 38) rfl (fun hb38 => ?_) (fun hb38 => ?_)
        · have hb38n := hb38; replace hb38n := Nrm.nrm hb38n
          iterate 3 (refine zn E hb38 ?_; clear E a; intro a E)
          refine zp E (zAm E rfl rfl hb38 rfl) ?_; clear E a; intro a E
          refine zp E (zAe E rfl rfl) ?_; clear E a; intro a E
          iterate 7 (refine zn E rfl ?_; clear E a; intro a E)
          refine zp E (zAm E rfl rfl rfl rfl) ?_; clear E a; intro a E
          refine wpList_nil ?_
          refine zBp ?_
          refine ⟨_, ?_, by rw [hdd1]; exact S, E.keep (zAb rfl (zAb rfl (zAb rfl (zAb rfl (zAb rfl zAp)))))⟩
          rw [Bool.eq_iff_iff]; simp only [decide_eq_true_eq, eq_self, true_iff]; unfold zEu; rw [← y3, Nat.mul_div_cancel_left _ (by decide : 0 < 128)]; omega
        · have hb38n := hb38; replace hb38n := Nrm.nrm hb38n
          iterate 2 (refine zy E hb38 (zAe E rfl rfl) ?_; clear E a; intro a E)
          refine zy E hb38 (zDd E rfl rfl rfl) ?_; clear E a; intro a E
          refine zp E (zAq E rfl rfl hb38 rfl) ?_; clear E a; intro a E
          refine zp E (zAe E rfl rfl) ?_; clear E a; intro a E
          refine zAy E (t := 43) rfl (fun hb43 => ?_) (fun hb43 => ?_)
          · have hb43n := hb43; replace hb43n := Nrm.nrm hb43n
            iterate 7 (refine zn E hb43 ?_; clear E a; intro a E)
            refine zp E (zAm E rfl rfl hb43 rfl) ?_; clear E a; intro a E
            refine wpList_nil ?_
            refine zBp ?_
            refine ⟨_, ?_, by rw [hdd1]; exact S, E.keep (zAb rfl (zAb rfl (zAb rfl (zAb rfl (zAb rfl zAp)))))⟩
            rw [Bool.eq_iff_iff]; simp only [decide_eq_true_eq, eq_self, true_iff]; unfold zEu; rw [← y3, Nat.mul_div_cancel_left _ (by decide : 0 < 128)]; omega
          · have hb43n := hb43; replace hb43n := Nrm.nrm hb43n
            refine zy E hb43 (zAe E rfl rfl) ?_; clear E a; intro a E
            refine zy E hb43 (by first | exact zCa E rfl rfl rfl | exact zBa E rfl rfl rfl | exact zAt E rfl rfl rfl) ?_; clear E a; intro a E
            refine zy E hb43 (zGt E rfl rfl rfl (by decide) (by first | exact zJt (y := 128) (by omega) | exact zHr (y := 128) (by omega) | exact rfl)) ?_; clear E a; intro a E
            iterate 2 (refine zy E hb43 (zAe E rfl rfl) ?_; clear E a; intro a E)
            refine zy E hb43 (zDf E rfl rfl rfl (w_in (by omega))) ?_; clear E a; intro a E
            refine zy E hb43 (zDd E rfl rfl rfl) ?_; clear E a; intro a E
            refine zp E (zAq E rfl rfl hb43 rfl) ?_; clear E a; intro a E
            refine wpList_nil ?_
            refine zBp ?_
            refine ⟨_, ?_, by rw [hdd1]; exact S, E.keep (zAb rfl (zAb rfl (zAb rfl (zAb rfl (zAb rfl zAp)))))⟩
            rw [Bool.eq_iff_iff]; simp only [decide_eq_true_eq, eq_self, true_iff]; unfold zEu; rw [← y3, Nat.mul_div_cancel_left _ (by decide : 0 < 128)]; omega
    · clear E S a; intro a w J; obtain ⟨c, hc, S, E⟩ := J
      refine zAh hK ?_; clear hK; clear K
      refine zBl E rfl (fun hb => ?_) (fun hb => ?_)
      · replace hb := Nrm.nrm hb
        have hno : ¬ zEu x.pl.length at_ b := (by rw [hb] at hc; exact of_decide_eq_true hc.symm)
        refine wp_seq_k ?_; intro K hK
        refine zAc ?_
        refine zp E (zAg E rfl rfl) ?_; clear E a; intro a E
        refine wpList_nil ?_
        refine zAh hK ?_; clear hK; clear K
        refine wp_ret ?_
        refine zBi ?_; clear hK; clear K
        refine ret1 E rfl rfl ?_
        have hfe : fin = (s, x.now, ws, 1) := by rw [hfin]; unfold wrS; rw [if_neg (by simp [hs]), if_neg (by simp [hf]), if_pos hno]
        obtain ⟨C', e1, e2, e3⟩ := done hfe h2 h3 h4 S
        exact ⟨_, rfl, C', e1, e2, e3⟩
      · replace hb := Nrm.nrm hb
        have hyes : zEu x.pl.length at_ b := (by rw [hb] at hc; exact Decidable.not_not.1 (of_decide_eq_false hc.symm))
        refine wp_skip ?_
        refine zAh hK ?_; clear hK; clear K
        iterate 2 (refine wp_seq_k ?_; intro K hK)
        have hfe : fin = wrN x.d at_.toNat b (b.length / 128) 0 s x.now ws := by rw [hfin]; unfold wrS; rw [if_neg (by simp [hs]), if_neg (by simp [hf]), if_neg (fun q => q hyes)]
        obtain ⟨m1, m2, m3, m4⟩ := hyes
        rw [← y3, Nat.mul_div_cancel_left _ (by decide : 0 < 128)] at m3 m4
        obtain ⟨an, rfl⟩ : ∃ an : Nat, at_ = an := ⟨at_.toNat, by omega⟩
        rw [Int.toNat_natCast] at hfe
        obtain ⟨N, hN⟩ : ∃ N, N = b.length / 128 := ⟨_, rfl⟩
        rw [← hN] at hfe m4
        have hwl0 := h4.1
        refine zAc ?_
        refine zp E (zAg E rfl rfl) ?_; clear E a; intro a E
        refine wpList_nil ?_
        refine zAh hK ?_; clear hK; clear K
        refine wp_block ?_
        refine wp_loop_ghost (fun (m : Nat) (a : Act) (w' : World) => ∃ (i : Nat) (s' : Pw) (nw' : List UInt8) (ws' : List Wt) (us' : List Dw) (vw' : Value) (Cw' J' : zAs), m = N - i ∧ i ≤ N ∧ wrN x.d an b (N - i) i s' nw' ws' = fin ∧ ws'.length ≤ ws.length + i ∧ s'.wr ≤ s.wr + i ∧ s'.left ≤ 9223372036854775807 ∧ Buf Cw' 166 3 vw' us'.length (us'.flatMap Dw.lay) ∧ All2 (DdOk J') ds (A ++ y :: B) ∧ All2 (DwOk J' ds) ws' us' ∧
         St w0 [C0, D] w' ([(q, qcl s' (.slice (some ⟨gd, 0, none⟩) (A ++ y :: B).length cd) vw')] :: Cd :: Cw' :: J' :: dd1 y :: y.C :: (dch (A ++ B) ++ [D])) ∧ Fr a 112 [(0, ptr q), (1, .int .i64 n), (2, .int .i64 an), (3, .slice adb b.length cb), (11, .int .i64 i)]) (N - 0) ?_ ?_
        · exact ⟨0, s, x.now, ws, us, vw, Cw, J, rfl, by omega, hfe.symm, by omega, by omega, hlf, h2, h3, h4, S, E.keep (zAb rfl (zAb rfl (zAb rfl (zAb rfl (zAb rfl zAp)))))⟩
        clear E; clear a; (try clear S); rintro m a w ⟨i, s', nw', ws', us', vw', Cw', J', rfl, hi, hrest, hwl, hwr', hlf', h2', h3', h4', S, E⟩
        iterate 2 (refine wp_seq_k ?_; intro K hK)
        refine zAc ?_
        iterate 2 (refine zp E (zAe E rfl rfl) ?_; clear E a; intro a E)
        refine zp E (by first | exact zCa E rfl rfl rfl | exact zBa E rfl rfl rfl | exact zAt E rfl rfl rfl) ?_; clear E a; intro a E
        refine zp E (zGt E rfl rfl rfl (by decide) (by first | exact zJt (y := 128) (by omega) | exact zHr (y := 128) (by omega) | exact rfl)) ?_; clear E a; intro a E
        rw [← hN] at E
        refine zp E (zCb E rfl rfl rfl) ?_; clear E a; intro a E
        refine wpList_nil ?_
        refine zAh hK ?_; clear hK; clear K
        refine zBl E rfl (fun hb => ?_) (fun hb => ?_)
        · replace hb := Nrm.nrm hb
          refine wp_skip ?_
          refine zAh hK ?_; clear hK; clear K
          refine wp_seq_k ?_; intro K hK
          refine wp_block ?_
          iterate 2 (refine wp_seq_k ?_; intro K hK)
          have hiN : i < N := by omega
          rw [show N - i = (N - i - 1) + 1 by omega, wrN] at hrest
          refine zAc ?_
          refine zp E (zAe E rfl rfl) ?_; clear E a; intro a E
          refine zp E (zAl E rfl rfl) ?_; clear E a; intro a E
          refine zp E (by first | exact zAf (q := 2) E rfl rfl rfl | exact zAi (q := 2) E rfl rfl rfl) ?_; clear E a; intro a E
          refine zp E (by first | exact zAn E rfl rfl rfl (S.get (by repeat (first | exact pk1 | apply zAa))) rfl | exact zAj E rfl rfl rfl (by assumption)) ?_; clear E a; intro a E
          refine zp E (by first | exact zCf E rfl rfl rfl | exact zAu E rfl rfl rfl rfl | exact zBc E rfl rfl rfl rfl | exact zAw E rfl rfl rfl) ?_; clear E a; intro a E
          refine wpList_nil ?_
          refine zAh hK ?_; clear hK; clear K
          refine zBl E rfl (fun hb => ?_) (fun hb => ?_)
          · replace hb := Nrm.nrm hb
            rw [if_pos hb] at hrest
            refine wp_seq_k ?_; intro K hK
            refine zAc ?_
            refine zp E (zAe E rfl rfl) ?_; clear E a; intro a E
            refine zp E (zAl E rfl rfl) ?_; clear E a; intro a E
            refine zp E (by first | exact zAf (q := 3) E rfl rfl rfl | exact zAi (q := 3) E rfl rfl rfl) ?_; clear E a; intro a E
            refine zAo rfl (zBg E S rfl rfl rfl rfl rfl rfl (by repeat (first | exact pk1 | apply zAa)) (by first | exact Nat.le_of_ble_eq_true rfl | (simp; done) | (simp; omega)) ?_); clear E S a; intro a w E S; try dsimp only [List.set] at S
            refine wpList_nil ?_
            refine zAh hK ?_; clear hK; clear K
            refine wp_seq_k ?_; intro K hK
            refine zAc ?_
            refine zp E (zAe E rfl rfl) ?_; clear E a; intro a E
            refine zp E (zAl E rfl rfl) ?_; clear E a; intro a E
            refine zp E (by first | exact zAf (q := 2) E rfl rfl rfl | exact zAi (q := 2) E rfl rfl rfl) ?_; clear E a; intro a E
            refine zAo rfl (zBg E S rfl rfl rfl rfl rfl rfl (by repeat (first | exact pk1 | apply zAa)) (by first | exact Nat.le_of_ble_eq_true rfl | (simp; done) | (simp; omega)) ?_); clear E S a; intro a w E S; try dsimp only [List.set] at S
            refine wpList_nil ?_
            refine zAh hK ?_; clear hK; clear K
            refine wp_seq_k ?_; intro K hK
            refine zAc ?_
            refine zp E (zAg E rfl rfl) ?_; clear E a; intro a E
            refine wpList_nil ?_
            refine zAh hK ?_; clear hK; clear K
            refine wp_ret ?_
            refine zBi ?_; clear hK; clear K
            refine zEc ?_
            refine zBi ?_; clear hK; clear K
            refine zBi ?_
            refine zEc ?_
            refine zBi ?_; clear hK; clear K
            refine ret1 E rfl rfl ?_
            obtain ⟨C', e1, e2, e3⟩ := done hrest.symm h2' h3' h4' (s' := { s' with left := -1, off := true }) S
            exact ⟨_, rfl, C', e1, e2, e3⟩
          · replace hb := Nrm.nrm hb
            rw [if_neg hb] at hrest
            refine wp_skip ?_
            refine zAh hK ?_; clear hK; clear K
            iterate 2 (refine wp_seq_k ?_; intro K hK)
            refine zAc ?_
            refine zp E (zAe E rfl rfl) ?_; clear E a; intro a E
            refine zp E (zAl E rfl rfl) ?_; clear E a; intro a E
            refine zp E (by first | exact zAf (q := 2) E rfl rfl rfl | exact zAi (q := 2) E rfl rfl rfl) ?_; clear E a; intro a E
            refine zp E (by first | exact zAn E rfl rfl rfl (S.get (by repeat (first | exact pk1 | apply zAa))) rfl | exact zAj E rfl rfl rfl (by assumption)) ?_; clear E a; intro a E
            refine zp E (zDd E rfl rfl rfl) ?_; clear E a; intro a E
            refine wpList_nil ?_
            refine zAh hK ?_; clear hK; clear K
            refine zFe (fun (a : Act) (w' : World) => ∃ lf : Int, lf = (if 0 < s'.left then s'.left - 1 else s'.left) ∧ St w0 [C0, D] w' ([(q, qcl { s' with left := lf } (.slice (some ⟨gd, 0, none⟩) (A ++ y :: B).length cd) vw')] :: Cd :: Cw' :: J' :: dd1 y :: y.C :: (dch (A ++ B) ++ [D])) ∧ Fr a 112 [(0, ptr q), (1, .int .i64 n), (2, .int .i64 an), (3, .slice adb b.length cb), (11, .int .i64 i)]) ?_ ?_
            · skip
              refine zBl E rfl (fun hb => ?_) (fun hb => ?_)
              · replace hb := Nrm.nrm hb
                refine zAc ?_
                refine zp E (zAe E rfl rfl) ?_; clear E a; intro a E
                refine zp E (zAl E rfl rfl) ?_; clear E a; intro a E
                refine zp E (by first | exact zAf (q := 2) E rfl rfl rfl | exact zAi (q := 2) E rfl rfl rfl) ?_; clear E a; intro a E
                refine zp E (by first | exact zAn E rfl rfl rfl (S.get (by repeat (first | exact pk1 | apply zAa))) rfl | exact zAj E rfl rfl rfl (by assumption)) ?_; clear E a; intro a E
                refine zp E (zDf E rfl rfl rfl (by first | exact zEx (y := 1) (by omega) (by omega) | exact w_in (by omega) | exact zBy (by omega) | exact rfl)) ?_; clear E a; intro a E
                refine zp E (zAl E rfl rfl) ?_; clear E a; intro a E
                refine zp E (by first | exact zAf (q := 2) E rfl rfl rfl | exact zAi (q := 2) E rfl rfl rfl) ?_; clear E a; intro a E
                refine zAo rfl (zBg E S rfl rfl rfl rfl rfl rfl (by repeat (first | exact pk1 | apply zAa)) (by first | exact Nat.le_of_ble_eq_true rfl | (simp; done) | (simp; omega)) ?_); clear E S a; intro a w E S; try dsimp only [List.set] at S
                refine wpList_nil ?_
                refine zBp ?_
                exact ⟨s'.left - 1, by rw [if_pos hb], S, E.keep (zAb rfl (zAb rfl (zAb rfl (zAb rfl (zAb rfl zAp)))))⟩
              · replace hb := Nrm.nrm hb
                refine wp_skip ?_
                refine zBp ?_
                exact ⟨s'.left, by rw [if_neg hb], S, E.keep (zAb rfl (zAb rfl (zAb rfl (zAb rfl (zAb rfl zAp)))))⟩
            · clear S E a; intro a w J; obtain ⟨lf, hlf2, S, E⟩ := J
              refine zAh hK ?_; clear hK; clear K
              refine wp_seq_k ?_; intro K hK
              refine zAc ?_
              refine zp E (zAe E rfl rfl) ?_; clear E a; intro a E
              refine zp E (zAl E rfl rfl) ?_; clear E a; intro a E
              refine zp E (by first | exact zAf (q := 4) E rfl rfl rfl | exact zAi (q := 4) E rfl rfl rfl) ?_; clear E a; intro a E
              refine zp E (by first | exact zAn E rfl rfl rfl (S.get (by repeat (first | exact pk1 | apply zAa))) rfl | exact zAj E rfl rfl rfl (by assumption)) ?_; clear E a; intro a E
              dsimp only at E S
              refine zp E (zBu E rfl rfl rfl (by first | exact zCj (y := 1) (by omega) | exact w_in (by omega) | exact zBy (by omega) | exact rfl)) ?_; clear E a; intro a E
              refine zp E (zAl E rfl rfl) ?_; clear E a; intro a E
              refine zp E (by first | exact zAf (q := 4) E rfl rfl rfl | exact zAi (q := 4) E rfl rfl rfl) ?_; clear E a; intro a E
              refine zAo rfl (zBg E S rfl rfl rfl rfl rfl rfl (by repeat (first | exact pk1 | apply zAa)) (by first | exact Nat.le_of_ble_eq_true rfl | (simp; done) | (simp; omega)) ?_); clear E S a; intro a w E S; try dsimp only [List.set] at S
              refine wpList_nil ?_
              refine zAh hK ?_; clear hK; clear K
              refine wp_seq_k ?_; intro K hK
              have hbi : 128 * i + 128 ≤ b.length := by omega
              have hsl := zDj hbi
              refine zAc ?_
              iterate 2 (refine zp E (zAe E rfl rfl) ?_; clear E a; intro a E)
              refine zp E (zEd E rfl rfl rfl (by first | exact zGb (y := 128) (by omega) | exact w_in (by omega) | exact rfl)) ?_; clear E a; intro a E
              refine zp E (zAe E rfl rfl) ?_; clear E a; intro a E
              refine zp E (zBu E rfl rfl rfl (by first | exact zCj (y := 1) (by omega) | exact w_in (by omega) | exact zBy (by omega) | exact rfl)) ?_; clear E a; intro a E
              refine zp E (zEd E rfl rfl rfl (by first | exact zGb (y := 128) (by omega) | exact w_in (by omega) | exact rfl)) ?_; clear E a; intro a E
              refine zp E (zHt (s := 1) (lo := i * 128) (hi := i * 128 + 128) E rfl rfl rfl rfl rfl rfl (by omega) (by omega) (by omega) (by omega)) ?_; clear E a; intro a E
              obtain ⟨ad95, c95, he95, hR95⟩ := hD.cut (lo := i * 128) (hi := i * 128 + 128) (by omega) (by omega) (by omega)
              rw [he95] at E
              rw [Nat.mul_one, Nat.mul_one, zFv, zFu, Nat.add_sub_cancel_left, Nat.mul_comm i 128] at hR95
              rw [Nat.add_sub_cancel_left] at E
              have S := S.addNil
              have hDm : D ∈ dch (A ++ B) ++ [D] := List.mem_append_right _ (List.mem_singleton.2 rfl)
              have hR95 : Rd D 1 (.slice ad95 128 c95) 128 (byt (secB b i)) := hR95
              refine zAo rfl (zCi (by' := 1) E S rfl rfl (by decide) rfl rfl (Buf.nil 5 1) (by repeat (first | exact pk1 | apply zAa)) (hR95.src (S.stab.at (by repeat (first | exact mm1 | assumption | apply List.Mem.tail))) rfl) rfl rfl rfl rfl rfl rfl (by simp only [maxLen]; omega) (by omega) ?_); clear E S a; intro a w v96 C96 E S hB96
              rw [Nat.zero_add, List.nil_append] at hB96
              refine zp E (zAg E rfl rfl) ?_; clear E a; intro a E
              refine wpList_nil ?_
              refine zAh hK ?_; clear hK; clear K
              obtain ⟨adw, cw, rfl⟩ := h2'.slice
              have hul := h4'.1
              obtain ⟨ad96, c96, rfl⟩ := hB96.slice
              obtain ⟨u, hu⟩ : ∃ u : Dw, u = ⟨n, an + i, .slice ad96 128 c96⟩ := ⟨_, rfl⟩
              refine zAc ?_
              iterate 2 (refine zp E (zAe E rfl rfl) ?_; clear E a; intro a E)
              refine zp E (zAl E rfl rfl) ?_; clear E a; intro a E
              refine zp E (by first | exact zAf (q := 1) E rfl rfl rfl | exact zAi (q := 1) E rfl rfl rfl) ?_; clear E a; intro a E
              refine zp E (by first | exact zAn E rfl rfl rfl (S.get (by repeat (first | exact pk1 | apply zAa))) rfl | exact zAj E rfl rfl rfl (by assumption)) ?_; clear E a; intro a E
              iterate 3 (refine zp E (zAe E rfl rfl) ?_; clear E a; intro a E)
              refine zp E (zBu E rfl rfl rfl (by first | exact wa1 (by omega) | exact w_in (by omega) | exact zBy (by omega) | exact rfl)) ?_; clear E a; intro a E
              refine zp E (zAe E rfl rfl) ?_; clear E a; intro a E
              refine zp E (zCo (cells := [_, _, _]) E rfl rfl rfl) ?_; clear E a; intro a E
              refine zAo rfl (zCk (cells := [_, _, _]) E S rfl rfl (by decide) rfl rfl rfl rfl rfl (by decide) rfl ?_); clear E S a; intro a w b108 E S
              rw [show [Value.int .i64 (n : Int), .int .i64 (an + i : Nat), .slice ad96 128 c96] = u.lay by rw [hu]; rfl] at S
              refine zAo rfl (zCi (by' := 40) E S rfl rfl (by decide) rfl rfl h2' (by repeat (first | exact pk1 | apply zAa)) ((zCr (g := b108) (T := 166) (xs := u.lay) (s := 3) (m := 1) (Dw.lay_len u) (by rw [hu]; intro w hw; simp [Dw.lay] at hw; rcases hw with rfl | rfl | rfl <;> rfl) (by omega) 1).src (S.stab.at (by repeat (first | exact mm1 | assumption | apply List.Mem.tail))) rfl) rfl rfl rfl rfl rfl rfl (by simp only [maxLen]; omega) (by omega) ?_); clear E S a; intro a w v109 C109 E S hB109
              obtain ⟨ad109, c109, rfl⟩ := hB109.slice
              refine zp E (zAl E rfl rfl) ?_; clear E a; intro a E
              refine zp E (by first | exact zAf (q := 1) E rfl rfl rfl | exact zAi (q := 1) E rfl rfl rfl) ?_; clear E a; intro a E
              refine zAo rfl (zBg E S rfl rfl rfl rfl rfl rfl (by repeat (first | exact pk1 | apply zAa)) (by first | exact Nat.le_of_ble_eq_true rfl | (simp; done) | (simp; omega)) ?_); clear E S a; intro a w E S; try dsimp only [List.set] at S
              refine wpList_nil ?_
              refine zBf ?_
              refine zAh hK ?_; clear hK; clear K
              refine zAc ?_
              refine zp E (zAe E rfl rfl) ?_; clear E a; intro a E
              refine zp E (zBu E rfl rfl rfl (by first | exact zCj (y := 1) (by omega) | exact w_in (by omega) | exact zBy (by omega) | exact rfl)) ?_; clear E a; intro a E
              refine zp E (zAg E rfl rfl) ?_; clear E a; intro a E
              refine wpList_nil ?_
              refine zBe ?_
              have S := (S.del (A := [(b108, _)]) (by repeat (first | exact pk1 | apply zAa))).gather (A := C96) (B := J') (by repeat (first | exact pk1 | apply zAa)) (by repeat (first | exact pk1 | apply zAa))
              have hsubJ : ∀ c ∈ J', c ∈ C96 ++ J' := fun c hc => List.mem_append_right _ hc
              refine ⟨_, by omega, i + 1, ⟨lf, s'.off, s'.wr + 1⟩, _, _, us' ++ [u], .slice ad109 (us'.length + 1) c109, C109, C96 ++ J', rfl, by omega, by rw [show N - (i + 1) = N - i - 1 by omega, hlf2]; exact hrest, by rw [List.length_append, List.length_singleton]; omega, by simp only; omega, by simp only; rw [hlf2]; split <;> omega, ?_, h3'.imp fun _ _ h => h.sub hsubJ, ?_, ?_, E.keep (zAb rfl (zAb rfl (zAb rfl (zAb rfl (zAb rfl zAp)))))⟩
              · rw [List.length_append, List.length_singleton, List.flatMap_append]; simpa using hB109
              · refine (h4'.imp fun _ _ h => h.sub hsubJ).snoc ⟨⟨x, by rw [hu]; exact hx, rfl⟩, by rw [hu]; rfl, ?_⟩
                rw [hu]; simp only [mkW]; rw [pad_id hsl]; exact hB96.rd.sub fun c hc => List.mem_append_left _ hc
              · exact S.front6 (A := [(q, _)]) (by repeat (first | exact pk1 | apply zAa)) (B := Cd) (by repeat (first | exact pk1 | apply zAa)) (C := C109) (by repeat (first | exact pk1 | apply zAa)) (D := C96 ++ J') (by repeat (first | exact pk1 | apply zAa)) (F := dd1 y) (by repeat (first | exact pk1 | apply zAa)) (G := y.C) (by repeat (first | exact pk1 | apply zAa))
        · replace hb := Nrm.nrm hb
          refine wp_exit ?_
          refine zBb ?_; clear hK; clear K
          refine zBb ?_
          refine zCm ?_
          refine zAh hK ?_; clear hK; clear K
          refine wp_seq_k ?_; intro K hK
          refine zAc ?_
          refine zp E (zAg E rfl rfl) ?_; clear E a; intro a E
          refine wpList_nil ?_
          refine zAh hK ?_; clear hK; clear K
          refine wp_ret ?_
          refine ret1 E rfl rfl ?_
          obtain rfl : i = N := by omega
          rw [Nat.sub_self, wrN] at hrest
          obtain ⟨C', e1, e2, e3⟩ := done hrest.symm h2' h3' h4' S
          exact ⟨_, rfl, C', e1, e2, e3⟩
end Go.Proofs.YtidhehcjafoneaaGreatDoor
namespace Go.Sl
theorem zJn {ds : List Dk} {n : Nat} {x : Dk} (g : Dk → Dk) (hnd : (ds.map Dk.d).Nodup) (hx : ds[n]? = some x) : setD ds x.d g = ds.set n (g x) := by
  obtain ⟨A, B, rfl, rfl⟩ := zHh hx
  rw [zHu g hnd, set_mid]
end Go.Sl
namespace Go.Proofs.YtidhehcjafoneaaGreatDoor
open Go.Sl
set_option maxRecDepth 10000
theorem qwithout_ret (q : Nat) (s : Pw) (vd vw : Value) (Cd Cw J : zAs) (ds : List Dk) (ws : List Wt) (ys : List Dd) (us : List Dw) (hCd : Buf Cd 125 1 vd ys.length (ys.map fun y => ptr y.b)) (hCw : Buf Cw 166 3 vw us.length (us.flatMap Dw.lay))
    (hds : All2 (DdOk J) ds ys) (hws : All2 (DwOk J ds) ws us) (hok : DkOk ds) (hwo : WtOk ws ds) (hwsl : ws.length ≤ 244335861110) (n : Nat) (x : Dk) (hx : ds[n]? = some x) (y : Dd) (hy : ys[n]? = some y) (keep : Bool) (As : List zAs) (w0 : World) (H : Hp w0 ([(q, qcl s vd vw)] :: Cd :: Cw :: dd1 y :: y.C :: As)) :
    Ret Tryz.prog 84 #[ptr q, .int .i64 n, .bool keep] w0 fun _ w' => ∃ vw' Cw' us' vs' C', Buf Cw' 166 3 vw' us'.length (us'.flatMap Dw.lay) ∧ All2 (DwOk J ds) (outW x.d ws) us' ∧ Buf C' 22 1 y.vp vs'.length vs' ∧ vs'.length = y.vs.length ∧
      (∀ j v, vs'[j]? = some v → Rd J 1 v 128 (byt (secB (if keep then nowW x.d ws x.pl else x.pl) j))) ∧ Trs w0 w' ([(q, qcl s vd vw)] :: Cd :: Cw :: dd1 y :: y.C :: As) ([(q, qcl s vd vw')] :: Cd :: Cw' :: dd1 y :: C' :: As) := by
  have S := St.begin H
  obtain ⟨y1, y2, y3, y4⟩ := hds.2 n x y hx hy
  obtain ⟨add, cd, rfl⟩ := hCd.slice
  obtain ⟨adw, cw, rfl⟩ := hCw.slice
  obtain ⟨adp, cp, hvp⟩ := y2.slice
  have hn : n < ys.length := (List.getElem?_eq_some_iff.1 hy).1
  have hxm : x ∈ ds := List.mem_of_getElem? hx
  have hwl := hws.1
  obtain ⟨gd, rfl⟩ := hCd.addr (by omega)
  have hfit : ∀ w ∈ ws, w.d = x.d → 128 * w.at_ + 128 ≤ x.pl.length := fun w hw h => (hwo w hw).2 x hxm h.symm
  have hlen : ∀ j, (nowW x.d (ws.take j) x.pl).length = x.pl.length := fun j => zHx _ _ rfl fun w hw => hfit w (List.mem_of_mem_take hw)
  have hpt : (ys.map fun y => ptr y.b)[n]? = some (ptr y.b) := by rw [List.getElem?_map, hy]; rfl
  have hdd1 : dd1 y = [(y.b, cel [.slice adp y.vs.length cp, .bool y.f] 127)] := by show [(y.b, cel [y.vp, .bool y.f] _)] = _; rw [hvp]
  rw [hvp] at y2
  refine zEs 53 Tryz.func84 rfl rfl (by decide) ?_; intro a E
  refine wp_seq_k ?_; intro K hK
  refine zAc ?_
  refine zp E (zAg E rfl rfl) ?_; clear E a; intro a E
  refine wpList_nil ?_
  refine zAh hK ?_; clear hK; clear K
  iterate 2 (refine wp_seq_k ?_; intro K hK)
  refine zAc ?_
  refine zp E (zAg E rfl rfl) ?_; clear E a; intro a E
  refine wpList_nil ?_
  refine zAh hK ?_; clear hK; clear K
  refine wp_block ?_
  refine wp_loop_ghost (fun (m : Nat) (a : Act) (w' : World) => ∃ (i : Nat) (us' : List Dw) (vs' : List Value) (vo : Value) (Co C' : zAs), m = us.length - i ∧ i ≤ us.length ∧ Buf Co 166 3 vo us'.length (us'.flatMap Dw.lay) ∧ All2 (DwOk J ds) (outW x.d (ws.take i)) us' ∧ Buf C' 22 1 (.slice adp y.vs.length cp) y.vs.length vs' ∧ vs'.length = y.vs.length ∧
   (∀ j v, vs'[j]? = some v → Rd J 1 v 128 (byt (secB (if keep then nowW x.d (ws.take i) x.pl else x.pl) j))) ∧ St w0 ([(q, qcl s (.slice (some ⟨gd, 0, none⟩) ys.length cd) (.slice adw us.length cw))] :: Cd :: Cw :: dd1 y :: y.C :: As) w' ([(q, qcl s (.slice (some ⟨gd, 0, none⟩) ys.length cd) (.slice adw us.length cw))] :: Cd :: Co :: dd1 y :: C' :: Cw :: As) ∧ Fr a 53 [(0, ptr q), (1, .int .i64 n), (2, .bool keep), (6, vo), (7, .int .i64 i)]) (us.length - 0) ?_ ?_
  · exact ⟨0, [], y.vs, _, [], y.C, rfl, by omega, Buf.nil _ _, by simpa [outW] using All2.nil, y2, rfl, (fun j v hv => by have h := y4 j v hv; cases keep <;> exact h), S.addNil.front6 (A := [(q, _)]) (by repeat (first | exact pk1 | apply zAa)) (B := Cd) (by repeat (first | exact pk1 | apply zAa)) (C := []) (by repeat (first | exact pk1 | apply zAa)) (D := dd1 y) (by repeat (first | exact pk1 | apply zAa)) (F := y.C) (by repeat (first | exact pk1 | apply zAa)) (G := Cw) (by repeat (first | exact pk1 | apply zAa)), E.keep (zAb rfl (zAb rfl (zAb rfl (zAb rfl (zAb rfl zAp)))))⟩
  clear E; clear a; (try clear S); rintro m a w ⟨i, us', vs', vo, Co, C', rfl, hi, hCo, hout, hC', hvl, hvs, S, E⟩
  iterate 2 (refine wp_seq_k ?_; intro K hK)
  refine zAc ?_
  iterate 2 (refine zp E (zAe E rfl rfl) ?_; clear E a; intro a E)
  refine zp E (zAl E rfl rfl) ?_; clear E a; intro a E
  refine zp E (by first | exact zAf (q := 1) E rfl rfl rfl | exact zAi (q := 1) E rfl rfl rfl) ?_; clear E a; intro a E
  refine zp E (by first | exact zAn E rfl rfl rfl (S.get (by repeat (first | exact pk1 | apply zAa))) rfl | exact zAj E rfl rfl rfl (by assumption)) ?_; clear E a; intro a E
  refine zp E (by first | exact zCa E rfl rfl rfl | exact zBa E rfl rfl rfl | exact zAt E rfl rfl rfl) ?_; clear E a; intro a E
  refine zp E (zCb E rfl rfl rfl) ?_; clear E a; intro a E
  refine wpList_nil ?_
  refine zAh hK ?_; clear hK; clear K
  refine zBl E rfl (fun hb => ?_) (fun hb => ?_)
  · replace hb := Nrm.nrm hb
    refine wp_skip ?_
    refine zAh hK ?_; clear hK; clear K
    refine wp_seq_k ?_; intro K hK
    refine wp_block ?_
    refine wp_seq_k ?_; intro K hK
    have hiu : i < us.length := by omega
    obtain ⟨wt, u, h1, h2, ⟨z, hz, hzd⟩, h3, h4⟩ := hws.get (show i < ws.length by omega)
    obtain ⟨gw, rfl⟩ := hCw.addr (by omega)
    obtain ⟨hiu2, hu⟩ := List.getElem?_eq_some_iff.1 h2
    have hel := fun (w : World) (h : ∀ x ∈ Cw, w.heap[x.1]? = some x.2) => hCw.rd.elem (lay := Dw.lay) (w := w) Dw.lay_len h hiu
    rw [hu] at hel
    have hkn : u.k = n → wt.d = x.d := fun q => by rw [q] at hz; rw [← hzd]; rw [hz] at hx; cases hx; rfl
    have hnk : wt.d = x.d → u.k = n := fun q => idx_one hok.1 hz hx (hzd.trans q)
    have hwmem : wt ∈ ws := List.mem_of_getElem? h1
    obtain ⟨hiw, hwe⟩ := List.getElem?_eq_some_iff.1 h1
    have hst := outW_take x.d ws hiw
    rw [hwe] at hst
    have hnt := nowW_take x.d ws x.pl h1
    have hul := hout.1
    have hul2 := zIn x.d (ws.take i)
    rw [List.length_take] at hul2
    obtain ⟨ado, co, rfl⟩ := hCo.slice
    obtain ⟨adv, cv, huv⟩ := h4.slice
    have hlay : u.lay = [.int .i64 u.k, .int .i64 u.at_, .slice adv 128 cv] := by rw [← huv]; rfl
    refine zAc ?_
    refine zp E (zAe E rfl rfl) ?_; clear E a; intro a E
    refine zp E (zAl E rfl rfl) ?_; clear E a; intro a E
    refine zp E (by first | exact zAf (q := 1) E rfl rfl rfl | exact zAi (q := 1) E rfl rfl rfl) ?_; clear E a; intro a E
    refine zp E (by first | exact zAn E rfl rfl rfl (S.get (by repeat (first | exact pk1 | apply zAa))) rfl | exact zAj E rfl rfl rfl (by assumption)) ?_; clear E a; intro a E
    refine zp E (zAe E rfl rfl) ?_; clear E a; intro a E
    refine zp E (zBn (i := i) (s := 3) E rfl rfl rfl rfl rfl rfl (by omega)) ?_; clear E a; intro a E
    refine zp E (zDo (vs := [.int .i64 u.k, .int .i64 u.at_, .slice adv 128 cv]) E rfl rfl rfl rfl (by rw [← hlay]; exact hel _ (S.stab.at (by repeat (first | exact mm1 | assumption | apply List.Mem.tail))))) ?_; clear E a; intro a E
    refine zAo rfl (zCc E S rfl rfl (by decide) rfl rfl rfl ?_); clear E S a; intro a w b8 E S
    refine zAo rfl (zCg E S rfl rfl rfl rfl (by simp [Value.oneCell']) rfl (by repeat (first | exact pk1 | apply zAa)) (by simp) ?_); clear E S a; intro a w E S; simp only [List.take_succ_cons, List.take_zero, List.drop_succ_cons, List.drop_zero, List.cons_append, List.nil_append, List.append_nil, List.length_cons, List.length_nil, Nat.zero_add, Nat.add_zero] at S
    refine wpList_nil ?_
    refine zAh hK ?_; clear hK; clear K
    refine wp_seq_k ?_; intro K hK
    refine zAc ?_
    refine zp E (by first | exact zAf (q := 0) E rfl rfl rfl | exact zAi (q := 0) E rfl rfl rfl) ?_; clear E a; intro a E
    refine zp E (by first | exact zAn E rfl rfl rfl (S.get (by repeat (first | exact pk1 | apply zAa))) rfl | exact zAj E rfl rfl rfl (by assumption)) ?_; clear E a; intro a E
    refine zp E (zAe E rfl rfl) ?_; clear E a; intro a E
    refine zp E (by first | exact zCu E rfl rfl rfl | exact zAz E rfl rfl rfl rfl | exact zBj E rfl rfl rfl rfl | exact zBd E rfl rfl rfl) ?_; clear E a; intro a E
    refine wpList_nil ?_
    refine zAh hK ?_; clear hK; clear K
    refine zBl E rfl (fun hb => ?_) (fun hb => ?_)
    · replace hb := Nrm.nrm hb
      have hne : u.k ≠ n := (by omega)
      refine zAc ?_
      refine zp E (zAe E rfl rfl) ?_; clear E a; intro a E
      refine zp E (zBw (vs := [_, _, _]) E rfl rfl rfl (S.get (show List.Perm _ ([(b8, _)] :: _) from (by repeat (first | exact pk1 | apply zAa)))) rfl rfl) ?_; clear E a; intro a E
      refine zAo rfl (zCk (cells := [_, _, _]) E S rfl rfl (by decide) rfl rfl rfl rfl rfl (by decide) rfl ?_); clear E S a; intro a w b31 E S
      refine zAo rfl (zCi (by' := 40) E S rfl rfl (by decide) rfl rfl hCo (by repeat (first | exact pk1 | apply zAa)) ((zCr (g := b31) (T := 166) (xs := [.int .i64 u.k, .int .i64 u.at_, .slice adv 128 cv]) (s := 3) (m := 1) rfl (by intro w hw; simp at hw; rcases hw with rfl | rfl | rfl <;> rfl) (by omega) 1).src (S.stab.at (by repeat (first | exact mm1 | assumption | apply List.Mem.tail))) rfl) rfl rfl rfl rfl rfl rfl (by simp only [maxLen]; omega) (by omega) ?_); clear E S a; intro a w v32 C32 E S hB32
      refine zp E (zAg E rfl rfl) ?_; clear E a; intro a E
      refine wpList_nil ?_
      refine zBf ?_
      refine zAh hK ?_; clear hK; clear K
      refine zAc ?_
      refine zp E (zAe E rfl rfl) ?_; clear E a; intro a E
      refine zp E (zBu E rfl rfl rfl (by first | exact zCj (y := 1) (by omega) | exact w_in (by omega) | exact zBy (by omega) | exact rfl)) ?_; clear E a; intro a E
      refine zp E (zAg E rfl rfl) ?_; clear E a; intro a E
      refine wpList_nil ?_
      refine zBe ?_
      first
      | (have S := ((S.del (A := [(b31, _)]) (by repeat (first | exact pk1 | apply zAa))).del (A := [(b8, _)]) (by repeat (first | exact pk1 | apply zAa))).front6 (A := [(q, _)]) (by repeat (first | exact pk1 | apply zAa)) (B := Cd) (by repeat (first | exact pk1 | apply zAa)) (C := C32) (by repeat (first | exact pk1 | apply zAa)) (D := dd1 y) (by repeat (first | exact pk1 | apply zAa)) (F := C') (by repeat (first | exact pk1 | apply zAa)) (G := Cw) (by repeat (first | exact pk1 | apply zAa))
         have hdn : wt.d ≠ x.d := fun q => hne (hnk q)
         rw [if_pos hdn] at hst
         rw [if_neg hdn] at hnt
         exact ⟨_, by omega, i + 1, us' ++ [u], vs', _, C32, C', rfl, by omega, by rw [List.length_append, List.length_singleton, List.flatMap_append, List.flatMap_singleton, hlay]; exact hB32, by rw [hst]; exact hout.snoc ⟨⟨z, hz, hzd⟩, h3, h4⟩, hC', hvl, (by rw [hnt]; exact hvs), S, E.keep (zAb rfl (zAb rfl (zAb rfl (zAb rfl (zAb rfl zAp)))))⟩)
      | (have hdn : wt.d = x.d := hkn heq
         rw [if_neg (fun q => q hdn), List.append_nil] at hst
         rw [if_pos hdn] at hnt
         have hkt : keep = true := by simpa using hb
         subst hkt
         have S := (S.del (A := [(b8, _)]) (by repeat (first | exact pk1 | apply zAa))).front6 (A := [(q, _)]) (by repeat (first | exact pk1 | apply zAa)) (B := Cd) (by repeat (first | exact pk1 | apply zAa)) (C := Co) (by repeat (first | exact pk1 | apply zAa)) (D := [(y.b, cel [.slice (some ⟨gp, 0, none⟩) y.vs.length cp, .bool y.f] 127)]) (by repeat (first | exact pk1 | apply zAa)) (F := Cs15) (by repeat (first | exact pk1 | apply zAa)) (G := Cw) (by repeat (first | exact pk1 | apply zAa))
         rw [← hdd1] at S
         refine ⟨_, by omega, i + 1, us', vs'.set u.at_ (.slice adv 128 cv), _, Co, Cs15, rfl, by omega, hCo, by rw [hst]; exact hout, hBs15, by rw [List.length_set]; exact hvl, ?_, S, E.keep (zAb rfl (zAb rfl (zAb rfl (zAb rfl (zAb rfl zAp)))))⟩
         intro j v hv
         rw [if_pos rfl, hnt, putS]
         rw [List.getElem?_set] at hv
         split at hv
         · rename_i hj
           subst hj
           split at hv
           · cases hv; rw [← h3, zKc (by rw [hlen]; omega) wt.hb, ← huv]; exact h4
           · cases hv
         · rename_i hj
           rw [zHa (by rw [hlen]; omega) wt.hb (by omega)]
           have := hvs j v hv
           rw [if_pos rfl] at this; exact this)
      | (have hdn : wt.d = x.d := hkn heq
         rw [if_neg (fun q => q hdn), List.append_nil] at hst
         have hkf : keep = false := by simpa using hb
         subst hkf
         have S := (S.del (A := [(b8, _)]) (by repeat (first | exact pk1 | apply zAa))).front6 (A := [(q, _)]) (by repeat (first | exact pk1 | apply zAa)) (B := Cd) (by repeat (first | exact pk1 | apply zAa)) (C := Co) (by repeat (first | exact pk1 | apply zAa)) (D := dd1 y) (by repeat (first | exact pk1 | apply zAa)) (F := C') (by repeat (first | exact pk1 | apply zAa)) (G := Cw) (by repeat (first | exact pk1 | apply zAa))
         exact ⟨_, by omega, i + 1, us', vs', _, Co, C', rfl, by omega, hCo, by rw [hst]; exact hout, hC', hvl, hvs, S, E.keep (zAb rfl (zAb rfl (zAb rfl (zAb rfl (zAb rfl zAp)))))⟩)
    · replace hb := Nrm.nrm hb
      have heq : u.k = n := (by omega)
      refine wp_seq_k ?_; intro K hK
      refine zAc ?_
      refine zp E (zAe E rfl rfl) ?_; clear E a; intro a E
      refine wpList_nil ?_
      refine zAh hK ?_; clear hK; clear K
      refine zBl E rfl (fun hb => ?_) (fun hb => ?_)
      · replace hb := Nrm.nrm hb
        obtain ⟨gp, rfl⟩ := hC'.addr (by have := hfit wt hwmem (hkn heq); omega)
        have hfw := hfit wt hwmem (hkn heq)
        rw [hdd1] at S
        refine zBo S (.ofL [(0, 0), (1, 0), (2, 0), (3, 0), (4, 0), (5, 0), (6, 0), (7, 0), (8, 0), (9, 0), (10, 0), (11, 0), (12, 0), (13, 0), (14, 0), (15, 3)]) (by kernel_rfl) (by kernel_rfl) ?_
        clear S; intro w S
        refine zm E rfl (fun w h => zAe E rfl rfl) ?_; clear E a; intro a E
        refine zm E rfl (fun w h => zAl E rfl rfl) ?_; clear E a; intro a E
        refine zm E rfl (fun w h => by first | exact zAf (q := 0) E rfl rfl rfl | exact zAi (q := 0) E rfl rfl rfl) ?_; clear E a; intro a E
        refine zm E rfl (fun w h => by first | exact zAn E rfl rfl rfl (h.one (by repeat (first | exact mm1 | assumption | apply List.Mem.tail))) rfl | exact zAj E rfl rfl rfl (by assumption)) ?_; clear E a; intro a E
        refine zm E rfl (fun w h => zAe E rfl rfl) ?_; clear E a; intro a E
        refine zm E rfl (fun w h => zBk (i := n) E rfl rfl rfl rfl rfl rfl (by omega)) ?_; clear E a; intro a E
        refine zm E rfl (fun w h => zAj E rfl rfl rfl (hCd.rd.cells (h.at (by repeat (first | exact mm1 | assumption | apply List.Mem.tail))) rfl n _ hpt)) ?_; clear E a; intro a E
        refine zm E rfl (fun w h => zAl E rfl rfl) ?_; clear E a; intro a E
        refine zm E rfl (fun w h => by first | exact zAf (q := 0) E rfl rfl rfl | exact zAi (q := 0) E rfl rfl rfl) ?_; clear E a; intro a E
        refine zm E rfl (fun w h => by first | exact zAn E rfl rfl rfl (h.one (by repeat (first | exact mm1 | assumption | apply List.Mem.tail))) rfl | exact zAj E rfl rfl rfl (by assumption)) ?_; clear E a; intro a E
        refine zm E rfl (fun w h => by first | exact zAf (q := 1) E rfl rfl rfl | exact zAi (q := 1) E rfl rfl rfl) ?_; clear E a; intro a E
        refine zm E rfl (fun w h => by first | exact zAn E rfl rfl rfl (h.one (by repeat (first | exact mm1 | assumption | apply List.Mem.tail))) rfl | exact zAj E rfl rfl rfl (by assumption)) ?_; clear E a; intro a E
        refine zm E rfl (fun w h => by first | exact zAf (q := 2) E rfl rfl rfl | exact zAi (q := 2) E rfl rfl rfl) ?_; clear E a; intro a E
        refine zm E rfl (fun w h => by first | exact zAn E rfl rfl rfl (h.one (by repeat (first | exact mm1 | assumption | apply List.Mem.tail))) rfl | exact zAj E rfl rfl rfl (by assumption)) ?_; clear E a; intro a E
        refine zm E rfl (fun w h => rn_is00 (i := u.at_) E rfl rfl rfl rfl rfl rfl (by omega)) ?_; clear E a; intro a E
        refine zCq rfl rfl (wp_elem1 E S rfl rfl rfl rfl rfl rfl hC' (by repeat (first | exact pk1 | apply zAa)) (i := u.at_) (by omega) rfl ?_); clear E S a; intro a w Cs15 E hBs15 S
        refine zBs ?_
        refine zBf ?_
        refine zAh hK ?_; clear hK; clear K
        refine zAc ?_
        refine zp E (zAe E rfl rfl) ?_; clear E a; intro a E
        refine zp E (zBu E rfl rfl rfl (by first | exact zCj (y := 1) (by omega) | exact w_in (by omega) | exact zBy (by omega) | exact rfl)) ?_; clear E a; intro a E
        refine zp E (zAg E rfl rfl) ?_; clear E a; intro a E
        refine wpList_nil ?_
        refine zBe ?_
        first
        | (have S := ((S.del (A := [(b31, _)]) (by repeat (first | exact pk1 | apply zAa))).del (A := [(b8, _)]) (by repeat (first | exact pk1 | apply zAa))).front6 (A := [(q, _)]) (by repeat (first | exact pk1 | apply zAa)) (B := Cd) (by repeat (first | exact pk1 | apply zAa)) (C := C32) (by repeat (first | exact pk1 | apply zAa)) (D := dd1 y) (by repeat (first | exact pk1 | apply zAa)) (F := C') (by repeat (first | exact pk1 | apply zAa)) (G := Cw) (by repeat (first | exact pk1 | apply zAa))
           have hdn : wt.d ≠ x.d := fun q => hne (hnk q)
           rw [if_pos hdn] at hst
           rw [if_neg hdn] at hnt
           exact ⟨_, by omega, i + 1, us' ++ [u], vs', _, C32, C', rfl, by omega, by rw [List.length_append, List.length_singleton, List.flatMap_append, List.flatMap_singleton, hlay]; exact hB32, by rw [hst]; exact hout.snoc ⟨⟨z, hz, hzd⟩, h3, h4⟩, hC', hvl, (by rw [hnt]; exact hvs), S, E.keep (zAb rfl (zAb rfl (zAb rfl (zAb rfl (zAb rfl zAp)))))⟩)
        | (have hdn : wt.d = x.d := hkn heq
           rw [if_neg (fun q => q hdn), List.append_nil] at hst
           rw [if_pos hdn] at hnt
           have hkt : keep = true := by simpa using hb
           subst hkt
           have S := (S.del (A := [(b8, _)]) (by repeat (first | exact pk1 | apply zAa))).front6 (A := [(q, _)]) (by repeat (first | exact pk1 | apply zAa)) (B := Cd) (by repeat (first | exact pk1 | apply zAa)) (C := Co) (by repeat (first | exact pk1 | apply zAa)) (D := [(y.b, cel [.slice (some ⟨gp, 0, none⟩) y.vs.length cp, .bool y.f] 127)]) (by repeat (first | exact pk1 | apply zAa)) (F := Cs15) (by repeat (first | exact pk1 | apply zAa)) (G := Cw) (by repeat (first | exact pk1 | apply zAa))
           rw [← hdd1] at S
           refine ⟨_, by omega, i + 1, us', vs'.set u.at_ (.slice adv 128 cv), _, Co, Cs15, rfl, by omega, hCo, by rw [hst]; exact hout, hBs15, by rw [List.length_set]; exact hvl, ?_, S, E.keep (zAb rfl (zAb rfl (zAb rfl (zAb rfl (zAb rfl zAp)))))⟩
           intro j v hv
           rw [if_pos rfl, hnt, putS]
           rw [List.getElem?_set] at hv
           split at hv
           · rename_i hj
             subst hj
             split at hv
             · cases hv; rw [← h3, zKc (by rw [hlen]; omega) wt.hb, ← huv]; exact h4
             · cases hv
           · rename_i hj
             rw [zHa (by rw [hlen]; omega) wt.hb (by omega)]
             have := hvs j v hv
             rw [if_pos rfl] at this; exact this)
        | (have hdn : wt.d = x.d := hkn heq
           rw [if_neg (fun q => q hdn), List.append_nil] at hst
           have hkf : keep = false := by simpa using hb
           subst hkf
           have S := (S.del (A := [(b8, _)]) (by repeat (first | exact pk1 | apply zAa))).front6 (A := [(q, _)]) (by repeat (first | exact pk1 | apply zAa)) (B := Cd) (by repeat (first | exact pk1 | apply zAa)) (C := Co) (by repeat (first | exact pk1 | apply zAa)) (D := dd1 y) (by repeat (first | exact pk1 | apply zAa)) (F := C') (by repeat (first | exact pk1 | apply zAa)) (G := Cw) (by repeat (first | exact pk1 | apply zAa))
           exact ⟨_, by omega, i + 1, us', vs', _, Co, C', rfl, by omega, hCo, by rw [hst]; exact hout, hC', hvl, hvs, S, E.keep (zAb rfl (zAb rfl (zAb rfl (zAb rfl (zAb rfl zAp)))))⟩)
      · replace hb := Nrm.nrm hb
        refine wp_skip ?_
        refine zBf ?_
        refine zAh hK ?_; clear hK; clear K
        refine zAc ?_
        refine zp E (zAe E rfl rfl) ?_; clear E a; intro a E
        refine zp E (zBu E rfl rfl rfl (by first | exact zCj (y := 1) (by omega) | exact w_in (by omega) | exact zBy (by omega) | exact rfl)) ?_; clear E a; intro a E
        refine zp E (zAg E rfl rfl) ?_; clear E a; intro a E
        refine wpList_nil ?_
        refine zBe ?_
        first
        | (have S := ((S.del (A := [(b31, _)]) (by repeat (first | exact pk1 | apply zAa))).del (A := [(b8, _)]) (by repeat (first | exact pk1 | apply zAa))).front6 (A := [(q, _)]) (by repeat (first | exact pk1 | apply zAa)) (B := Cd) (by repeat (first | exact pk1 | apply zAa)) (C := C32) (by repeat (first | exact pk1 | apply zAa)) (D := dd1 y) (by repeat (first | exact pk1 | apply zAa)) (F := C') (by repeat (first | exact pk1 | apply zAa)) (G := Cw) (by repeat (first | exact pk1 | apply zAa))
           have hdn : wt.d ≠ x.d := fun q => hne (hnk q)
           rw [if_pos hdn] at hst
           rw [if_neg hdn] at hnt
           exact ⟨_, by omega, i + 1, us' ++ [u], vs', _, C32, C', rfl, by omega, by rw [List.length_append, List.length_singleton, List.flatMap_append, List.flatMap_singleton, hlay]; exact hB32, by rw [hst]; exact hout.snoc ⟨⟨z, hz, hzd⟩, h3, h4⟩, hC', hvl, (by rw [hnt]; exact hvs), S, E.keep (zAb rfl (zAb rfl (zAb rfl (zAb rfl (zAb rfl zAp)))))⟩)
        | (have hdn : wt.d = x.d := hkn heq
           rw [if_neg (fun q => q hdn), List.append_nil] at hst
           rw [if_pos hdn] at hnt
           have hkt : keep = true := by simpa using hb
           subst hkt
           have S := (S.del (A := [(b8, _)]) (by repeat (first | exact pk1 | apply zAa))).front6 (A := [(q, _)]) (by repeat (first | exact pk1 | apply zAa)) (B := Cd) (by repeat (first | exact pk1 | apply zAa)) (C := Co) (by repeat (first | exact pk1 | apply zAa)) (D := [(y.b, cel [.slice (some ⟨gp, 0, none⟩) y.vs.length cp, .bool y.f] 127)]) (by repeat (first | exact pk1 | apply zAa)) (F := Cs15) (by repeat (first | exact pk1 | apply zAa)) (G := Cw) (by repeat (first | exact pk1 | apply zAa))
           rw [← hdd1] at S
           refine ⟨_, by omega, i + 1, us', vs'.set u.at_ (.slice adv 128 cv), _, Co, Cs15, rfl, by omega, hCo, by rw [hst]; exact hout, hBs15, by rw [List.length_set]; exact hvl, ?_, S, E.keep (zAb rfl (zAb rfl (zAb rfl (zAb rfl (zAb rfl zAp)))))⟩
           intro j v hv
           rw [if_pos rfl, hnt, putS]
           rw [List.getElem?_set] at hv
           split at hv
           · rename_i hj
             subst hj
             split at hv
             · cases hv; rw [← h3, zKc (by rw [hlen]; omega) wt.hb, ← huv]; exact h4
             · cases hv
           · rename_i hj
             rw [zHa (by rw [hlen]; omega) wt.hb (by omega)]
             have := hvs j v hv
             rw [if_pos rfl] at this; exact this)
        | (have hdn : wt.d = x.d := hkn heq
           rw [if_neg (fun q => q hdn), List.append_nil] at hst
           have hkf : keep = false := by simpa using hb
           subst hkf
           have S := (S.del (A := [(b8, _)]) (by repeat (first | exact pk1 | apply zAa))).front6 (A := [(q, _)]) (by repeat (first | exact pk1 | apply zAa)) (B := Cd) (by repeat (first | exact pk1 | apply zAa)) (C := Co) (by repeat (first | exact pk1 | apply zAa)) (D := dd1 y) (by repeat (first | exact pk1 | apply zAa)) (F := C') (by repeat (first | exact pk1 | apply zAa)) (G := Cw) (by repeat (first | exact pk1 | apply zAa))
           exact ⟨_, by omega, i + 1, us', vs', _, Co, C', rfl, by omega, hCo, by rw [hst]; exact hout, hC', hvl, hvs, S, E.keep (zAb rfl (zAb rfl (zAb rfl (zAb rfl (zAb rfl zAp)))))⟩)
  · replace hb := Nrm.nrm hb
    refine wp_exit ?_
    refine zBb ?_; clear hK; clear K
    refine zBb ?_
    refine zCm ?_
    refine zAh hK ?_; clear hK; clear K
    obtain ⟨ado, co, rfl⟩ := hCo.slice
    refine zAc ?_
    iterate 2 (refine zp E (zAe E rfl rfl) ?_; clear E a; intro a E)
    refine zp E (zAl E rfl rfl) ?_; clear E a; intro a E
    refine zp E (by first | exact zAf (q := 1) E rfl rfl rfl | exact zAi (q := 1) E rfl rfl rfl) ?_; clear E a; intro a E
    refine zAo rfl (zBg E S rfl rfl rfl rfl rfl rfl (by repeat (first | exact pk1 | apply zAa)) (by first | exact Nat.le_of_ble_eq_true rfl | (simp; done) | (simp; omega)) ?_); clear E S a; intro a w E S; try dsimp only [List.set] at S
    refine wpList_nil ?_
    refine end0 E rfl ?_
    obtain rfl : i = us.length := by omega
    rw [← hwl, List.take_length] at hout hvs
    refine ⟨_, rfl, _, Co, us', vs', C', hCo, hout, by rw [hvp, hvl]; exact hC', hvl, hvs, (S.del (A := Cw) (by repeat (first | exact pk1 | apply zAa))).tr⟩
end Go.Proofs.YtidhehcjafoneaaGreatDoor
