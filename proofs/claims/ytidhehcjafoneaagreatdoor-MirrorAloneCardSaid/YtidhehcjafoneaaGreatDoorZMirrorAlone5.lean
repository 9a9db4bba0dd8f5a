/-
  Texts put together (5).
-/
import Derived.Test.YtidhehcjafoneaaGreatDoorZMirrorAlone4
namespace Go.Proofs.YtidhehcjafoneaaGreatDoor
open Go.Sl
set_option maxRecDepth 10000
section
variable (p d P : Nat) (R : Rk) (C L : zAs) (hC : RkC P R C) (hd : R.has d) (hL : LfC p d L)
include hC hd hL
theorem asked_ret (w0 : World) (H : Hp w0 [C, L]) : Ret Tryz.prog 42 #[ptr p] w0 fun u w' => u = .int .i64 (zJg R (dkOf R d)) ∧ Trs w0 w' [C, L] [C, L] := by
  obtain ⟨u1, u2, u3, u4, r, q, s, rfl⟩ := hL
  obtain ⟨hx, hxd⟩ := zDb hd
  obtain ⟨x, hxe⟩ : ∃ x, x = dkOf R d := ⟨_, rfl⟩
  rw [← hxe] at hx hxd ⊢
  subst hxd
  have S := St.begin H
  refine zDc 14 Tryz.func42 rfl rfl (by decide) ?_; intro a E
  refine wp_seq_k ?_; intro K hK
  refine zAc ?_
  refine zp E (zAg E rfl rfl) ?_; clear E a; intro a E
  refine wpList_nil ?_
  refine zAh hK ?_; clear hK; clear K
  refine wp_seq_k ?_; intro K hK
  refine zAc ?_
  refine zp E (zAe E rfl rfl) ?_; clear E a; intro a E
  refine zp E (zAl E rfl rfl) ?_; clear E a; intro a E
  refine zp E (by first | exact zAf (q := 0) E rfl rfl rfl | exact zAi (q := 0) E rfl rfl rfl) ?_; clear E a; intro a E
  refine zp E (by first | exact zAn E rfl rfl rfl (S.get (by repeat (first | exact pk1 | apply zAa))) rfl | exact zAj E rfl rfl rfl (by assumption)) ?_; clear E a; intro a E
  refine zAr E rfl rfl (by decide) rfl Tryz.func45 rfl (by kernel_rfl) rfl (rk_read P R C hC x hx 0 0 (by omega) _ (S.hp.sel (zAd (by repeat (first | exact pk1 | apply zAa)) (zAk _)))) ?_
  rintro v10 w ⟨v, Cb, rfl, hCb, hT⟩; clear E a; intro a E
  have S := (S.call2 (zAd (by repeat (first | exact pk1 | apply zAa)) (zAk _)) hT).tail; rw [rdS_ask] at E
  refine zp E (zAe E rfl rfl) ?_; clear E a; intro a E
  iterate 2 (refine zp E (zBx E rfl rfl rfl) ?_; clear E a; intro a E)
  iterate 2 (refine zp E (zAg E rfl rfl) ?_; clear E a; intro a E)
  refine wpList_nil ?_
  refine zAh hK ?_; clear hK; clear K
  refine wp_seq_k ?_; intro K hK
  refine zAc ?_
  refine zp E (zAe E rfl rfl) ?_; clear E a; intro a E
  refine zp E (zAg E rfl rfl) ?_; clear E a; intro a E
  refine wpList_nil ?_
  refine zAh hK ?_; clear hK; clear K
  refine wp_ret ?_
  refine ret1 E rfl rfl ?_
  exact ⟨_, rfl, rfl, S.tr⟩
theorem lread_ret (at_ many : Int) (ha : -9223372036854775808 ≤ at_ ∧ at_ ≤ 9223372036854775807) (w0 : World) (H : Hp w0 [C, L]) :
    Ret Tryz.prog 11 #[ptr p, .int .i64 at_, .int .i64 many] w0 fun u w' => ∃ v Cb L', u = .tuple #[v, .int .i64 (zFy R (dkOf R d) at_ many).1] ∧ Buf Cb 5 1 v (zFy R (dkOf R d) at_ many).2.length (byt (zFy R (dkOf R d) at_ many).2) ∧ LfC p d L' ∧ Trs w0 w' [C, L] [Cb, C, L'] := by
  have hL0 := hL
  obtain ⟨u1, u2, u3, u4, r, q, s, rfl⟩ := hL
  obtain ⟨hx, hxd⟩ := zDb hd
  obtain ⟨x, hxe⟩ : ∃ x, x = dkOf R d := ⟨_, rfl⟩
  rw [← hxe] at hx hxd ⊢
  subst hxd
  have hsz : zEl x ≤ 8192 := by have := (hC.ok.1.2 _ hx).2; unfold zEl; omega
  have S := St.begin H
  refine zEs 33 Tryz.func11 rfl rfl (by decide) ?_; intro a E
  refine wp_seq_k ?_; intro K hK
  refine zAc ?_
  iterate 2 (refine zp E (zAg E rfl rfl) ?_; clear E a; intro a E)
  refine wpList_nil ?_
  refine zAh hK ?_; clear hK; clear K
  iterate 2 (refine wp_seq_k ?_; intro K hK)
  refine zAc ?_
  refine zp E (zAe E rfl rfl) ?_; clear E a; intro a E
  refine zAr E rfl rfl (by decide) rfl Tryz.func42 rfl (by kernel_rfl) rfl (asked_ret p x.d P R C _ hC hd hL0 _ (S.hp.sel (zAd (by repeat (first | exact pk1 | apply zAa)) (zAd (by repeat (first | exact pk1 | apply zAa)) (zAk _))))) ?_
  rintro v10 w ⟨rfl, hT⟩; clear E a; intro a E
  have S := S.call2 (zAd (by repeat (first | exact pk1 | apply zAa)) (zAd (by repeat (first | exact pk1 | apply zAa)) (zAk _))) hT; rw [← hxe] at E
  refine zp E (zAg E rfl rfl) ?_; clear E a; intro a E
  refine wpList_nil ?_
  refine zAh hK ?_; clear hK; clear K
  refine wp_seq_k ?_; intro K hK
  refine zAc ?_
  refine zp E (zAe E rfl rfl) ?_; clear E a; intro a E
  refine zp E (by first | exact zCu E rfl rfl rfl | exact zAz E rfl rfl rfl rfl | exact zBj E rfl rfl rfl rfl | exact zBd E rfl rfl rfl) ?_; clear E a; intro a E
  refine wpList_nil ?_
  refine zAh hK ?_; clear hK; clear K
  refine zBl E rfl (fun hb => ?_) (fun hb => ?_)
  · replace hb := Nrm.nrm hb
    skip
    refine wp_seq_k ?_; intro K hK
    refine zAc ?_
    iterate 2 (refine zp E (zAe E rfl rfl) ?_; clear E a; intro a E)
    refine zp E (zAl E rfl rfl) ?_; clear E a; intro a E
    refine zp E (by first | exact zAf (q := 5) E rfl rfl rfl | exact zAi (q := 5) E rfl rfl rfl) ?_; clear E a; intro a E
    refine zAr E rfl rfl (by decide) rfl Tryz.func43 rfl (by kernel_rfl) rfl (zHv p 5 _ _ r _ rfl _ (S.hp.sel (zAd (by repeat (first | exact pk1 | apply zAa)) (zAk _)))) ?_
    rintro v17 w ⟨rfl, z', hT⟩; clear E a; intro a E
    have S := S.call1 (zAd (by repeat (first | exact pk1 | apply zAa)) (zAk _)) hT
    iterate 2 (refine zp E (zAg E rfl rfl) ?_; clear E a; intro a E)
    refine wpList_nil ?_
    refine zAh hK ?_; clear hK; clear K
    refine wp_ret ?_
    refine zBi ?_; clear hK; clear K
    refine ret2 E rfl rfl rfl ?_
    have hE : zFy R x at_ many = (zJg R x, []) := by unfold zFy; rw [if_pos hb]
    rw [hE]
    exact ⟨_, rfl, _, [], _, rfl, Buf.nil _ _, ⟨u1, u2, u3, u4, z', q, s, rfl⟩, (S.addNil.front3 (A := []) (by repeat (first | exact pk1 | apply zAa)) (B := C) (by repeat (first | exact pk1 | apply zAa)) (C := [(p, _)]) (by repeat (first | exact pk1 | apply zAa))).tr⟩
  · replace hb := Nrm.nrm hb
    have hbn' := hb
    refine wp_skip ?_
    refine zAh hK ?_; clear hK; clear K
    iterate 2 (refine wp_seq_k ?_; intro K hK)
    refine zAc ?_
    iterate 3 (refine zp E (zAe E rfl rfl) ?_; clear E a; intro a E)
    refine zAr E rfl rfl (by decide) rfl Tryz.func44 rfl (by kernel_rfl) rfl (lhas_ret p x.d P R C _ hC hd hL0 at_ many ha _ (S.hp.sel (zAd (by repeat (first | exact pk1 | apply zAa)) (zAd (by repeat (first | exact pk1 | apply zAa)) (zAk _))))) ?_
    rintro v21 w ⟨rfl, hT⟩; clear E a; intro a E
    have S := S.call2 (zAd (by repeat (first | exact pk1 | apply zAa)) (zAd (by repeat (first | exact pk1 | apply zAa)) (zAk _))) hT; rw [← hxe] at E
    refine zp E (zEg E rfl rfl) ?_; clear E a; intro a E
    refine wpList_nil ?_
    refine zAh hK ?_; clear hK; clear K
    refine zBl E rfl (fun hb => ?_) (fun hb => ?_)
    · replace hb := Nrm.nrm hb
      refine wp_seq_k ?_; intro K hK
      refine zAc ?_
      iterate 2 (refine zp E (zAg E rfl rfl) ?_; clear E a; intro a E)
      refine wpList_nil ?_
      refine zAh hK ?_; clear hK; clear K
      refine wp_ret ?_
      refine zBi ?_; clear hK; clear K
      refine ret2 E rfl rfl rfl ?_
      have hE : zFy R x at_ many = (1, []) := by unfold zFy; rw [if_neg (fun q => q hbn'), if_pos (by simpa using hb)]
      rw [hE]
      exact ⟨_, rfl, _, [], _, rfl, Buf.nil _ _, hL0, (S.addNil.front3 (A := []) (by repeat (first | exact pk1 | apply zAa)) (B := C) (by repeat (first | exact pk1 | apply zAa)) (C := [(p, _)]) (by repeat (first | exact pk1 | apply zAa))).tr⟩
    · replace hb := Nrm.nrm hb
      refine wp_skip ?_
      refine zAh hK ?_; clear hK; clear K
      refine wp_seq_k ?_; intro K hK
      have hyes : zIr x at_ many := by simpa using hb
      have hE : zFy R x at_ many = rdS R.pw x.failed x.now (274 + at_) many := by unfold zFy; rw [if_neg (fun q => q hbn'), if_neg (fun q => q hyes)]
      obtain ⟨y1, y2, y3, y4⟩ := hyes
      refine zAc ?_
      refine zp E (zAe E rfl rfl) ?_; clear E a; intro a E
      refine zp E (zAl E rfl rfl) ?_; clear E a; intro a E
      refine zp E (by first | exact zAf (q := 0) E rfl rfl rfl | exact zAi (q := 0) E rfl rfl rfl) ?_; clear E a; intro a E
      refine zp E (by first | exact zAn E rfl rfl rfl (S.get (by repeat (first | exact pk1 | apply zAa))) rfl | exact zAj E rfl rfl rfl (by assumption)) ?_; clear E a; intro a E
      refine zp E (zAe E rfl rfl) ?_; clear E a; intro a E
      refine zp E (zBu E rfl rfl rfl (w_in (by omega))) ?_; clear E a; intro a E
      refine zp E (zAe E rfl rfl) ?_; clear E a; intro a E
      refine zAr E rfl rfl (by decide) rfl Tryz.func45 rfl (by kernel_rfl) rfl (rk_read P R C hC x hx (274 + at_) many (by omega) _ (S.hp.sel (zAd (by repeat (first | exact pk1 | apply zAa)) (zAk _)))) ?_
      rintro v30 w ⟨v, Cb, rfl, hCb, hT⟩; clear E a; intro a E
      have S := S.call2 (zAd (by repeat (first | exact pk1 | apply zAa)) (zAk _)) hT
      iterate 2 (refine zp E (zBx E rfl rfl rfl) ?_; clear E a; intro a E)
      iterate 2 (refine zp E (zAg E rfl rfl) ?_; clear E a; intro a E)
      refine wpList_nil ?_
      refine zAh hK ?_; clear hK; clear K
      refine wp_ret ?_
      refine ret2 E rfl rfl rfl ?_
      rw [hE]; exact ⟨_, rfl, v, Cb, _, rfl, hCb, hL0, (S.front3 (A := Cb) (by repeat (first | exact pk1 | apply zAa)) (B := C) (by repeat (first | exact pk1 | apply zAa)) (C := [(p, _)]) (by repeat (first | exact pk1 | apply zAa))).tr⟩
theorem lwrite_ret (hws : R.ws.length + 8192 ≤ 244335861110) (hwr : R.pw.wr ≤ 1000000000000000000) (hlf : R.pw.left ≤ 9223372036854775807)
    (at_ : Int) (ha : -9223372036854775808 ≤ at_ ∧ at_ ≤ 9223372036854775807) (v : Value) (b : List UInt8) (D : zAs) (hD : Rd D 1 v b.length (byt b)) (hcap : ∃ ad c, v = .slice ad b.length c ∧ b.length ≤ c) (w0 : World) (H : Hp w0 [C, L, D]) :
    Ret Tryz.prog 35 #[ptr p, .int .i64 at_, v] w0 fun u w' => u = .int .i64 (zDw R (dkOf R d) at_ b).2 ∧ ∃ C' L', RkC P (zDw R (dkOf R d) at_ b).1 C' ∧ LfC p d L' ∧ Trs w0 w' [C, L, D] [C', L', D] := by
  have hL0 := hL
  obtain ⟨u1, u2, u3, u4, r, q, s, rfl⟩ := hL
  obtain ⟨hx, hxd⟩ := zDb hd
  obtain ⟨x, hxe⟩ : ∃ x, x = dkOf R d := ⟨_, rfl⟩
  rw [← hxe] at hx hxd ⊢
  subst hxd
  have hsz : zEl x ≤ 8192 := by have := (hC.ok.1.2 _ hx).2; unfold zEl; omega
  have hbm := hD.2.2.1
  simp only [maxLen] at hbm
  obtain ⟨ad, c, rfl, hcl⟩ := hcap
  have S := St.begin H
  refine zEs 38 Tryz.func35 rfl rfl (by decide) ?_; intro a E
  refine wp_seq_k ?_; intro K hK
  refine zAc ?_
  refine zp E (zAg E rfl rfl) ?_; clear E a; intro a E
  refine wpList_nil ?_
  refine zAh hK ?_; clear hK; clear K
  iterate 2 (refine wp_seq_k ?_; intro K hK)
  refine zAc ?_
  refine zp E (zAe E rfl rfl) ?_; clear E a; intro a E
  refine zAr E rfl rfl (by decide) rfl Tryz.func42 rfl (by kernel_rfl) rfl (asked_ret p x.d P R C _ hC hd hL0 _ (S.hp.sel (zAd (by repeat (first | exact pk1 | apply zAa)) (zAd (by repeat (first | exact pk1 | apply zAa)) (zAk _))))) ?_
  rintro v9 w ⟨rfl, hT⟩; clear E a; intro a E
  have S := S.call2 (zAd (by repeat (first | exact pk1 | apply zAa)) (zAd (by repeat (first | exact pk1 | apply zAa)) (zAk _))) hT; rw [← hxe] at E
  refine zp E (zAg E rfl rfl) ?_; clear E a; intro a E
  refine wpList_nil ?_
  refine zAh hK ?_; clear hK; clear K
  refine wp_seq_k ?_; intro K hK
  refine zAc ?_
  refine zp E (zAe E rfl rfl) ?_; clear E a; intro a E
  refine zp E (by first | exact zCu E rfl rfl rfl | exact zAz E rfl rfl rfl rfl | exact zBj E rfl rfl rfl rfl | exact zBd E rfl rfl rfl) ?_; clear E a; intro a E
  refine wpList_nil ?_
  refine zAh hK ?_; clear hK; clear K
  refine zBl E rfl (fun hb => ?_) (fun hb => ?_)
  · replace hb := Nrm.nrm hb
    skip
    refine wp_seq_k ?_; intro K hK
    refine zAc ?_
    iterate 2 (refine zp E (zAe E rfl rfl) ?_; clear E a; intro a E)
    refine zp E (zAl E rfl rfl) ?_; clear E a; intro a E
    refine zp E (by first | exact zAf (q := 6) E rfl rfl rfl | exact zAi (q := 6) E rfl rfl rfl) ?_; clear E a; intro a E
    refine zAr E rfl rfl (by decide) rfl Tryz.func43 rfl (by kernel_rfl) rfl (zHv p 6 _ _ q _ rfl _ (S.hp.sel (zAd (by repeat (first | exact pk1 | apply zAa)) (zAk _)))) ?_
    rintro v16 w ⟨rfl, z', hT⟩; clear E a; intro a E
    have S := S.call1 (zAd (by repeat (first | exact pk1 | apply zAa)) (zAk _)) hT
    refine zp E (zAg E rfl rfl) ?_; clear E a; intro a E
    refine wpList_nil ?_
    refine zAh hK ?_; clear hK; clear K
    refine wp_ret ?_
    refine zBi ?_; clear hK; clear K
    refine ret1 E rfl rfl ?_
    have hE : zDw R x at_ b = (R, zJg R x) := by unfold zDw; rw [if_pos hb]
    rw [hE]
    exact ⟨_, rfl, rfl, C, _, hC, ⟨u1, u2, u3, u4, r, z', s, rfl⟩, (S.front3 (A := C) (by repeat (first | exact pk1 | apply zAa)) (B := [(p, _)]) (by repeat (first | exact pk1 | apply zAa)) (C := D) (by repeat (first | exact pk1 | apply zAa))).tr⟩
  · replace hb := Nrm.nrm hb
    have hbn' := hb
    refine wp_skip ?_
    refine zAh hK ?_; clear hK; clear K
    iterate 2 (refine wp_seq_k ?_; intro K hK)
    refine zAc ?_
    refine zp E (zAe E rfl rfl) ?_; clear E a; intro a E
    refine zp E (by first | exact zCa E rfl rfl rfl | exact zBa E rfl rfl rfl | exact zAt E rfl rfl rfl) ?_; clear E a; intro a E
    refine zp E (zKy E rfl rfl rfl (by decide) (by first | exact zLb (y := 128) | exact rfl)) ?_; clear E a; intro a E
    refine zp E (by first | exact zCu E rfl rfl rfl | exact zAz E rfl rfl rfl rfl | exact zBj E rfl rfl rfl rfl | exact zBd E rfl rfl rfl) ?_; clear E a; intro a E
    refine zp E (zAe E rfl rfl) ?_; clear E a; intro a E
    refine zAy E (t := 21) rfl (fun hb21 => ?_) (fun hb21 => ?_)
    · have hb21n := hb21; replace hb21n := Nrm.nrm hb21n
      iterate 7 (refine zn E hb21 ?_; clear E a; intro a E)
      refine zp E (zAm E rfl rfl hb21 rfl) ?_; clear E a; intro a E
      refine wpList_nil ?_
      refine zAh hK ?_; clear hK; clear K
      refine zDa E rfl rfl ?_
      refine wp_seq_k ?_; intro K hK
      refine zAc ?_
      refine zp E (zAg E rfl rfl) ?_; clear E a; intro a E
      refine wpList_nil ?_
      refine zAh hK ?_; clear hK; clear K
      refine wp_ret ?_
      refine zBi ?_; clear hK; clear K
      refine ret1 E rfl rfl ?_
      have hE : zDw R x at_ b = (R, 1) := by
        unfold zDw; rw [if_neg (fun q => q hbn'), if_pos]
        first | (left; omega) | (right; simpa using hb)
      rw [hE]
      exact ⟨_, rfl, rfl, C, _, hC, hL0, (S.front3 (A := C) (by repeat (first | exact pk1 | apply zAa)) (B := [(p, _)]) (by repeat (first | exact pk1 | apply zAa)) (C := D) (by repeat (first | exact pk1 | apply zAa))).tr⟩
    · have hb21n := hb21; replace hb21n := Nrm.nrm hb21n
      iterate 3 (refine zy E hb21 (zAe E rfl rfl) ?_; clear E a; intro a E)
      refine zy E hb21 (by first | exact zCa E rfl rfl rfl | exact zBa E rfl rfl rfl | exact zAt E rfl rfl rfl) ?_; clear E a; intro a E
      refine zy E hb21 (zGt E rfl rfl rfl (by decide) (by first | exact zJt (y := 128) (by omega) | exact zHr (y := 128) (by omega) | exact rfl)) ?_; clear E a; intro a E
      refine zDg E rfl rfl rfl rfl hb21 ?_; refine zEe E rfl (by decide) rfl Tryz.func44 rfl (by kernel_rfl) rfl (lhas_ret p x.d P R C _ hC hd hL0 at_ (b.length / 128 : Nat) ha _ (S.hp.sel (zAd (by repeat (first | exact pk1 | apply zAa)) (zAd (by repeat (first | exact pk1 | apply zAa)) (zAk _))))) ?_
      rintro v27 w ⟨rfl, hT⟩; clear E a; intro a E
      have S := S.call2 (zAd (by repeat (first | exact pk1 | apply zAa)) (zAd (by repeat (first | exact pk1 | apply zAa)) (zAk _))) hT; rw [← hxe] at E
      refine zy E hb21 (zEg E rfl rfl) ?_; clear E a; intro a E
      refine zp E (zAq E rfl rfl hb21 rfl) ?_; clear E a; intro a E
      refine wpList_nil ?_
      refine zAh hK ?_; clear hK; clear K
      refine zBl E rfl (fun hb => ?_) (fun hb => ?_)
      · replace hb := Nrm.nrm hb
        refine wp_seq_k ?_; intro K hK
        refine zAc ?_
        refine zp E (zAg E rfl rfl) ?_; clear E a; intro a E
        refine wpList_nil ?_
        refine zAh hK ?_; clear hK; clear K
        refine wp_ret ?_
        refine zBi ?_; clear hK; clear K
        refine ret1 E rfl rfl ?_
        have hE : zDw R x at_ b = (R, 1) := by
          unfold zDw; rw [if_neg (fun q => q hbn'), if_pos]
          first | (left; omega) | (right; simpa using hb)
        rw [hE]
        exact ⟨_, rfl, rfl, C, _, hC, hL0, (S.front3 (A := C) (by repeat (first | exact pk1 | apply zAa)) (B := [(p, _)]) (by repeat (first | exact pk1 | apply zAa)) (C := D) (by repeat (first | exact pk1 | apply zAa))).tr⟩
      · replace hb := Nrm.nrm hb
        refine wp_skip ?_
        refine zAh hK ?_; clear hK; clear K
        refine wp_seq_k ?_; intro K hK
        have hyes : zIr x at_ (b.length / 128 : Nat) := by simpa using hb
        have hE : zDw R x at_ b = (R.write x (274 + at_) b, R.writeE x (274 + at_) b) := by unfold zDw; rw [if_neg (fun q => q hbn'), if_neg (fun q => q.elim (fun q => q (by omega)) (fun q => q hyes))]
        obtain ⟨y1, y2, y3, y4⟩ := hyes
        refine zAc ?_
        refine zp E (zAe E rfl rfl) ?_; clear E a; intro a E
        refine zp E (zAl E rfl rfl) ?_; clear E a; intro a E
        refine zp E (by first | exact zAf (q := 0) E rfl rfl rfl | exact zAi (q := 0) E rfl rfl rfl) ?_; clear E a; intro a E
        refine zp E (by first | exact zAn E rfl rfl rfl (S.get (by repeat (first | exact pk1 | apply zAa))) rfl | exact zAj E rfl rfl rfl (by assumption)) ?_; clear E a; intro a E
        refine zp E (zAe E rfl rfl) ?_; clear E a; intro a E
        refine zp E (zBu E rfl rfl rfl (w_in (by omega))) ?_; clear E a; intro a E
        refine zp E (zAe E rfl rfl) ?_; clear E a; intro a E
        refine zAr E rfl rfl (by decide) rfl Tryz.func54 rfl (by kernel_rfl) rfl (rk_write P R C hC x hx hws hwr hlf (274 + at_) (by omega) _ b D hD ⟨_, _, rfl, hcl⟩ _ (S.hp.sel (zAd (by repeat (first | exact pk1 | apply zAa)) (zAd (by repeat (first | exact pk1 | apply zAa)) (zAk _))))) ?_
        rintro v37 w ⟨C', rfl, hC', hT⟩; clear E a; intro a E
        have S := S.call2 (zAd (by repeat (first | exact pk1 | apply zAa)) (zAd (by repeat (first | exact pk1 | apply zAa)) (zAk _))) hT
        refine zp E (zAg E rfl rfl) ?_; clear E a; intro a E
        refine wpList_nil ?_
        refine zAh hK ?_; clear hK; clear K
        refine wp_ret ?_
        refine ret1 E rfl rfl ?_
        rw [hE]; exact ⟨_, rfl, rfl, C', _, hC', hL0, (S.front3 (A := C') (by repeat (first | exact pk1 | apply zAa)) (B := [(p, _)]) (by repeat (first | exact pk1 | apply zAa)) (C := D) (by repeat (first | exact pk1 | apply zAa))).tr⟩
theorem lflush_ret (w0 : World) (H : Hp w0 [C, L]) :
    Ret Tryz.prog 49 #[ptr p] w0 fun u w' => u = .int .i64 (flE R.pw (dkOf R d).failed) ∧ ∃ C' L', RkC P (R.flush (dkOf R d)) C' ∧ LfC p d L' ∧ Trs w0 w' [C, L] [C', L'] := by
  have hL0 := hL
  obtain ⟨u1, u2, u3, u4, r, q, s, rfl⟩ := hL
  obtain ⟨hx, hxd⟩ := zDb hd
  obtain ⟨x, hxe⟩ : ∃ x, x = dkOf R d := ⟨_, rfl⟩
  rw [← hxe] at hx hxd ⊢
  subst hxd
  have S := St.begin H
  refine zDc 12 Tryz.func49 rfl rfl (by decide) ?_; intro a E
  refine wp_seq_k ?_; intro K hK
  refine zAc ?_
  refine zp E (zAg E rfl rfl) ?_; clear E a; intro a E
  refine wpList_nil ?_
  refine zAh hK ?_; clear hK; clear K
  refine wp_seq_k ?_; intro K hK
  refine zDt S (.ofL [(0, 0), (1, 0), (2, 0), (3, 0), (5, 0), (6, 0), (7, 0), (4, 1), (8, 3), (9, 2)]) [[(p, lfcl x.d u1 u2 u3 u4 r q s)]] (fun h => h.sub (by first | (simp; done) | (simp +contextual; done) | (simp [*]; done))) (by kernel_rfl) (by kernel_rfl) ?_
  clear S; intro w S
  refine zm E rfl (fun w h => zAe E rfl rfl) ?_; clear E a; intro a E
  refine zm E rfl (fun w h => zAl E rfl rfl) ?_; clear E a; intro a E
  refine zm E rfl (fun w h => by first | exact zAf (q := 0) E rfl rfl rfl | exact zAi (q := 0) E rfl rfl rfl) ?_; clear E a; intro a E
  refine zm E rfl (fun w h => by first | exact zAn E rfl rfl rfl (h.one (by repeat (first | exact mm1 | assumption | apply List.Mem.tail))) rfl | exact zAj E rfl rfl rfl (by assumption)) ?_; clear E a; intro a E
  refine zm E rfl (fun w h => zAe E rfl rfl) ?_; clear E a; intro a E
  refine zm E rfl (fun w h => zAl E rfl rfl) ?_; clear E a; intro a E
  refine zm E rfl (fun w h => by first | exact zAf (q := 6) E rfl rfl rfl | exact zAi (q := 6) E rfl rfl rfl) ?_; clear E a; intro a E
  refine zCn E rfl rfl rfl (by decide) rfl Tryz.func58 rfl (by kernel_rfl) rfl (rk_flush P R C hC x hx _ (S.hp.sel (zAd (by repeat (first | exact pk1 | apply zAa)) (zAk _)))) ?_
  rintro v7 w ⟨rfl, C', hC', hT⟩; clear E a; intro a E
  have S := S.call1 (zAd (by repeat (first | exact pk1 | apply zAa)) (zAk _)) hT
  refine ⟨S.stab.sub (by first | (simp; done) | (simp +contextual; done) | (simp [*]; done)), ?_⟩
  refine zDl E rfl rfl rfl (by decide) rfl Tryz.func43 rfl (by kernel_rfl) rfl (zHv p 6 _ _ q _ rfl _ (S.hp.sel (zAd (by repeat (first | exact pk1 | apply zAa)) (zAk _)))) ?_
  rintro v11 w ⟨rfl, z', hT⟩; clear E a; intro a E
  have S := S.call1 (zAd (by repeat (first | exact pk1 | apply zAa)) (zAk _)) hT
  refine zCl E rfl rfl rfl (by decide) (fun w => zAg E rfl rfl) ?_; clear E a; intro a E
  refine zBs ?_
  refine zAh hK ?_; clear hK; clear K
  refine wp_ret ?_
  refine ret1 E rfl rfl ?_
  exact ⟨_, rfl, rfl, C', _, hC', ⟨u1, u2, u3, u4, r, z', s, rfl⟩, S.perm2.tr⟩
end
end Go.Proofs.YtidhehcjafoneaaGreatDoor
namespace Go.Sl
theorem wrN_app {d a : Nat} {b : List UInt8} : ∀ (k i : Nat) (s : Pw) (nw : List UInt8) (ws : List Wt), ∃ t, (wrN d a b k i s nw ws).2.2.1 = ws ++ t ∧ ∀ w ∈ t, w.d = d
  | 0, i, s, nw, ws => ⟨[], by simp [wrN], by simp⟩
  | k + 1, i, s, nw, ws => by
    rw [wrN]
    split
    · exact ⟨[], by simp, by simp⟩
    · obtain ⟨t, h1, h2⟩ := wrN_app (d := d) (a := a) (b := b) k (i + 1) { s with left := if 0 < s.left then s.left - 1 else s.left, wr := s.wr + 1 } (setS nw (a + i) (secB b i)) (ws ++ [mkW d (a + i) (secB b i)])
      refine ⟨mkW d (a + i) (secB b i) :: t, by rw [h1]; simp, fun w hw => ?_⟩
      rcases List.mem_cons.1 hw with rfl | hw
      · rfl
      · exact h2 w hw
theorem outW_app (d : Nat) (a b : List Wt) : outW d (a ++ b) = outW d a ++ outW d b := by simp [outW]
theorem upW_none (ws : List Wt) (ds : List Dk) : upW ws [] ds = ds := by
  rw [upW_map]
  conv => rhs; rw [← List.map_id ds]
  exact List.map_congr_left fun x _ => by rw [upS_none]; rfl
end Go.Sl
namespace Go.Proofs.YtidhehcjafoneaaGreatDoor
open Go.Sl
set_option maxRecDepth 10000
end Go.Proofs.YtidhehcjafoneaaGreatDoor
namespace Go.Sl
def zHn (nw : List UInt8) (at_ : Nat) (b : List UInt8) : List UInt8 := nw.take (128 * at_) ++ b ++ nw.drop (128 * at_ + b.length)
theorem zIx {nw b : List UInt8} {at_ : Nat} (h : 128 * at_ + b.length ≤ nw.length) : (zHn nw at_ b).length = nw.length := by
  simp only [zHn, List.length_append, List.length_take, List.length_drop]; omega
theorem patch_read {nw b : List UInt8} {at_ : Nat} (h : 128 * at_ + b.length ≤ nw.length) : ((zHn nw at_ b).drop (128 * at_)).take b.length = b := by
  have h1 : (nw.take (128 * at_)).length = 128 * at_ := by rw [List.length_take]; omega
  rw [zHn, List.append_assoc, List.drop_left' h1, List.take_left]
theorem wrN_patch {d a : Nat} {b : List UInt8} : ∀ (k i : Nat) (s : Pw) (nw : List UInt8) (ws : List Wt), s.left < 0 → 128 * (a + i + k) ≤ nw.length → 128 * (i + k) ≤ b.length →
    (wrN d a b k i s nw ws).2.1 = nw.take (128 * (a + i)) ++ (b.drop (128 * i)).take (128 * k) ++ nw.drop (128 * (a + i + k))
  | 0, i, s, nw, ws, _, h1, h2 => by
    rw [wrN, Nat.add_zero, Nat.mul_zero, List.take_zero, List.append_nil, List.take_append_drop]
  | k + 1, i, s, nw, ws, hs, h1, h2 => by
    have hl : (setS nw (a + i) (secB b i)).length = nw.length := zEh (by omega) (zDj (by omega))
    rw [wrN, if_neg (by omega), wrN_patch k (i + 1) _ _ _ (by simp only; rw [if_neg (by omega)]; exact hs) (by rw [hl]; omega) (by omega)]
    have e1 : (setS nw (a + i) (secB b i)).take (128 * (a + (i + 1))) = nw.take (128 * (a + i)) ++ secB b i := by
      have hl1 : (nw.take (128 * (a + i)) ++ secB b i).length = 128 * (a + (i + 1)) := by
        rw [List.length_append, List.length_take, zDj (by omega)]; omega
      rw [setS, List.take_left' hl1]
    have e2 : (setS nw (a + i) (secB b i)).drop (128 * (a + (i + 1) + k)) = nw.drop (128 * (a + i + (k + 1))) := by
      have hl1 : (nw.take (128 * (a + i)) ++ secB b i).length = 128 * (a + i) + 128 := by
        rw [List.length_append, List.length_take, zDj (by omega)]; omega
      rw [setS, List.drop_append, List.drop_of_length_le (by omega), List.nil_append, hl1, List.drop_drop]
      rw [show 128 * (a + i) + 128 + (128 * (a + (i + 1) + k) - (128 * (a + i) + 128)) = 128 * (a + i + (k + 1)) by omega]
    have e3 : secB b i ++ (b.drop (128 * (i + 1))).take (128 * k) = (b.drop (128 * i)).take (128 * (k + 1)) := by
      rw [secB, show 128 * (k + 1) = 128 + 128 * k by omega, List.take_add, List.drop_drop, show 128 * (i + 1) = 128 * i + 128 by omega]
    rw [e1, e2, List.append_assoc (nw.take _), e3]
structure On (R : Rk) : Prop where
  off : R.pw.off = false
  left : R.pw.left = -1
theorem setD_comp {ds : List Dk} {d : Nat} {g h : Dk → Dk} (hg : ∀ y ∈ ds, y.d = d → (g y).d = d) : setD (setD ds d g) d h = setD ds d fun y => h (g y) := by
  rw [setD, setD, setD, List.map_map]
  refine List.map_congr_left fun y hy => ?_
  simp only [Function.comp]
  by_cases hd : y.d = d
  · rw [if_pos hd, if_pos (hg y hy hd), if_pos hd]
  · rw [if_neg hd, if_neg hd, if_neg hd]
theorem setD_has {ds : List Dk} {x : Dk} {g : Dk → Dk} (hx : x ∈ ds) : g x ∈ setD ds x.d g := List.mem_map.2 ⟨x, hx, if_pos rfl⟩
theorem setD_ds {ds : List Dk} {d : Nat} {g : Dk → Dk} (hg : ∀ y, (g y).d = y.d) : (setD ds d g).map Dk.d = ds.map Dk.d := by
  rw [setD, List.map_map]
  refine List.map_congr_left fun y _ => ?_
  simp only [Function.comp]
  split
  · exact hg y
  · rfl
theorem write_on {R : Rk} (hO : On R) {x : Dk} (hf : x.failed = false) (hnw : x.now.length = x.pl.length) {at_ : Int} {b : List UInt8} (hm : zEu x.pl.length at_ b) :
    R.writeE x at_ b = 0 ∧ ∃ t, R.write x at_ b = ⟨⟨-1, false, R.pw.wr + b.length / 128⟩, R.ws ++ t, setD R.ds x.d fun y => { y with now := zHn x.now at_.toNat b }⟩ ∧ (∀ w ∈ t, w.d = x.d) ∧ t.length = b.length / 128 := by
  have hm0 := hm
  obtain ⟨m1, m2, m3, m4⟩ := hm0
  have he : wrS x.d x.pl.length at_ b R.pw x.failed x.now R.ws = wrN x.d at_.toNat b (b.length / 128) 0 R.pw x.now R.ws := by
    unfold wrS; rw [if_neg (by simp [hO.off]), if_neg (by simp [hf]), if_neg (fun q => q hm)]
  have hl := hO.left
  obtain ⟨h1, h2, h3, h4, h5⟩ := wrN_big (d := x.d) (a := at_.toNat) (b := b) (b.length / 128) 0 R.pw x.now R.ws (.inl (by omega))
  obtain ⟨t, h6, h7⟩ := wrN_app (d := x.d) (a := at_.toNat) (b := b) (b.length / 128) 0 R.pw x.now R.ws
  have h8 := wrN_patch (d := x.d) (a := at_.toNat) (b := b) (b.length / 128) 0 R.pw x.now R.ws (by omega) (by omega) (by omega)
  have h5 := h5 (by omega)
  have hp : x.now.take (128 * (at_.toNat + 0)) ++ (b.drop (128 * 0)).take (128 * (b.length / 128)) ++ x.now.drop (128 * (at_.toNat + 0 + b.length / 128)) = zHn x.now at_.toNat b := by
    have hb : 128 * (b.length / 128) = b.length := by omega
    rw [zHn, Nat.add_zero, Nat.mul_zero, List.drop_zero, hb, List.take_length, Nat.mul_add, hb]
  rw [hp] at h8
  rw [h6, List.length_append] at h4
  refine ⟨by unfold Rk.writeE; rw [he]; exact h1, t, ?_, h7, by omega⟩
  unfold Rk.write
  rw [he, h6, h8]
  obtain ⟨z, hz⟩ : ∃ z, z = (wrN x.d at_.toNat b (b.length / 128) 0 R.pw x.now R.ws).1 := ⟨_, rfl⟩
  rw [← hz] at h2 h3 h5 ⊢
  obtain ⟨l, o, r⟩ := z
  simp only at h2 h3 h5
  rw [h2, h3, h5, hO.off, hO.left]
end Go.Sl
namespace Go.Sl
def zEf : List UInt8 → Nat
  | [] => 0
  | b :: r => b.toNat + 256 * zEf r
theorem zIy (xs ys : List UInt8) : zEf (xs ++ ys) = zEf xs + 256 ^ xs.length * zEf ys := by
  induction xs with
  | nil => simp [zEf]
  | cons b r ih => simp only [List.cons_append, zEf, ih, List.length_cons, Nat.pow_succ]; rw [Nat.mul_add, Nat.add_assoc]; congr 2; rw [← Nat.mul_assoc, Nat.mul_comm 256]
theorem numOf_lt (xs : List UInt8) : zEf xs < 256 ^ xs.length := by
  induction xs with
  | nil => simp [zEf]
  | cons b r ih =>
    have := b.toNat_lt
    simp only [zEf, List.length_cons, Nat.pow_succ]
    omega
theorem zKe (bs : List UInt8) (k : Nat) (h : k < bs.length) : zEf (bs.take (k + 1)) = zEf (bs.take k) + bs[k].toNat * 2 ^ (8 * k) := by
  rw [List.take_succ_eq_append_getElem h, zIy, List.length_take, Nat.min_eq_left (by omega), Nat.pow_mul]
  simp [zEf, Nat.mul_comm]
def zCv (n : Nat) : Nat → List UInt8
  | 0 => []
  | k + 1 => zCv n k ++ [UInt8.ofNat (n / 2 ^ (8 * k))]
theorem zBz (n k : Nat) : (zCv n k).length = k := by induction k <;> simp [zCv, *]
theorem zLi (n k : Nat) : zEf (zCv n k) = n % 256 ^ k := by
  induction k with
  | zero => simp [zCv, zEf, Nat.mod_one]
  | succ k ih =>
    rw [zCv, zIy, ih, zBz, Nat.pow_succ, Nat.mod_mul]
    simp [zEf, Nat.pow_mul]
theorem zHb (xs : List Value) (k : Nat) (z v : Value) (j : Nat) (hj : xs.length = j) (hk : j < k) :
    (xs ++ List.replicate (k - j) z).set j v = (xs ++ [v]) ++ List.replicate (k - (j + 1)) z := by
  subst hj
  rw [List.set_append_right _ _ (Nat.le_refl _), Nat.sub_self, show k - xs.length = (k - (xs.length + 1)) + 1 by omega, List.replicate_succ, List.set_cons_zero, List.append_assoc]
  rfl
structure Wr where
  room : Nat
  bs : List UInt8
  e : Nat
abbrev Laid := Nat ⊕ List UInt8
def Wr.fits (s : Wr) (b : List UInt8) : Bool := s.bs.length + b.length ≤ s.room
def Wr.putE (s : Wr) (b : List UInt8) : Nat := if s.fits b then 0 else 12
def Wr.putS (s : Wr) (b : List UInt8) : Wr := if s.fits b then { s with bs := s.bs ++ b } else s
def Wr.lay (s : Wr) (x : Laid) : Wr :=
  if s.e ≠ 0 then s else match x with
    | .inl e => { s with e := e }
    | .inr b => { s.putS b with e := s.putE b }
def numE (n : Nat) (k : Int) : Laid := if k < 1 ∨ 8 < k then .inl 1 else if n ≥ 256 ^ k.toNat then .inl 11 else .inr (zCv n k.toNat)
def padE (s : Wr) (to : Int) : Laid := if to < s.bs.length then .inl 11 else if to > s.room then .inl 12 else .inr (List.replicate (to.toNat - s.bs.length) 0)
def Wr.num (s : Wr) (n : Nat) (k : Int) : Wr := s.lay (numE n k)
def Wr.bytes (s : Wr) (b : List UInt8) : Wr := s.lay (.inr b)
def Wr.pad (s : Wr) (to : Int) : Wr := s.lay (padE s to)
theorem Wr.putS_eq (s : Wr) (b : List UInt8) : s.putS b = { s with bs := (s.putS b).bs } := by unfold Wr.putS; split <;> rfl
structure Rdr where
  bs : List UInt8
  at_ : Nat
  e : Nat
def Rdr.cut (s : Rdr) (k behind : Nat) : List UInt8 := (s.bs.drop (s.at_ + behind)).take k
def Rdr.num (s : Rdr) (k : Int) : Nat × Rdr :=
  if s.e ≠ 0 then (0, s) else if k < 1 ∨ 8 < k then (0, { s with e := 1 }) else if s.bs.length < s.at_ + k.toNat then (0, { s with e := 10 })
  else (zEf (s.cut k.toNat 0), { s with at_ := s.at_ + k.toNat })
def Rdr.bytes (s : Rdr) (k : Int) : List UInt8 × Rdr :=
  if s.e ≠ 0 then ([], s) else if k < 0 then ([], { s with e := 1 }) else if s.bs.length < s.at_ + k.toNat then ([], { s with e := 10 })
  else (s.cut k.toNat 0, { s with at_ := s.at_ + k.toNat })
def Rdr.pad (s : Rdr) (to : Int) : Rdr :=
  if s.e ≠ 0 then s else if to < s.at_ then { s with e := 11 } else if to > s.bs.length then { s with e := 10 }
  else if s.cut (to.toNat - s.at_) 0 = List.replicate (to.toNat - s.at_) 0 then { s with at_ := to.toNat } else { s with e := 14 }
def Rdr.left (s : Rdr) : Int := s.bs.length - s.at_
def Rdr.done (s : Rdr) : Nat := if s.e = 0 ∧ s.at_ < s.bs.length then 13 else s.e
end Go.Sl
namespace Go.Proofs.YtidhehcjafoneaaGreatDoor
open Go.Sl
set_option maxRecDepth 10000
theorem value_ret (C : zAs) (v : Value) (bs : List UInt8) (w : World) (h : Rd C 1 v bs.length (byt bs)) (hs : ∀ x ∈ C, w.heap[x.1]? = some x.2) (hl : bs.length ≤ 8) :
    Ret Tryz.prog 114 #[v] w fun u w' => u = .int .u64 (zEf bs) ∧ w' = w := by
  obtain ⟨ad, c, rfl⟩ := h.slice
  refine zDc 22 Tryz.func114 rfl rfl (by decide) ?_; intro a E
  refine wp_seq_k ?_; intro K hK
  refine zAc ?_
  refine zp E (zAg E rfl rfl) ?_; clear E a; intro a E
  refine wpList_nil ?_
  refine zAh hK ?_; clear hK; clear K
  refine wp_seq_k ?_; intro K hK
  refine zAc ?_
  refine zp E (zAg E rfl rfl) ?_; clear E a; intro a E
  refine wpList_nil ?_
  refine zAh hK ?_; clear hK; clear K
  iterate 2 (refine wp_seq_k ?_; intro K hK)
  refine zAc ?_
  refine zp E (zAe E rfl rfl) ?_; clear E a; intro a E
  refine zp E (by first | exact zCa E rfl rfl rfl | exact zBa E rfl rfl rfl | exact zAt E rfl rfl rfl) ?_; clear E a; intro a E
  refine zp E (zAe E rfl rfl) ?_; clear E a; intro a E
  refine wpList_nil ?_
  refine zAh hK ?_; clear hK; clear K
  refine wp_block ?_
  refine wp_loop_ghost (fun (m : Nat) (a : Act) (w' : World) => ∃ k : Nat, k ≤ bs.length ∧ m = bs.length - k ∧ w' = w ∧ Fr a 22 [(8, .int .i64 k), (3, .int .u64 (zEf (bs.take k))), (7, .int .i64 bs.length), (6, .slice ad bs.length c)]) (bs.length) ?_ ?_
  · exact ⟨0, by omega, by omega, rfl, E.keep (zAb rfl (zAb rfl (zAb rfl (zAb rfl zAp))))⟩
  clear E; clear a; (try clear S); rintro m a w' ⟨k, hk, rfl, rfl, E⟩
  refine wp_seq_k ?_; intro K hK
  refine zAc ?_
  refine zp E (zCb E rfl rfl rfl) ?_; clear E a; intro a E
  refine wpList_nil ?_
  refine zAh hK ?_; clear hK; clear K
  refine wp_seq_k ?_; intro K hK
  refine zBl E rfl (fun hb => ?_) (fun hb => ?_)
  · replace hb := Nrm.nrm hb
    obtain ⟨b, off, rfl⟩ := h.addr (by omega)
    have hc := h.byte hs (i := k) (by omega)
    have h1 := numOf_lt (bs.take (k + 1))
    have h2 := numOf_lt (bs.take k)
    have h3 := zKe bs k (by omega)
    rw [List.length_take, Nat.min_eq_left (by omega), show (256 : Nat) = 2 ^ 8 from rfl, ← Nat.pow_mul] at h1 h2
    have h4 : 2 ^ (8 * (k + 1)) ≤ 2 ^ 64 := Nat.pow_le_pow_right (by omega) (by omega)
    refine wp_skip ?_
    refine zAh hK ?_; clear hK; clear K
    refine wp_seq_k ?_; intro K hK
    refine wp_block ?_
    refine wp_seq_k ?_; intro K hK
    refine zAc ?_
    refine zp E (zAe E rfl rfl) ?_; clear E a; intro a E
    refine zp E (by first | exact zBk E rfl rfl rfl rfl rfl rfl (by omega) | exact zBn E rfl rfl rfl rfl rfl rfl (by omega) | exact zAx E rfl rfl rfl rfl rfl rfl (by omega)) ?_; clear E a; intro a E
    refine zp E (by first | exact zAn E rfl rfl rfl (S.get (by repeat (first | exact pk1 | apply zAa))) rfl | exact zAj E rfl rfl rfl (by assumption)) ?_; clear E a; intro a E
    iterate 2 (refine zp E (zAg E rfl rfl) ?_; clear E a; intro a E)
    refine wpList_nil ?_
    refine zAh hK ?_; clear hK; clear K
    refine zAc ?_
    iterate 2 (refine zp E (zAe E rfl rfl) ?_; clear E a; intro a E)
    refine zp E (by first | exact zBv E rfl rfl rfl rfl (by first | exact wu8 _ | exact zHs (by omega) | exact zFa (by omega) | exact w_in (by omega) | exact zBy (by omega) | exact rfl) | exact zDe E rfl rfl rfl rfl rfl (by assumption) (S.stab.at (by simp))) ?_; clear E a; intro a E
    refine zp E (zAe E rfl rfl) ?_; clear E a; intro a E
    refine zp E (zEd E rfl rfl rfl (by first | exact zGx (x := 8) (by omega) | exact zFn (x := 8) (by omega) | exact w_in (by omega) | exact rfl)) ?_; clear E a; intro a E
    refine zp E (zEz E rfl rfl rfl (by omega) (by simp only [IntKind.bits]; omega) (shlu (by omega))) ?_; clear E a; intro a E
    refine zp E (zGv E rfl rfl rfl (oru h2 (by omega))) ?_; clear E a; intro a E
    refine zp E (zAg E rfl rfl) ?_; clear E a; intro a E
    refine wpList_nil ?_
    refine zBf ?_
    refine zAh hK ?_; clear hK; clear K
    refine zAc ?_
    refine zp E (zBu E rfl rfl rfl (by first | exact zCj (y := 1) (by omega) | exact w_in (by omega) | exact zBy (by omega) | exact rfl)) ?_; clear E a; intro a E
    refine zp E (zAe E rfl rfl) ?_; clear E a; intro a E
    refine wpList_nil ?_
    refine zBe ?_
    rw [← h3] at E; exact ⟨_, by omega, k + 1, by omega, rfl, rfl, E.keep (zAb rfl (zAb rfl (zAb rfl (zAb rfl zAp))))⟩
  · replace hb := Nrm.nrm hb
    refine wp_exit ?_
    refine zBb ?_; clear hK; clear K
    refine zBb ?_
    refine zCm ?_
    refine zAh hK ?_; clear hK; clear K
    refine wp_seq_k ?_; intro K hK
    refine zAc ?_
    refine zp E (zAe E rfl rfl) ?_; clear E a; intro a E
    refine zp E (zAg E rfl rfl) ?_; clear E a; intro a E
    refine wpList_nil ?_
    refine zAh hK ?_; clear hK; clear K
    refine wp_ret ?_
    refine ret1 E rfl rfl ?_
    refine ⟨_, rfl, ?_, rfl⟩; rw [List.take_of_length_le (by omega)]
theorem form_ret (n : Nat) (k : Nat) (w0 : World) (hk : k ≤ 8) :
    Ret Tryz.prog 115 #[.int .u64 n, .int .i64 k] w0 fun u w' => ∃ g, u = .slice (some ⟨g, 0, none⟩) k k ∧ Trs w0 w' [] [[(g, cel (byt (zCv n k)) 5)]] := by
  have S := St.begin (w := w0) (As := []) ⟨by simp, by simp⟩
  refine zCy 24 Tryz.func115 rfl rfl (by decide) ?_; intro a E
  refine wp_seq_k ?_; intro K hK
  refine zAc ?_
  refine zp E (zAg E rfl rfl) ?_; clear E a; intro a E
  refine wpList_nil ?_
  refine zAh hK ?_; clear hK; clear K
  refine wp_seq_k ?_; intro K hK
  refine zAc ?_
  refine zp E (zAe E rfl rfl) ?_; clear E a; intro a E
  refine zAo rfl (zDq (by' := 1) E S rfl rfl (by decide) rfl rfl rfl rfl rfl rfl rfl rfl rfl rfl rfl (by first | exact mkb (by omega) | exact mkb8 (by omega) | exact mkbn rfl (by omega)) (by simp only [maxLen]; omega) ?_); clear E S a; intro a w g8 E S
  refine zp E (zAg E rfl rfl) ?_; clear E a; intro a E
  refine wpList_nil ?_
  refine zAh hK ?_; clear hK; clear K
  iterate 2 (refine wp_seq_k ?_; intro K hK)
  refine zAc ?_
  refine zp E (zAe E rfl rfl) ?_; clear E a; intro a E
  refine zp E (by first | exact zCa E rfl rfl rfl | exact zBa E rfl rfl rfl | exact zAt E rfl rfl rfl) ?_; clear E a; intro a E
  refine zp E (zAe E rfl rfl) ?_; clear E a; intro a E
  refine wpList_nil ?_
  refine zAh hK ?_; clear hK; clear K
  refine wp_block ?_
  refine wp_loop_ghost (fun (m : Nat) (a : Act) (w' : World) => ∃ (j : Nat), j ≤ k ∧ m = k - j ∧ St w0 [] w' [[(g8, cel (byt (zCv n j) ++ List.replicate (k - j) (.int .u8 0)) 5)]] ∧ Fr a 24 [(11, .int .i64 j), (10, .int .i64 k), (5, .slice (some ⟨g8, 0, none⟩) k k), (0, .int .u64 n)]) (k) ?_ ?_
  · exact ⟨0, by omega, by omega, by simpa [zCv, byt] using S, E.keep (zAb rfl (zAb rfl (zAb rfl (zAb rfl zAp))))⟩
  clear E; clear a; (try clear S); rintro m a w ⟨j, hj, rfl, S, E⟩
  refine wp_seq_k ?_; intro K hK
  refine zAc ?_
  refine zp E (zCb E rfl rfl rfl) ?_; clear E a; intro a E
  refine wpList_nil ?_
  refine zAh hK ?_; clear hK; clear K
  refine wp_seq_k ?_; intro K hK
  refine zBl E rfl (fun hb => ?_) (fun hb => ?_)
  · replace hb := Nrm.nrm hb
    refine wp_skip ?_
    refine zAh hK ?_; clear hK; clear K
    refine wp_seq_k ?_; intro K hK
    refine wp_block ?_
    refine wp_seq_k ?_; intro K hK
    refine zAc ?_
    refine zp E (zAe E rfl rfl) ?_; clear E a; intro a E
    refine zp E (zAg E rfl rfl) ?_; clear E a; intro a E
    refine wpList_nil ?_
    refine zAh hK ?_; clear hK; clear K
    refine zAc ?_
    iterate 4 (refine zp E (zAe E rfl rfl) ?_; clear E a; intro a E)
    refine zp E (zEd E rfl rfl rfl (by first | exact zGx (x := 8) (by omega) | exact zFn (x := 8) (by omega) | exact w_in (by omega) | exact rfl)) ?_; clear E a; intro a E
    refine zp E (zHy E rfl rfl rfl (by omega) (by simp only [IntKind.bits]; omega) shru) ?_; clear E a; intro a E
    refine zp E (zBv E rfl rfl rfl rfl (w8 _)) ?_; clear E a; intro a E
    refine zp E (by first | exact zBk E rfl rfl rfl rfl rfl rfl (by omega) | exact zBn E rfl rfl rfl rfl rfl rfl (by omega) | exact zAx E rfl rfl rfl rfl rfl rfl (by omega)) ?_; clear E a; intro a E
    refine zAo rfl (zBg E S rfl rfl rfl rfl rfl rfl (by repeat (first | exact pk1 | apply zAa)) (by simp only [List.length_append, List.length_replicate, zBm, zBz]; omega) ?_); clear E S a; intro a w E S; try dsimp only [List.set] at S
    refine wpList_nil ?_
    refine zBf ?_
    refine zAh hK ?_; clear hK; clear K
    refine zAc ?_
    refine zp E (zBu E rfl rfl rfl (by first | exact zCj (y := 1) (by omega) | exact w_in (by omega) | exact zBy (by omega) | exact rfl)) ?_; clear E a; intro a E
    refine zp E (zAe E rfl rfl) ?_; clear E a; intro a E
    refine wpList_nil ?_
    refine zBe ?_
    rw [Nat.zero_add, zHb _ _ _ _ _ (by simp [byt, zBz]) (by omega)] at S; exact ⟨_, by omega, j + 1, by omega, rfl, by simpa [zCv, byt] using S, E.keep (zAb rfl (zAb rfl (zAb rfl (zAb rfl zAp))))⟩
  · replace hb := Nrm.nrm hb
    refine wp_exit ?_
    refine zBb ?_; clear hK; clear K
    refine zBb ?_
    refine zCm ?_
    refine zAh hK ?_; clear hK; clear K
    refine wp_seq_k ?_; intro K hK
    refine zAc ?_
    refine zp E (zAe E rfl rfl) ?_; clear E a; intro a E
    refine zp E (zAg E rfl rfl) ?_; clear E a; intro a E
    refine wpList_nil ?_
    refine zAh hK ?_; clear hK; clear K
    refine wp_ret ?_
    refine ret1 E rfl rfl ?_
    obtain rfl : j = k := by omega
    refine ⟨_, rfl, g8, rfl, ?_⟩
    simpa using S.tr
theorem rd_block {g n : Nat} {b : List UInt8} {T : TypeId} (hn : b.length = n) (hm : n ≤ 4611686018427387904) (c : Nat) : Rd [(g, cel (byt b) T)] 1 (.slice (some ⟨g, 0, none⟩) n c) n (byt b) :=
  ⟨by rw [zBm, hn, Nat.mul_one], zDv _, by simp only [maxLen]; omega, .inr ⟨g, 0, c, _, T, (0, 0), rfl, List.mem_singleton.2 rfl, fun i u hu => by simpa using hu⟩⟩
theorem rd_blk {g : Nat} (n : Nat) {b : List UInt8} {T : TypeId} (hn : b.length = n) (hm : n ≤ 4611686018427387904) (c : Nat) : Rd [(g, cel (byt b) T)] 1 (.slice (some ⟨g, 0, none⟩) n c) b.length (byt b) := by
  subst hn; exact rd_block rfl hm c
theorem copied_ret (C : zAs) (v : Value) (bs : List UInt8) (w0 : World) (h : Rd C 1 v bs.length (byt bs)) (hs : Hp w0 [C]) (hl : bs.length ≤ 281474976710656) :
    Ret Tryz.prog 110 #[v] w0 fun u w' => ∃ g, u = .slice (some ⟨g, 0, none⟩) bs.length bs.length ∧ Trs w0 w' [C] [[(g, cel (byt bs) 5)], C] := by
  obtain ⟨ad, c, rfl⟩ := h.slice
  have S := St.begin hs
  refine zDc 11 Tryz.func110 rfl rfl (by decide) ?_; intro a E
  refine wp_seq_k ?_; intro K hK
  refine zAc ?_
  refine zp E (zAg E rfl rfl) ?_; clear E a; intro a E
  refine wpList_nil ?_
  refine zAh hK ?_; clear hK; clear K
  refine wp_seq_k ?_; intro K hK
  refine zAc ?_
  refine zp E (zAe E rfl rfl) ?_; clear E a; intro a E
  refine zp E (by first | exact zCa E rfl rfl rfl | exact zBa E rfl rfl rfl | exact zAt E rfl rfl rfl) ?_; clear E a; intro a E
  refine zAo rfl (zDq (by' := 1) E S rfl rfl (by decide) rfl rfl rfl rfl rfl rfl rfl rfl rfl rfl rfl (by first | exact mkb (by omega) | exact mkb8 (by omega) | exact mkbn rfl (by omega)) (by simp only [maxLen]; omega) ?_); clear E S a; intro a w g6 E S
  refine zp E (zAg E rfl rfl) ?_; clear E a; intro a E
  refine wpList_nil ?_
  refine zAh hK ?_; clear hK; clear K
  refine wp_seq_k ?_; intro K hK
  refine zAc ?_
  iterate 2 (refine zp E (zAe E rfl rfl) ?_; clear E a; intro a E)
  refine zAo rfl (zGk E S rfl rfl (by decide) rfl rfl (by repeat (first | exact pk1 | apply zAa)) (h.copySrc (S.stab.at (by repeat (first | exact mm1 | assumption | apply List.Mem.tail))) rfl) rfl rfl (by simp) ?_); clear E S a; intro a w E S
  rw [copy_all (by simp [zBm])] at S
  refine wpList_nil ?_
  refine zAh hK ?_; clear hK; clear K
  refine wp_seq_k ?_; intro K hK
  refine zAc ?_
  refine zp E (zAe E rfl rfl) ?_; clear E a; intro a E
  refine zp E (zAg E rfl rfl) ?_; clear E a; intro a E
  refine wpList_nil ?_
  refine zAh hK ?_; clear hK; clear K
  refine wp_ret ?_
  refine ret1 E rfl rfl ?_
  exact ⟨_, rfl, g6, rfl, S.tr⟩
def WrC (T : TypeId) (p : Nat) (s : Wr) (A : zAs) : Prop :=
  ∃ v C, A = [(p, cel [.int .i64 s.room, v, .int .i64 s.e] T)] ++ C ∧ Buf C 5 1 v s.bs.length (byt s.bs)
theorem put_ret (p : Nat) (s : Wr) (A D : zAs) (bv : Value) (b : List UInt8) (w0 : World) (hA : WrC 186 p s A) (hD : Rd D 1 bv b.length (byt b)) (H : Hp w0 [A, D]) (hr : s.room ≤ 140737488355328) :
    Ret Tryz.prog 109 #[ptr p, bv] w0 fun u w' => ∃ A', u = .int .i64 (s.putE b) ∧ WrC 186 p (s.putS b) A' ∧ Trs w0 w' [A, D] [A', D] := by
  obtain ⟨v, C, rfl, hB⟩ := hA
  obtain ⟨ad, c, rfl⟩ := hD.slice
  obtain ⟨ad2, c2, rfl⟩ := hB.slice
  have S := (St.begin H).split
  have hm := hB.rd.2.2.1
  have hm2 := hD.2.2.1
  simp only [maxLen] at hm hm2
  refine zCy 27 Tryz.func109 rfl rfl (by decide) ?_; intro a E
  refine wp_seq_k ?_; intro K hK
  refine zAc ?_
  refine zp E (zAg E rfl rfl) ?_; clear E a; intro a E
  refine wpList_nil ?_
  refine zAh hK ?_; clear hK; clear K
  iterate 2 (refine wp_seq_k ?_; intro K hK)
  refine zBo S (.ofL [(0, 0), (1, 0), (2, 0), (3, 0), (4, 0), (5, 0), (6, 0), (7, 0), (8, 0), (9, 0), (10, 0), (11, 0), (12, 0)]) (by kernel_rfl) (by kernel_rfl) ?_
  clear S; intro w S
  refine zm E rfl (fun w h => zAe E rfl rfl) ?_; clear E a; intro a E
  refine zm E rfl (fun w h => by first | exact zCa E rfl rfl rfl | exact zBa E rfl rfl rfl | exact zAt E rfl rfl rfl) ?_; clear E a; intro a E
  refine zm E rfl (fun w h => zAe E rfl rfl) ?_; clear E a; intro a E
  refine zm E rfl (fun w h => zAl E rfl rfl) ?_; clear E a; intro a E
  refine zm E rfl (fun w h => by first | exact zAf (q := 0) E rfl rfl rfl | exact zAi (q := 0) E rfl rfl rfl) ?_; clear E a; intro a E
  refine zm E rfl (fun w h => by first | exact zAn E rfl rfl rfl (h.one (by repeat (first | exact mm1 | assumption | apply List.Mem.tail))) rfl | exact zAj E rfl rfl rfl (by assumption)) ?_; clear E a; intro a E
  refine zm E rfl (fun w h => zAe E rfl rfl) ?_; clear E a; intro a E
  refine zm E rfl (fun w h => zAl E rfl rfl) ?_; clear E a; intro a E
  refine zm E rfl (fun w h => by first | exact zAf (q := 1) E rfl rfl rfl | exact zAi (q := 1) E rfl rfl rfl) ?_; clear E a; intro a E
  refine zm E rfl (fun w h => by first | exact zAn E rfl rfl rfl (h.one (by repeat (first | exact mm1 | assumption | apply List.Mem.tail))) rfl | exact zAj E rfl rfl rfl (by assumption)) ?_; clear E a; intro a E
  refine zm E rfl (fun w h => by first | exact zCa E rfl rfl rfl | exact zBa E rfl rfl rfl | exact zAt E rfl rfl rfl) ?_; clear E a; intro a E
  refine zm E rfl (fun w h => zDf E rfl rfl rfl (by first | exact ws1 (by omega) (by omega) | exact w_in (by omega) | exact zBy (by omega) | exact rfl)) ?_; clear E a; intro a E
  refine zm E rfl (fun w h => zDd E rfl rfl rfl) ?_; clear E a; intro a E
  refine zBs ?_
  refine zAh hK ?_; clear hK; clear K
  refine zBl E rfl (fun hb => ?_) (fun hb => ?_)
  · replace hb := Nrm.nrm hb
    have hf : s.fits b = false := by simp only [Wr.fits, decide_eq_false_iff_not]; omega
    refine wp_seq_k ?_; intro K hK
    refine zAc ?_
    refine zp E (zAg E rfl rfl) ?_; clear E a; intro a E
    refine wpList_nil ?_
    refine zAh hK ?_; clear hK; clear K
    refine wp_ret ?_
    refine zBi ?_; clear hK; clear K
    refine ret1 E rfl rfl ?_
    exact ⟨_, rfl, _, by simp [Wr.putE, hf], ⟨_, C, rfl, by simpa [Wr.putS, hf] using hB⟩, by simpa [Wr.putS, hf] using S.join.tr⟩
  · replace hb := Nrm.nrm hb
    have hf : s.fits b = true := by simp only [Wr.fits, decide_eq_true_eq]; omega
    refine wp_skip ?_
    refine zAh hK ?_; clear hK; clear K
    refine wp_seq_k ?_; intro K hK
    have hf2 := of_decide_eq_true hf
    refine zAc ?_
    iterate 2 (refine zp E (zAe E rfl rfl) ?_; clear E a; intro a E)
    refine zp E (zAl E rfl rfl) ?_; clear E a; intro a E
    refine zp E (by first | exact zAf (q := 1) E rfl rfl rfl | exact zAi (q := 1) E rfl rfl rfl) ?_; clear E a; intro a E
    refine zp E (by first | exact zAn E rfl rfl rfl (S.get (by repeat (first | exact pk1 | apply zAa))) rfl | exact zAj E rfl rfl rfl (by assumption)) ?_; clear E a; intro a E
    refine zp E (zAe E rfl rfl) ?_; clear E a; intro a E
    refine zAo rfl (zCi (by' := 1) E S rfl rfl (by decide) rfl rfl hB (by repeat (first | exact pk1 | apply zAa)) (hD.src (S.stab.at (by repeat (first | exact mm1 | assumption | apply List.Mem.tail))) rfl) rfl rfl rfl rfl rfl rfl (by simp only [maxLen]; omega) (by omega) ?_); clear E S a; intro a w v24 C24 E S hB24
    obtain ⟨ad3, c3, rfl⟩ := hB24.slice
    refine zp E (zAl E rfl rfl) ?_; clear E a; intro a E
    refine zp E (by first | exact zAf (q := 1) E rfl rfl rfl | exact zAi (q := 1) E rfl rfl rfl) ?_; clear E a; intro a E
    refine zAo rfl (zBg E S rfl rfl rfl rfl rfl rfl (by repeat (first | exact pk1 | apply zAa)) (by first | exact Nat.le_of_ble_eq_true rfl | (simp; done) | (simp; omega)) ?_); clear E S a; intro a w E S; try dsimp only [List.set] at S
    refine wpList_nil ?_
    refine zAh hK ?_; clear hK; clear K
    refine wp_seq_k ?_; intro K hK
    replace E := E.keep (e' := [(4, _)]) (zAb rfl (zAp))
    refine zAc ?_
    refine zp E (zAg E rfl rfl) ?_; clear E a; intro a E
    refine wpList_nil ?_
    refine zAh hK ?_; clear hK; clear K
    refine wp_ret ?_
    refine ret1 E rfl rfl ?_
    exact ⟨_, rfl, [(p, cel [.int .i64 s.room, .slice ad3 (s.bs.length + b.length) c3, .int .i64 s.e] 186)] ++ C24, by simp [Wr.putE, hf], ⟨.slice ad3 (s.bs.length + b.length) c3, C24, by simp [Wr.putS, hf], by simpa [Wr.putS, hf, zCx] using hB24⟩, S.join.tr⟩
theorem try_no (p : Nat) (s : Wr) (A : zAs) (fv : Value) (w0 : World) (hA : WrC 186 p s A) (H : Hp w0 [A]) (he : s.e ≠ 0) :
    Ret Tryz.prog 107 #[ptr p, fv] w0 fun _ w' => w' = w0 := by
  obtain ⟨v, C, rfl, hB⟩ := hA
  have S := (St.begin H).split
  refine zCy 14 Tryz.func107 rfl rfl (by decide) ?_; intro a E
  refine wp_seq_k ?_; intro K hK
  refine zAc ?_
  refine zp E (zAe E rfl rfl) ?_; clear E a; intro a E
  refine zp E (zAl E rfl rfl) ?_; clear E a; intro a E
  refine zp E (by first | exact zAf (q := 2) E rfl rfl rfl | exact zAi (q := 2) E rfl rfl rfl) ?_; clear E a; intro a E
  refine zp E (by first | exact zAn E rfl rfl rfl (S.get (by repeat (first | exact pk1 | apply zAa))) rfl | exact zAj E rfl rfl rfl (by assumption)) ?_; clear E a; intro a E
  refine zp E (by first | exact zCf E rfl rfl rfl | exact zAu E rfl rfl rfl rfl | exact zBc E rfl rfl rfl rfl | exact zAw E rfl rfl rfl) ?_; clear E a; intro a E
  refine wpList_nil ?_
  refine zAh hK ?_; clear hK; clear K
  refine zBl E rfl (fun hb => ?_) (fun hb => ?_)
  · replace hb := Nrm.nrm hb
    exfalso; omega
  · replace hb := Nrm.nrm hb
    refine wp_skip ?_
    refine end0 E rfl ?_
    exact ⟨_, rfl, rfl⟩
theorem try_yes (f : FuncId) (fn : Func) (cap : List Value) (hf : Tryz.prog.funcs[f]? = some fn) (hfb : fn.body.isSome = true) (hfn : (fn.name == "runtime.NumGoroutine") = false)
    (p : Nat) (s : Wr) (A : zAs) (Rs : List zAs) (X : Nat → List UInt8 → Prop) (w0 : World) (hA : WrC 186 p s A) (H : Hp w0 (A :: Rs)) (he : s.e = 0)
    (hc : Ret Tryz.prog f cap.toArray w0 fun u w' => ∃ (e' : Nat) (bs' : List UInt8) (A' : zAs), u = .int .i64 e' ∧ WrC 186 p { s with bs := bs' } A' ∧ Trs w0 w' (A :: Rs) (A' :: Rs) ∧ X e' bs') :
    Ret Tryz.prog 107 #[ptr p, .func (.func f) #[] cap.toArray] w0 fun _ w' => ∃ (e' : Nat) (bs' : List UInt8) (A' : zAs), WrC 186 p { s with bs := bs', e := e' } A' ∧ Trs w0 w' (A :: Rs) (A' :: Rs) ∧ X e' bs' := by
  have hA0 := hA
  obtain ⟨v, C, rfl, hB⟩ := hA
  have S := (St.begin H).split
  refine zCy 14 Tryz.func107 rfl rfl (by decide) ?_; intro a E
  refine wp_seq_k ?_; intro K hK
  refine zAc ?_
  refine zp E (zAe E rfl rfl) ?_; clear E a; intro a E
  refine zp E (zAl E rfl rfl) ?_; clear E a; intro a E
  refine zp E (by first | exact zAf (q := 2) E rfl rfl rfl | exact zAi (q := 2) E rfl rfl rfl) ?_; clear E a; intro a E
  refine zp E (by first | exact zAn E rfl rfl rfl (S.get (by repeat (first | exact pk1 | apply zAa))) rfl | exact zAj E rfl rfl rfl (by assumption)) ?_; clear E a; intro a E
  refine zp E (by first | exact zCf E rfl rfl rfl | exact zAu E rfl rfl rfl rfl | exact zBc E rfl rfl rfl rfl | exact zAw E rfl rfl rfl) ?_; clear E a; intro a E
  refine wpList_nil ?_
  refine zAh hK ?_; clear hK; clear K
  refine zBl E rfl (fun hb => ?_) (fun hb => ?_)
  · replace hb := Nrm.nrm hb
    refine zAc ?_
    iterate 2 (refine zp E (zAe E rfl rfl) ?_; clear E a; intro a E)
    refine zDu E rfl rfl (by decide) rfl rfl hf hfb hfn rfl (hc) ?_
    rintro v11 w ⟨e', bs', A', rfl, ⟨v', C', rfl, hB'⟩, hT, hX⟩; clear E a; intro a E
    have S := ((St.begin H).all hT).split
    refine zp E (zAl E rfl rfl) ?_; clear E a; intro a E
    refine zp E (by first | exact zAf (q := 2) E rfl rfl rfl | exact zAi (q := 2) E rfl rfl rfl) ?_; clear E a; intro a E
    refine zAo rfl (zBg E S rfl rfl rfl rfl rfl rfl (by repeat (first | exact pk1 | apply zAa)) (by first | exact Nat.le_of_ble_eq_true rfl | (simp; done) | (simp; omega)) ?_); clear E S a; intro a w E S; try dsimp only [List.set] at S
    refine wpList_nil ?_
    refine end0 E rfl ?_
    exact ⟨_, rfl, e', bs', _, ⟨v', C', rfl, hB'⟩, S.join.tr, hX⟩
  · replace hb := Nrm.nrm hb
    exfalso; omega
theorem try_ret (s2 : Wr) (f : FuncId) (fn : Func) (cap : List Value) (hf : Tryz.prog.funcs[f]? = some fn) (hfb : fn.body.isSome = true) (hfn : (fn.name == "runtime.NumGoroutine") = false)
    (p : Nat) (s : Wr) (A : zAs) (Rs : List zAs) (w0 : World) (hA : WrC 186 p s A) (H : Hp w0 (A :: Rs)) (h0 : s.e ≠ 0 → s2 = s)
    (hc : s.e = 0 → Ret Tryz.prog f cap.toArray w0 fun u w' => ∃ (e' : Nat) (bs' : List UInt8) (A' : zAs), u = .int .i64 e' ∧ WrC 186 p { s with bs := bs' } A' ∧ Trs w0 w' (A :: Rs) (A' :: Rs) ∧ s2 = { s with bs := bs', e := e' }) :
    Ret Tryz.prog 107 #[ptr p, .func (.func f) #[] cap.toArray] w0 fun _ w' => ∃ A' : zAs, WrC 186 p s2 A' ∧ Trs w0 w' (A :: Rs) (A' :: Rs) := by
  by_cases he : s.e = 0
  · refine (try_yes f fn cap hf hfb hfn p s A Rs (fun e' bs' => s2 = { s with bs := bs', e := e' }) w0 hA H he (hc he)).mono ?_
    rintro _ w' ⟨e', bs', A', h1, h2, h3⟩
    exact ⟨A', by rw [h3]; exact h1, h2⟩
  · refine (try_no p s A _ w0 hA (H.sel (Rs := Rs) (List.Perm.refl _)) he).mono ?_
    rintro _ w' rfl
    exact ⟨A, by rw [h0 he]; exact hA, Trs.refl _ _⟩
theorem num_body (p : Nat) (s : Wr) (A : zAs) (w0 : World) (hA : WrC 186 p s A) (he : s.e = 0) (b5 b4 b3 : Nat) (n : Nat) (k : Int)
    (H : Hp w0 [A, [(b5, cel [.int .i64 k] 3)], [(b4, cel [.int .u64 n] 29)], [(b3, cel [ptr p] 170)]]) (hr : s.room ≤ 140737488355328) :
    Ret Tryz.prog 113 #[ptr b5, ptr b4, ptr b3] w0 fun u w' => ∃ (e' : Nat) (bs' : List UInt8) (A' : zAs), u = .int .i64 e' ∧ WrC 186 p { s with bs := bs' } A' ∧
      Trs w0 w' [A, [(b5, cel [.int .i64 k] 3)], [(b4, cel [.int .u64 n] 29)], [(b3, cel [ptr p] 170)]] [A', [(b5, cel [.int .i64 k] 3)], [(b4, cel [.int .u64 n] 29)], [(b3, cel [ptr p] 170)]] ∧ s.num n k = { s with bs := bs', e := e' } := by
  have S := St.begin H
  have hbad : (k < 1 ∨ 8 < k) → s.num n k = { s with bs := s.bs, e := 1 } := fun h => by simp [Wr.num, Wr.lay, numE, he, h]
  refine zEs 23 Tryz.func113 rfl rfl (by decide) ?_; intro a E
  refine wp_seq_k ?_; intro K hK
  refine zAc ?_
  refine zp E (zAg E rfl rfl) ?_; clear E a; intro a E
  refine wpList_nil ?_
  refine zAh hK ?_; clear hK; clear K
  refine wp_seq_k ?_; intro K hK
  refine wp_block ?_
  refine wp_seq_k ?_; intro K hK
  refine zAc ?_
  refine zp E (by first | exact zAn E rfl rfl rfl (S.get (by repeat (first | exact pk1 | apply zAa))) rfl | exact zAj E rfl rfl rfl (by assumption)) ?_; clear E a; intro a E
  refine zp E (zCb E rfl rfl rfl) ?_; clear E a; intro a E
  refine zp E (zAe E rfl rfl) ?_; clear E a; intro a E
  refine zAy E (t := 7) rfl (fun hb7 => ?_) (fun hb7 => ?_)
  · have hb7n := hb7; replace hb7n := Nrm.nrm hb7n
    iterate 2 (refine zn E hb7 ?_; clear E a; intro a E)
    refine zp E (zAm E rfl rfl hb7 rfl) ?_; clear E a; intro a E
    refine zp E (zAg E rfl rfl) ?_; clear E a; intro a E
    refine wpList_nil ?_
    refine zAh hK ?_; clear hK; clear K
    refine zDa E rfl rfl ?_
    refine wp_seq_k ?_; intro K hK
    refine zAc ?_
    refine zp E (zAg E rfl rfl) ?_; clear E a; intro a E
    refine wpList_nil ?_
    refine zAh hK ?_; clear hK; clear K
    refine wp_ret ?_
    refine zEc ?_
    refine zBi ?_; clear hK; clear K
    refine ret1 E rfl rfl ?_
    exact ⟨_, rfl, 1, s.bs, A, rfl, hA, S.tr, hbad (by omega)⟩
  · have hb7n := hb7; replace hb7n := Nrm.nrm hb7n
    refine zy E hb7 (by first | exact zAn E rfl rfl rfl (S.get (by repeat (first | exact pk1 | apply zAa))) rfl | exact zAj E rfl rfl rfl (by assumption)) ?_; clear E a; intro a E
    refine zy E hb7 (zDd E rfl rfl rfl) ?_; clear E a; intro a E
    refine zp E (zAq E rfl rfl hb7 rfl) ?_; clear E a; intro a E
    refine zp E (zAg E rfl rfl) ?_; clear E a; intro a E
    refine wpList_nil ?_
    refine zAh hK ?_; clear hK; clear K
    refine zBl E rfl (fun hb => ?_) (fun hb => ?_)
    · replace hb := Nrm.nrm hb
      refine wp_seq_k ?_; intro K hK
      refine zAc ?_
      refine zp E (zAg E rfl rfl) ?_; clear E a; intro a E
      refine wpList_nil ?_
      refine zAh hK ?_; clear hK; clear K
      refine wp_ret ?_
      refine zEc ?_
      refine zBi ?_; clear hK; clear K
      refine ret1 E rfl rfl ?_
      exact ⟨_, rfl, 1, s.bs, A, rfl, hA, S.tr, hbad (by omega)⟩
    · replace hb := Nrm.nrm hb
      refine wp_seq_k ?_; intro K hK
      obtain ⟨kn, rfl⟩ : ∃ kn : Nat, k = kn := ⟨k.toNat, by omega⟩
      refine zBo S (.ofL [(0, 0), (1, 0), (4, 0), (2, 1), (3, 1), (5, 0), (6, 0)]) (by kernel_rfl) (by kernel_rfl) ?_
      clear S; intro w S
      iterate 3 (refine zm E rfl (fun w h => by first | exact zAn E rfl rfl rfl (h.one (by repeat (first | exact mm1 | assumption | apply List.Mem.tail))) rfl | exact zAj E rfl rfl rfl (by assumption)) ?_; clear E a; intro a E)
      refine zCn E rfl rfl rfl (by decide) rfl Tryz.func115 rfl (by kernel_rfl) rfl (form_ret n kn w (by omega)) ?_
      rintro v14 w ⟨g, rfl, hT⟩; clear E a; intro a E
      have S := S.fresh hT
      refine ⟨S.stab.sub (by first | (simp; done) | (simp +contextual; done) | (simp [*]; done)), ?_⟩
      refine zCn E rfl rfl rfl (by decide) rfl Tryz.func114 rfl (by kernel_rfl) rfl (value_ret _ _ (zCv n kn) w (rd_blk kn (zBz _ _) (by omega) _) (S.stab.at (by repeat (first | exact mm1 | assumption | apply List.Mem.tail))) (by rw [zBz]; omega)) ?_
      rintro v15 w ⟨rfl, rfl⟩; clear E a; intro a E
      refine ⟨S.stab.sub (by first | (simp; done) | (simp +contextual; done) | (simp [*]; done)), ?_⟩
      refine zm E rfl (fun w h => by first | exact zCu E rfl rfl rfl | exact zAz E rfl rfl rfl rfl | exact zBj E rfl rfl rfl rfl | exact zBd E rfl rfl rfl) ?_; clear E a; intro a E
      refine zm E rfl (fun w h => zAg E rfl rfl) ?_; clear E a; intro a E
      refine zBs ?_
      refine zAh hK ?_; clear hK; clear K
      refine zBl E rfl (fun hb => ?_) (fun hb => ?_)
      · replace hb := Nrm.nrm hb
        rw [zLi] at hb
        refine wp_seq_k ?_; intro K hK
        refine zAc ?_
        refine zp E (zAg E rfl rfl) ?_; clear E a; intro a E
        refine wpList_nil ?_
        refine zAh hK ?_; clear hK; clear K
        refine wp_ret ?_
        refine zEc ?_
        refine zBi ?_; clear hK; clear K
        refine ret1 E rfl rfl ?_
        have h5 : ¬ n < 256 ^ kn := fun h => hb (by rw [Nat.mod_eq_of_lt h])
        have S := S.only (Bs := [A, _, _, _]) (Rs := [_]) ((List.perm_append_comm (l₁ := [_]) (l₂ := [A, _, _, _])))
        exact ⟨_, rfl, 11, s.bs, A, rfl, hA, S.tr, by simp [Wr.num, Wr.lay, numE, he, show ¬ ((kn : Int) < 1 ∨ 8 < (kn : Int)) by omega, Nat.not_lt.1 h5]⟩
      · replace hb := Nrm.nrm hb
        rw [zLi] at hb
        refine wp_skip ?_
        refine zBf ?_
        refine zAh hK ?_; clear hK; clear K
        refine wp_seq_k ?_; intro K hK
        have h5 : n < 256 ^ kn := by have := Nat.mod_lt n (show 0 < 256 ^ kn from Nat.pow_pos (by omega)); omega
        refine zBo S (.ofL [(0, 0), (1, 0), (2, 0), (3, 1), (4, 3), (5, 2)]) (by kernel_rfl) (by kernel_rfl) ?_
        clear S; intro w S
        iterate 3 (refine zm E rfl (fun w h => by first | exact zAn E rfl rfl rfl (h.one (by repeat (first | exact mm1 | assumption | apply List.Mem.tail))) rfl | exact zAj E rfl rfl rfl (by assumption)) ?_; clear E a; intro a E)
        refine zCn E rfl rfl rfl (by decide) rfl Tryz.func115 rfl (by kernel_rfl) rfl (form_ret n kn w (by omega)) ?_
        rintro v21 w ⟨g2, rfl, hT⟩; clear E a; intro a E
        have S := S.fresh hT
        refine ⟨S.stab.sub (by first | (simp; done) | (simp +contextual; done) | (simp [*]; done)), ?_⟩
        refine zDl E rfl rfl rfl (by decide) rfl Tryz.func109 rfl (by kernel_rfl) rfl (put_ret p s A _ _ (zCv n kn) w hA (rd_blk kn (zBz _ _) (by omega) _) (S.hp.sel (zAd (by repeat (first | exact pk1 | apply zAa)) (zAd (by repeat (first | exact pk1 | apply zAa)) (zAk _)))) hr) ?_
        rintro v22 w ⟨A', rfl, hA', hT⟩; clear E a; intro a E
        have S := S.call2 (zAd (by repeat (first | exact pk1 | apply zAa)) (zAd (by repeat (first | exact pk1 | apply zAa)) (zAk _))) hT
        refine zCl E rfl rfl rfl (by decide) (fun w => zAg E rfl rfl) ?_; clear E a; intro a E
        refine zBs ?_
        refine zAh hK ?_; clear hK; clear K
        refine wp_ret ?_
        refine ret1 E rfl rfl ?_
        rw [s.putS_eq] at hA'
        have S := S.only (Bs := [A', [(b5, cel [.int .i64 kn] 3)], [(b4, cel [.int .u64 n] 29)], [(b3, cel [ptr p] 170)]]) (zAd (by repeat (first | exact pk1 | apply zAa)) (zAd (by repeat (first | exact pk1 | apply zAa)) (zAd (by repeat (first | exact pk1 | apply zAa)) (zAd (by repeat (first | exact pk1 | apply zAa)) (zAk _)))))
        refine ⟨_, rfl, _, _, A', rfl, hA', S.tr, ?_⟩
        simp only [Wr.num, Wr.lay, numE, he, show ¬ ((kn : Int) < 1 ∨ 8 < (kn : Int)) by omega, Int.toNat_natCast, show ¬ n ≥ 256 ^ kn by omega, if_false, ne_eq, not_true_eq_false]
        rw [s.putS_eq]
theorem num_ret (p : Nat) (s : Wr) (A : zAs) (w0 : World) (hA : WrC 186 p s A) (n : Nat) (k : Int) (H : Hp w0 [A]) (hr : s.room ≤ 140737488355328) :
    Ret Tryz.prog 98 #[ptr p, .int .u64 n, .int .i64 k] w0 fun _ w' => ∃ A', WrC 186 p (s.num n k) A' ∧ Trs w0 w' [A] [A'] := by
  have S := St.begin H
  refine zEs 9 Tryz.func98 rfl rfl (by decide) ?_; intro a E
  refine wp_seq_k ?_; intro K hK
  refine zAc ?_
  refine zAo rfl (zCs E S rfl rfl (by decide) rfl rfl ?_); clear E S a; intro a w b3 E S
  refine zAo rfl (zCs E S rfl rfl (by decide) rfl rfl ?_); clear E S a; intro a w b4 E S
  refine zAo rfl (zCs E S rfl rfl (by decide) rfl rfl ?_); clear E S a; intro a w b5 E S
  refine wpList_nil ?_
  refine zAh hK ?_; clear hK; clear K
  have S := S.perm (Bs := [A, [(b5, cel [.int .i64 k] 3)], [(b4, cel [.int .u64 n] 29)], [(b3, cel [ptr p] 170)]]) (zAd (by repeat (first | exact pk1 | apply zAa)) (zAd (by repeat (first | exact pk1 | apply zAa)) (zAd (by repeat (first | exact pk1 | apply zAa)) (zAd (by repeat (first | exact pk1 | apply zAa)) (zAk _)))))
  refine zAc ?_
  refine zp E (by first | exact zAn E rfl rfl rfl (S.get (by repeat (first | exact pk1 | apply zAa))) rfl | exact zAj E rfl rfl rfl (by assumption)) ?_; clear E a; intro a E
  refine zp E (zEp E rfl rfl ⟨_, rfl⟩) ?_; clear E a; intro a E
  refine zAr E rfl rfl (by decide) rfl Tryz.func107 rfl (by kernel_rfl) rfl (try_ret (s.num n k) 113 _ [ptr b5, ptr b4, ptr b3] Tryz.func113 rfl (by kernel_rfl) p s A [[(b5, cel [.int .i64 k] 3)], [(b4, cel [.int .u64 n] 29)], [(b3, cel [ptr p] 170)]] w hA S.hp (fun h => by simp [Wr.num, Wr.lay, h]) (fun h => num_body p s A w hA h b5 b4 b3 n k S.hp hr)) ?_
  rintro v8 w ⟨A', hA', hT⟩; clear E a; intro a E
  have S := S.all hT
  refine wpList_nil ?_
  refine end0 E rfl ?_
  exact ⟨_, rfl, A', hA', (S.only (Bs := [A']) (zAd (by repeat (first | exact pk1 | apply zAa)) (zAk _))).tr⟩
theorem bytes_body (p : Nat) (s : Wr) (A D : zAs) (w0 : World) (hA : WrC 186 p s A) (he : s.e = 0) (bw bb : Nat) (bv : Value) (b : List UInt8) (hD : Rd D 1 bv b.length (byt b))
    (H : Hp w0 [A, [(bb, cel [bv] 22)], [(bw, cel [ptr p] 170)], D]) (hr : s.room ≤ 140737488355328) :
    Ret Tryz.prog 108 #[ptr bw, ptr bb] w0 fun u w' => ∃ (e' : Nat) (bs' : List UInt8) (A' : zAs), u = .int .i64 e' ∧ WrC 186 p { s with bs := bs' } A' ∧
      Trs w0 w' [A, [(bb, cel [bv] 22)], [(bw, cel [ptr p] 170)], D] [A', [(bb, cel [bv] 22)], [(bw, cel [ptr p] 170)], D] ∧ s.bytes b = { s with bs := bs', e := e' } := by
  have S := St.begin H
  refine zCy 6 Tryz.func108 rfl rfl (by decide) ?_; intro a E
  refine wp_seq_k ?_; intro K hK
  refine zAc ?_
  refine zp E (zAg E rfl rfl) ?_; clear E a; intro a E
  refine wpList_nil ?_
  refine zAh hK ?_; clear hK; clear K
  refine wp_seq_k ?_; intro K hK
  refine zAc ?_
  iterate 2 (refine zp E (by first | exact zAn E rfl rfl rfl (S.get (by repeat (first | exact pk1 | apply zAa))) rfl | exact zAj E rfl rfl rfl (by assumption)) ?_; clear E a; intro a E)
  refine zAr E rfl rfl (by decide) rfl Tryz.func109 rfl (by kernel_rfl) rfl (put_ret p s A D bv b w0 hA hD (S.hp.sel (zAd (by repeat (first | exact pk1 | apply zAa)) (zAd (by repeat (first | exact pk1 | apply zAa)) (zAk _)))) hr) ?_
  rintro v5 w ⟨A', rfl, hA', hT⟩; clear E a; intro a E
  have S := S.call2 (zAd (by repeat (first | exact pk1 | apply zAa)) (zAd (by repeat (first | exact pk1 | apply zAa)) (zAk _))) hT
  refine zp E (zAg E rfl rfl) ?_; clear E a; intro a E
  refine wpList_nil ?_
  refine zAh hK ?_; clear hK; clear K
  refine wp_ret ?_
  refine ret1 E rfl rfl ?_
  rw [s.putS_eq] at hA'
  refine ⟨_, rfl, _, _, A', rfl, hA', (S.only (Bs := [A', [(bb, cel [bv] 22)], [(bw, cel [ptr p] 170)], D]) (zAd (by repeat (first | exact pk1 | apply zAa)) (zAd (by repeat (first | exact pk1 | apply zAa)) (zAd (by repeat (first | exact pk1 | apply zAa)) (zAd (by repeat (first | exact pk1 | apply zAa)) (zAk _)))))).tr, ?_⟩
  simp only [Wr.bytes, Wr.lay, he, if_false, ne_eq, not_true_eq_false]
  rw [s.putS_eq]
theorem bytes_ret (p : Nat) (s : Wr) (A D : zAs) (w0 : World) (hA : WrC 186 p s A) (bv : Value) (b : List UInt8) (hD : Rd D 1 bv b.length (byt b)) (H : Hp w0 [A, D]) (hr : s.room ≤ 140737488355328) :
    Ret Tryz.prog 91 #[ptr p, bv] w0 fun _ w' => ∃ A', WrC 186 p (s.bytes b) A' ∧ Trs w0 w' [A, D] [A', D] := by
  have S := St.begin H
  obtain ⟨ad, c, rfl⟩ := hD.slice
  refine zCy 7 Tryz.func91 rfl rfl (by decide) ?_; intro a E
  refine wp_seq_k ?_; intro K hK
  refine zAc ?_
  refine zAo rfl (zCs E S rfl rfl (by decide) rfl rfl ?_); clear E S a; intro a w b2 E S
  refine zAo rfl (zCs E S rfl rfl (by decide) rfl rfl ?_); clear E S a; intro a w b3 E S
  refine wpList_nil ?_
  refine zAh hK ?_; clear hK; clear K
  have S := S.perm (Bs := [A, [(b3, cel [.slice ad b.length c] 22)], [(b2, cel [ptr p] 170)], D]) (zAd (by repeat (first | exact pk1 | apply zAa)) (zAd (by repeat (first | exact pk1 | apply zAa)) (zAd (by repeat (first | exact pk1 | apply zAa)) (zAd (by repeat (first | exact pk1 | apply zAa)) (zAk _)))))
  refine zAc ?_
  refine zp E (by first | exact zAn E rfl rfl rfl (S.get (by repeat (first | exact pk1 | apply zAa))) rfl | exact zAj E rfl rfl rfl (by assumption)) ?_; clear E a; intro a E
  refine zp E (zEp E rfl rfl ⟨_, rfl⟩) ?_; clear E a; intro a E
  refine zAr E rfl rfl (by decide) rfl Tryz.func107 rfl (by kernel_rfl) rfl (try_ret (s.bytes b) 108 _ [ptr b2, ptr b3] Tryz.func108 rfl (by kernel_rfl) p s A [[(b3, cel [.slice ad b.length c] 22)], [(b2, cel [ptr p] 170)], D] w hA S.hp (fun h => by simp [Wr.bytes, Wr.lay, h]) (fun h => bytes_body p s A D w hA h b2 b3 _ b hD S.hp hr)) ?_
  rintro v6 w ⟨A', hA', hT⟩; clear E a; intro a E
  have S := S.all hT
  refine wpList_nil ?_
  refine end0 E rfl ?_
  exact ⟨_, rfl, A', hA', (S.only (Bs := [A', D]) (zAd (by repeat (first | exact pk1 | apply zAa)) (zAd (by repeat (first | exact pk1 | apply zAa)) (zAk _)))).tr⟩
theorem byt_zeros (k : Nat) : byt (List.replicate k 0) = List.replicate k (.int .u8 0) := by simp [byt]
theorem pad_body (p : Nat) (s : Wr) (A : zAs) (w0 : World) (hA : WrC 186 p s A) (he : s.e = 0) (bw bb : Nat) (to : Int)
    (H : Hp w0 [A, [(bb, cel [.int .i64 to] 3)], [(bw, cel [ptr p] 170)]]) (hr : s.room ≤ 140737488355328) :
    Ret Tryz.prog 111 #[ptr bb, ptr bw] w0 fun u w' => ∃ (e' : Nat) (bs' : List UInt8) (A' : zAs), u = .int .i64 e' ∧ WrC 186 p { s with bs := bs' } A' ∧
      Trs w0 w' [A, [(bb, cel [.int .i64 to] 3)], [(bw, cel [ptr p] 170)]] [A', [(bb, cel [.int .i64 to] 3)], [(bw, cel [ptr p] 170)]] ∧ s.pad to = { s with bs := bs', e := e' } := by
  have hA0 := hA
  obtain ⟨v, C, hAe, hB⟩ := hA
  obtain ⟨ad, c, rfl⟩ := hB.slice
  have hm := hB.rd.2.2.1
  simp only [maxLen] at hm
  have S := St.begin H
  have S := (by rw [hAe] at S; exact S.split : St w0 _ w0 ([(p, cel [.int .i64 s.room, .slice ad s.bs.length c, .int .i64 s.e] 186)] :: C :: _))
  refine zCy 28 Tryz.func111 rfl rfl (by decide) ?_; intro a E
  refine wp_seq_k ?_; intro K hK
  refine zAc ?_
  refine zp E (zAg E rfl rfl) ?_; clear E a; intro a E
  refine wpList_nil ?_
  refine zAh hK ?_; clear hK; clear K
  refine wp_seq_k ?_; intro K hK
  refine wp_block ?_
  refine wp_seq_k ?_; intro K hK
  refine zBo S (.ofL [(0, 0), (1, 0), (2, 0), (3, 0), (4, 0), (5, 0), (6, 0), (7, 0)]) (by kernel_rfl) (by kernel_rfl) ?_
  clear S; intro w S
  iterate 2 (refine zm E rfl (fun w h => by first | exact zAn E rfl rfl rfl (h.one (by repeat (first | exact mm1 | assumption | apply List.Mem.tail))) rfl | exact zAj E rfl rfl rfl (by assumption)) ?_; clear E a; intro a E)
  refine zm E rfl (fun w h => zAl E rfl rfl) ?_; clear E a; intro a E
  refine zm E rfl (fun w h => by first | exact zAf (q := 1) E rfl rfl rfl | exact zAi (q := 1) E rfl rfl rfl) ?_; clear E a; intro a E
  refine zm E rfl (fun w h => by first | exact zAn E rfl rfl rfl (h.one (by repeat (first | exact mm1 | assumption | apply List.Mem.tail))) rfl | exact zAj E rfl rfl rfl (by assumption)) ?_; clear E a; intro a E
  refine zm E rfl (fun w h => by first | exact zCa E rfl rfl rfl | exact zBa E rfl rfl rfl | exact zAt E rfl rfl rfl) ?_; clear E a; intro a E
  refine zm E rfl (fun w h => zCb E rfl rfl rfl) ?_; clear E a; intro a E
  refine zm E rfl (fun w h => zAg E rfl rfl) ?_; clear E a; intro a E
  refine zBs ?_
  refine zAh hK ?_; clear hK; clear K
  refine zBl E rfl (fun hb => ?_) (fun hb => ?_)
  · replace hb := Nrm.nrm hb
    have S := S.join; rw [← hAe] at S
    refine wp_seq_k ?_; intro K hK
    refine zAc ?_
    refine zp E (zAg E rfl rfl) ?_; clear E a; intro a E
    refine wpList_nil ?_
    refine zAh hK ?_; clear hK; clear K
    refine wp_ret ?_
    refine zEc ?_
    refine zBi ?_; clear hK; clear K
    refine ret1 E rfl rfl ?_
    exact ⟨_, rfl, 11, s.bs, A, rfl, hA0, by simpa using S.tr, by simp [Wr.pad, Wr.lay, padE, he, show to < s.bs.length by omega]⟩
  · replace hb := Nrm.nrm hb
    refine wp_seq_k ?_; intro K hK
    refine zBo S (.ofL [(0, 0), (1, 0), (2, 0), (3, 0), (4, 0), (5, 0), (6, 0)]) (by kernel_rfl) (by kernel_rfl) ?_
    clear S; intro w S
    iterate 2 (refine zm E rfl (fun w h => by first | exact zAn E rfl rfl rfl (h.one (by repeat (first | exact mm1 | assumption | apply List.Mem.tail))) rfl | exact zAj E rfl rfl rfl (by assumption)) ?_; clear E a; intro a E)
    refine zm E rfl (fun w h => zAl E rfl rfl) ?_; clear E a; intro a E
    refine zm E rfl (fun w h => by first | exact zAf (q := 0) E rfl rfl rfl | exact zAi (q := 0) E rfl rfl rfl) ?_; clear E a; intro a E
    refine zm E rfl (fun w h => by first | exact zAn E rfl rfl rfl (h.one (by repeat (first | exact mm1 | assumption | apply List.Mem.tail))) rfl | exact zAj E rfl rfl rfl (by assumption)) ?_; clear E a; intro a E
    refine zm E rfl (fun w h => zDd E rfl rfl rfl) ?_; clear E a; intro a E
    refine zm E rfl (fun w h => zAg E rfl rfl) ?_; clear E a; intro a E
    refine zBs ?_
    refine zAh hK ?_; clear hK; clear K
    refine zBl E rfl (fun hb => ?_) (fun hb => ?_)
    · replace hb := Nrm.nrm hb
      have S := S.join; rw [← hAe] at S
      refine wp_seq_k ?_; intro K hK
      refine zAc ?_
      refine zp E (zAg E rfl rfl) ?_; clear E a; intro a E
      refine wpList_nil ?_
      refine zAh hK ?_; clear hK; clear K
      refine wp_ret ?_
      refine zEc ?_
      refine zBi ?_; clear hK; clear K
      refine ret1 E rfl rfl ?_
      exact ⟨_, rfl, 12, s.bs, A, rfl, hA0, by simpa using S.tr, by simp [Wr.pad, Wr.lay, padE, he, show ¬ to < s.bs.length by omega, show (s.room : Int) < to by omega]⟩
    · replace hb := Nrm.nrm hb
      refine wp_skip ?_
      refine zBf ?_
      refine zAh hK ?_; clear hK; clear K
      refine wp_seq_k ?_; intro K hK
      obtain ⟨tn, rfl⟩ : ∃ tn : Nat, to = tn := ⟨to.toNat, by omega⟩
      refine zBo S (.ofL [(0, 0), (1, 0), (2, 0), (3, 0), (4, 0), (5, 0), (6, 0), (7, 0), (8, 1), (9, 3), (10, 2)]) (by kernel_rfl) (by kernel_rfl) ?_
      clear S; intro w S
      iterate 3 (refine zm E rfl (fun w h => by first | exact zAn E rfl rfl rfl (h.one (by repeat (first | exact mm1 | assumption | apply List.Mem.tail))) rfl | exact zAj E rfl rfl rfl (by assumption)) ?_; clear E a; intro a E)
      refine zm E rfl (fun w h => zAl E rfl rfl) ?_; clear E a; intro a E
      refine zm E rfl (fun w h => by first | exact zAf (q := 1) E rfl rfl rfl | exact zAi (q := 1) E rfl rfl rfl) ?_; clear E a; intro a E
      refine zm E rfl (fun w h => by first | exact zAn E rfl rfl rfl (h.one (by repeat (first | exact mm1 | assumption | apply List.Mem.tail))) rfl | exact zAj E rfl rfl rfl (by assumption)) ?_; clear E a; intro a E
      refine zm E rfl (fun w h => by first | exact zCa E rfl rfl rfl | exact zBa E rfl rfl rfl | exact zAt E rfl rfl rfl) ?_; clear E a; intro a E
      refine zm E rfl (fun w h => zDf E rfl rfl rfl (by first | exact ws1 (by omega) (by omega) | exact w_in (by omega) | exact zBy (by omega) | exact rfl)) ?_; clear E a; intro a E
      refine zDp rfl rfl (zDq (by' := 1) E S rfl rfl (by decide) rfl rfl rfl rfl rfl rfl rfl rfl rfl rfl rfl (by first | exact mkb (by omega) | exact mkb8 (by omega) | exact mkbn rfl (by omega)) (by simp only [maxLen]; omega) ?_); clear E S a; intro a w g26 E S; refine ⟨S.stab.sub (by first | (simp; done) | (simp +contextual; done) | (simp [*]; done)), ?_⟩
      have S := S.gather (A := [(p, _)]) (B := C) (by repeat (first | exact pk1 | apply zAa)) (by repeat (first | exact pk1 | apply zAa))
      rw [← hAe, ← byt_zeros] at S
      refine zDl E rfl rfl rfl (by decide) rfl Tryz.func109 rfl (by kernel_rfl) rfl (put_ret p s A _ _ (List.replicate (tn - s.bs.length) 0) w hA0 (rd_blk (tn - s.bs.length) (by simp) (by omega) _) (S.hp.sel (zAd (by repeat (first | exact pk1 | apply zAa)) (zAd (by repeat (first | exact pk1 | apply zAa)) (zAk _)))) hr) ?_
      rintro v27 w ⟨A', rfl, hA', hT⟩; clear E a; intro a E
      have S := S.call2 (zAd (by repeat (first | exact pk1 | apply zAa)) (zAd (by repeat (first | exact pk1 | apply zAa)) (zAk _))) hT
      refine zCl E rfl rfl rfl (by decide) (fun w => zAg E rfl rfl) ?_; clear E a; intro a E
      refine zBs ?_
      refine zAh hK ?_; clear hK; clear K
      refine wp_ret ?_
      refine ret1 E rfl rfl ?_
      rw [s.putS_eq] at hA'
      refine ⟨_, rfl, _, _, A', rfl, hA', (S.only (Bs := [A', [(bb, cel [.int .i64 tn] 3)], [(bw, cel [ptr p] 170)]]) (zAd (by repeat (first | exact pk1 | apply zAa)) (zAd (by repeat (first | exact pk1 | apply zAa)) (zAd (by repeat (first | exact pk1 | apply zAa)) (zAk _))))).tr, ?_⟩
      simp only [Wr.pad, Wr.lay, padE, he, show ¬ (tn : Int) < s.bs.length by omega, show ¬ (tn : Int) > s.room by omega, Int.toNat_natCast, if_false, ne_eq, not_true_eq_false]
      rw [s.putS_eq]
theorem pad_ret (p : Nat) (s : Wr) (A : zAs) (w0 : World) (hA : WrC 186 p s A) (to : Int) (H : Hp w0 [A]) (hr : s.room ≤ 140737488355328) :
    Ret Tryz.prog 94 #[ptr p, .int .i64 to] w0 fun _ w' => ∃ A', WrC 186 p (s.pad to) A' ∧ Trs w0 w' [A] [A'] := by
  have S := St.begin H
  refine zCy 7 Tryz.func94 rfl rfl (by decide) ?_; intro a E
  refine wp_seq_k ?_; intro K hK
  refine zAc ?_
  refine zAo rfl (zCs E S rfl rfl (by decide) rfl rfl ?_); clear E S a; intro a w b2 E S
  refine zAo rfl (zCs E S rfl rfl (by decide) rfl rfl ?_); clear E S a; intro a w b3 E S
  refine wpList_nil ?_
  refine zAh hK ?_; clear hK; clear K
  have S := S.perm (Bs := [A, [(b3, cel [.int .i64 to] 3)], [(b2, cel [ptr p] 170)]]) (zAd (by repeat (first | exact pk1 | apply zAa)) (zAd (by repeat (first | exact pk1 | apply zAa)) (zAd (by repeat (first | exact pk1 | apply zAa)) (zAk _))))
  refine zAc ?_
  refine zp E (by first | exact zAn E rfl rfl rfl (S.get (by repeat (first | exact pk1 | apply zAa))) rfl | exact zAj E rfl rfl rfl (by assumption)) ?_; clear E a; intro a E
  refine zp E (zEp E rfl rfl ⟨_, rfl⟩) ?_; clear E a; intro a E
  refine zAr E rfl rfl (by decide) rfl Tryz.func107 rfl (by kernel_rfl) rfl (try_ret (s.pad to) 111 _ [ptr b3, ptr b2] Tryz.func111 rfl (by kernel_rfl) p s A [[(b3, cel [.int .i64 to] 3)], [(b2, cel [ptr p] 170)]] w hA S.hp (fun h => by simp [Wr.pad, Wr.lay, h]) (fun h => pad_body p s A w hA h b2 b3 to S.hp hr)) ?_
  rintro v6 w ⟨A', hA', hT⟩; clear E a; intro a E
  have S := S.all hT
  refine wpList_nil ?_
  refine end0 E rfl ?_
  exact ⟨_, rfl, A', hA', (S.only (Bs := [A']) (zAd (by repeat (first | exact pk1 | apply zAa)) (zAk _))).tr⟩
theorem zLj (most : Int) (w0 : World) :
    Ret Tryz.prog 90 #[.int .i64 most] w0 fun u w' => ∃ p A, u = ptr p ∧ WrC 186 p ⟨most.toNat, [], 0⟩ A ∧ Trs w0 w' [] [A] := by
  have S := St.begin (w := w0) (As := []) ⟨by simp, by simp⟩
  refine zDc 7 Tryz.func90 rfl rfl (by decide) ?_; intro a E
  refine wp_seq_k ?_; intro K hK
  refine zAc ?_
  refine zp E (zAg E rfl rfl) ?_; clear E a; intro a E
  refine wpList_nil ?_
  refine zAh hK ?_; clear hK; clear K
  refine wp_seq_k ?_; intro K hK
  refine zAc ?_
  refine zp E (zAe E rfl rfl) ?_; clear E a; intro a E
  refine zp E (rn_max E rfl rfl rfl) ?_; clear E a; intro a E
  refine zp E (zCo (cells := [_, _, _]) E rfl rfl rfl) ?_; clear E a; intro a E
  refine zAo rfl (zCs E S rfl rfl (by decide) rfl rfl ?_); clear E S a; intro a w b6 E S
  refine zp E (zAg E rfl rfl) ?_; clear E a; intro a E
  refine wpList_nil ?_
  refine zAh hK ?_; clear hK; clear K
  refine wp_ret ?_
  refine ret1 E rfl rfl ?_
  exact ⟨_, rfl, b6, _, rfl, ⟨.slice none 0 0, [], by simp only [List.append_nil, Int.toNat_eq_max, Int.max_comm]; rfl, Buf.nil _ _⟩, S.tr⟩
theorem done_ret (p : Nat) (s : Wr) (A : zAs) (w0 : World) (hA : WrC 186 p s A) (H : Hp w0 [A]) (hr : s.bs.length ≤ 140737488355328) :
    Ret Tryz.prog 93 #[ptr p] w0 fun u w' => (s.e ≠ 0 ∧ u = .tuple #[.slice none 0 0, .int .i64 s.e] ∧ Trs w0 w' [A] [A]) ∨
      (s.e = 0 ∧ ∃ g, u = .tuple #[.slice (some ⟨g, 0, none⟩) s.bs.length s.bs.length, .int .i64 0] ∧ Trs w0 w' [A] [[(g, cel (byt s.bs) 5)], A]) := by
  obtain ⟨v, C, hAe, hB⟩ := hA
  obtain ⟨ad, c, rfl⟩ := hB.slice
  have S := St.begin H
  have S := (by rw [hAe] at S; exact S.split : St w0 _ w0 ([(p, cel [.int .i64 s.room, .slice ad s.bs.length c, .int .i64 s.e] 186)] :: C :: _))
  refine zDc 18 Tryz.func93 rfl rfl (by decide) ?_; intro a E
  refine wp_seq_k ?_; intro K hK
  refine zAc ?_
  iterate 2 (refine zp E (zAg E rfl rfl) ?_; clear E a; intro a E)
  refine wpList_nil ?_
  refine zAh hK ?_; clear hK; clear K
  iterate 2 (refine wp_seq_k ?_; intro K hK)
  refine zAc ?_
  refine zp E (zAe E rfl rfl) ?_; clear E a; intro a E
  refine zp E (zAl E rfl rfl) ?_; clear E a; intro a E
  refine zp E (by first | exact zAf (q := 2) E rfl rfl rfl | exact zAi (q := 2) E rfl rfl rfl) ?_; clear E a; intro a E
  refine zp E (by first | exact zAn E rfl rfl rfl (S.get (by repeat (first | exact pk1 | apply zAa))) rfl | exact zAj E rfl rfl rfl (by assumption)) ?_; clear E a; intro a E
  refine zp E (by first | exact zCu E rfl rfl rfl | exact zAz E rfl rfl rfl rfl | exact zBj E rfl rfl rfl rfl | exact zBd E rfl rfl rfl) ?_; clear E a; intro a E
  refine wpList_nil ?_
  refine zAh hK ?_; clear hK; clear K
  refine zBl E rfl (fun hb => ?_) (fun hb => ?_)
  · replace hb := Nrm.nrm hb
    refine wp_seq_k ?_; intro K hK
    refine zBo S (.ofL [(0, 0), (1, 0), (2, 0), (3, 0), (4, 0), (5, 0)]) (by kernel_rfl) (by kernel_rfl) ?_
    clear S; intro w S
    refine zm E rfl (fun w h => zAe E rfl rfl) ?_; clear E a; intro a E
    refine zm E rfl (fun w h => zAl E rfl rfl) ?_; clear E a; intro a E
    refine zm E rfl (fun w h => by first | exact zAf (q := 2) E rfl rfl rfl | exact zAi (q := 2) E rfl rfl rfl) ?_; clear E a; intro a E
    refine zm E rfl (fun w h => by first | exact zAn E rfl rfl rfl (h.one (by repeat (first | exact mm1 | assumption | apply List.Mem.tail))) rfl | exact zAj E rfl rfl rfl (by assumption)) ?_; clear E a; intro a E
    iterate 2 (refine zm E rfl (fun w h => zAg E rfl rfl) ?_; clear E a; intro a E)
    refine zBs ?_
    refine zAh hK ?_; clear hK; clear K
    refine wp_ret ?_
    refine zBi ?_; clear hK; clear K
    refine ret2 E rfl rfl rfl ?_
    have S := S.join
    rw [← hAe] at S
    exact ⟨_, rfl, .inl ⟨by omega, rfl, S.tr⟩⟩
  · replace hb := Nrm.nrm hb
    refine wp_skip ?_
    refine zAh hK ?_; clear hK; clear K
    refine wp_seq_k ?_; intro K hK
    refine zAc ?_
    refine zp E (zAe E rfl rfl) ?_; clear E a; intro a E
    refine zp E (zAl E rfl rfl) ?_; clear E a; intro a E
    refine zp E (by first | exact zAf (q := 1) E rfl rfl rfl | exact zAi (q := 1) E rfl rfl rfl) ?_; clear E a; intro a E
    refine zp E (by first | exact zAn E rfl rfl rfl (S.get (by repeat (first | exact pk1 | apply zAa))) rfl | exact zAj E rfl rfl rfl (by assumption)) ?_; clear E a; intro a E
    refine zAr E rfl rfl (by decide) rfl Tryz.func110 rfl (by kernel_rfl) rfl (copied_ret C _ s.bs _ hB.rd (S.hp.sel (zAd (by repeat (first | exact pk1 | apply zAa)) (zAk _))) (by omega)) ?_
    rintro v17 w ⟨g, rfl, hT⟩; clear E a; intro a E
    have S := S.call2 (zAd (by repeat (first | exact pk1 | apply zAa)) (zAk _)) hT
    iterate 2 (refine zp E (zAg E rfl rfl) ?_; clear E a; intro a E)
    refine wpList_nil ?_
    refine zAh hK ?_; clear hK; clear K
    refine wp_ret ?_
    refine ret2 E rfl rfl rfl ?_
    have S := S.gather (A := [(p, _)]) (B := C) (by repeat (first | exact pk1 | apply zAa)) (by repeat (first | exact pk1 | apply zAa))
    rw [← hAe] at S
    exact ⟨_, rfl, .inr ⟨by omega, g, rfl, (S.only (Bs := [_, A]) (zAd pk2 (zAd pk1 (zAk _)))).tr⟩⟩
end Go.Proofs.YtidhehcjafoneaaGreatDoor
namespace Go.Sl
theorem num_fits {s : Wr} {n : Nat} {k : Nat} (he : s.e = 0) (h1 : 1 ≤ k) (h8 : k ≤ 8) (hn : n < 256 ^ k) (hr : s.bs.length + k ≤ s.room) : s.num n k = { s with bs := s.bs ++ zCv n k } := by
  have hb : ¬ ((k : Int) < 1 ∨ 8 < (k : Int)) := by omega
  have hg : ¬ n ≥ 256 ^ k := by omega
  have hf : s.fits (zCv n k) = true := by simp only [Wr.fits, zBz, decide_eq_true_eq]; omega
  simp [Wr.num, Wr.lay, numE, he, hb, Wr.putE, Wr.putS, hf, Nat.not_le.2 hn]
theorem zGf (g : Nat) (b : List UInt8) (T : TypeId) (h : b.length ≤ 4611686018427387904) : Buf [(g, cel (byt b) T)] T 1 (.slice (some ⟨g, 0, none⟩) b.length b.length) b.length (byt b) := by
  have := zJx (T := T) (g := g) (c := b.length) (s := 1) (m := b.length) (xs := byt b) (r := []) (by simp [zBm]) (zDv b) (Nat.le_refl _) (by simp only [maxLen]; omega) (by simp [zBm])
  rwa [List.append_nil] at this
theorem bytes_fits {s : Wr} {b : List UInt8} (he : s.e = 0) (hr : s.bs.length + b.length ≤ s.room) : s.bytes b = { s with bs := s.bs ++ b } := by
  have hf : s.fits b = true := by simp only [Wr.fits, decide_eq_true_eq]; omega
  simp [Wr.bytes, Wr.lay, he, Wr.putE, Wr.putS, hf]
theorem pad_fits {s : Wr} {to : Nat} (he : s.e = 0) (h1 : s.bs.length ≤ to) (h2 : to ≤ s.room) : s.pad to = { s with bs := s.bs ++ List.replicate (to - s.bs.length) 0 } := by
  have hf : s.fits (List.replicate (to - s.bs.length) 0) = true := by simp only [Wr.fits, List.length_replicate, decide_eq_true_eq]; omega
  have c1 : ¬ ((to : Int) < s.bs.length) := by omega
  have c2 : ¬ (s.room : Int) < to := by omega
  simp [Wr.pad, Wr.lay, padE, he, Wr.putE, Wr.putS, hf, show ¬ to < s.bs.length by omega, show ¬ s.room < to by omega]
end Go.Sl
namespace Go.Proofs.YtidhehcjafoneaaGreatDoor
open Go.Sl
set_option maxRecDepth 10000
theorem zHc (p room : Nat) (bs : List UInt8) (A : zAs) (w0 : World) (hA : WrC 186 p ⟨room, bs, 0⟩ A) (n k : Nat) (H : Hp w0 [A]) (hr : room ≤ 140737488355328) (h1 : 1 ≤ k) (h8 : k ≤ 8) (hn : n < 256 ^ k) (hl : bs.length + k ≤ room) :
    Ret Tryz.prog 98 #[ptr p, .int .u64 n, .int .i64 (k : Int)] w0 fun _ w' => ∃ A', WrC 186 p ⟨room, bs ++ zCv n k, 0⟩ A' ∧ Trs w0 w' [A] [A'] := by
  refine (num_ret p _ A w0 hA n k H hr).mono fun v w' ⟨A', h, hT⟩ => ⟨A', ?_, hT⟩
  rw [num_fits rfl h1 h8 hn hl] at h
  exact h
theorem bytes_fit (p room : Nat) (bs : List UInt8) (A D : zAs) (w0 : World) (hA : WrC 186 p ⟨room, bs, 0⟩ A) (bv : Value) (b : List UInt8) (hD : Rd D 1 bv b.length (byt b)) (H : Hp w0 [A, D]) (hr : room ≤ 140737488355328) (hl : bs.length + b.length ≤ room) :
    Ret Tryz.prog 91 #[ptr p, bv] w0 fun _ w' => ∃ A', WrC 186 p ⟨room, bs ++ b, 0⟩ A' ∧ Trs w0 w' [A, D] [A', D] := by
  refine (bytes_ret p _ A D w0 hA bv b hD H hr).mono fun v w' ⟨A', h, hT⟩ => ⟨A', ?_, hT⟩
  rw [bytes_fits rfl hl] at h
  exact h
theorem pad_fit (p room : Nat) (bs : List UInt8) (A : zAs) (w0 : World) (hA : WrC 186 p ⟨room, bs, 0⟩ A) (to : Nat) (H : Hp w0 [A]) (hr : room ≤ 140737488355328) (h1 : bs.length ≤ to) (h2 : to ≤ room) :
    Ret Tryz.prog 94 #[ptr p, .int .i64 to] w0 fun _ w' => ∃ A', WrC 186 p ⟨room, bs ++ List.replicate (to - bs.length) 0, 0⟩ A' ∧ Trs w0 w' [A] [A'] := by
  refine (pad_ret p _ A w0 hA to H hr).mono fun v w' ⟨A', h, hT⟩ => ⟨A', ?_, hT⟩
  rw [pad_fits rfl h1 h2] at h
  exact h
theorem done_fit (p room : Nat) (bs : List UInt8) (A : zAs) (w0 : World) (hA : WrC 186 p ⟨room, bs, 0⟩ A) (H : Hp w0 [A]) (hr : bs.length ≤ 140737488355328) :
    Ret Tryz.prog 93 #[ptr p] w0 fun u w' => ∃ g, u = .tuple #[.slice (some ⟨g, 0, none⟩) bs.length bs.length, .int .i64 0] ∧ Trs w0 w' [A] [[(g, cel (byt bs) 5)], A] := by
  refine (done_ret p _ A w0 hA H hr).mono fun v w' h => ?_
  rcases h with ⟨h, _⟩ | ⟨_, g, h, hT⟩
  · exact absurd rfl h
  · exact ⟨g, h, hT⟩
end Go.Proofs.YtidhehcjafoneaaGreatDoor
namespace Go.Sl
structure Pt where
  top : Int
  at_ : Int
  bytes : Int
  birth : Nat
  kind : Int
  a : Nat
  b : Nat
  c : Nat
  d : Nat
deriving DecidableEq
def Pt.lay (p : Pt) : List Value := [.int .i64 p.top, .int .i64 p.at_, .int .i64 p.bytes, .int .u64 p.birth, .int .i64 p.kind, .int .u64 p.a, .int .u64 p.b, .int .u64 p.c, .int .u64 p.d]
abbrev Pt.agg (p : Pt) : Value := .agg #[.int .i64 p.top, .int .i64 p.at_, .int .i64 p.bytes, .int .u64 p.birth, .int .i64 p.kind, .int .u64 p.a, .int .u64 p.b, .int .u64 p.c, .int .u64 p.d]
theorem Pt.lay_len (p : Pt) : p.lay.length = 9 := rfl
theorem Pt.lay_one (p : Pt) : ∀ u ∈ p.lay, u.oneCell' = true := fun u hu => by
  simp only [Pt.lay, List.mem_cons, List.not_mem_nil, or_false] at hu
  rcases hu with rfl | rfl | rfl | rfl | rfl | rfl | rfl | rfl | rfl <;> rfl
structure Pt.Ok (p : Pt) : Prop where
  top : -9223372036854775808 ≤ p.top ∧ p.top ≤ 9223372036854775807
  at_ : -9223372036854775808 ≤ p.at_ ∧ p.at_ ≤ 9223372036854775807
  bytes : -9223372036854775808 ≤ p.bytes ∧ p.bytes ≤ 9223372036854775807
  birth : p.birth < 18446744073709551616
  kind : -9223372036854775808 ≤ p.kind ∧ p.kind ≤ 9223372036854775807
  a : p.a < 18446744073709551616
  b : p.b < 18446744073709551616
  c : p.c < 18446744073709551616
  d : p.d < 18446744073709551616
def Pt.eqB (p q : Pt) : Bool := p.top == q.top && (p.at_ == q.at_ && (p.bytes == q.bytes && (((p.birth : Int) == (q.birth : Int)) && (p.kind == q.kind && (((p.a : Int) == (q.a : Int)) && (((p.b : Int) == (q.b : Int)) && (((p.c : Int) == (q.c : Int)) && ((p.d : Int) == (q.d : Int)))))))))
def Pt.good (p : Pt) : Prop := 0 ≤ p.top ∧ p.top < 4 ∧ 0 ≤ p.at_ ∧ p.at_ ≤ 40959 ∧ 1 ≤ p.bytes ∧ p.bytes ≤ 1024 ∧ 1 ≤ p.birth ∧ p.birth ≤ 281474976710656 ∧ (p.kind = 1 ∨ p.kind = 2)
instance (p : Pt) : Decidable p.good := by unfold Pt.good; infer_instance
abbrev nm (b : List UInt8) (q k : Nat) : Nat := zEf ((b.drop q).take k)
theorem p1 : (256 : Nat) ^ 1 = 256 := by decide
theorem p2 : (256 : Nat) ^ 2 = 65536 := by decide
theorem p4 : (256 : Nat) ^ 4 = 4294967296 := by decide
theorem p8 : (256 : Nat) ^ 8 = 18446744073709551616 := by decide
end Go.Sl
namespace Go.Sl
structure Fs where
  a : Nat
  b : Nat
  c : Nat
  d : Nat
deriving DecidableEq
def Fs.lay (s : Fs) : List Value := [.int .u64 s.a, .int .u64 s.b, .int .u64 s.c, .int .u64 s.d]
abbrev Fs.agg (s : Fs) : Value := .agg #[.int .u64 s.a, .int .u64 s.b, .int .u64 s.c, .int .u64 s.d]
def zLk : Fs := ⟨0, 0, 0, 0⟩
def m64 : Nat := 18446744073709551616
def fstep (s : Fs) (w : Nat) : Fs :=
  let a := (s.a + w) % m64
  let b := (s.b + a) % m64
  let c := (s.c + b) % m64
  ⟨a, b, c, (s.d + c) % m64⟩
structure Fs.Ok (s : Fs) : Prop where
  a : s.a < 18446744073709551616
  b : s.b < 18446744073709551616
  c : s.c < 18446744073709551616
  d : s.d < 18446744073709551616
theorem fstep_ok (s : Fs) (w : Nat) : (fstep s w).Ok := ⟨Nat.mod_lt _ (by decide), Nat.mod_lt _ (by decide), Nat.mod_lt _ (by decide), Nat.mod_lt _ (by decide)⟩
def fsN (b : List UInt8) : Nat → Fs
  | 0 => zLk
  | i + 1 => fstep (fsN b i) (nm b (4 * i) 4)
def zFh (b : List UInt8) : Fs := fsN b ((b.length + 3) / 4)
theorem fsN_ok (b : List UInt8) : ∀ i, (fsN b i).Ok
  | 0 => by constructor <;> (show 0 < _; decide)
  | i + 1 => fstep_ok _ _
theorem zFc (b : List UInt8) : (zFh b).Ok := fsN_ok b _
end Go.Sl
namespace Go.Sl
abbrev gb (b : List UInt8) (j : Nat) : UInt8 := b.getD j 0
theorem nm_four (b : List UInt8) (q : Nat) : nm b q 4 = (gb b q).toNat + (gb b (q + 1)).toNat * 2 ^ 8 + (gb b (q + 2)).toNat * 2 ^ 16 + (gb b (q + 3)).toNat * 2 ^ 24 := by
  have key : ∀ c : List UInt8, zEf (c.take 4) = (c.getD 0 0).toNat + (c.getD 1 0).toNat * 2 ^ 8 + (c.getD 2 0).toNat * 2 ^ 16 + (c.getD 3 0).toNat * 2 ^ 24 := by
    intro c
    match c with
    | [] => rfl
    | [x] => simp [zEf]
    | [x, y] => simp [zEf]; omega
    | [x, y, z] => simp [zEf]; omega
    | x :: y :: z :: t :: r => simp [zEf]; omega
  have g : ∀ j, (b.drop q).getD j 0 = gb b (q + j) := fun j => by simp [gb, List.getD, List.getElem?_drop]
  unfold nm
  rw [key, g, g, g, g, Nat.add_zero]
theorem zKs (b : List UInt8) {j : Nat} (h : j < b.length) : gb b j = b[j] := by simp [gb, List.getD, h]
theorem gb_out (b : List UInt8) {j : Nat} (h : b.length ≤ j) : gb b j = 0 := by simp [gb, List.getD, List.getElem?_eq_none h]
theorem wa_m (x y : Nat) : IntKind.u64.wrap ((x : Int) + (y : Int)) = (((x + y) % m64 : Nat) : Int) := by
  rw [IntKind.wrap_u64]; unfold m64; omega
structure Run (b : List UInt8) (i : Nat) (s : Fs) (x0 x1 x2 x3 : UInt8) (k : Nat) : Prop where
  le : i ≤ b.length
  hk : k = i % 4
  hs : s = fsN b (i / 4)
  h0 : x0 = if 0 < k then gb b (4 * (i / 4)) else 0
  h1 : x1 = if 1 < k then gb b (4 * (i / 4) + 1) else 0
  h2 : x2 = if 2 < k then gb b (4 * (i / 4) + 2) else 0
  h3 : x3 = 0
theorem Run.start (b : List UInt8) : Run b 0 zLk 0 0 0 0 0 := ⟨by omega, rfl, rfl, rfl, rfl, rfl, rfl⟩
theorem Run.ok {b : List UInt8} {i : Nat} {s : Fs} {x0 x1 x2 x3 : UInt8} {k : Nat} (h : Run b i s x0 x1 x2 x3 k) : s.Ok := by rw [h.hs]; exact fsN_ok _ _
def word4 (x0 x1 x2 x3 : UInt8) : Nat := x0.toNat + x1.toNat * 2 ^ 8 + x2.toNat * 2 ^ 16 + x3.toNat * 2 ^ 24
theorem Run.s0 {b : List UInt8} {i : Nat} {s : Fs} {x0 x1 x2 x3 : UInt8} (h : Run b i s x0 x1 x2 x3 0) (hi : i < b.length) : Run b (i + 1) s b[i] x1 x2 x3 1 := by
  obtain ⟨h1, h2, h3, h4, h5, h6, h7⟩ := h
  have e : (i + 1) / 4 = i / 4 := by omega
  exact ⟨by omega, by omega, by rw [e, h3], by rw [if_pos (by omega), e, show 4 * (i / 4) = i by omega, zKs b hi], by rw [h5]; simp, by rw [h6]; simp, h7⟩
theorem Run.s1 {b : List UInt8} {i : Nat} {s : Fs} {x0 x1 x2 x3 : UInt8} (h : Run b i s x0 x1 x2 x3 1) (hi : i < b.length) : Run b (i + 1) s x0 b[i] x2 x3 2 := by
  obtain ⟨h1, h2, h3, h4, h5, h6, h7⟩ := h
  have e : (i + 1) / 4 = i / 4 := by omega
  exact ⟨by omega, by omega, by rw [e, h3], by rw [h4, e]; simp, by rw [if_pos (by omega), e, show 4 * (i / 4) + 1 = i by omega, zKs b hi], by rw [h6]; simp, h7⟩
theorem Run.s2 {b : List UInt8} {i : Nat} {s : Fs} {x0 x1 x2 x3 : UInt8} (h : Run b i s x0 x1 x2 x3 2) (hi : i < b.length) : Run b (i + 1) s x0 x1 b[i] x3 3 := by
  obtain ⟨h1, h2, h3, h4, h5, h6, h7⟩ := h
  have e : (i + 1) / 4 = i / 4 := by omega
  exact ⟨by omega, by omega, by rw [e, h3], by rw [h4, e]; simp, by rw [h5, e]; simp, by rw [if_pos (by omega), e, show 4 * (i / 4) + 2 = i by omega, zKs b hi], h7⟩
theorem Run.s3 {b : List UInt8} {i : Nat} {s : Fs} {x0 x1 x2 x3 : UInt8} (h : Run b i s x0 x1 x2 x3 3) (hi : i < b.length) : Run b (i + 1) (fstep s (word4 x0 x1 x2 b[i])) 0 0 0 0 0 := by
  obtain ⟨h1, h2, h3, h4, h5, h6, h7⟩ := h
  have e : (i + 1) / 4 = i / 4 + 1 := by omega
  refine ⟨by omega, by omega, ?_, rfl, rfl, rfl, rfl⟩
  rw [e, fsN, h3, nm_four, word4, h4, h5, h6, if_pos (by omega), if_pos (by omega), if_pos (by omega), ← zKs b hi, show 4 * (i / 4) + 3 = i by omega]
theorem Run.done0 {b : List UInt8} {s : Fs} {x0 x1 x2 x3 : UInt8} (h : Run b b.length s x0 x1 x2 x3 0) : s = zFh b := by
  rw [h.hs, zFh]; have := h.hk; rw [show (b.length + 3) / 4 = b.length / 4 by omega]
theorem Run.done {b : List UInt8} {s : Fs} {x0 x1 x2 x3 : UInt8} {k : Nat} (h : Run b b.length s x0 x1 x2 x3 k) (hk : k ≠ 0) : fstep s (word4 x0 x1 x2 x3) = zFh b := by
  obtain ⟨h1, h2, h3, h4, h5, h6, h7⟩ := h
  have e : (b.length + 3) / 4 = b.length / 4 + 1 := by omega
  have o : ∀ j, (if j < k then gb b (4 * (b.length / 4) + j) else 0) = gb b (4 * (b.length / 4) + j) := fun j => by
    split
    · rfl
    · rw [gb_out b (by omega)]
  have o0 := o 0; have o1 := o 1; have o2 := o 2; have o3 := o 3
  rw [Nat.add_zero] at o0
  rw [zFh, e, fsN, h3, nm_four, word4, h4, h5, h6, h7, o0, o1, o2, ← o3, if_neg (by omega)]
theorem num_down (b : List UInt8) (q : Nat) {j : Nat} (hj : j < 4) : zEf ((b.drop (q + j)).take (4 - j)) = (gb b (q + j)).toNat + 256 * zEf ((b.drop (q + (j + 1))).take (4 - (j + 1))) := by
  by_cases h : q + j < b.length
  · rw [zKs b h, List.drop_eq_getElem_cons h, show 4 - j = (4 - (j + 1)) + 1 by omega, List.take_succ_cons, zEf]; rfl
  · rw [gb_out b (by omega), List.drop_eq_nil_of_le (by omega), List.drop_eq_nil_of_le (by omega), List.take_nil, List.take_nil]; rfl
def Fs.eqB (p q : Fs) : Bool := ((p.a : Int) == (q.a : Int)) && (((p.b : Int) == (q.b : Int)) && (((p.c : Int) == (q.c : Int)) && ((p.d : Int) == (q.d : Int))))
theorem Fs.eqB_eq (p q : Fs) : p.eqB q = decide (p = q) := by
  cases p; cases q
  rw [Bool.eq_iff_iff]
  simp only [Fs.eqB, Bool.and_eq_true, beq_iff_eq, decide_eq_true_eq, Fs.mk.injEq]
  omega
theorem word_or1 (x0 x1 : UInt8) : bits .or .u64 (x0.toNat : Int) ((x1.toNat * 2 ^ 8 : Nat) : Int) = ((x0.toNat + x1.toNat * 2 ^ 8 : Nat) : Int) := oru (by have := x0.toNat_lt; omega) (by have := x0.toNat_lt; have := x1.toNat_lt; omega)
theorem word_or2 (x0 x1 x2 : UInt8) : bits .or .u64 ((x0.toNat + x1.toNat * 2 ^ 8 : Nat) : Int) ((x2.toNat * 2 ^ 16 : Nat) : Int) = ((x0.toNat + x1.toNat * 2 ^ 8 + x2.toNat * 2 ^ 16 : Nat) : Int) := oru (by have := x0.toNat_lt; have := x1.toNat_lt; omega) (by have := x0.toNat_lt; have := x1.toNat_lt; have := x2.toNat_lt; omega)
theorem word_or3 (x0 x1 x2 x3 : UInt8) : bits .or .u64 ((x0.toNat + x1.toNat * 2 ^ 8 + x2.toNat * 2 ^ 16 : Nat) : Int) ((x3.toNat * 2 ^ 24 : Nat) : Int) = ((word4 x0 x1 x2 x3 : Nat) : Int) := oru (by have := x0.toNat_lt; have := x1.toNat_lt; have := x2.toNat_lt; omega) (by have := x0.toNat_lt; have := x1.toNat_lt; have := x2.toNat_lt; have := x3.toNat_lt; omega)
theorem word_sh {x : UInt8} (j : Nat) (h : j ≤ 24) : IntKind.u64.wrap ((x.toNat : Int) * 2 ^ ((j : Nat) : Int).toNat) = ((x.toNat * 2 ^ j : Nat) : Int) := shlu (by
  have := x.toNat_lt
  have : 2 ^ j ≤ 2 ^ 24 := Nat.pow_le_pow_right (by omega) h
  calc x.toNat * 2 ^ j ≤ 256 * 2 ^ 24 := Nat.mul_le_mul (by omega) this
    _ < _ := by decide)
end Go.Sl
