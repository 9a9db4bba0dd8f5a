/-
  Texts put together (6).
-/
import Derived.Test.YtbogecljkaimdaaGreatDoorZRecordReadsW5
set_option maxHeartbeats 1000000
namespace Go.Sl
theorem zIe {l : List UInt8} (h : zEw l = true) : l.length ≤ 24 := ((partB_iff l).1 h).2.1
theorem may1_num {r : Rec} (h : may1 r = true) : r.name.length ≤ 24 ∧ 1 ≤ r.many ∧ r.many ≤ 120 := by
 simp only [may1, Bool.and_eq_true, decide_eq_true_eq] at h
 exact ⟨zIe h.1, h.2⟩
theorem beh_len {l : List UInt8} (h : behB l = true) : l.length ≤ 240 := by
 cases l with
 | nil => simp
 | cons c l =>
  simp only [behB, Bool.and_eq_true, zGq] at h
  have := h.2.1
  simp only [List.length_cons] at *
  omega
theorem prps_num {l : List Prp} (h : prpsB l = true) : l.length ≤ 12 ∧ ∀ p ∈ l, p.name.length ≤ 24 ∧ p.value.length ≤ 64 := by
 rw [zGr] at h
 refine ⟨h.1, fun p hp => ?_⟩
 obtain ⟨i, hi, rfl⟩ := List.getElem_of_mem hp
 have := h.2 i hi
 exact ⟨zIe this.1, this.2.2.1⟩
theorem zIl {l : List Int} {x y : Int} (h : risB l x y = true) : l.length ≤ 240 ∧ ∀ n ∈ l, x ≤ n ∧ n ≤ y := by
 rw [risB_iff] at h
 refine ⟨h.1, fun n hn => ?_⟩
 obtain ⟨i, hi, rfl⟩ := List.getElem_of_mem hn
 have := h.2 i hi
 exact ⟨this.1, this.2.1⟩
end Go.Sl
namespace Go.Proofs.YtbogecljkaimdaaGreatDoor
open Go.Sl
set_option maxRecDepth 10000
section
variable {C : zAl} {r : Rec} {pv kv dv : Value} (hR : RecR C r pv kv dv) {As : List zAl} (hC : C ∈ As) (p : Nat) (A : zAl) (hA : WrC 94 p ⟨2048, [], 0⟩ A) (w0 : World) (H : Hp w0 (A :: As))
include hR hC hA H
theorem lay1_ret (h : may1 r = true) : Ret Tryz.prog 50 #[ptr p, .agg (r.cells pv kv dv).toArray] w0 fun _ w' => ∃ A', WrC 94 p ⟨2048, body1 r, 0⟩ A' ∧ Trs w0 w' (A :: As) (A' :: As) := by
 have _ := hC
 have S := St.begin H
 have hn := may1_num h
 obtain ⟨ad1, c1, rfl⟩ := hR.pr.slice
 obtain ⟨ad2, c2, rfl⟩ := hR.kr.slice
 obtain ⟨ad3, c3, rfl⟩ := hR.dr.slice
 refine zBt 13 Tryz.func50 rfl rfl dZ ?_; intro a E
 refine wp_seq_k ?_; intro K hK
 refine zAa ?_
 refine zAg rfl (zBx E S rfl rfl dZ rfl rfl ?_); clear E S a; intro a w b3 E S
 refine wpList_nil ?_
 refine zAb hK ?_; clear hK K
 refine wp_seq_k ?_; intro K hK
 refine zAa ?_
 refine zd E ?_; clear E a; intro a E
 refine zp E (by first | exact zAc (q := 1) E rfl rfl rfl | exact zAd (q := 1) E rfl rfl rfl) ?_; clear E a; intro a E
 refine zd E ?_; clear E a; intro a E
 refine zAh E rfl rfl dZ rfl Tryz.func51 rfl yZ rfl (zId p 2048 [] A _ hA r.name (S.hp.sel sZ) oZ oZ (by simp only [List.length_nil]; omega)) ?_
 rintro v7 w ⟨A1, hA1, hT⟩; clear E a; intro a E
 have S := S.call1 sZ hT
 refine wpList_nil ?_
 refine zAb hK ?_; clear hK K
 refine zAa ?_
 refine zd E ?_; clear E a; intro a E
 refine zp E (by first | exact zAc (q := 10) E rfl rfl rfl | exact zAd (q := 10) E rfl rfl rfl) ?_; clear E a; intro a E
 refine zd E ?_; clear E a; intro a E
 refine zp E (zAo E rfl rfl rfl rfl (zJy oZ oZ)) ?_; clear E a; intro a E
 refine zAh E rfl rfl dZ rfl Tryz.func30 rfl yZ rfl (zEd p 2048 _ A1 _ hA1 r.many.toNat 2 (S.hp.sel sZ) oZ oZ oZ oZ (by simp only [List.length_append, zCo, List.length_nil]; omega)) ?_
 rintro v12 w ⟨A2, hA2, hT⟩; clear E a; intro a E
 have S := S.call1 sZ hT
 refine wpList_nil ?_
 refine end0 E rfl ?_
 exact ⟨_, rfl, A2, by simpa [body1] using hA2, S.perm2.tail.tr⟩
theorem lay3_ret (h : may3 r = true) : Ret Tryz.prog 57 #[ptr p, .agg (r.cells pv kv dv).toArray] w0 fun _ w' => ∃ A', WrC 94 p ⟨2048, body3 r, 0⟩ A' ∧ Trs w0 w' (A :: As) (A' :: As) := by
 have S := St.begin H
 have hn := zIl h
 refine zBt 8 Tryz.func57 rfl rfl dZ ?_; intro a E
 refine wp_seq_k ?_; intro K hK
 refine zAa ?_
 refine zAg rfl (zBx E S rfl rfl dZ rfl rfl ?_); clear E S a; intro a w b3 E S
 refine wpList_nil ?_
 refine zAb hK ?_; clear hK K
 refine zAa ?_
 refine zd E ?_; clear E a; intro a E
 refine zp E (by first | exact zAc (q := 11) E rfl rfl rfl | exact zAd (q := 11) E rfl rfl rfl) ?_; clear E a; intro a E
 refine zd E ?_; clear E a; intro a E
 have S := S.perm2
 refine zAh E rfl rfl dZ rfl Tryz.func58 rfl yZ rfl (zJz hR.kr hn.1 4 0 oZ oZ oZ (fun n hq => by have := hn.2 n hq; omega) p [] A hA (by simp only [List.length_nil]; omega) (List.mem_cons_of_mem _ hC) _ S.hp) ?_
 rintro v7 w ⟨A1, hA1, hT⟩; clear E a; intro a E
 have S := S.all hT
 refine wpList_nil ?_
 refine end0 E rfl ?_
 exact ⟨_, rfl, A1, by simpa [body3] using hA1, S.perm2.tail.tr⟩
theorem lay4_ret (h : may4 r = true) : Ret Tryz.prog 62 #[ptr p, .agg (r.cells pv kv dv).toArray] w0 fun _ w' => ∃ A', WrC 94 p ⟨2048, body4 r, 0⟩ A' ∧ Trs w0 w' (A :: As) (A' :: As) := by
 have S := St.begin H
 simp only [may4, Bool.and_eq_true, decide_eq_true_eq] at h
 have hn := zIl h.2.2
 refine zBt 13 Tryz.func62 rfl rfl dZ ?_; intro a E
 refine wp_seq_k ?_; intro K hK
 refine zAa ?_
 refine zAg rfl (zBx E S rfl rfl dZ rfl rfl ?_); clear E S a; intro a w b3 E S
 refine wpList_nil ?_
 refine zAb hK ?_; clear hK K
 refine wp_seq_k ?_; intro K hK
 refine zAa ?_
 refine zd E ?_; clear E a; intro a E
 refine zp E (by first | exact zAc (q := 8) E rfl rfl rfl | exact zAd (q := 8) E rfl rfl rfl) ?_; clear E a; intro a E
 refine zd E ?_; clear E a; intro a E
 refine zp E (zAo E rfl rfl rfl rfl (zJy oZ oZ)) ?_; clear E a; intro a E
 refine zAh E rfl rfl dZ rfl Tryz.func30 rfl yZ rfl (zEd p 2048 _ A _ hA r.object.toNat 4 (S.hp.sel sZ) oZ oZ oZ oZ (by simp only [List.length_nil]; omega)) ?_
 rintro v8 w ⟨A1, hA1, hT⟩; clear E a; intro a E
 have S := S.call1 sZ hT
 refine wpList_nil ?_
 refine zAb hK ?_; clear hK K
 refine zAa ?_
 refine zd E ?_; clear E a; intro a E
 refine zp E (by first | exact zAc (q := 11) E rfl rfl rfl | exact zAd (q := 11) E rfl rfl rfl) ?_; clear E a; intro a E
 refine zd E ?_; clear E a; intro a E
 refine zAh E rfl rfl dZ rfl Tryz.func58 rfl yZ rfl (zJz hR.kr hn.1 2 1 oZ oZ oZ (fun n hq => by have := hn.2 n hq; omega) p _ A1 hA1 (by simp only [List.length_append, zAx, List.length_nil]; omega) (List.mem_cons_of_mem _ hC) _ S.hp) ?_
 rintro v12 w ⟨A2, hA2, hT⟩; clear E a; intro a E
 have S := S.all hT
 refine wpList_nil ?_
 refine end0 E rfl ?_
 exact ⟨_, rfl, A2, by simpa [body4] using hA2, S.perm2.tail.tr⟩
theorem lay5_ret (h : may5 r = true) : Ret Tryz.prog 65 #[ptr p, .agg (r.cells pv kv dv).toArray] w0 fun _ w' => ∃ A', WrC 94 p ⟨2048, body5 r, 0⟩ A' ∧ Trs w0 w' (A :: As) (A' :: As) := by
 have S := St.begin H
 simp only [may5, Bool.and_eq_true, decide_eq_true_eq] at h
 have hd := hR.dr
 obtain ⟨ad3, c3, rfl⟩ := hd.slice
 obtain ⟨R', hperm⟩ : ∃ R', As.Perm (C :: R') := (by obtain ⟨X, Y, rfl⟩ := List.mem_iff_append.1 hC; exact ⟨X ++ Y, List.perm_middle⟩)
 refine zBt 25 Tryz.func65 rfl rfl dZ ?_; intro a E
 refine wp_seq_k ?_; intro K hK
 refine zAa ?_
 refine zAg rfl (zBx E S rfl rfl dZ rfl rfl ?_); clear E S a; intro a w b3 E S
 refine wpList_nil ?_
 refine zAb hK ?_; clear hK K
 refine wp_seq_k ?_; intro K hK
 refine zAa ?_
 refine zd E ?_; clear E a; intro a E
 refine zp E (by first | exact zAc (q := 8) E rfl rfl rfl | exact zAd (q := 8) E rfl rfl rfl) ?_; clear E a; intro a E
 refine zd E ?_; clear E a; intro a E
 refine zp E (zAo E rfl rfl rfl rfl (zJy oZ oZ)) ?_; clear E a; intro a E
 refine zAh E rfl rfl dZ rfl Tryz.func30 rfl yZ rfl (zEd p 2048 _ A _ hA r.object.toNat 4 (S.hp.sel sZ) oZ oZ oZ oZ (by simp only [List.length_nil]; omega)) ?_
 rintro v8 w ⟨A1, hA1, hT⟩; clear E a; intro a E
 have S := S.call1 sZ hT
 refine wpList_nil ?_
 refine zAb hK ?_; clear hK K
 refine wp_seq_k ?_; intro K hK
 refine zAa ?_
 refine zd E ?_; clear E a; intro a E
 refine zp E (by first | exact zAc (q := 9) E rfl rfl rfl | exact zAd (q := 9) E rfl rfl rfl) ?_; clear E a; intro a E
 refine zd E ?_; clear E a; intro a E
 refine zp E (zBc E rfl rfl rfl (w_in oZ)) ?_; clear E a; intro a E
 refine zp E (zAo E rfl rfl rfl rfl (zJy oZ oZ)) ?_; clear E a; intro a E
 refine zAh E rfl rfl dZ rfl Tryz.func30 rfl yZ rfl (zEd p 2048 _ A1 _ hA1 (r.at_ + 1).toNat 2 (S.hp.sel sZ) oZ oZ oZ oZ (by simp only [List.length_append, zAx, List.length_nil]; omega)) ?_
 rintro v14 w ⟨A2, hA2, hT⟩; clear E a; intro a E
 have S := S.call1 sZ hT
 refine wpList_nil ?_
 refine zAb hK ?_; clear hK K
 refine wp_seq_k ?_; intro K hK
 refine zAa ?_
 refine zd E ?_; clear E a; intro a E
 refine zp E (by first | exact zAc (q := 12) E rfl rfl rfl | exact zAd (q := 12) E rfl rfl rfl) ?_; clear E a; intro a E
 iterate 2 (refine zd E ?_; clear E a; intro a E)
 refine zp E (by first | exact zAo E rfl rfl rfl rfl (by first | exact wu8 _ | exact zCz oZ | exact zCe oZ | exact w_in oZ | exact zBb oZ | exact rfl) | exact zBh E rfl rfl rfl rfl rfl (by assumption) (S.stab.at (by simp))) ?_; clear E a; intro a E
 refine zAh E rfl rfl dZ rfl Tryz.func30 rfl yZ rfl (zEd p 2048 _ A2 _ hA2 r.data.length 2 (S.hp.sel sZ) oZ oZ oZ oZ (by simp only [List.length_append, zAx, List.length_nil]; omega)) ?_
 rintro v20 w ⟨A3, hA3, hT⟩; clear E a; intro a E
 have S := S.call1 sZ hT
 refine wpList_nil ?_
 refine zAb hK ?_; clear hK K
 refine zAa ?_
 refine zd E ?_; clear E a; intro a E
 refine zp E (by first | exact zAc (q := 12) E rfl rfl rfl | exact zAd (q := 12) E rfl rfl rfl) ?_; clear E a; intro a E
 refine zd E ?_; clear E a; intro a E
 refine zAh E rfl rfl dZ rfl Tryz.func66 rfl yZ rfl (bytes_fit p 2048 _ A3 C _ hA3 _ r.data hd (S.hp.sel (zBa pZ (zBa (zDy hperm) sZ))) oZ (by simp only [List.length_append, zAx, List.length_nil]; omega)) ?_
 rintro v24 w ⟨A4, hA4, hT⟩; clear E a; intro a E
 have S := S.call2 (zBa pZ (zBa (zDy hperm) sZ)) hT
 refine wpList_nil ?_
 refine end0 E rfl ?_
 exact ⟨_, rfl, A4, by simpa [body5] using hA4, (((S.front1 (A := [(b3, _)]) pZ).tail).perm (hperm.symm.cons _)).tr⟩
theorem lay6_ret (h : may6 r = true) : Ret Tryz.prog 100 #[ptr p, .agg (r.cells pv kv dv).toArray] w0 fun _ w' => ∃ A', WrC 94 p ⟨2048, body6 r, 0⟩ A' ∧ Trs w0 w' (A :: As) (A' :: As) := by
 have _ := hR
 have _ := hC
 have S := St.begin H
 simp only [may6, decide_eq_true_eq] at h
 refine zBt 9 Tryz.func100 rfl rfl dZ ?_; intro a E
 refine wp_seq_k ?_; intro K hK
 refine zAa ?_
 refine zAg rfl (zBx E S rfl rfl dZ rfl rfl ?_); clear E S a; intro a w b3 E S
 refine wpList_nil ?_
 refine zAb hK ?_; clear hK K
 refine zAa ?_
 refine zd E ?_; clear E a; intro a E
 refine zp E (by first | exact zAc (q := 10) E rfl rfl rfl | exact zAd (q := 10) E rfl rfl rfl) ?_; clear E a; intro a E
 refine zd E ?_; clear E a; intro a E
 refine zp E (zAo E rfl rfl rfl rfl (zJy oZ oZ)) ?_; clear E a; intro a E
 refine zAh E rfl rfl dZ rfl Tryz.func30 rfl yZ rfl (zEd p 2048 _ A _ hA r.many.toNat 4 (S.hp.sel sZ) oZ oZ oZ oZ (by simp only [List.length_nil]; omega)) ?_
 rintro v8 w ⟨A1, hA1, hT⟩; clear E a; intro a E
 have S := S.call1 sZ hT
 refine wpList_nil ?_
 refine end0 E rfl ?_
 exact ⟨_, rfl, A1, by simpa [body6] using hA1, S.perm2.tail.tr⟩
end
end Go.Proofs.YtbogecljkaimdaaGreatDoor
namespace Go.Proofs.YtbogecljkaimdaaGreatDoor
open Go.Sl
set_option maxRecDepth 10000
section
variable {C : zAl} {r : Rec} {pv kv dv : Value} (hR : RecR C r pv kv dv) {As : List zAl} (hC : C ∈ As) (p : Nat) (A : zAl) (hA : WrC 94 p ⟨2048, [], 0⟩ A) (w0 : World) (H : Hp w0 (A :: As))
include hR hC hA H
theorem lay2_ret (h : begB r = true) : Ret Tryz.prog 94 #[ptr p, .agg (r.cells pv kv dv).toArray] w0 fun _ w' => ∃ A', WrC 94 p ⟨2048, body2 r, 0⟩ A' ∧ Trs w0 w' (A :: As) (A' :: As) := by
 have S := St.begin H
 obtain ⟨q1, q2, q3, q4, q5, q6, q7⟩ := (zDn r).1 h
 have h1 := beh_len q1
 have h2 := zIe q6
 have h3 := prps_num q7
 have hP := hR.pr
 obtain ⟨adp, cp, rfl⟩ := hP.slice
 refine zBt 56 Tryz.func94 rfl rfl dZ ?_; intro a E
 refine wp_seq_k ?_; intro K hK
 refine zAa ?_
 refine zAg rfl (zBx E S rfl rfl dZ rfl rfl ?_); clear E S a; intro a w b3 E S
 refine wpList_nil ?_
 refine zAb hK ?_; clear hK K
 refine wp_seq_k ?_; intro K hK
 refine zAa ?_
 refine zd E ?_; clear E a; intro a E
 refine zp E (by first | exact zAc (q := 1) E rfl rfl rfl | exact zAd (q := 1) E rfl rfl rfl) ?_; clear E a; intro a E
 refine zd E ?_; clear E a; intro a E
 refine zAh E rfl rfl dZ rfl Tryz.func51 rfl yZ rfl (zId p 2048 [] A _ hA r.name (S.hp.sel sZ) oZ oZ (by simp only [List.length_nil]; omega)) ?_
 rintro v9 w ⟨A1, hA1, hT⟩; clear E a; intro a E
 replace S := S.call1 sZ hT
 refine wpList_nil ?_
 refine zAb hK ?_; clear hK K
 refine wp_seq_k ?_; intro K hK
 refine zAa ?_
 refine zd E ?_; clear E a; intro a E
 refine zp E (by first | exact zAc (q := 2) E rfl rfl rfl | exact zAd (q := 2) E rfl rfl rfl) ?_; clear E a; intro a E
 refine zd E ?_; clear E a; intro a E
 refine zp E (zAo E rfl rfl rfl rfl (zJy oZ oZ)) ?_; clear E a; intro a E
 refine zAh E rfl rfl dZ rfl Tryz.func30 rfl yZ rfl (zEd p 2048 _ A1 _ hA1 r.typ.toNat 1 (S.hp.sel sZ) oZ oZ oZ oZ (by simp only [List.length_append, zCo, zAx, List.length_nil]; omega)) ?_
 rintro v14 w ⟨A2, hA2, hT⟩; clear E a; intro a E
 replace S := S.call1 sZ hT
 refine wpList_nil ?_
 refine zAb hK ?_; clear hK K
 refine wp_seq_k ?_; intro K hK
 refine zAa ?_
 refine zd E ?_; clear E a; intro a E
 refine zp E (by first | exact zAc (q := 3) E rfl rfl rfl | exact zAd (q := 3) E rfl rfl rfl) ?_; clear E a; intro a E
 refine zd E ?_; clear E a; intro a E
 refine zp E (zAo E rfl rfl rfl rfl (zJy oZ oZ)) ?_; clear E a; intro a E
 refine zAh E rfl rfl dZ rfl Tryz.func30 rfl yZ rfl (zEd p 2048 _ A2 _ hA2 r.frm.toNat 6 (S.hp.sel sZ) oZ oZ oZ oZ (by simp only [List.length_append, zCo, zAx, List.length_nil]; omega)) ?_
 rintro v19 w ⟨A3, hA3, hT⟩; clear E a; intro a E
 replace S := S.call1 sZ hT
 refine wpList_nil ?_
 refine zAb hK ?_; clear hK K
 refine wp_seq_k ?_; intro K hK
 refine zAa ?_
 refine zd E ?_; clear E a; intro a E
 refine zp E (by first | exact zAc (q := 4) E rfl rfl rfl | exact zAd (q := 4) E rfl rfl rfl) ?_; clear E a; intro a E
 refine zd E ?_; clear E a; intro a E
 refine zp E (zAo E rfl rfl rfl rfl (zJy oZ oZ)) ?_; clear E a; intro a E
 refine zAh E rfl rfl dZ rfl Tryz.func30 rfl yZ rfl (zEd p 2048 _ A3 _ hA3 r.guid.toNat 6 (S.hp.sel sZ) oZ oZ oZ oZ (by simp only [List.length_append, zCo, zAx, List.length_nil]; omega)) ?_
 rintro v24 w ⟨A4, hA4, hT⟩; clear E a; intro a E
 replace S := S.call1 sZ hT
 refine wpList_nil ?_
 refine zAb hK ?_; clear hK K
 refine wp_seq_k ?_; intro K hK
 refine zAa ?_
 refine zd E ?_; clear E a; intro a E
 refine zp E (by first | exact zAc (q := 5) E rfl rfl rfl | exact zAd (q := 5) E rfl rfl rfl) ?_; clear E a; intro a E
 refine zd E ?_; clear E a; intro a E
 refine zp E (zAo E rfl rfl rfl rfl (zJy oZ oZ)) ?_; clear E a; intro a E
 refine zAh E rfl rfl dZ rfl Tryz.func30 rfl yZ rfl (zEd p 2048 _ A4 _ hA4 r.origin.toNat 1 (S.hp.sel sZ) oZ oZ oZ oZ (by simp only [List.length_append, zCo, zAx, List.length_nil]; omega)) ?_
 rintro v29 w ⟨A5, hA5, hT⟩; clear E a; intro a E
 replace S := S.call1 sZ hT
 refine wpList_nil ?_
 refine zAb hK ?_; clear hK K
 refine wp_seq_k ?_; intro K hK
 replace E := E.keep (e' := [(0, _), (3, _)]) (kE2 rfl rfl)
 refine zAa ?_
 refine zd E ?_; clear E a; intro a E
 refine zp E (by first | exact zAc (q := 6) E rfl rfl rfl | exact zAd (q := 6) E rfl rfl rfl) ?_; clear E a; intro a E
 refine zd E ?_; clear E a; intro a E
 refine zAh E rfl rfl dZ rfl Tryz.func51 rfl yZ rfl (zId p 2048 _ A5 _ hA5 r.snap (S.hp.sel sZ) oZ oZ (by simp only [List.length_append, zCo, zAx, List.length_nil]; omega)) ?_
 rintro v33 w ⟨A6, hA6, hT⟩; clear E a; intro a E
 replace S := S.call1 sZ hT
 refine wpList_nil ?_
 refine zAb hK ?_; clear hK K
 refine wp_seq_k ?_; intro K hK
 refine zAa ?_
 refine zd E ?_; clear E a; intro a E
 refine zp E (by first | exact zAc (q := 7) E rfl rfl rfl | exact zAd (q := 7) E rfl rfl rfl) ?_; clear E a; intro a E
 iterate 2 (refine zd E ?_; clear E a; intro a E)
 refine zp E (by first | exact zAo E rfl rfl rfl rfl (by first | exact wu8 _ | exact zCz oZ | exact zCe oZ | exact w_in oZ | exact zBb oZ | exact rfl) | exact zBh E rfl rfl rfl rfl rfl (by assumption) (S.stab.at (by simp))) ?_; clear E a; intro a E
 refine zAh E rfl rfl dZ rfl Tryz.func30 rfl yZ rfl (zEd p 2048 _ A6 _ hA6 r.props.length 1 (S.hp.sel sZ) oZ oZ oZ oZ (by simp only [List.length_append, zCo, zAx, List.length_nil]; omega)) ?_
 rintro v39 w ⟨A7, hA7, hT⟩; clear E a; intro a E
 replace S := S.call1 sZ hT
 refine wpList_nil ?_
 refine zAb hK ?_; clear hK K
 refine wp_seq_k ?_; intro K hK
 obtain ⟨pre, hpre⟩ : ∃ pre, pre = txt r.name ++ (zBj r.typ.toNat 1 ++ (zBj r.frm.toNat 6 ++ (zBj r.guid.toNat 6 ++ (zBj r.origin.toNat 1 ++ (txt r.snap ++ zBj r.props.length 1))))) := ⟨_, rfl⟩
 have hpl : pre.length ≤ 300 := by rw [hpre]; simp only [List.length_append, zCo, zAx]; omega
 have hA8 : WrC 94 p ⟨2048, pre ++ zFg (r.props.take 0), 0⟩ A7 := by rw [hpre]; simpa [zFg] using hA7
 refine zAa ?_
 refine zp E (by first | exact zAc (q := 7) E rfl rfl rfl | exact zAd (q := 7) E rfl rfl rfl) ?_; clear E a; intro a E
 iterate 3 (refine zd E ?_; clear E a; intro a E)
 refine wpList_nil ?_
 refine zAb hK ?_; clear hK K
 refine wp_block ?_
 refine wp_loop_ghost (fun (m : Nat) (a : Act) (w' : World) => ∃ (i : Nat) (A' : zAl), m = r.props.length - i ∧ i ≤ r.props.length ∧ WrC 94 p ⟨2048, pre ++ zFg (r.props.take i), 0⟩ A' ∧ St w0 (A :: As) w' (A' :: As) ∧ Fr a 56 [(0, ptr p), (41, .slice adp r.props.length cp), (42, .int .i64 r.props.length), (43, .int .i64 i)]) (r.props.length) ?_ ?_
 ·exact ⟨0, A7, by omega, by omega, hA8, S.perm2.tail, E.keep (kE4 rfl rfl rfl rfl)⟩
 clear E; clear a; (try clear S); rintro m a w ⟨i, A', rfl, hi, hA', S, E⟩
 refine wp_seq_k ?_; intro K hK
 refine zAa ?_
 refine zd E ?_; clear E a; intro a E
 refine wpList_nil ?_
 refine zAb hK ?_; clear hK K
 refine wp_seq_k ?_; intro K hK
 refine zAs E rfl (fun hb => ?_) (fun hb => ?_)
 ·replace hb := Nrm.nrm hb
  refine wp_skip ?_
  refine zAb hK ?_; clear hK K
  refine wp_seq_k ?_; intro K hK
  refine wp_block ?_
  refine wp_seq_k ?_; intro K hK
  have hil : i < r.props.length := by omega
  obtain ⟨b, off, rfl⟩ := hP.addr oZ
  have hsi := h3.2 _ (List.getElem_mem hil)
  have hpi := propsL_le (l := r.props.take i) (fun q hq => h3.2 q (List.mem_of_mem_take hq))
  rw [List.length_take, Nat.min_eq_left hi] at hpi
  refine zAa ?_
  refine zp E (by first | exact zAw E rfl rfl rfl rfl rfl rfl oZ | exact zBe E rfl rfl rfl rfl rfl rfl oZ | exact zAu E rfl rfl rfl rfl rfl rfl oZ) ?_; clear E a; intro a E
  refine zp E (zDp (vs := [_, _]) E rfl rfl rfl rfl (hP.elem (lay := Prp.lay) Prp.lay_len (S.stab.at (List.mem_cons_of_mem _ hC)) hil)) ?_; clear E a; intro a E
  refine zAg rfl (zBf E S rfl rfl dZ rfl rfl rfl ?_); clear E S a; intro a w b5 E S
  refine zAg rfl (zAq E S rfl rfl rfl rfl (by simp [Value.oneCell']) rfl pZ (by simp) ?_); clear E S a; intro a w E S; simp only [List.take_succ_cons, List.take_zero, List.drop_succ_cons, List.drop_zero, List.cons_append, List.nil_append, List.append_nil, List.length_cons, List.length_nil, Nat.zero_add, Nat.add_zero] at S
  refine wpList_nil ?_
  refine zAb hK ?_; clear hK K
  refine wp_seq_k ?_; intro K hK
  obtain ⟨q, hq⟩ : ∃ q, q = r.props[i] := ⟨_, rfl⟩
  rw [← hq] at S hsi
  refine zAa ?_
  refine zd E ?_; clear E a; intro a E
  refine zp E (by first | exact zAc (q := 0) E rfl rfl rfl | exact zAd (q := 0) E rfl rfl rfl) ?_; clear E a; intro a E
  refine zd E ?_; clear E a; intro a E
  refine zAh E rfl rfl dZ rfl Tryz.func51 rfl yZ rfl (zId p 2048 _ A' _ hA' q.name (S.hp.sel sZ) oZ oZ (by simp only [List.length_append]; omega)) ?_
  rintro v50 w ⟨B1, hB1, hT⟩; clear E a; intro a E
  replace S := S.call1 sZ hT
  refine wpList_nil ?_
  refine zAb hK ?_; clear hK K
  refine zAa ?_
  refine zd E ?_; clear E a; intro a E
  refine zp E (by first | exact zAc (q := 1) E rfl rfl rfl | exact zAd (q := 1) E rfl rfl rfl) ?_; clear E a; intro a E
  refine zd E ?_; clear E a; intro a E
  refine zAh E rfl rfl dZ rfl Tryz.func51 rfl yZ rfl (zId p 2048 _ B1 _ hB1 q.value (S.hp.sel sZ) oZ oZ (by simp only [List.length_append, zCo]; omega)) ?_
  rintro v54 w ⟨B2, hB2, hT⟩; clear E a; intro a E
  replace S := S.call1 sZ hT
  refine wpList_nil ?_
  refine zAr ?_
  refine zAb hK ?_; clear hK K
  refine zAa ?_
  refine zp E (zBc E rfl rfl rfl (by first | exact zBq (y := 1) oZ | exact w_in oZ | exact zBb oZ | exact rfl)) ?_; clear E a; intro a E
  refine zd E ?_; clear E a; intro a E
  refine wpList_nil ?_
  refine zAy ?_
  exact ⟨_, by omega, i + 1, B2, rfl, by omega, by rw [propsL_step hil, ← hq]; simpa using hB2, S.perm2.tail, E.keep (kE4 rfl rfl rfl rfl)⟩
 ·replace hb := Nrm.nrm hb
  refine wp_exit ?_
  refine zAp ?_; clear hK K
  refine zAp ?_
  refine zBr ?_
  refine end0 E rfl ?_
  obtain rfl : i = r.props.length := by omega
  rw [List.take_length] at hA'
  exact ⟨_, rfl, A', by rw [hpre] at hA'; simpa [body2] using hA', S.tr⟩
omit hR hC hA H in
theorem layF_fn {k : Int} (h : inK k) : ∃ fn : Func, Tryz.prog.funcs[layF k]? = some fn ∧ fn.body.isSome = true ∧ (fn.name == "runtime.NumGoroutine") = false := by
 rcases zEm h with rfl | rfl | rfl | rfl | rfl | rfl | rfl
 ·exact ⟨_, Tryz.func50, rfl, by kernel_rfl⟩
 ·exact ⟨_, Tryz.func94, rfl, by kernel_rfl⟩
 ·exact ⟨_, Tryz.func57, rfl, by kernel_rfl⟩
 ·exact ⟨_, Tryz.func62, rfl, by kernel_rfl⟩
 ·exact ⟨_, Tryz.func65, rfl, by kernel_rfl⟩
 ·exact ⟨_, Tryz.func100, rfl, by kernel_rfl⟩
 ·exact ⟨_, Tryz.func100, rfl, by kernel_rfl⟩
theorem layK_ret {k : Int} (hk : inK k) (h : mayK k r = true) : Ret Tryz.prog (layF k) #[ptr p, .agg (r.cells pv kv dv).toArray] w0 fun _ w' => ∃ A', WrC 94 p ⟨2048, zEx k r, 0⟩ A' ∧ Trs w0 w' (A :: As) (A' :: As) := by
 rcases zEm hk with rfl | rfl | rfl | rfl | rfl | rfl | rfl
 ·exact lay1_ret hR hC p A hA w0 H h
 ·exact lay2_ret hR hC p A hA w0 H h
 ·exact lay3_ret hR hC p A hA w0 H h
 ·exact lay4_ret hR hC p A hA w0 H h
 ·exact lay5_ret hR hC p A hA w0 H h
 ·exact lay6_ret hR hC p A hA w0 H h
 ·exact lay6_ret hR hC p A hA w0 H h
end
end Go.Proofs.YtbogecljkaimdaaGreatDoor
namespace Go.Sl
structure Pt where
 top : Int
 at_ : Int
 bytes : Int
 birth : Nat
 kind : Int
 a : Nat
 b : Nat
 c : Nat
 d : Nat
deriving DecidableEq
def Pt.lay (p : Pt) : List Value := [.int .i64 p.top, .int .i64 p.at_, .int .i64 p.bytes, .int .u64 p.birth, .int .i64 p.kind, .int .u64 p.a, .int .u64 p.b, .int .u64 p.c, .int .u64 p.d]
abbrev Pt.agg (p : Pt) : Value := .agg #[.int .i64 p.top, .int .i64 p.at_, .int .i64 p.bytes, .int .u64 p.birth, .int .i64 p.kind, .int .u64 p.a, .int .u64 p.b, .int .u64 p.c, .int .u64 p.d]
theorem Pt.lay_len (p : Pt) : p.lay.length = 9 := rfl
structure Pt.Ok (p : Pt) : Prop where
 top : -9223372036854775808 ≤ p.top ∧ p.top ≤ 9223372036854775807
 at_ : -9223372036854775808 ≤ p.at_ ∧ p.at_ ≤ 9223372036854775807
 bytes : -9223372036854775808 ≤ p.bytes ∧ p.bytes ≤ 9223372036854775807
 birth : p.birth < 18446744073709551616
 kind : -9223372036854775808 ≤ p.kind ∧ p.kind ≤ 9223372036854775807
 a : p.a < 18446744073709551616
 b : p.b < 18446744073709551616
 c : p.c < 18446744073709551616
 d : p.d < 18446744073709551616
def Pt.good (p : Pt) : Prop := 0 ≤ p.top ∧ p.top < 4 ∧ 0 ≤ p.at_ ∧ p.at_ ≤ 40959 ∧ 1 ≤ p.bytes ∧ p.bytes ≤ 1024 ∧ 1 ≤ p.birth ∧ p.birth ≤ 281474976710656 ∧ (p.kind = 1 ∨ p.kind = 2)
instance (p : Pt) : Decidable p.good := by unfold Pt.good; infer_instance
abbrev nm (b : List UInt8) (q k : Nat) : Nat := zBv ((b.drop q).take k)
theorem p1 : (256 : Nat) ^ 1 = 256 := by decide
theorem p2 : (256 : Nat) ^ 2 = 65536 := by decide
theorem p4 : (256 : Nat) ^ 4 = 4294967296 := by decide
end Go.Sl
namespace Go.Sl
structure Fs where
 a : Nat
 b : Nat
 c : Nat
 d : Nat
deriving DecidableEq
def Fs.lay (s : Fs) : List Value := [.int .u64 s.a, .int .u64 s.b, .int .u64 s.c, .int .u64 s.d]
abbrev Fs.agg (s : Fs) : Value := .agg #[.int .u64 s.a, .int .u64 s.b, .int .u64 s.c, .int .u64 s.d]
def zFx : Fs := ⟨0, 0, 0, 0⟩
def m64 : Nat := 18446744073709551616
def fstep (s : Fs) (w : Nat) : Fs :=
 let a := (s.a + w) % m64
 let b := (s.b + a) % m64
 let c := (s.c + b) % m64
 ⟨a, b, c, (s.d + c) % m64⟩
structure Fs.Ok (s : Fs) : Prop where
 a : s.a < 18446744073709551616
 b : s.b < 18446744073709551616
 c : s.c < 18446744073709551616
 d : s.d < 18446744073709551616
theorem fstep_ok (s : Fs) (w : Nat) : (fstep s w).Ok := ⟨Nat.mod_lt _ dZ, Nat.mod_lt _ dZ, Nat.mod_lt _ dZ, Nat.mod_lt _ dZ⟩
def fsN (b : List UInt8) : Nat → Fs
 | 0 => zFx
 | i + 1 => fstep (fsN b i) (nm b (4 * i) 4)
def fletch (b : List UInt8) : Fs := fsN b ((b.length + 3) / 4)
theorem fsN_ok (b : List UInt8) : ∀ i, (fsN b i).Ok
 | 0 => by constructor <;> (show 0 < _; decide)
 | i + 1 => fstep_ok _ _
end Go.Sl
namespace Go.Sl
abbrev gb (b : List UInt8) (j : Nat) : UInt8 := b.getD j 0
theorem nm_four (b : List UInt8) (q : Nat) : nm b q 4 = (gb b q).toNat + (gb b (q + 1)).toNat * 2 ^ 8 + (gb b (q + 2)).toNat * 2 ^ 16 + (gb b (q + 3)).toNat * 2 ^ 24 := by
 have key : ∀ c : List UInt8, zBv (c.take 4) = (c.getD 0 0).toNat + (c.getD 1 0).toNat * 2 ^ 8 + (c.getD 2 0).toNat * 2 ^ 16 + (c.getD 3 0).toNat * 2 ^ 24 := by
  intro c
  match c with
  | [] => rfl
  | [x] => simp [zBv]
  | [x, y] => simp [zBv]; omega
  | [x, y, z] => simp [zBv]; omega
  | x :: y :: z :: t :: r => simp [zBv]; omega
 have g : ∀ j, (b.drop q).getD j 0 = gb b (q + j) := fun j => by simp [gb, List.getD, List.getElem?_drop]
 unfold nm
 rw [key, g, g, g, g, Nat.add_zero]
theorem gb_in (b : List UInt8) {j : Nat} (h : j < b.length) : gb b j = b[j] := by simp [gb, List.getD, h]
theorem gb_out (b : List UInt8) {j : Nat} (h : b.length ≤ j) : gb b j = 0 := by simp [gb, List.getD, List.getElem?_eq_none h]
structure Run (b : List UInt8) (i : Nat) (s : Fs) (x0 x1 x2 x3 : UInt8) (k : Nat) : Prop where
 le : i ≤ b.length
 hk : k = i % 4
 hs : s = fsN b (i / 4)
 h0 : x0 = if 0 < k then gb b (4 * (i / 4)) else 0
 h1 : x1 = if 1 < k then gb b (4 * (i / 4) + 1) else 0
 h2 : x2 = if 2 < k then gb b (4 * (i / 4) + 2) else 0
 h3 : x3 = 0
theorem Run.ok {b : List UInt8} {i : Nat} {s : Fs} {x0 x1 x2 x3 : UInt8} {k : Nat} (h : Run b i s x0 x1 x2 x3 k) : s.Ok := by rw [h.hs]; exact fsN_ok _ _
def word4 (x0 x1 x2 x3 : UInt8) : Nat := x0.toNat + x1.toNat * 2 ^ 8 + x2.toNat * 2 ^ 16 + x3.toNat * 2 ^ 24
theorem Run.s0 {b : List UInt8} {i : Nat} {s : Fs} {x0 x1 x2 x3 : UInt8} (h : Run b i s x0 x1 x2 x3 0) (hi : i < b.length) : Run b (i + 1) s b[i] x1 x2 x3 1 := by
 obtain ⟨h1, h2, h3, h4, h5, h6, h7⟩ := h
 have e : (i + 1) / 4 = i / 4 := by omega
 exact ⟨by omega, by omega, by rw [e, h3], by rw [if_pos oZ, e, show 4 * (i / 4) = i by omega, gb_in b hi], by rw [h5]; simp, by rw [h6]; simp, h7⟩
theorem Run.s2 {b : List UInt8} {i : Nat} {s : Fs} {x0 x1 x2 x3 : UInt8} (h : Run b i s x0 x1 x2 x3 2) (hi : i < b.length) : Run b (i + 1) s x0 x1 b[i] x3 3 := by
 obtain ⟨h1, h2, h3, h4, h5, h6, h7⟩ := h
 have e : (i + 1) / 4 = i / 4 := by omega
 exact ⟨by omega, by omega, by rw [e, h3], by rw [h4, e]; simp, by rw [h5, e]; simp, by rw [if_pos oZ, e, show 4 * (i / 4) + 2 = i by omega, gb_in b hi], h7⟩
theorem Run.done {b : List UInt8} {s : Fs} {x0 x1 x2 x3 : UInt8} {k : Nat} (h : Run b b.length s x0 x1 x2 x3 k) (hk : k ≠ 0) : fstep s (word4 x0 x1 x2 x3) = fletch b := by
 obtain ⟨h1, h2, h3, h4, h5, h6, h7⟩ := h
 have e : (b.length + 3) / 4 = b.length / 4 + 1 := by omega
 have o : ∀ j, (if j < k then gb b (4 * (b.length / 4) + j) else 0) = gb b (4 * (b.length / 4) + j) := fun j => by
  split
  ·rfl
  ·rw [gb_out b oZ]
 have o0 := o 0; have o1 := o 1; have o2 := o 2; have o3 := o 3
 rw [Nat.add_zero] at o0
 rw [fletch, e, fsN, h3, nm_four, word4, h4, h5, h6, h7, o0, o1, o2, ← o3, if_neg oZ]
end Go.Sl
namespace Go.Sl
def w32 (z : Int) : Int := IntKind.u32.wrap z
def or32 (a b : Int) : Int := bits .or .u32 a b
def xo32 (a b : Int) : Int := bits .xor .u32 a b
def an32 (a b : Int) : Int := bits .and .u32 a b
def nt32 (a : Int) : Int := bits .xor .u32 4294967295 a
def shl32 (x k : Int) : Int := IntKind.u32.wrap (x * 2 ^ k.toNat)
def shrI (x k : Int) : Int := x / 2 ^ k.toNat
theorem or32_comm (a b : Int) : bits .or .u32 a b = bits .or .u32 b a := by
 show IntKind.u32.wrap (((BitVec.ofInt 32 a ||| BitVec.ofInt 32 b).toNat : Nat) : Int) = IntKind.u32.wrap (((BitVec.ofInt 32 b ||| BitVec.ofInt 32 a).toNat : Nat) : Int)
 rw [BitVec.or_comm]
def rot (x k : Int) : Int := or32 (shrI x k) (shl32 x (32 - k))
theorem w8_32 (b : UInt8) : IntKind.u32.wrap (b.toNat : Int) = (b.toNat : Int) := IntWalk.u32_in _ (by have := b.toNat_lt; omega)
def word32 (b : List UInt8) (t : Nat) : Int := or32 (or32 (or32 (shl32 (gb b (4 * t)).toNat 24) (shl32 (gb b (4 * t + 1)).toNat 16)) (shl32 (gb b (4 * t + 2)).toNat 8)) (gb b (4 * t + 3)).toNat
def sg (x : Int) (p q r : Int) : Int := xo32 (xo32 (rot x p) (rot x q)) (shrI x r)
def sG (x : Int) (p q r : Int) : Int := xo32 (xo32 (rot x p) (rot x q)) (rot x r)
def wnext (w : List Int) (t : Nat) : Int := w32 (w32 (w32 (w.getD (t - 16) 0 + sg (w.getD (t - 15) 0) 7 18 3) + w.getD (t - 7) 0) + sg (w.getD (t - 2) 0) 17 19 10)
def wsN (b : List UInt8) : Nat → List Int
 | 0 => []
 | n + 1 => wsN b n ++ [if n < 16 then word32 b n else wnext (wsN b n) n]
theorem zDv (b : List UInt8) : ∀ n, (wsN b n).length = n
 | 0 => rfl
 | n + 1 => by rw [wsN, List.length_append, zDv b n]; rfl
structure S8 where
 a : Int
 b : Int
 c : Int
 d : Int
 e : Int
 f : Int
 g : Int
 h : Int
def S8.t1 (s : S8) (k x : Int) : Int := w32 (w32 (w32 (w32 (s.h + sG s.e 6 11 25) + xo32 (an32 s.e s.f) (an32 (nt32 s.e) s.g)) + k) + x)
def S8.t2 (s : S8) : Int := w32 (sG s.a 2 13 22 + xo32 (xo32 (an32 s.a s.b) (an32 s.a s.c)) (an32 s.b s.c))
def S8.step (s : S8) (k x : Int) : S8 := ⟨w32 (s.t1 k x + s.t2), s.a, s.b, s.c, w32 (s.d + s.t1 k x), s.e, s.f, s.g⟩
def S8.mix (h : S8) (K ws : List Int) : Nat → S8
 | 0 => h
 | n + 1 => (S8.mix h K ws n).step (K.getD n 0) (ws.getD n 0)
def S8.add (h v : S8) : S8 := ⟨w32 (h.a + v.a), w32 (h.b + v.b), w32 (h.c + v.c), w32 (h.d + v.d), w32 (h.e + v.e), w32 (h.f + v.f), w32 (h.g + v.g), w32 (h.h + v.h)⟩
def S8.l (s : S8) : List Int := [s.a, s.b, s.c, s.d, s.e, s.f, s.g, s.h]
abbrev u32s (l : List Int) : List Value := l.map (Value.int .u32)
def shaK : List Int := [1116352408, 1899447441, 3049323471, 3921009573, 961987163, 1508970993, 2453635748, 2870763221, 3624381080, 310598401, 607225278, 1426881987, 1925078388, 2162078206, 2614888103, 3248222580, 3835390401, 4022224774, 264347078, 604807628, 770255983, 1249150122, 1555081692, 1996064986, 2554220882, 2821834349, 2952996808, 3210313671, 3336571891, 3584528711, 113926993, 338241895, 666307205, 773529912, 1294757372, 1396182291, 1695183700, 1986661051, 2177026350, 2456956037, 2730485921, 2820302411, 3259730800, 3345764771, 3516065817, 3600352804, 4094571909, 275423344, 430227734, 506948616, 659060556, 883997877, 958139571, 1322822218, 1537002063, 1747873779, 1955562222, 2024104815, 2227730452, 2361852424, 2428436474, 2756734187, 3204031479, 3329325298]
def sha0 : S8 := ⟨1779033703, 3144134277, 1013904242, 2773480762, 1359893119, 2600822924, 528734635, 1541459225⟩
def blk (all : List UInt8) (k : Nat) : List UInt8 := (all.drop (64 * k)).take 64
def shaStep (h : S8) (b : List UInt8) : S8 := h.add (h.mix shaK (wsN b 64) 64)
def shaH (all : List UInt8) : Nat → S8
 | 0 => sha0
 | k + 1 => shaStep (shaH all k) (blk all k)
def lenB (n : Nat) : Nat → List UInt8
 | 0 => []
 | k + 1 => lenB n k ++ [UInt8.ofNat (n / 2 ^ (56 - 8 * k))]
theorem zKa (n : Nat) : ∀ k, (lenB n k).length = k
 | 0 => rfl
 | k + 1 => by rw [lenB, List.length_append, zKa n k]; rfl
def padZ (n : Nat) : Nat := (119 - n % 64) % 64
def padL (b : List UInt8) : List UInt8 := b ++ [128] ++ List.replicate (padZ b.length) 0 ++ lenB (b.length * 8) 8
theorem zGi (b : List UInt8) : (padL b).length = b.length + 9 + padZ b.length := by
 simp only [padL, List.length_append, zKa, List.length_replicate, List.length_cons, List.length_nil]; omega
theorem padL_64 (b : List UInt8) : (padL b).length % 64 = 0 := by rw [zGi, padZ]; omega
def pairI (x y : Int) : Int := bits .or .u64 (IntKind.u64.wrap (IntKind.u64.wrap x * 2 ^ (32 : Int).toNat)) (IntKind.u64.wrap y)
theorem pairI_in (x y : Int) : 0 ≤ pairI x y ∧ pairI x y < 18446744073709551616 := by
 unfold pairI
 show 0 ≤ IntKind.u64.wrap _ ∧ IntKind.u64.wrap _ < _
 rw [IntKind.wrap_u64]; omega
def pairN (x y : Int) : Nat := (pairI x y).toNat
theorem pairN_eq (x y : Int) : ((pairN x y : Nat) : Int) = pairI x y := by have := pairI_in x y; unfold pairN; omega
def S8.fs (h : S8) : Fs := ⟨pairN h.a h.b, pairN h.c h.d, pairN h.e h.f, pairN h.g h.h⟩
def shaF (b : List UInt8) : Fs := (shaH (padL b) ((padL b).length / 64)).fs
theorem shaF_ok (b : List UInt8) : (shaF b).Ok := by
 have h (x y : Int) : pairN x y < 18446744073709551616 := by have := pairI_in x y; unfold pairN; omega
 exact ⟨h _ _, h _ _, h _ _, h _ _⟩
end Go.Sl
namespace Go.Sl
theorem and31 {k : Int} (h : 1 ≤ k ∧ k ≤ 31) : bits .and .u64 (18446744073709551616 - k) 31 = 32 - k := by
 have key : ∀ n : Fin 32, 1 ≤ n.val → bits .and .u64 (18446744073709551616 - (n.val : Int)) 31 = 32 - (n.val : Int) := by decide +kernel
 obtain ⟨n, rfl⟩ : ∃ n : Nat, k = n := ⟨k.toNat, by omega⟩
 exact key ⟨n, by omega⟩ (by show 1 ≤ n; omega)
theorem ws_at (b : List UInt8) (n j : Nat) (r : List Value) (h : j < n) : (u32s (wsN b n) ++ r)[j]? = some (.int .u32 ((wsN b n).getD j 0)) := by
 have hl := zDv b n
 rw [List.getElem?_append_left (by rw [List.length_map]; omega), List.getElem?_map, List.getElem?_eq_getElem oZ, List.getD, List.getElem?_eq_getElem oZ]; rfl
theorem ws_step (b : List UInt8) (n : Nat) : u32s (wsN b (n + 1)) = u32s (wsN b n) ++ [.int .u32 (if n < 16 then word32 b n else wnext (wsN b n) n)] := by rw [wsN, u32s, List.map_append]; rfl
theorem zKu (l : List Int) {j : Nat} (h : j < l.length) : (u32s l)[j]? = some (.int .u32 (l.getD j 0)) := by
 rw [List.getElem?_map, List.getElem?_eq_getElem h, List.getD, List.getElem?_eq_getElem h]; rfl
theorem word_lit (b : List UInt8) {i : Nat} (h : 4 * i + 3 < b.length) : word32 b i = or32 (or32 (or32 (shl32 (b[4 * i]'oZ).toNat 24) (shl32 (b[4 * i + 1]'oZ).toNat 16)) (shl32 (b[4 * i + 2]'oZ).toNat 8)) (b[4 * i + 3]).toNat := by
 unfold word32; rw [gb_in b oZ, gb_in b oZ, gb_in b oZ, gb_in b h]
def addL (h v : S8) (i : Nat) : List Int := (List.range 8).map fun j => if j < i then w32 (h.l.getD j 0 + v.l.getD j 0) else h.l.getD j 0
theorem zHb (h v : S8) (i : Nat) : (addL h v i).length = 8 := by simp [addL]
theorem addL_at (h v : S8) {i : Nat} (hi : i < 8) : (addL h v i).getD i 0 = h.l.getD i 0 := by
 have : i < (addL h v i).length := by rw [zHb]; exact hi
 rw [List.getD, List.getElem?_eq_getElem this]
 simp [addL]
theorem addL_set (h v : S8) {i : Nat} (hi : i < 8) : (u32s (addL h v i)).set i (.int .u32 (w32 (h.l.getD i 0 + v.l.getD i 0))) = u32s (addL h v (i + 1)) := by
 apply List.ext_getElem?
 intro j
 rw [List.getElem?_set, List.length_map, zHb]
 by_cases hj : i = j
 ·subst hj; simp [addL, hi]
 ·rw [if_neg hj]
  simp only [u32s, List.getElem?_map, addL]
  by_cases h8 : j < 8
  ·rw [List.getElem?_range h8]
   simp only [Option.map_some]
   have : (j < i) ↔ (j < i + 1) := by omega
   simp only [this]
  ·rw [List.getElem?_eq_none (l := List.range 8) (by simp; omega)]; rfl
theorem addL_zero (h v : S8) : addL h v 0 = h.l := rfl
theorem addL_end (h v : S8) : addL h v 8 = (h.add v).l := rfl
theorem Rd.cutc {C : zAl} {s m : Nat} {xs : List Value} {ad : Option Addr} {c lo hi : Nat} (h : Rd C s (.slice ad m c) m xs) (h1 : lo ≤ hi) (h2 : hi ≤ m) (h3 : hi ≤ c) :
  ∃ ad2, sliced ad lo hi c s = .slice ad2 (hi - lo) (c - lo) ∧ Rd C s (.slice ad2 (hi - lo) (c - lo)) (hi - lo) ((xs.drop (lo * s)).take ((hi - lo) * s)) :=
 ⟨_, rfl, h.piece rfl h1 h2 h3⟩
def Tab (As : List zAl) (g : Nat) (l : List Int) : Prop := ∃ G ∈ As, ∃ T fr, (g, Obj.cells (u32s l).toArray T fr) ∈ G
theorem Tab.tail {As : List zAl} {g : Nat} {l : List Int} {A : zAl} (h : Tab As g l) : Tab (A :: As) g l := by
 obtain ⟨G, hG, r⟩ := h; exact ⟨G, List.Mem.tail _ hG, r⟩
theorem Tab.cell {As : List zAl} {g : Nat} {l : List Int} {w : World} (h : Tab As g l) (S : Stab As w) {j : Nat} (hj : j < l.length) : w.cell? ⟨g, j, none⟩ = some (.int .u32 (l.getD j 0)) := by
 obtain ⟨G, hG, T, fr, hm⟩ := h
 exact zCf (S G hG _ hm) (zKu l hj)
theorem shaK_len : shaK.length = 64 := rfl
theorem shs {n k : Nat} (hk : k ≤ 7) : ((n : Int) * 8) / 2 ^ (56 - 8 * (k : Int)).toNat = ((n * 8 / 2 ^ (56 - 8 * k) : Nat) : Int) := by
 rw [show (56 - 8 * (k : Int)).toNat = 56 - 8 * k by omega]; simp
end Go.Sl
namespace Go.Proofs.YtbogecljkaimdaaGreatDoor
open Go.Sl
set_option maxRecDepth 10000
theorem rotl_ret (x k : Int) (hk : 1 ≤ k ∧ k ≤ 31) (w0 : World) : Ret Tryz.prog 136 #[.int .u32 x, .int .i64 (-k)] w0 fun u w' => u = .int .u32 (rot x k) ∧ Trs w0 w' [] [] := by
 have S := St.begin (hp_nil w0)
 refine zBt 17 Tryz.func136 rfl rfl dZ ?_; intro a E
 refine wp_seq_k ?_; intro K hK
 refine zAa ?_
 refine zd E ?_; clear E a; intro a E
 refine wpList_nil ?_
 refine zAb hK ?_; clear hK K
 refine wp_seq_k ?_; intro K hK
 refine zAa ?_
 refine zd E ?_; clear E a; intro a E
 refine zp E (zAo E rfl rfl rfl rfl (r := 18446744073709551616 - k) (by rw [IntKind.wrap_u64]; omega)) ?_; clear E a; intro a E
 refine zp E (zGm E rfl rfl rfl (and31 hk)) ?_; clear E a; intro a E
 refine zd E ?_; clear E a; intro a E
 refine wpList_nil ?_
 refine zAb hK ?_; clear hK K
 refine wp_seq_k ?_; intro K hK
 refine zAa ?_
 iterate 2 (refine zd E ?_; clear E a; intro a E)
 refine zp E (zFl E rfl rfl rfl oZ (by simp only [IntKind.bits]; omega) rfl) ?_; clear E a; intro a E
 iterate 2 (refine zd E ?_; clear E a; intro a E)
 refine zp E (zCv E rfl rfl rfl (show IntKind.u64.wrap (32 - (32 - k)) = k by rw [IntKind.wrap_u64]; omega)) ?_; clear E a; intro a E
 refine zp E (zHi E rfl rfl rfl oZ (by simp only [IntKind.bits]; omega) rfl) ?_; clear E a; intro a E
 refine zp E (zHm E rfl rfl rfl (or32_comm _ _)) ?_; clear E a; intro a E
 refine zd E ?_; clear E a; intro a E
 refine wpList_nil ?_
 refine zAb hK ?_; clear hK K
 refine wp_ret ?_
 refine ret1 E rfl rfl ?_
 exact ⟨_, rfl, rfl, (S.only (Bs := []) sZ).tr⟩
theorem zHk (x k : Int) (hk : 1 ≤ k ∧ k ≤ 31) (w0 : World) : Ret Tryz.prog 130 #[.int .u32 x, .int .i64 k] w0 fun u w' => u = .int .u32 (rot x k) ∧ Trs w0 w' [] [] := by
 have S := St.begin (hp_nil w0)
 refine zBt 9 Tryz.func130 rfl rfl dZ ?_; intro a E
 refine wp_seq_k ?_; intro K hK
 refine zAa ?_
 refine zd E ?_; clear E a; intro a E
 refine wpList_nil ?_
 refine zAb hK ?_; clear hK K
 refine wp_seq_k ?_; intro K hK
 refine zAa ?_
 iterate 2 (refine zd E ?_; clear E a; intro a E)
 refine zp E (rn_neg E rfl rfl (by first | exact wn_in oZ | exact rfl)) ?_; clear E a; intro a E
 refine zAh E rfl rfl dZ rfl Tryz.func136 rfl yZ rfl (rotl_ret x k hk _) ?_
 rintro v8 w ⟨rfl, hT⟩; clear E a; intro a E
 have S := S.quiet hT
 refine zd E ?_; clear E a; intro a E
 refine wpList_nil ?_
 refine zAb hK ?_; clear hK K
 refine wp_ret ?_
 refine ret1 E rfl rfl ?_
 exact ⟨_, rfl, rfl, (S.only (Bs := []) sZ).tr⟩
theorem schedule_ret (b : List UInt8) (hl : b.length = 64) (w0 : World) : Ret Tryz.prog 119 #[.agg (byt b).toArray] w0 fun u w' => u = .agg (u32s (wsN b 64)).toArray ∧ Trs w0 w' [] [] := by
 have S := St.begin (hp_nil w0)
 have hbl := zDt b
 refine zCd 85 Tryz.func119 rfl rfl dZ ?_; intro a E
 refine wp_seq_k ?_; intro K hK
 refine zAa ?_
 refine zAg rfl (zBx E S rfl rfl dZ rfl rfl ?_); clear E S a; intro a w b1 E S
 refine zAg rfl (zBf E S rfl rfl dZ rfl rfl rfl ?_); clear E S a; intro a w b2 E S
 refine wpList_nil ?_
 refine zAb hK ?_; clear hK K
 refine wp_seq_k ?_; intro K hK
 refine zAa ?_
 refine zAg rfl (zBf E S rfl rfl dZ rfl rfl rfl ?_); clear E S a; intro a w b3 E S
 refine wpList_nil ?_
 refine zAb hK ?_; clear hK K
 iterate 2 (refine wp_seq_k ?_; intro K hK)
 refine zAa ?_
 refine zd E ?_; clear E a; intro a E
 refine wpList_nil ?_
 refine zAb hK ?_; clear hK K
 refine wp_block ?_
 refine wp_loop_ghost (fun (m : Nat) (a : Act) (w' : World) => ∃ i, m = 16 - i ∧ i ≤ 16 ∧ St w0 [] w' [[(b3, cel (u32s (wsN b i) ++ List.replicate (64 - i) (.int .u32 0)) 127)], [(b2, cel (List.replicate 64 (.int .u32 0)) 127)], [(b1, cel (byt b) 136)]] ∧ Fr a 85 [(1, ptr b1), (2, ptr b2), (3, ptr b3), (8, .int .i64 i)]) (16 - 0) ?_ ?_
 ·exact ⟨0, rfl, by omega, S, E.keep (kE4 rfl rfl rfl rfl)⟩
 clear E; clear a; (try clear S); rintro m a w ⟨i, rfl, hi, S, E⟩
 refine wp_seq_k ?_; intro K hK
 refine zAa ?_
 refine zd E ?_; clear E a; intro a E
 refine wpList_nil ?_
 refine zAb hK ?_; clear hK K
 refine wp_seq_k ?_; intro K hK
 refine zAs E rfl (fun hb => ?_) (fun hb => ?_)
 ·replace hb := Nrm.nrm hb
  refine wp_skip ?_
  refine zAb hK ?_; clear hK K
  refine wp_seq_k ?_; intro K hK
  refine wp_block ?_
  refine wp_seq_k ?_; intro K hK
  refine zAa ?_
  iterate 2 (refine zd E ?_; clear E a; intro a E)
  refine wpList_nil ?_
  refine zAb hK ?_; clear hK K
  have hwl := zDv b i
  have hst := ws_step b i
  rw [if_pos oZ, word_lit b oZ] at hst
  refine zBg S (.ofL [(0, 0), (1, 0), (2, 0), (3, 0), (4, 0), (5, 0), (6, 0), (7, 0), (8, 0), (9, 0), (10, 0), (11, 0), (12, 0), (13, 0), (14, 0), (15, 0), (16, 0), (17, 0), (18, 0), (19, 0), (20, 0), (21, 0), (22, 0), (23, 0), (24, 0), (25, 0), (26, 0), (27, 0), (28, 0), (29, 0), (30, 0), (31, 3)]) yZ yZ ?_
  clear S; intro w S
  iterate 2 (refine zmd E ?_; clear E a; intro a E)
  refine zm E rfl (fun w h => zEg E rfl rfl rfl (by first | exact zEq (x := 4) oZ | exact zDx (x := 4) oZ | exact w_in oZ | exact rfl)) ?_; clear E a; intro a E
  refine zm E rfl (fun w h => zBz (i := 4 * i) E rfl rfl rfl rfl rfl rfl oZ) ?_; clear E a; intro a E
  refine zm E rfl (fun w h => zBd E rfl rfl rfl (zCf (h.one mZ) (zJp b (i := 4 * i) oZ))) ?_; clear E a; intro a E
  refine zm E rfl (fun w h => zAo E rfl rfl rfl rfl (w8_32 _)) ?_; clear E a; intro a E
  refine zm E rfl (fun w h => zFl E rfl rfl rfl oZ (by simp only [IntKind.bits]; omega) rfl) ?_; clear E a; intro a E
  refine zmd E ?_; clear E a; intro a E
  refine zm E rfl (fun w h => zEg E rfl rfl rfl (by first | exact zEq (x := 4) oZ | exact zDx (x := 4) oZ | exact w_in oZ | exact rfl)) ?_; clear E a; intro a E
  refine zm E rfl (fun w h => zBc E rfl rfl rfl (by first | exact zBq (y := 1) oZ | exact w_in oZ | exact zBb oZ | exact rfl)) ?_; clear E a; intro a E
  refine zm E rfl (fun w h => zBz (i := 4 * i + 1) E rfl rfl rfl rfl rfl rfl oZ) ?_; clear E a; intro a E
  refine zm E rfl (fun w h => zBd E rfl rfl rfl (zCf (h.one mZ) (zJp b (i := 4 * i + 1) oZ))) ?_; clear E a; intro a E
  refine zm E rfl (fun w h => zAo E rfl rfl rfl rfl (w8_32 _)) ?_; clear E a; intro a E
  refine zm E rfl (fun w h => zFl E rfl rfl rfl oZ (by simp only [IntKind.bits]; omega) rfl) ?_; clear E a; intro a E
  refine zm E rfl (fun w h => zHm E rfl rfl rfl rfl) ?_; clear E a; intro a E
  refine zmd E ?_; clear E a; intro a E
  refine zm E rfl (fun w h => zEg E rfl rfl rfl (by first | exact zEq (x := 4) oZ | exact zDx (x := 4) oZ | exact w_in oZ | exact rfl)) ?_; clear E a; intro a E
  refine zm E rfl (fun w h => zBc E rfl rfl rfl (by first | exact zBq (y := 2) oZ | exact w_in oZ | exact zBb oZ | exact rfl)) ?_; clear E a; intro a E
  refine zm E rfl (fun w h => zBz (i := 4 * i + 2) E rfl rfl rfl rfl rfl rfl oZ) ?_; clear E a; intro a E
  refine zm E rfl (fun w h => zBd E rfl rfl rfl (zCf (h.one mZ) (zJp b (i := 4 * i + 2) oZ))) ?_; clear E a; intro a E
  refine zm E rfl (fun w h => zAo E rfl rfl rfl rfl (w8_32 _)) ?_; clear E a; intro a E
  refine zm E rfl (fun w h => zFl E rfl rfl rfl oZ (by simp only [IntKind.bits]; omega) rfl) ?_; clear E a; intro a E
  refine zm E rfl (fun w h => zHm E rfl rfl rfl rfl) ?_; clear E a; intro a E
  refine zmd E ?_; clear E a; intro a E
  refine zm E rfl (fun w h => zEg E rfl rfl rfl (by first | exact zEq (x := 4) oZ | exact zDx (x := 4) oZ | exact w_in oZ | exact rfl)) ?_; clear E a; intro a E
  refine zm E rfl (fun w h => zBc E rfl rfl rfl (by first | exact zBq (y := 3) oZ | exact w_in oZ | exact zBb oZ | exact rfl)) ?_; clear E a; intro a E
  refine zm E rfl (fun w h => zBz (i := 4 * i + 3) E rfl rfl rfl rfl rfl rfl oZ) ?_; clear E a; intro a E
  refine zm E rfl (fun w h => zBd E rfl rfl rfl (zCf (h.one mZ) (zJp b (i := 4 * i + 3) oZ))) ?_; clear E a; intro a E
  refine zm E rfl (fun w h => zAo E rfl rfl rfl rfl (w8_32 _)) ?_; clear E a; intro a E
  refine zm E rfl (fun w h => zHm E rfl rfl rfl rfl) ?_; clear E a; intro a E
  refine zm E rfl (fun w h => zBz (i := i) E rfl rfl rfl rfl rfl rfl oZ) ?_; clear E a; intro a E
  refine zCb rfl rfl (zAv E S rfl rfl rfl rfl rfl rfl pZ (by rw [List.length_append, List.length_map, List.length_replicate]; omega) ?_); clear E S a; intro a w E S; try dsimp only [List.set] at S
  rw [zGo (u32s (wsN b i)) 64 (.int .u32 0) _ i (by rw [List.length_map, hwl]) oZ] at S
  refine zBi ?_
  refine zAr ?_
  refine zAb hK ?_; clear hK K
  refine zAa ?_
  refine zp E (zBc E rfl rfl rfl (by first | exact zBq (y := 1) oZ | exact w_in oZ | exact zBb oZ | exact rfl)) ?_; clear E a; intro a E
  refine zd E ?_; clear E a; intro a E
  refine wpList_nil ?_
  refine zAy ?_
  exact ⟨_, by omega, i + 1, rfl, by omega, by rw [hst]; exact S, E.keep (kE4 rfl rfl rfl rfl)⟩
 ·replace hb := Nrm.nrm hb
  refine wp_exit ?_
  refine zAp ?_; clear hK K
  refine zAp ?_
  refine zBr ?_
  refine zAb hK ?_; clear hK K
  iterate 2 (refine wp_seq_k ?_; intro K hK)
  refine zAa ?_
  refine zd E ?_; clear E a; intro a E
  refine wpList_nil ?_
  refine zAb hK ?_; clear hK K
  refine wp_block ?_
  refine wp_loop_ghost (fun (m : Nat) (a : Act) (w' : World) => ∃ i, m = 64 - i ∧ 16 ≤ i ∧ i ≤ 64 ∧ St w0 [] w' [[(b3, cel (u32s (wsN b i) ++ List.replicate (64 - i) (.int .u32 0)) 127)], [(b2, cel (List.replicate 64 (.int .u32 0)) 127)], [(b1, cel (byt b) 136)]] ∧ Fr a 85 [(2, ptr b2), (3, ptr b3), (5, .int .i64 i)]) (64 - 16) ?_ ?_
  ·exact ⟨16, rfl, by omega, by omega, by obtain rfl : i = 16 := oZ; exact S, E.keep (kE3 rfl rfl rfl)⟩
  clear E; clear a; (try clear S); rintro m a w ⟨i, rfl, h16, hi, S, E⟩
  iterate 2 (refine wp_seq_k ?_; intro K hK)
  refine zAa ?_
  iterate 2 (refine zd E ?_; clear E a; intro a E)
  refine wpList_nil ?_
  refine zAb hK ?_; clear hK K
  refine zAs E rfl (fun hb => ?_) (fun hb => ?_)
  ·replace hb := Nrm.nrm hb
   refine wp_skip ?_
   refine zAb hK ?_; clear hK K
   refine wp_seq_k ?_; intro K hK
   refine wp_block ?_
   refine wp_seq_k ?_; intro K hK
   have hwl := zDv b i
   have hst := ws_step b i
   rw [if_neg oZ] at hst
   refine zBg S (.ofL [(0, 0), (1, 0), (2, 0), (3, 0), (4, 0), (5, 0), (6, 0), (7, 0), (8, 0), (9, 0)]) yZ yZ ?_
   clear S; intro w S
   refine zmd E ?_; clear E a; intro a E
   refine zm E rfl (fun w h => zCv E rfl rfl rfl (by first | exact zFc (y := 15) oZ oZ | exact w_in oZ | exact zBb oZ | exact rfl)) ?_; clear E a; intro a E
   refine zm E rfl (fun w h => zBz (i := i - 15) E rfl rfl rfl rfl rfl rfl oZ) ?_; clear E a; intro a E
   refine zm E rfl (fun w h => zBd E rfl rfl rfl (zCf (h.one mZ) (ws_at b i (i - 15) _ oZ))) ?_; clear E a; intro a E
   refine zmd E ?_; clear E a; intro a E
   refine zm E rfl (fun w h => zCv E rfl rfl rfl (by first | exact zFc (y := 2) oZ oZ | exact w_in oZ | exact zBb oZ | exact rfl)) ?_; clear E a; intro a E
   refine zm E rfl (fun w h => zBz (i := i - 2) E rfl rfl rfl rfl rfl rfl oZ) ?_; clear E a; intro a E
   refine zm E rfl (fun w h => zBd E rfl rfl rfl (zCf (h.one mZ) (ws_at b i (i - 2) _ oZ))) ?_; clear E a; intro a E
   iterate 2 (refine zmd E ?_; clear E a; intro a E)
   refine zBi ?_
   refine zAb hK ?_; clear hK K
   refine zBg S (.ofL [(0, 0), (1, 0), (2, 0), (3, 0), (4, 0), (5, 0), (7, 0), (10, 0), (11, 0), (14, 0), (15, 0), (16, 0), (17, 0), (19, 0), (21, 0), (24, 0), (25, 0), (6, 1), (8, 1), (9, 0), (12, 0), (13, 0), (18, 0), (20, 1), (22, 1), (23, 0), (26, 0), (27, 0), (28, 0), (29, 3)]) yZ yZ ?_
   clear S; intro w S
   iterate 2 (refine zmd E ?_; clear E a; intro a E)
   refine zm E rfl (fun w h => zCv E rfl rfl rfl (by first | exact zFc (y := 16) oZ oZ | exact w_in oZ | exact zBb oZ | exact rfl)) ?_; clear E a; intro a E
   refine zm E rfl (fun w h => zBz (i := i - 16) E rfl rfl rfl rfl rfl rfl oZ) ?_; clear E a; intro a E
   refine zm E rfl (fun w h => zBd E rfl rfl rfl (zCf (h.one mZ) (ws_at b i (i - 16) _ oZ))) ?_; clear E a; intro a E
   iterate 3 (refine zmd E ?_; clear E a; intro a E)
   refine zm E rfl (fun w h => zHi E rfl rfl rfl oZ (by simp only [IntKind.bits]; omega) rfl) ?_; clear E a; intro a E
   refine zmd E ?_; clear E a; intro a E
   refine zm E rfl (fun w h => zCv E rfl rfl rfl (by first | exact zFc (y := 7) oZ oZ | exact w_in oZ | exact zBb oZ | exact rfl)) ?_; clear E a; intro a E
   refine zm E rfl (fun w h => zBz (i := i - 7) E rfl rfl rfl rfl rfl rfl oZ) ?_; clear E a; intro a E
   refine zm E rfl (fun w h => zBd E rfl rfl rfl (zCf (h.one mZ) (ws_at b i (i - 7) _ oZ))) ?_; clear E a; intro a E
   iterate 3 (refine zmd E ?_; clear E a; intro a E)
   refine zm E rfl (fun w h => zHi E rfl rfl rfl oZ (by simp only [IntKind.bits]; omega) rfl) ?_; clear E a; intro a E
   refine zBs E rfl rfl rfl dZ rfl Tryz.func130 rfl yZ rfl (zHk _ 7 oZ _) ?_
   rintro v61 w ⟨rfl, hT⟩; clear E a; intro a E
   have S := S.quiet hT
   refine ⟨S.stab.sub (by first | (simp; done) | (simp +contextual; done) | (simp [*]; done)), ?_⟩
   refine zBs E rfl rfl rfl dZ rfl Tryz.func130 rfl yZ rfl (zHk _ 18 oZ _) ?_
   rintro v63 w ⟨rfl, hT⟩; clear E a; intro a E
   have S := S.quiet hT
   refine ⟨S.stab.sub (by first | (simp; done) | (simp +contextual; done) | (simp [*]; done)), ?_⟩
   iterate 2 (refine zm E rfl (fun w h => zEi E rfl rfl rfl rfl) ?_; clear E a; intro a E)
   iterate 2 (refine zm E rfl (fun w h => zBc E rfl rfl rfl (by first | exact wa1 oZ | exact w_in oZ | exact zBb oZ | exact rfl)) ?_; clear E a; intro a E)
   refine zBs E rfl rfl rfl dZ rfl Tryz.func130 rfl yZ rfl (zHk _ 17 oZ _) ?_
   rintro v75 w ⟨rfl, hT⟩; clear E a; intro a E
   have S := S.quiet hT
   refine ⟨S.stab.sub (by first | (simp; done) | (simp +contextual; done) | (simp [*]; done)), ?_⟩
   refine zBs E rfl rfl rfl dZ rfl Tryz.func130 rfl yZ rfl (zHk _ 19 oZ _) ?_
   rintro v77 w ⟨rfl, hT⟩; clear E a; intro a E
   have S := S.quiet hT
   refine ⟨S.stab.sub (by first | (simp; done) | (simp +contextual; done) | (simp [*]; done)), ?_⟩
   iterate 2 (refine zm E rfl (fun w h => zEi E rfl rfl rfl rfl) ?_; clear E a; intro a E)
   refine zm E rfl (fun w h => zBc E rfl rfl rfl (by first | exact wa1 oZ | exact w_in oZ | exact zBb oZ | exact rfl)) ?_; clear E a; intro a E
   refine zm E rfl (fun w h => zBz (i := i) E rfl rfl rfl rfl rfl rfl oZ) ?_; clear E a; intro a E
   refine zCb rfl rfl (zAv E S rfl rfl rfl rfl rfl rfl pZ (by rw [List.length_append, List.length_map, List.length_replicate]; omega) ?_); clear E S a; intro a w E S; try dsimp only [List.set] at S
   rw [zGo (u32s (wsN b i)) 64 (.int .u32 0) _ i (by rw [List.length_map, hwl]) oZ] at S
   refine zBi ?_
   refine zAr ?_
   refine zAb hK ?_; clear hK K
   refine zAa ?_
   refine zd E ?_; clear E a; intro a E
   refine zp E (zBc E rfl rfl rfl (by first | exact zBq (y := 1) oZ | exact w_in oZ | exact zBb oZ | exact rfl)) ?_; clear E a; intro a E
   refine zd E ?_; clear E a; intro a E
   refine wpList_nil ?_
   refine zAy ?_
   exact ⟨_, by omega, i + 1, rfl, by omega, by omega, by rw [hst]; exact S, E.keep (kE3 rfl rfl rfl)⟩
  ·replace hb := Nrm.nrm hb
   refine wp_exit ?_
   refine zAp ?_; clear hK K
   refine zAp ?_
   refine zBr ?_
   refine zAb hK ?_; clear hK K
   refine wp_seq_k ?_; intro K hK
   obtain rfl : i = 64 := by omega
   have hwl := zDv b 64
   rw [Nat.sub_self, List.replicate_zero, List.append_nil] at S
   obtain ⟨ws, hws⟩ : ∃ ws, ws = wsN b 64 := ⟨_, rfl⟩
   rw [← hws] at S hwl ⊢
   have hul : (u32s ws).length = 64 := by rw [List.length_map, hwl]
   refine zAa ?_
   refine zp E (zFe E rfl rfl rfl (S.get pZ) hul) ?_; clear E a; intro a E
   refine zAg rfl (zFv E S rfl rfl rfl rfl (zHy ws) rfl hul pZ (by rw [hul]; rfl) ?_); clear E S a; intro a w E S
   refine wpList_nil ?_
   refine zAb hK ?_; clear hK K
   refine wp_ret ?_
   refine zFu E rfl rfl (S.get pZ) (by rw [hul]; rfl) ?_
   exact ⟨_, rfl, (by first | (rw [← hws]; done) | with_reducible rfl), (S.only (Bs := []) sZ).tr⟩
end Go.Proofs.YtbogecljkaimdaaGreatDoor
namespace Go.Sl
theorem s8_at (s : S8) {i : Nat} (h : i < 8) : (u32s s.l)[i]? = some (.int .u32 (s.l.getD i 0)) := zKu s.l h
theorem lenB_succ (n k : Nat) : lenB n (k + 1) = lenB n k ++ [UInt8.ofNat (n / 2 ^ (56 - 8 * k))] := rfl
theorem zKv (all : List UInt8) {k : Nat} (h : 64 * k + 64 ≤ all.length) : (blk all k).length = 64 := by rw [blk, List.length_take, List.length_drop]; omega
theorem zKb {n : Nat} (h : n ≤ 140737488352000) : n + 1 + padZ n + 8 ≤ 140737488352100 := by unfold padZ; omega
end Go.Sl
namespace Go.Proofs.YtbogecljkaimdaaGreatDoor
open Go.Sl
set_option maxRecDepth 10000
theorem mixed_ret (s0 : S8) (ws : List Int) (hw : ws.length = 64) (As : List zAl) (hG : Tab As 2 shaK) (w0 : World) (H : Hp w0 As) :
  Ret Tryz.prog 118 #[.agg (u32s s0.l).toArray, .agg (u32s ws).toArray] w0 fun u w' => u = .agg (u32s (s0.add (s0.mix shaK ws 64)).l).toArray ∧ Trs w0 w' As As := by
 have S := St.begin H
 have hul : (u32s ws).length = 64 := by rw [List.length_map, hw]
 refine zBt 119 Tryz.func118 rfl rfl dZ ?_; intro a E
 refine wp_seq_k ?_; intro K hK
 refine zAa ?_
 refine zAg rfl (zBx E S rfl rfl dZ rfl rfl ?_); clear E S a; intro a w b2 E S
 refine zAg rfl (zBx E S rfl rfl dZ rfl rfl ?_); clear E S a; intro a w b3 E S
 refine zAg rfl (zBf E S rfl rfl dZ rfl rfl rfl ?_); clear E S a; intro a w b4 E S
 refine wpList_nil ?_
 refine zAb hK ?_; clear hK K
 refine wp_seq_k ?_; intro K hK
 refine zBg S (.ofL [(0, 0), (1, 0), (2, 0), (3, 0), (4, 0), (5, 0), (6, 0), (7, 0), (8, 0), (9, 0), (10, 0), (11, 0), (12, 0), (13, 0), (14, 0), (15, 0), (16, 0), (17, 0), (18, 0), (19, 0), (20, 0), (21, 0), (22, 0), (23, 0)]) yZ yZ ?_
 clear S; intro w S
 refine zm E rfl (fun w h => zBz (i := 0) E rfl rfl rfl rfl rfl rfl oZ) ?_; clear E a; intro a E
 refine zmd E ?_; clear E a; intro a E
 refine zm E rfl (fun w h => zBz (i := 1) E rfl rfl rfl rfl rfl rfl oZ) ?_; clear E a; intro a E
 refine zmd E ?_; clear E a; intro a E
 refine zm E rfl (fun w h => zBz (i := 2) E rfl rfl rfl rfl rfl rfl oZ) ?_; clear E a; intro a E
 refine zmd E ?_; clear E a; intro a E
 refine zm E rfl (fun w h => zBz (i := 3) E rfl rfl rfl rfl rfl rfl oZ) ?_; clear E a; intro a E
 refine zmd E ?_; clear E a; intro a E
 refine zm E rfl (fun w h => zBz (i := 4) E rfl rfl rfl rfl rfl rfl oZ) ?_; clear E a; intro a E
 refine zmd E ?_; clear E a; intro a E
 refine zm E rfl (fun w h => zBz (i := 5) E rfl rfl rfl rfl rfl rfl oZ) ?_; clear E a; intro a E
 refine zmd E ?_; clear E a; intro a E
 refine zm E rfl (fun w h => zBz (i := 6) E rfl rfl rfl rfl rfl rfl oZ) ?_; clear E a; intro a E
 refine zmd E ?_; clear E a; intro a E
 refine zm E rfl (fun w h => zBz (i := 7) E rfl rfl rfl rfl rfl rfl oZ) ?_; clear E a; intro a E
 iterate 9 (refine zmd E ?_; clear E a; intro a E)
 refine zBi ?_
 refine zAb hK ?_; clear hK K
 iterate 2 (refine wp_seq_k ?_; intro K hK)
 replace E := E.keep (e' := [(2, _), (3, _), (4, _), (5, _), (6, _), (7, _), (8, _), (9, _), (10, _), (11, _), (12, _)]) (kE11 rfl rfl rfl rfl rfl rfl rfl rfl rfl rfl rfl)
 refine zAa ?_
 refine zp E (zFe E rfl rfl rfl (S.get pZ) hul) ?_; clear E a; intro a E
 refine zd E ?_; clear E a; intro a E
 refine wpList_nil ?_
 refine zAb hK ?_; clear hK K
 refine wp_block ?_
 refine wp_loop_ghost (fun (m : Nat) (a : Act) (w' : World) => ∃ (i : Nat) (s : S8), m = 64 - i ∧ i ≤ 64 ∧ s = S8.mix s0 shaK ws i ∧ St w0 As w' ([(b4, cel (List.replicate 8 (.int .u32 0)) 122)] :: [(b3, cel (u32s ws) 127)] :: [(b2, cel (u32s s0.l) 122)] :: As) ∧ Fr a 119 [(2, ptr b2), (4, ptr b4), (5, .int .u32 s.a), (6, .int .u32 s.b), (7, .int .u32 s.c), (8, .int .u32 s.d), (9, .int .u32 s.e), (10, .int .u32 s.f), (11, .int .u32 s.g), (12, .int .u32 s.h), (35, .agg (u32s ws).toArray), (36, .int .i64 i)]) (64 - 0) ?_ ?_
 ·exact ⟨0, s0, rfl, by omega, rfl, S, E.keep (kE12 rfl rfl rfl rfl rfl rfl rfl rfl rfl rfl rfl rfl)⟩
 clear E; clear a; (try clear S); rintro m a w ⟨i, s, rfl, hi, hs, S, E⟩
 refine wp_seq_k ?_; intro K hK
 refine zAa ?_
 refine zd E ?_; clear E a; intro a E
 refine wpList_nil ?_
 refine zAb hK ?_; clear hK K
 refine wp_seq_k ?_; intro K hK
 refine zAs E rfl (fun hb => ?_) (fun hb => ?_)
 ·replace hb := Nrm.nrm hb
  refine wp_skip ?_
  refine zAb hK ?_; clear hK K
  refine wp_seq_k ?_; intro K hK
  refine wp_block ?_
  refine wp_seq_k ?_; intro K hK
  refine zAa ?_
  refine zd E ?_; clear E a; intro a E
  refine zp E (zIt E rfl rfl rfl rfl rfl rfl rfl oZ (v := .int .u32 (ws.getD i 0)) (by rw [List.getElem?_toArray]; exact zKu ws oZ)) ?_; clear E a; intro a E
  iterate 2 (refine zd E ?_; clear E a; intro a E)
  refine wpList_nil ?_
  refine zAb hK ?_; clear hK K
  refine wp_seq_k ?_; intro K hK
  refine zBg S (.ofL [(0, 0), (1, 0), (3, 0), (6, 0), (10, 0), (11, 0), (12, 0), (13, 0), (14, 0), (15, 0), (16, 0), (17, 0), (19, 0), (20, 0), (21, 0), (23, 0), (2, 1), (4, 1), (5, 0), (7, 1), (8, 0), (9, 0), (18, 0), (22, 0), (24, 0), (25, 0)]) yZ yZ ?_
  clear S; intro w S
  iterate 6 (refine zmd E ?_; clear E a; intro a E)
  refine zm E rfl (fun w h => zGm E rfl rfl rfl rfl) ?_; clear E a; intro a E
  refine zmd E ?_; clear E a; intro a E
  refine zm E rfl (fun w h => rn_com E rfl rfl rfl) ?_; clear E a; intro a E
  refine zmd E ?_; clear E a; intro a E
  refine zm E rfl (fun w h => zGm E rfl rfl rfl rfl) ?_; clear E a; intro a E
  refine zm E rfl (fun w h => zEi E rfl rfl rfl rfl) ?_; clear E a; intro a E
  refine zmd E ?_; clear E a; intro a E
  refine zm E rfl (fun w h => zBz (i := i) E rfl rfl rfl rfl rfl rfl oZ) ?_; clear E a; intro a E
  refine zm E rfl (fun w h => zBd E rfl rfl rfl (hG.tail.tail.tail.cell h (j := i) (by rw [shaK_len]; omega))) ?_; clear E a; intro a E
  refine zmd E ?_; clear E a; intro a E
  refine zBs E rfl rfl rfl dZ rfl Tryz.func130 rfl yZ rfl (zHk s.e 6 oZ _) ?_
  rintro v42 w ⟨rfl, hT⟩; clear E a; intro a E
  have S := S.quiet hT
  refine ⟨S.stab.sub (by first | (simp; done) | (simp +contextual; done) | (simp [*]; done)), ?_⟩
  refine zBs E rfl rfl rfl dZ rfl Tryz.func130 rfl yZ rfl (zHk s.e 11 oZ _) ?_
  rintro v44 w ⟨rfl, hT⟩; clear E a; intro a E
  have S := S.quiet hT
  refine ⟨S.stab.sub (by first | (simp; done) | (simp +contextual; done) | (simp [*]; done)), ?_⟩
  refine zm E rfl (fun w h => zEi E rfl rfl rfl rfl) ?_; clear E a; intro a E
  refine zBs E rfl rfl rfl dZ rfl Tryz.func130 rfl yZ rfl (zHk s.e 25 oZ _) ?_
  rintro v47 w ⟨rfl, hT⟩; clear E a; intro a E
  have S := S.quiet hT
  refine ⟨S.stab.sub (by first | (simp; done) | (simp +contextual; done) | (simp [*]; done)), ?_⟩
  refine zm E rfl (fun w h => zEi E rfl rfl rfl rfl) ?_; clear E a; intro a E
  iterate 4 (refine zm E rfl (fun w h => zBc E rfl rfl rfl (by first | exact wa1 oZ | exact w_in oZ | exact zBb oZ | exact rfl)) ?_; clear E a; intro a E)
  refine zmd E ?_; clear E a; intro a E
  refine zBi ?_
  refine zAb hK ?_; clear hK K
  refine wp_seq_k ?_; intro K hK
  refine zAa ?_
  refine zd E ?_; clear E a; intro a E
  refine zAh E rfl rfl dZ rfl Tryz.func130 rfl yZ rfl (zHk s.a 2 oZ _) ?_
  rintro v66 w ⟨rfl, hT⟩; clear E a; intro a E
  have S := S.quiet hT
  refine zd E ?_; clear E a; intro a E
  refine zAh E rfl rfl dZ rfl Tryz.func130 rfl yZ rfl (zHk s.a 13 oZ _) ?_
  rintro v68 w ⟨rfl, hT⟩; clear E a; intro a E
  have S := S.quiet hT
  refine zp E (zEi E rfl rfl rfl rfl) ?_; clear E a; intro a E
  refine zd E ?_; clear E a; intro a E
  refine zAh E rfl rfl dZ rfl Tryz.func130 rfl yZ rfl (zHk s.a 22 oZ _) ?_
  rintro v71 w ⟨rfl, hT⟩; clear E a; intro a E
  have S := S.quiet hT
  refine zp E (zEi E rfl rfl rfl rfl) ?_; clear E a; intro a E
  iterate 2 (refine zd E ?_; clear E a; intro a E)
  refine zp E (zGm E rfl rfl rfl rfl) ?_; clear E a; intro a E
  iterate 2 (refine zd E ?_; clear E a; intro a E)
  refine zp E (zGm E rfl rfl rfl rfl) ?_; clear E a; intro a E
  refine zp E (zEi E rfl rfl rfl rfl) ?_; clear E a; intro a E
  iterate 2 (refine zd E ?_; clear E a; intro a E)
  refine zp E (zGm E rfl rfl rfl rfl) ?_; clear E a; intro a E
  refine zp E (zEi E rfl rfl rfl rfl) ?_; clear E a; intro a E
  refine zp E (zBc E rfl rfl rfl (by first | exact wa1 oZ | exact w_in oZ | exact zBb oZ | exact rfl)) ?_; clear E a; intro a E
  refine zd E ?_; clear E a; intro a E
  refine wpList_nil ?_
  refine zAb hK ?_; clear hK K
  refine zAa ?_
  iterate 5 (refine zd E ?_; clear E a; intro a E)
  refine zp E (zBc E rfl rfl rfl (by first | exact wa1 oZ | exact w_in oZ | exact zBb oZ | exact rfl)) ?_; clear E a; intro a E
  iterate 5 (refine zd E ?_; clear E a; intro a E)
  refine zp E (zBc E rfl rfl rfl (by first | exact wa1 oZ | exact w_in oZ | exact zBb oZ | exact rfl)) ?_; clear E a; intro a E
  iterate 8 (refine zd E ?_; clear E a; intro a E)
  refine wpList_nil ?_
  refine zAr ?_
  refine zAb hK ?_; clear hK K
  replace E := E.keep (e' := [(2, _), (4, _), (5, _), (6, _), (7, _), (8, _), (9, _), (10, _), (11, _), (12, _), (13, _), (14, _), (15, _), (16, _), (35, _), (36, _), (37, _), (38, _), (39, _), (40, _), (41, _), (42, _), (43, _), (44, _), (45, _), (46, _), (47, _), (48, _), (49, _), (50, _), (51, _), (52, _), (53, _), (54, _), (55, _), (56, _), (57, _), (58, _), (59, _), (60, _), (61, _), (62, _), (63, _), (64, _), (65, _), (66, _), (67, _), (68, _), (69, _), (70, _), (71, _), (72, _), (73, _), (74, _), (75, _), (76, _), (77, _), (78, _), (79, _), (80, _), (81, _), (82, _), (83, _), (84, _), (85, _), (86, _), (87, _), (88, _), (89, _), (90, _), (91, _), (92, _), (93, _), (94, _), (95, _), (96, _)]) (zAi rfl (zAi rfl (zAi rfl (zAi rfl (zAi rfl (zAi rfl (zAi rfl (zAi rfl (zAi rfl (zAi rfl (zAi rfl (zAi rfl (zAi rfl (zAi rfl (zAi rfl (zAi rfl (zAi rfl (zAi rfl (zAi rfl (zAi rfl (zAi rfl (zAi rfl (zAi rfl (zAi rfl (zAi rfl (zAi rfl (zAi rfl (zAi rfl (zAi rfl (zAi rfl (zAi rfl (zAi rfl (zAi rfl (zAi rfl (zAi rfl (zAi rfl (zAi rfl (zAi rfl (zAi rfl (zAi rfl (zAi rfl (zAi rfl (zAi rfl (zAi rfl (zAi rfl (zAi rfl (zAi rfl (zAi rfl (zAi rfl (zAi rfl (zAi rfl (zAi rfl (zAi rfl (zAi rfl (zAi rfl (zAi rfl (zAi rfl (zAi rfl (zAi rfl (zAi rfl (zAi rfl (zAi rfl (zAi rfl (zAi rfl (zAi rfl (zAi rfl (zAi rfl (zAi rfl (zAi rfl (zAi rfl (zAi rfl (zAi rfl (zAi rfl (zAi rfl (zAi rfl (zAi rfl (zDq)))))))))))))))))))))))))))))))))))))))))))))))))))))))))))))))))))))))))))))
  refine zAa ?_
  refine zp E (zBc E rfl rfl rfl (by first | exact zBq (y := 1) oZ | exact w_in oZ | exact zBb oZ | exact rfl)) ?_; clear E a; intro a E
  refine zd E ?_; clear E a; intro a E
  refine wpList_nil ?_
  refine zAy ?_
  exact ⟨_, by omega, i + 1, s.step (shaK.getD i 0) (ws.getD i 0), rfl, by omega, by rw [hs]; rfl, S, E.keep (kE12 rfl rfl rfl rfl rfl rfl rfl rfl rfl rfl rfl rfl)⟩
 ·replace hb := Nrm.nrm hb
  refine wp_exit ?_
  refine zAp ?_; clear hK K
  refine zAp ?_
  refine zBr ?_
  refine zAb hK ?_; clear hK K
  iterate 2 (refine wp_seq_k ?_; intro K hK)
  obtain rfl : i = 64 := by omega
  refine zAa ?_
  iterate 8 (refine zd E ?_; clear E a; intro a E)
  refine zp E (zBp (cells := [_, _, _, _, _, _, _, _]) E rfl rfl rfl) ?_; clear E a; intro a E
  refine zd E ?_; clear E a; intro a E
  refine wpList_nil ?_
  refine zAb hK ?_; clear hK K
  refine wp_block ?_
  refine wp_loop_ghost (fun (m : Nat) (a : Act) (w' : World) => ∃ i, m = 8 - i ∧ i ≤ 8 ∧ St w0 As w' ([(b2, cel (u32s (addL s0 s i)) 122)] :: [(b4, cel (List.replicate 8 (.int .u32 0)) 122)] :: [(b3, cel (u32s ws) 127)] :: As) ∧ Fr a 119 [(2, ptr b2), (4, ptr b4), (106, .agg (u32s s.l).toArray), (107, .int .i64 i)]) (8 - 0) ?_ ?_
  ·exact ⟨0, rfl, by omega, by rw [addL_zero]; exact S.front3 pZ (B := [(b4, _)]) pZ (C := [(b3, _)]) pZ, E.keep (kE4 rfl rfl rfl rfl)⟩
  clear E; clear a; (try clear S); rintro m a w ⟨i, rfl, hi, S, E⟩
  refine wp_seq_k ?_; intro K hK
  refine zAa ?_
  refine zd E ?_; clear E a; intro a E
  refine wpList_nil ?_
  refine zAb hK ?_; clear hK K
  refine wp_seq_k ?_; intro K hK
  refine zAs E rfl (fun hb => ?_) (fun hb => ?_)
  ·replace hb := Nrm.nrm hb
   refine wp_skip ?_
   refine zAb hK ?_; clear hK K
   refine wp_seq_k ?_; intro K hK
   refine wp_block ?_
   refine wp_seq_k ?_; intro K hK
   refine zAa ?_
   refine zd E ?_; clear E a; intro a E
   refine zp E (zIt E rfl rfl rfl rfl rfl rfl rfl oZ (v := .int .u32 (s.l.getD i 0)) (by rw [List.getElem?_toArray]; exact s8_at s oZ)) ?_; clear E a; intro a E
   iterate 2 (refine zd E ?_; clear E a; intro a E)
   refine wpList_nil ?_
   refine zAb hK ?_; clear hK K
   refine zAa ?_
   refine zd E ?_; clear E a; intro a E
   refine zp E (zBz (i := i) E rfl rfl rfl rfl rfl rfl oZ) ?_; clear E a; intro a E
   refine zp E (zBd E rfl rfl rfl (zCf (S.get pZ) (v := .int .u32 (s0.l.getD i 0)) (by rw [zKu _ (by rw [zHb]; omega), addL_at s0 s oZ]))) ?_; clear E a; intro a E
   refine zd E ?_; clear E a; intro a E
   refine zp E (zBc E rfl rfl rfl (by first | exact wa1 oZ | exact w_in oZ | exact zBb oZ | exact rfl)) ?_; clear E a; intro a E
   refine zp E (zBz (i := i) E rfl rfl rfl rfl rfl rfl oZ) ?_; clear E a; intro a E
   refine zAg rfl (zAv E S rfl rfl rfl rfl rfl rfl pZ (by rw [List.length_map, zHb]; omega) ?_); clear E S a; intro a w E S; try dsimp only [List.set] at S
   refine wpList_nil ?_
   refine zAr ?_
   refine zAb hK ?_; clear hK K
   refine zAa ?_
   refine zp E (zBc E rfl rfl rfl (by first | exact zBq (y := 1) oZ | exact w_in oZ | exact zBb oZ | exact rfl)) ?_; clear E a; intro a E
   refine zd E ?_; clear E a; intro a E
   refine wpList_nil ?_
   refine zAy ?_
   exact ⟨_, by omega, i + 1, rfl, by omega, by rw [← addL_set s0 s oZ]; exact S, E.keep (kE4 rfl rfl rfl rfl)⟩
  ·replace hb := Nrm.nrm hb
   refine wp_exit ?_
   refine zAp ?_; clear hK K
   refine zAp ?_
   refine zBr ?_
   refine zAb hK ?_; clear hK K
   refine wp_seq_k ?_; intro K hK
   obtain rfl : i = 8 := by omega
   rw [addL_end, hs] at S
   refine zAa ?_
   refine zp E (zFe E rfl rfl rfl (S.get pZ) rfl) ?_; clear E a; intro a E
   refine zAg rfl (zFv E S rfl rfl rfl rfl (zHy _) rfl rfl pZ (by rfl) ?_); clear E S a; intro a w E S
   refine wpList_nil ?_
   refine zAb hK ?_; clear hK K
   refine wp_ret ?_
   refine zFu E rfl rfl (S.get pZ) rfl ?_
   exact ⟨_, rfl, rfl, S.tail3.tr⟩
theorem zJe (s : S8) (b3 : Nat) (i : Nat) (hi : i + 1 < 8) (w0 : World) (H : Hp w0 [[(b3, cel (u32s s.l) 122)]]) :
  Ret Tryz.prog 120 #[.int .i64 i, ptr b3] w0 fun u w' => u = .int .u64 (pairN (s.l.getD i 0) (s.l.getD (i + 1) 0)) ∧ Trs w0 w' [[(b3, cel (u32s s.l) 122)]] [[(b3, cel (u32s s.l) 122)]] := by
 have S := St.begin H
 refine zBt 15 Tryz.func120 rfl rfl dZ ?_; intro a E
 refine wp_seq_k ?_; intro K hK
 refine zAa ?_
 refine zd E ?_; clear E a; intro a E
 refine wpList_nil ?_
 refine zAb hK ?_; clear hK K
 refine wp_seq_k ?_; intro K hK
 refine zBg S (.ofL [(0, 0), (1, 0), (2, 0), (3, 0), (4, 0), (5, 0), (6, 0), (7, 0), (8, 0), (9, 0), (10, 0), (11, 0)]) yZ yZ ?_
 clear S; intro w S
 refine zmd E ?_; clear E a; intro a E
 refine zm E rfl (fun w h => zBz (i := i) E rfl rfl rfl rfl rfl rfl oZ) ?_; clear E a; intro a E
 refine zm E rfl (fun w h => zBd E rfl rfl rfl (zCf (h.one mZ) (s8_at s (i := i) oZ))) ?_; clear E a; intro a E
 refine zm E rfl (fun w h => zAo E rfl rfl rfl rfl rfl) ?_; clear E a; intro a E
 refine zm E rfl (fun w h => zFl E rfl rfl rfl oZ (by simp only [IntKind.bits]; omega) rfl) ?_; clear E a; intro a E
 refine zmd E ?_; clear E a; intro a E
 refine zm E rfl (fun w h => zBc E rfl rfl rfl (by first | exact zBq (y := 1) oZ | exact w_in oZ | exact zBb oZ | exact rfl)) ?_; clear E a; intro a E
 refine zm E rfl (fun w h => zBz (i := i + 1) E rfl rfl rfl rfl rfl rfl oZ) ?_; clear E a; intro a E
 refine zm E rfl (fun w h => zBd E rfl rfl rfl (zCf (h.one mZ) (s8_at s (i := i + 1) oZ))) ?_; clear E a; intro a E
 refine zm E rfl (fun w h => zAo E rfl rfl rfl rfl rfl) ?_; clear E a; intro a E
 refine zm E rfl (fun w h => zHm E rfl rfl rfl rfl) ?_; clear E a; intro a E
 refine zmd E ?_; clear E a; intro a E
 refine zBi ?_
 refine zAb hK ?_; clear hK K
 refine wp_ret ?_
 refine ret1 E rfl rfl ?_
 exact ⟨_, rfl, by rw [pairN_eq]; rfl, S.tr⟩
end Go.Proofs.YtbogecljkaimdaaGreatDoor
namespace Go.Sl
theorem buf_hcap {C : zAl} {T : TypeId} {s m : Nat} {v : Value} {xs : List Value} (h : Buf C T s v m xs) : ∃ ad c, v = .slice ad m c ∧ m ≤ c := by
 obtain ⟨ad, c, rfl⟩ := h.slice
 exact ⟨ad, c, rfl, h.cap_le⟩
theorem pad_zero (b : List UInt8) (z : Nat) : byt (b ++ [128] ++ List.replicate (z + 1) 0) = byt (b ++ [128] ++ List.replicate z 0) ++ [.int .u8 0] := by
 rw [List.replicate_succ', ← List.append_assoc, zDa]; rfl
def padH (b : List UInt8) : List UInt8 := b ++ [128] ++ List.replicate (padZ b.length) 0
theorem zKc (b : List UInt8) : (padH b).length = b.length + 1 + padZ b.length := by simp [padH]; omega
theorem padH_len (b : List UInt8) : padH b ++ lenB (b.length * 8) 8 = padL b := rfl
theorem drop_blk (all : List UInt8) (k : Nat) : ((byt (all.drop (64 * k))).drop (0 * 1)).take ((64 - 0) * 1) = byt (blk all k) := by simp [blk, zEs]
theorem drop_next (all : List UInt8) (k n : Nat) (h : all.length ≤ n + 64 * k + 64) : ((byt (all.drop (64 * k))).drop (64 * 1)).take (n * 1) = byt (all.drop (64 * (k + 1))) := by
 rw [zGd, zEs, List.drop_drop, List.take_of_length_le (by rw [List.length_drop]; omega), show 64 * k + 64 * 1 = 64 * (k + 1) by omega]
end Go.Sl
namespace Go.Proofs.YtbogecljkaimdaaGreatDoor
open Go.Sl
set_option maxRecDepth 10000
set_option maxHeartbeats 1000000 in
theorem sha_ret (D : zAl) (v : Value) (b : List UInt8) (hD : Rd D 1 v b.length (byt b)) (hbl : b.length ≤ 140737488352000) (As : List zAl) (hDA : D ∈ As) (hG : Tab As 2 shaK) (w0 : World) (H : Hp w0 As) :
  Ret Tryz.prog 105 #[v] w0 fun u w' => u = (shaF b).agg ∧ Trs w0 w' As As := by
 have S := (St.begin H).addNil
 have hps := zKb hbl
 have hHl := zKc b
 have hLl := zGi b
 have hL64 := padL_64 b
 obtain ⟨ad0, c0, rfl⟩ := hD.slice
 refine zCd 55 Tryz.func105 rfl rfl dZ ?_; intro a E
 refine wp_seq_k ?_; intro K hK
 refine zAa ?_
 refine zAg rfl (zBf E S rfl rfl dZ rfl rfl rfl ?_); clear E S a; intro a w b2 E S
 refine wpList_nil ?_
 refine zAb hK ?_; clear hK K
 refine wp_seq_k ?_; intro K hK
 refine zAa ?_
 refine zp E (zBp (cells := [_, _, _, _, _, _, _, _]) E rfl rfl rfl) ?_; clear E a; intro a E
 refine zAg rfl (zBf E S rfl rfl dZ rfl rfl rfl ?_); clear E S a; intro a w b3 E S
 refine zAg rfl (zAq E S rfl rfl rfl rfl (by simp [Value.oneCell']) rfl pZ (by simp) ?_); clear E S a; intro a w E S; simp only [List.take_succ_cons, List.take_zero, List.drop_succ_cons, List.drop_zero, List.cons_append, List.nil_append, List.append_nil, List.length_cons, List.length_nil, Nat.zero_add, Nat.add_zero] at S
 refine wpList_nil ?_
 refine zAb hK ?_; clear hK K
 refine wp_seq_k ?_; intro K hK
 refine zAa ?_
 refine zd E ?_; clear E a; intro a E
 refine zAg rfl (zBu (by' := 1) E S rfl rfl dZ rfl rfl (Buf.nil _ _) pZ (hD.src (S.stab.at mZ) rfl) rfl rfl rfl rfl rfl rfl (by simp only [maxLen]; omega) oZ ?_); clear E S a; intro a w v9 C9 E S hB9
 simp only [Nat.zero_add, List.nil_append] at hB9
 refine zAg rfl (zCm (cells := [_]) E S rfl rfl dZ rfl rfl rfl rfl rfl dZ rfl ?_); clear E S a; intro a w b10 E S
 refine zAg rfl (zBu (by' := 1) E S rfl rfl dZ rfl rfl hB9 pZ ((zEa (g := b10) (T := 5) (xs := [.int .u8 128]) (s := 1) (m := 1) rfl (by simp [Value.oneCell']) oZ 1).src (S.stab.at mZ) rfl) rfl rfl rfl rfl rfl rfl (by simp only [maxLen]; omega) oZ ?_); clear E S a; intro a w v11 C11 E S hB11
 refine zd E ?_; clear E a; intro a E
 refine wpList_nil ?_
 have S := (S.del (A := [(b10, _)]) pZ).front3 (A := C11) pZ (B := [(b3, _)]) pZ (C := [(b2, _)]) pZ
 refine zAb hK ?_; clear hK K
 refine wp_seq_k ?_; intro K hK
 refine wp_block ?_
 refine wp_loop_ghost (fun (m : Nat) (a : Act) (w' : World) => ∃ (z : Nat) (v : Value) (C : zAl), m = padZ b.length - z ∧ z ≤ padZ b.length ∧ Buf C 5 1 v (b.length + 1 + z) (byt (b ++ [128] ++ List.replicate z 0)) ∧ St w0 As w' (C :: [(b3, cel (u32s sha0.l) 122)] :: [(b2, cel [.int .u64 0, .int .u64 0, .int .u64 0, .int .u64 0] 29)] :: As) ∧ Fr a 55 [(0, .slice ad0 b.length c0), (2, ptr b2), (3, ptr b3), (4, v)]) (padZ b.length - 0) ?_ ?_
 ·exact ⟨0, v11, C11, rfl, by omega, by rw [List.replicate_zero, List.append_nil, zDa]; exact hB11, S, E.keep (kE4 rfl rfl rfl rfl)⟩
 clear E; clear a; (try clear S); rintro m a w ⟨z, v, C, rfl, hz, hC, S, E⟩
 iterate 2 (refine wp_seq_k ?_; intro K hK)
 obtain ⟨adv, cv, rfl⟩ := hC.slice
 refine zAa ?_
 iterate 2 (refine zd E ?_; clear E a; intro a E)
 refine zp E (rn_rem E rfl rfl rfl dZ (by first | exact wr_lit (y := 64) | exact rfl)) ?_; clear E a; intro a E
 refine zd E ?_; clear E a; intro a E
 refine wpList_nil ?_
 refine zAb hK ?_; clear hK K
 refine zAs E rfl (fun hb => ?_) (fun hb => ?_)
 ·replace hb := Nrm.nrm hb
  refine wp_skip ?_
  refine zAb hK ?_; clear hK K
  refine wp_block ?_
  refine zAa ?_
  refine zd E ?_; clear E a; intro a E
  refine zAg rfl (zCm (cells := [_]) E S rfl rfl dZ rfl rfl rfl rfl rfl dZ rfl ?_); clear E S a; intro a w b17 E S
  refine zAg rfl (zBu (by' := 1) E S rfl rfl dZ rfl rfl hC pZ ((zEa (g := b17) (T := 5) (xs := [.int .u8 0]) (s := 1) (m := 1) rfl (by simp [Value.oneCell']) oZ 1).src (S.stab.at mZ) rfl) rfl rfl rfl rfl rfl rfl (by simp only [maxLen]; omega) oZ ?_); clear E S a; intro a w v18 C18 E S hB18
  refine zd E ?_; clear E a; intro a E
  refine wpList_nil ?_
  refine zAr ?_
  refine zAy ?_
  rw [← pad_zero] at hB18
  exact ⟨_, by unfold padZ at *; omega, z + 1, v18, C18, rfl, by unfold padZ at *; omega, hB18, (S.del (A := [(b17, _)]) pZ).front3 (A := C18) pZ (B := [(b3, _)]) pZ (C := [(b2, _)]) pZ, E.keep (kE4 rfl rfl rfl rfl)⟩
 ·replace hb := Nrm.nrm hb
  refine wp_exit ?_
  refine zAp ?_; clear hK K
  refine zAp ?_
  refine zBr ?_
  refine zAb hK ?_; clear hK K
  iterate 2 (refine wp_seq_k ?_; intro K hK)
  have hzz : z = padZ b.length := by unfold padZ at *; omega
  subst hzz
  have hC : Buf C 5 1 (.slice adv (b.length + 1 + padZ b.length) cv) (b.length + 1 + padZ b.length) (byt (padH b)) := hC
  refine zAa ?_
  refine zd E ?_; clear E a; intro a E
  refine wpList_nil ?_
  refine zAb hK ?_; clear hK K
  refine wp_block ?_
  refine wp_loop_ghost (fun (m : Nat) (a : Act) (w' : World) => ∃ (k : Nat) (v : Value) (C : zAl), m = 8 - k ∧ k ≤ 8 ∧ Buf C 5 1 v (b.length + 1 + padZ b.length + k) (byt (padH b ++ lenB (b.length * 8) k)) ∧ St w0 As w' (C :: [(b3, cel (u32s sha0.l) 122)] :: [(b2, cel [.int .u64 0, .int .u64 0, .int .u64 0, .int .u64 0] 29)] :: As) ∧ Fr a 55 [(0, .slice ad0 b.length c0), (2, ptr b2), (3, ptr b3), (4, v), (5, .int .i64 (56 - 8 * (k : Int)))]) (8 - 0) ?_ ?_
  ·exact ⟨0, _, C, rfl, by omega, by rw [lenB, List.append_nil, Nat.add_zero]; exact hC, S, E.keep (kE5 rfl rfl rfl rfl rfl)⟩
  clear E; clear a; (try clear S); rintro m a w ⟨k, v, C, rfl, hk, hC, S, E⟩
  iterate 2 (refine wp_seq_k ?_; intro K hK)
  refine zAa ?_
  iterate 2 (refine zd E ?_; clear E a; intro a E)
  refine wpList_nil ?_
  refine zAb hK ?_; clear hK K
  refine zAs E rfl (fun hb => ?_) (fun hb => ?_)
  ·replace hb := Nrm.nrm hb
   refine wp_skip ?_
   refine zAb hK ?_; clear hK K
   refine wp_seq_k ?_; intro K hK
   refine wp_block ?_
   obtain ⟨adv, cv, rfl⟩ := hC.slice
   have hq1 : [UInt8.ofNat (b.length * 8 / 2 ^ (56 - 8 * k))].length = 1 := rfl
   refine zAa ?_
   iterate 3 (refine zd E ?_; clear E a; intro a E)
   refine zp E (by first | exact zAo E rfl rfl rfl rfl (by first | exact wu8 _ | exact zCz oZ | exact zCe oZ | exact w_in oZ | exact zBb oZ | exact rfl) | exact zBh E rfl rfl rfl rfl rfl (by assumption) (S.stab.at (by simp))) ?_; clear E a; intro a E
   refine zp E (zEg E rfl rfl rfl (zBb oZ)) ?_; clear E a; intro a E
   refine zd E ?_; clear E a; intro a E
   refine zp E (zHi E rfl rfl rfl oZ (by simp only [IntKind.bits]; omega) rfl) ?_; clear E a; intro a E
   rw [shs oZ] at E
   refine zp E (zAo E rfl rfl rfl rfl (w8 _)) ?_; clear E a; intro a E
   refine zAg rfl (zCm (cells := [_]) E S rfl rfl dZ rfl rfl rfl rfl rfl dZ rfl ?_); clear E S a; intro a w b31 E S
   refine zAg rfl (zBu (by' := 1) E S rfl rfl dZ rfl rfl hC pZ ((zIa b31 [UInt8.ofNat (b.length * 8 / 2 ^ (56 - 8 * k))] 5 (by simp)).rd.src (S.stab.at mZ) rfl) rfl rfl rfl rfl rfl rfl (by simp only [maxLen]; omega) oZ ?_); clear E S a; intro a w v32 C32 E S hB32
   refine zd E ?_; clear E a; intro a E
   refine wpList_nil ?_
   refine zAr ?_
   refine zAb hK ?_; clear hK K
   refine zAa ?_
   refine zd E ?_; clear E a; intro a E
   refine zp E (zCv E rfl rfl rfl (w_in oZ)) ?_; clear E a; intro a E
   refine zd E ?_; clear E a; intro a E
   refine wpList_nil ?_
   refine zAy ?_
   rw [show (56 - 8 * (k : Int)) - 8 = 56 - 8 * ((k + 1 : Nat) : Int) by omega] at E
   rw [← zDa, List.append_assoc, ← lenB_succ] at hB32
   exact ⟨_, by omega, k + 1, v32, C32, rfl, by omega, hB32, (S.del (A := [(b31, _)]) pZ).front3 (A := C32) pZ (B := [(b3, _)]) pZ (C := [(b2, _)]) pZ, E.keep (kE5 rfl rfl rfl rfl rfl)⟩
  ·replace hb := Nrm.nrm hb
   refine wp_exit ?_
   refine zAp ?_; clear hK K
   refine zAp ?_
   refine zBr ?_
   refine zAb hK ?_; clear hK K
   refine wp_seq_k ?_; intro K hK
   refine wp_block ?_
   refine wp_loop_ghost (fun (m : Nat) (a : Act) (w' : World) => ∃ (j : Nat) (ad : Option Addr) (c : Nat), m = (padL b).length / 64 - j ∧ j ≤ (padL b).length / 64 ∧ (padL b).length - 64 * j ≤ c ∧ Rd C 1 (.slice ad ((padL b).length - 64 * j) c) ((padL b).length - 64 * j) (byt ((padL b).drop (64 * j))) ∧ St w0 As w' ([(b3, cel (u32s (shaH (padL b) j).l) 122)] :: C :: [(b2, cel [.int .u64 0, .int .u64 0, .int .u64 0, .int .u64 0] 29)] :: As) ∧ Fr a 55 [(2, ptr b2), (3, ptr b3), (4, .slice ad ((padL b).length - 64 * j) c)]) ((padL b).length / 64 - 0) ?_ ?_
   ·obtain rfl : k = 8 := oZ; rw [padH_len] at hC; obtain ⟨adv, cv, rfl, hcv⟩ := buf_hcap hC; have hlen : b.length + 1 + padZ b.length + 8 = (padL b).length - 64 * 0 := oZ; rw [hlen] at hC E hcv; exact ⟨0, adv, cv, rfl, by omega, hcv, by rw [Nat.mul_zero, List.drop_zero]; exact hC.rd, S.front2 pZ pZ, E.keep (kE3 rfl rfl rfl)⟩
   clear E; clear a; (try clear S); rintro m a w ⟨j, ad, c, rfl, hj, hc, hR, S, E⟩
   iterate 2 (refine wp_seq_k ?_; intro K hK)
   refine zAa ?_
   iterate 3 (refine zd E ?_; clear E a; intro a E)
   refine wpList_nil ?_
   refine zAb hK ?_; clear hK K
   refine zAs E rfl (fun hb => ?_) (fun hb => ?_)
   ·replace hb := Nrm.nrm hb
    refine wp_skip ?_
    refine zAb hK ?_; clear hK K
    refine wp_seq_k ?_; intro K hK
    refine wp_block ?_
    have hjl : 64 * j + 64 ≤ (padL b).length := by omega
    obtain ⟨ad2, hs2, hR2⟩ := hR.cutc (lo := 0) (hi := 64) oZ oZ oZ
    rw [drop_blk] at hR2
    obtain ⟨g2, off2, rfl⟩ := hR2.addr oZ
    have hbk := zKv (padL b) hjl
    refine zBg S (.ofL [(0, 0), (1, 0), (2, 0), (3, 0), (4, 0), (5, 1), (6, 1), (7, 3)]) yZ yZ ?_
    clear S; intro w S
    refine zm E rfl (fun w h => zFe E rfl rfl rfl (h.one mZ) rfl) ?_; clear E a; intro a E
    refine zmd E ?_; clear E a; intro a E
    refine zm E rfl (fun w h => zEy (s := 1) (hi := 64) E rfl rfl rfl rfl rfl rfl oZ) ?_; clear E a; intro a E
    rw [hs2] at E
    refine zm E rfl (fun w h => rn_s2a E rfl rfl rfl oZ) ?_; clear E a; intro a E
    refine zm E rfl (fun w h => zDp (vs := byt (blk (padL b) j)) E rfl rfl rfl (by rw [zDt, hbk]; rfl) (hR2.cells (h.at mZ) rfl)) ?_; clear E a; intro a E
    refine zBs E rfl rfl rfl dZ rfl Tryz.func119 rfl yZ rfl (schedule_ret (blk (padL b) j) hbk _) ?_
    rintro v43 w ⟨rfl, hT⟩; clear E a; intro a E
    have S := S.quiet hT
    refine ⟨S.stab.sub (by first | (simp; done) | (simp +contextual; done) | (simp [*]; done)), ?_⟩
    refine zBs E rfl rfl rfl dZ rfl Tryz.func118 rfl yZ rfl (mixed_ret (shaH (padL b) j) (wsN (blk (padL b) j) 64) (zDv _ _) As hG _ S.tail3.hp) ?_
    rintro v44 w ⟨rfl, hT⟩; clear E a; intro a E
    have S := St.under [_, _, _] S hT
    refine ⟨S.stab.sub (by first | (simp; done) | (simp +contextual; done) | (simp [*]; done)), ?_⟩
    refine zCb rfl rfl (zFv E S rfl rfl rfl rfl (zHy _) rfl rfl pZ (by rfl) ?_); clear E S a; intro a w E S
    refine zBi ?_
    refine zAr ?_
    refine zAb hK ?_; clear hK K
    obtain ⟨ad3, hs3, hR3⟩ := hR.cutc (lo := 64) (hi := (padL b).length - 64 * j) oZ oZ oZ
    rw [drop_next (padL b) j ((padL b).length - 64 * j - 64) oZ, show (padL b).length - 64 * j - 64 = (padL b).length - 64 * (j + 1) by omega] at hR3
    rw [show (padL b).length - 64 * j - 64 = (padL b).length - 64 * (j + 1) by omega] at hs3
    refine zAa ?_
    refine zd E ?_; clear E a; intro a E
    refine zp E (rn_slice_l (s := 1) (lo := 64) E rfl rfl rfl rfl rfl rfl oZ) ?_; clear E a; intro a E
    rw [hs3] at E
    refine zd E ?_; clear E a; intro a E
    refine wpList_nil ?_
    refine zAy ?_
    exact ⟨_, by omega, j + 1, ad3, c - 64, rfl, by omega, by omega, hR3, S, E.keep (kE3 rfl rfl rfl)⟩
   ·replace hb := Nrm.nrm hb
    refine wp_exit ?_
    refine zAp ?_; clear hK K
    refine zAp ?_
    refine zBr ?_
    refine zAb hK ?_; clear hK K
    refine wp_seq_k ?_; intro K hK
    obtain ⟨hh, hhe⟩ : ∃ hh, hh = shaH (padL b) ((padL b).length / 64) := ⟨_, rfl⟩
    obtain rfl : j = (padL b).length / 64 := by omega
    rw [← hhe] at S
    refine zAa ?_
    refine zp E (zEc E rfl rfl ⟨_, rfl⟩) ?_; clear E a; intro a E
    refine zd E ?_; clear E a; intro a E
    refine wpList_nil ?_
    refine zAb hK ?_; clear hK K
    refine wp_seq_k ?_; intro K hK
    refine zAa ?_
    refine zd E ?_; clear E a; intro a E
    refine zCh E rfl rfl dZ rfl rfl Tryz.func120 rfl yZ rfl (zJe hh b3 0 oZ _ (S.hp.sel sZ)) ?_
    rintro v47 w ⟨rfl, hT⟩; clear E a; intro a E
    have S := S.call1 sZ hT
    refine zd E ?_; clear E a; intro a E
    refine zCh E rfl rfl dZ rfl rfl Tryz.func120 rfl yZ rfl (zJe hh b3 2 oZ _ (S.hp.sel sZ)) ?_
    rintro v49 w ⟨rfl, hT⟩; clear E a; intro a E
    have S := S.call1 sZ hT
    refine zd E ?_; clear E a; intro a E
    refine zCh E rfl rfl dZ rfl rfl Tryz.func120 rfl yZ rfl (zJe hh b3 4 oZ _ (S.hp.sel sZ)) ?_
    rintro v51 w ⟨rfl, hT⟩; clear E a; intro a E
    have S := S.call1 sZ hT
    refine zd E ?_; clear E a; intro a E
    refine zCh E rfl rfl dZ rfl rfl Tryz.func120 rfl yZ rfl (zJe hh b3 6 oZ _ (S.hp.sel sZ)) ?_
    rintro v53 w ⟨rfl, hT⟩; clear E a; intro a E
    have S := S.call1 sZ hT
    refine zp E (zBp (cells := [_, _, _, _]) E rfl rfl rfl) ?_; clear E a; intro a E
    refine zAg rfl (zAq E S rfl rfl rfl rfl (by simp [Value.oneCell']) rfl pZ (by simp) ?_); clear E S a; intro a w E S; simp only [List.take_succ_cons, List.take_zero, List.drop_succ_cons, List.drop_zero, List.cons_append, List.nil_append, List.append_nil, List.length_cons, List.length_nil, Nat.zero_add, Nat.add_zero] at S
    refine wpList_nil ?_
    refine zAb hK ?_; clear hK K
    refine wp_ret ?_
    refine zFu E rfl rfl (S.get pZ) rfl ?_
    exact ⟨_, rfl, by rw [shaF, ← hhe]; rfl, S.tail3.tr⟩
end Go.Proofs.YtbogecljkaimdaaGreatDoor
