/-
  Texts put together (11).
-/
import Derived.Test.YtbogecljkaimdaaGreatDoorZRecordReadsW10
set_option maxHeartbeats 1000000
namespace Go.Proofs.YtbogecljkaimdaaGreatDoor
open Go.Sl
set_option maxRecDepth 10000
theorem uopen_ret (D : zAl) (v : Value) (bs : List UInt8) (w0 : World) (h : Rd D 1 v bs.length (byt bs)) (H : Hp w0 [D]) (hl : bs.length ≤ 140737488355328) :
  Ret Tryz.prog 82 #[v] w0 fun u w' => ∃ p A, u = ptr p ∧ RdC 118 p ⟨bs, 0, 0⟩ A ∧ Trs w0 w' [D] [A, D] := by
 have S := (St.begin H).addNil
 obtain ⟨ad, c, rfl⟩ := h.slice
 refine zCd 7 Tryz.func82 rfl rfl dZ ?_; intro a E
 refine wp_seq_k ?_; intro K hK
 refine zAa ?_
 refine zd E ?_; clear E a; intro a E
 refine wpList_nil ?_
 refine zAb hK ?_; clear hK K
 refine wp_seq_k ?_; intro K hK
 refine zAa ?_
 refine zd E ?_; clear E a; intro a E
 refine zAg rfl (zBu (by' := 1) E S rfl rfl dZ rfl rfl (Buf.nil 5 1) pZ (h.src (S.stab.at mZ) rfl) rfl rfl rfl rfl rfl rfl (by simp only [maxLen]; omega) oZ ?_); clear E S a; intro a w v4 C4 E S hB4
 rw [Nat.zero_add, List.nil_append] at hB4
 obtain ⟨ad4, c4, rfl⟩ := hB4.slice
 refine zp E (zBp (cells := [_, _, _]) E rfl rfl rfl) ?_; clear E a; intro a E
 refine zAg rfl (zBx E S rfl rfl dZ rfl rfl ?_); clear E S a; intro a w b6 E S
 refine zd E ?_; clear E a; intro a E
 refine wpList_nil ?_
 refine zAb hK ?_; clear hK K
 refine wp_ret ?_
 refine ret1 E rfl rfl ?_
 have hc := hB4.cap_le
 have S := S.gather (A := [(b6, _)]) (B := C4) pZ pZ
 exact ⟨_, rfl, b6, _, rfl, ⟨Nat.zero_le _, hl, _, _, _, rfl, hc, hB4.rd⟩, S.tr⟩
theorem zLc (C : zAl) (v : Value) (bs : List UInt8) (w0 : World) (h : Rd C 1 v bs.length (byt bs)) (hs : ∀ x ∈ C, w0.heap[x.1]? = some x.2) (hl : bs.length ≤ 8) :
  Ret Tryz.prog 121 #[v] w0 fun u w' => u = .int .u64 (zBv bs) ∧ w' = w0 := by
 obtain ⟨ad, c, rfl⟩ := h.slice
 refine zCd 21 Tryz.func121 rfl rfl dZ ?_; intro a E
 refine wp_seq_k ?_; intro K hK
 refine zAa ?_
 refine zd E ?_; clear E a; intro a E
 refine wpList_nil ?_
 refine zAb hK ?_; clear hK K
 refine wp_seq_k ?_; intro K hK
 refine zAa ?_
 refine zd E ?_; clear E a; intro a E
 refine wpList_nil ?_
 refine zAb hK ?_; clear hK K
 iterate 2 (refine wp_seq_k ?_; intro K hK)
 refine zAa ?_
 iterate 2 (refine zd E ?_; clear E a; intro a E)
 refine zp E (zCv E rfl rfl rfl (w_in oZ)) ?_; clear E a; intro a E
 refine zd E ?_; clear E a; intro a E
 refine wpList_nil ?_
 refine zAb hK ?_; clear hK K
 refine wp_block ?_
 refine wp_loop_ghost (fun (m : Nat) (a : Act) (w' : World) => ∃ k : Nat, k ≤ bs.length ∧ m = k ∧ w' = w0 ∧ Fr a 21 [(0, .slice ad bs.length c), (3, .int .u64 (zBv (bs.drop k))), (4, .int .i64 ((k : Int) - 1))]) (bs.length) ?_ ?_
 ·exact ⟨bs.length, by omega, rfl, rfl, by rw [List.drop_length]; exact E.keep (kE3 rfl rfl rfl)⟩
 clear E; clear a; (try clear S); rintro m a w ⟨k, hk, hm, rfl, E⟩
 iterate 2 (refine wp_seq_k ?_; intro K hK)
 refine zAa ?_
 iterate 2 (refine zd E ?_; clear E a; intro a E)
 refine wpList_nil ?_
 refine zAb hK ?_; clear hK K
 refine zAs E rfl (fun hb => ?_) (fun hb => ?_)
 ·replace hb := Nrm.nrm hb
  refine wp_skip ?_
  refine zAb hK ?_; clear hK K
  refine wp_seq_k ?_; intro K hK
  refine wp_block ?_
  obtain ⟨b, off, rfl⟩ := h.addr oZ
  have hcb := h.byte hs (i := k - 1) oZ
  have hlt : zBv (bs.drop k) < 72057594037927936 := Nat.lt_of_lt_of_le (zEu _) (Nat.pow_le_pow_right (n := 256) (j := 7) oZ (by rw [List.length_drop]; omega))
  have h8 := (bs[k - 1]).toNat_lt
  have hnum : zBv (bs.drop (k - 1)) = 256 * zBv (bs.drop k) + (bs[k - 1]).toNat := by { rw [List.drop_eq_getElem_cons (show k - 1 < bs.length by omega), show k - 1 + 1 = k by omega]; simp only [zBv]; omega }
  refine zAa ?_
  refine zd E ?_; clear E a; intro a E
  refine zp E (zEg E rfl rfl rfl (by first | exact zEq (x := 256) oZ | exact zDx (x := 256) oZ | exact w_in oZ | exact rfl)) ?_; clear E a; intro a E
  iterate 2 (refine zd E ?_; clear E a; intro a E)
  refine zp E (zAw (i := k - 1) E rfl rfl rfl rfl rfl oZ oZ) ?_; clear E a; intro a E
  refine zp E (zBd E rfl rfl rfl (hcb)) ?_; clear E a; intro a E
  refine zp E (by first | exact zAo E rfl rfl rfl rfl (by first | exact wu8 _ | exact zCz oZ | exact zCe oZ | exact w_in oZ | exact zBb oZ | exact rfl) | exact zBh E rfl rfl rfl rfl rfl (by assumption) (S.stab.at (by simp))) ?_; clear E a; intro a E
  refine zp E (zBc E rfl rfl rfl ((congrArg _ (Int.natCast_add _ _).symm).trans (zCe oZ))) ?_; clear E a; intro a E
  refine zd E ?_; clear E a; intro a E
  refine wpList_nil ?_
  refine zAr ?_
  refine zAb hK ?_; clear hK K
  refine zAa ?_
  refine zd E ?_; clear E a; intro a E
  refine zp E (zCv E rfl rfl rfl (r := ((k - 1 : Nat) : Int) - 1) (by rw [show ((k : Int) - 1 - 1) = ((k - 1 : Nat) : Int) - 1 by omega]; exact w_in oZ)) ?_; clear E a; intro a E
  refine zd E ?_; clear E a; intro a E
  refine wpList_nil ?_
  refine zAy ?_
  exact ⟨k - 1, by omega, k - 1, by omega, rfl, rfl, by rw [hnum]; exact E.keep (kE3 rfl rfl rfl)⟩
 ·replace hb := Nrm.nrm hb
  refine wp_exit ?_
  refine zAp ?_; clear hK K
  refine zAp ?_
  refine zBr ?_
  refine zAb hK ?_; clear hK K
  refine wp_seq_k ?_; intro K hK
  refine zAa ?_
  iterate 2 (refine zd E ?_; clear E a; intro a E)
  refine wpList_nil ?_
  refine zAb hK ?_; clear hK K
  refine wp_ret ?_
  refine ret1 E rfl rfl ?_
  obtain rfl : k = 0 := by omega
  exact ⟨_, rfl, rfl, rfl⟩
theorem zLd (p : Nat) (s : Rdr) (A : zAl) (w0 : World) (hA : RdC 118 p s A) (H : Hp w0 [A]) (k : Int) (hk : k ≤ 9223372036854775807) :
  Ret Tryz.prog 110 #[ptr p, .int .i64 k] w0 fun u w' => ∃ A' C, RdC 118 p (s.bytes k).2 A' ∧ Trs w0 w' [A] [A', C] ∧ Buf C 5 1 u (s.bytes k).1.length (byt (s.bytes k).1) := by
 obtain ⟨hat, hlen, ad, c, C, rfl, hc, hR⟩ := hA
 have S := (St.begin H).split
 refine zBt 57 Tryz.func110 rfl rfl dZ ?_; intro a E
 refine wp_seq_k ?_; intro K hK
 refine zAa ?_
 refine zd E ?_; clear E a; intro a E
 refine wpList_nil ?_
 refine zAb hK ?_; clear hK K
 iterate 2 (refine wp_seq_k ?_; intro K hK)
 refine zAa ?_
 iterate 2 (refine zd E ?_; clear E a; intro a E)
 refine zp E (by first | exact zAc (q := 2) E rfl rfl rfl | exact zAd (q := 2) E rfl rfl rfl) ?_; clear E a; intro a E
 iterate 2 (refine zd E ?_; clear E a; intro a E)
 refine wpList_nil ?_
 refine zAb hK ?_; clear hK K
 refine zAs E rfl (fun hb => ?_) (fun hb => ?_)
 ·replace hb := Nrm.nrm hb
  refine wp_seq_k ?_; intro K hK
  refine zAa ?_
  refine zd E ?_; clear E a; intro a E
  refine wpList_nil ?_
  refine zAb hK ?_; clear hK K
  refine wp_ret ?_
  refine zAn ?_; clear hK K
  refine ret1 E rfl rfl ?_
  have hv : s.bytes k = ([], s) := by simp [Rdr.bytes, show s.e ≠ 0 by omega]
  exact ⟨_, rfl, _, [], by rw [hv]; exact ⟨hat, hlen, ad, c, C, rfl, hc, hR⟩, (S.join.addNil.perm (Bs := [_, []]) (zBa pZ (zBa pZ (zDc _)))).tr, by rw [hv]; exact Buf.nil _ _⟩
 ·replace hb := Nrm.nrm hb
  refine wp_skip ?_
  refine zAb hK ?_; clear hK K
  iterate 2 (refine wp_seq_k ?_; intro K hK)
  refine zAa ?_
  iterate 2 (refine zd E ?_; clear E a; intro a E)
  refine wpList_nil ?_
  refine zAb hK ?_; clear hK K
  refine zAs E rfl (fun hb => ?_) (fun hb => ?_)
  ·replace hb := Nrm.nrm hb
   refine wp_seq_k ?_; intro K hK
   refine zAa ?_
   iterate 2 (refine zd E ?_; clear E a; intro a E)
   refine zp E (by first | exact zAc (q := 2) E rfl rfl rfl | exact zAd (q := 2) E rfl rfl rfl) ?_; clear E a; intro a E
   refine zAg rfl (zAv E S rfl rfl rfl rfl rfl rfl pZ (by first | exact Nat.le_of_ble_eq_true rfl | (simp; done) | (simp; omega)) ?_); clear E S a; intro a w E S; try dsimp only [List.set] at S
   refine wpList_nil ?_
   refine zAb hK ?_; clear hK K
   refine wp_seq_k ?_; intro K hK
   refine zAa ?_
   refine zd E ?_; clear E a; intro a E
   refine wpList_nil ?_
   refine zAb hK ?_; clear hK K
   refine wp_ret ?_
   refine zAn ?_; clear hK K
   refine ret1 E rfl rfl ?_
   have hv : s.bytes k = ([], { s with e := 1 }) := by simp [Rdr.bytes, show s.e = 0 by omega, show k < 0 by omega]
   exact ⟨_, rfl, _, [], by rw [hv]; exact ⟨hat, hlen, ad, c, C, rfl, hc, hR⟩, (S.join.addNil.perm (Bs := [_, []]) (zBa pZ (zBa pZ (zDc _)))).tr, by rw [hv]; exact Buf.nil _ _⟩
  ·replace hb := Nrm.nrm hb
   refine wp_skip ?_
   refine zAb hK ?_; clear hK K
   iterate 2 (refine wp_seq_k ?_; intro K hK)
   obtain ⟨kn, rfl⟩ : ∃ kn : Nat, k = kn := ⟨k.toNat, by omega⟩
   refine zBg S (.ofL [(0, 0), (1, 0), (2, 0), (3, 0), (4, 0), (5, 0), (6, 0), (7, 0), (8, 0), (9, 0), (10, 0), (11, 0)]) yZ yZ ?_
   clear S; intro w S
   iterate 3 (refine zmd E ?_; clear E a; intro a E)
   refine zm E rfl (fun w h => by first | exact zAc (q := 0) E rfl rfl rfl | exact zAd (q := 0) E rfl rfl rfl) ?_; clear E a; intro a E
   iterate 4 (refine zmd E ?_; clear E a; intro a E)
   refine zm E rfl (fun w h => by first | exact zAc (q := 1) E rfl rfl rfl | exact zAd (q := 1) E rfl rfl rfl) ?_; clear E a; intro a E
   refine zmd E ?_; clear E a; intro a E
   refine zm E rfl (fun w h => zCv E rfl rfl rfl (by first | exact ws1 oZ oZ | exact w_in oZ | exact zBb oZ | exact rfl)) ?_; clear E a; intro a E
   refine zmd E ?_; clear E a; intro a E
   refine zBi ?_
   refine zAb hK ?_; clear hK K
   refine zAs E rfl (fun hb => ?_) (fun hb => ?_)
   ·replace hb := Nrm.nrm hb
    refine wp_seq_k ?_; intro K hK
    refine zAa ?_
    iterate 2 (refine zd E ?_; clear E a; intro a E)
    refine zp E (by first | exact zAc (q := 2) E rfl rfl rfl | exact zAd (q := 2) E rfl rfl rfl) ?_; clear E a; intro a E
    refine zAg rfl (zAv E S rfl rfl rfl rfl rfl rfl pZ (by first | exact Nat.le_of_ble_eq_true rfl | (simp; done) | (simp; omega)) ?_); clear E S a; intro a w E S; try dsimp only [List.set] at S
    refine wpList_nil ?_
    refine zAb hK ?_; clear hK K
    refine wp_seq_k ?_; intro K hK
    replace E := E.keep (e' := [(0, _), (1, _), (4, _)]) (kE3 rfl rfl rfl)
    refine zAa ?_
    refine zd E ?_; clear E a; intro a E
    refine wpList_nil ?_
    refine zAb hK ?_; clear hK K
    refine wp_ret ?_
    refine zAn ?_; clear hK K
    refine ret1 E rfl rfl ?_
    have hv : s.bytes kn = ([], { s with e := 10 }) := by simp [Rdr.bytes, show s.e = 0 by omega, show ¬ (kn : Int) < 0 by omega, show s.bs.length < s.at_ + kn by omega]
    exact ⟨_, rfl, _, [], by rw [hv]; exact ⟨hat, hlen, ad, c, C, rfl, hc, hR⟩, (S.join.addNil.perm (Bs := [_, []]) (zBa pZ (zBa pZ (zDc _)))).tr, by rw [hv]; exact Buf.nil _ _⟩
   ·replace hb := Nrm.nrm hb
    refine wp_skip ?_
    refine zAb hK ?_; clear hK K
    refine wp_seq_k ?_; intro K hK
    have S := S.addNil
    refine zBg S (.ofL [(0, 0), (1, 0), (2, 0), (3, 0), (4, 0), (5, 0), (6, 0), (7, 0), (8, 0), (9, 0), (10, 0), (11, 0), (12, 0), (13, 0), (14, 0), (15, 3), (16, 2)]) yZ yZ ?_
    clear S; intro w S
    iterate 2 (refine zmd E ?_; clear E a; intro a E)
    refine zm E rfl (fun w h => by first | exact zAc (q := 0) E rfl rfl rfl | exact zAd (q := 0) E rfl rfl rfl) ?_; clear E a; intro a E
    iterate 3 (refine zmd E ?_; clear E a; intro a E)
    refine zm E rfl (fun w h => by first | exact zAc (q := 1) E rfl rfl rfl | exact zAd (q := 1) E rfl rfl rfl) ?_; clear E a; intro a E
    iterate 3 (refine zmd E ?_; clear E a; intro a E)
    refine zm E rfl (fun w h => by first | exact zAc (q := 1) E rfl rfl rfl | exact zAd (q := 1) E rfl rfl rfl) ?_; clear E a; intro a E
    iterate 2 (refine zmd E ?_; clear E a; intro a E)
    refine zm E rfl (fun w h => zBc E rfl rfl rfl (by first | exact wa1 oZ | exact w_in oZ | exact zBb oZ | exact rfl)) ?_; clear E a; intro a E
    refine zm E rfl (fun w h => zDi (s := 1) E rfl rfl rfl rfl rfl rfl rfl rfl oZ oZ) ?_; clear E a; intro a E
    obtain ⟨ad2, c2, hs2, hR2⟩ := hR.cut (lo := s.at_) (hi := s.at_ + kn) oZ oZ oZ
    rw [hs2] at E
    have hcl := s.cut_length kn 0 oZ
    have hR2 : Rd C 1 (.slice ad2 (s.at_ + kn - s.at_) c2) (s.cut kn 0).length (byt (s.cut kn 0)) := by { rw [hcl]; simpa [zEs, zGd, Rdr.cut, Nat.add_sub_cancel_left] using hR2 }
    refine zCb rfl rfl (zBu (by' := 1) E S rfl rfl dZ rfl rfl (Buf.nil 5 1) pZ (hR2.src (S.stab.at mZ) rfl) rfl rfl rfl rfl rfl rfl (by simp only [maxLen]; omega) oZ ?_); clear E S a; intro a w v46 C46 E S hB46
    rw [Nat.zero_add, List.nil_append] at hB46
    refine zCg E rfl rfl rfl dZ (fun w => zCl E rfl rfl) ?_; clear E a; intro a E
    refine zBi ?_
    refine zAb hK ?_; clear hK K
    refine wp_seq_k ?_; intro K hK
    replace E := E.keep (e' := [(0, _), (1, _), (4, _), (5, _)]) (kE4 rfl rfl rfl rfl)
    refine zAa ?_
    iterate 3 (refine zd E ?_; clear E a; intro a E)
    refine zp E (by first | exact zAc (q := 1) E rfl rfl rfl | exact zAd (q := 1) E rfl rfl rfl) ?_; clear E a; intro a E
    iterate 2 (refine zd E ?_; clear E a; intro a E)
    refine zp E (zBc E rfl rfl rfl (by first | exact wa1 oZ | exact w_in oZ | exact zBb oZ | exact rfl)) ?_; clear E a; intro a E
    refine zd E ?_; clear E a; intro a E
    refine zp E (by first | exact zAc (q := 1) E rfl rfl rfl | exact zAd (q := 1) E rfl rfl rfl) ?_; clear E a; intro a E
    refine zAg rfl (zAv E S rfl rfl rfl rfl rfl rfl pZ (by first | exact Nat.le_of_ble_eq_true rfl | (simp; done) | (simp; omega)) ?_); clear E S a; intro a w E S; try dsimp only [List.set] at S
    refine wpList_nil ?_
    refine zAb hK ?_; clear hK K
    refine wp_seq_k ?_; intro K hK
    refine zAa ?_
    iterate 2 (refine zd E ?_; clear E a; intro a E)
    refine wpList_nil ?_
    refine zAb hK ?_; clear hK K
    refine wp_ret ?_
    refine ret1 E rfl rfl ?_
    have hv : s.bytes kn = (s.cut kn 0, { s with at_ := s.at_ + kn }) := by simp [Rdr.bytes, show s.e = 0 by omega, show ¬ (kn : Int) < 0 by omega, show ¬ s.bs.length < s.at_ + kn by omega]
    have S := (S.perm (Bs := [[(p, _)], C, C46]) (zBa pZ (zBa pZ (zBa pZ (zDc _))))).join
    exact ⟨_, rfl, _, C46, by rw [hv]; exact ⟨by simp only; omega, hlen, ad, c, C, rfl, hc, hR⟩, S.tr, by rw [hv]; exact hB46⟩
theorem zDw (p : Nat) (s : Rdr) (A : zAl) (w0 : World) (hA : RdC 118 p s A) (H : Hp w0 [A]) (k : Int) :
  Ret Tryz.prog 107 #[ptr p, .int .i64 k] w0 fun u w' => ∃ A', u = .int .u64 (s.num k).1 ∧ RdC 118 p (s.num k).2 A' ∧ Trs w0 w' [A] [A'] := by
 have hA0 := hA
 obtain ⟨hat, hlen, ad, c, C, hAe, hc, hR⟩ := hA
 have S := St.begin H
 have S := (by rw [hAe] at S; exact S.split : St w0 _ w0 ([(p, cel [.slice ad s.bs.length c, .int .i64 s.at_, .int .i64 s.e] 118)] :: C :: _))
 refine zBt 25 Tryz.func107 rfl rfl dZ ?_; intro a E
 refine wp_seq_k ?_; intro K hK
 refine zAa ?_
 refine zd E ?_; clear E a; intro a E
 refine wpList_nil ?_
 refine zAb hK ?_; clear hK K
 iterate 2 (refine wp_seq_k ?_; intro K hK)
 refine zAa ?_
 iterate 2 (refine zd E ?_; clear E a; intro a E)
 refine zp E (by first | exact zAc (q := 2) E rfl rfl rfl | exact zAd (q := 2) E rfl rfl rfl) ?_; clear E a; intro a E
 iterate 2 (refine zd E ?_; clear E a; intro a E)
 refine wpList_nil ?_
 refine zAb hK ?_; clear hK K
 refine zAs E rfl (fun hb => ?_) (fun hb => ?_)
 ·replace hb := Nrm.nrm hb
  refine wp_seq_k ?_; intro K hK
  refine zAa ?_
  refine zd E ?_; clear E a; intro a E
  refine wpList_nil ?_
  refine zAb hK ?_; clear hK K
  refine wp_ret ?_
  refine zAn ?_; clear hK K
  refine ret1 E rfl rfl ?_
  have S := S.join; rw [← hAe] at S
  have hv : s.num k = (0, s) := by simp [Rdr.num, show s.e ≠ 0 by omega]
  exact ⟨_, rfl, A, by rw [hv]; rfl, by rw [hv]; exact hA0, S.tr⟩
 ·replace hb := Nrm.nrm hb
  refine wp_skip ?_
  refine zAb hK ?_; clear hK K
  iterate 2 (refine wp_seq_k ?_; intro K hK)
  refine zAa ?_
  iterate 3 (refine zd E ?_; clear E a; intro a E)
  refine zAj E (t := 13) rfl (fun hb13 => ?_) (fun hb13 => ?_)
  ·have hb13n := hb13; replace hb13n := Nrm.nrm hb13n
   iterate 2 (refine zn E hb13 ?_; clear E a; intro a E)
   refine zp E (zAf E rfl rfl hb13 rfl) ?_; clear E a; intro a E
   refine wpList_nil ?_
   refine zAb hK ?_; clear hK K
   refine zBo E rfl rfl ?_
   refine wp_seq_k ?_; intro K hK
   refine zAa ?_
   iterate 2 (refine zd E ?_; clear E a; intro a E)
   refine zp E (by first | exact zAc (q := 2) E rfl rfl rfl | exact zAd (q := 2) E rfl rfl rfl) ?_; clear E a; intro a E
   refine zAg rfl (zAv E S rfl rfl rfl rfl rfl rfl pZ (by first | exact Nat.le_of_ble_eq_true rfl | (simp; done) | (simp; omega)) ?_); clear E S a; intro a w E S; try dsimp only [List.set] at S
   refine wpList_nil ?_
   refine zAb hK ?_; clear hK K
   refine wp_seq_k ?_; intro K hK
   refine zAa ?_
   refine zd E ?_; clear E a; intro a E
   refine wpList_nil ?_
   refine zAb hK ?_; clear hK K
   refine wp_ret ?_
   refine zAn ?_; clear hK K
   refine ret1 E rfl rfl ?_
   have hv : s.num k = (0, { s with e := 1 }) := by simp only [Rdr.num]; rw [if_neg oZ, if_pos oZ]
   exact ⟨_, rfl, _, by rw [hv]; rfl, by rw [hv]; exact ⟨hat, hlen, ad, c, C, rfl, hc, hR⟩, by rw [hAe]; exact S.join.tr⟩
  ·have hb13n := hb13; replace hb13n := Nrm.nrm hb13n
   iterate 2 (refine zyd E hb13 ?_; clear E a; intro a E)
   refine zp E (zAe E rfl rfl hb13 rfl) ?_; clear E a; intro a E
   refine wpList_nil ?_
   refine zAb hK ?_; clear hK K
   refine zAs E rfl (fun hb => ?_) (fun hb => ?_)
   ·replace hb := Nrm.nrm hb
    refine wp_seq_k ?_; intro K hK
    refine zAa ?_
    iterate 2 (refine zd E ?_; clear E a; intro a E)
    refine zp E (by first | exact zAc (q := 2) E rfl rfl rfl | exact zAd (q := 2) E rfl rfl rfl) ?_; clear E a; intro a E
    refine zAg rfl (zAv E S rfl rfl rfl rfl rfl rfl pZ (by first | exact Nat.le_of_ble_eq_true rfl | (simp; done) | (simp; omega)) ?_); clear E S a; intro a w E S; try dsimp only [List.set] at S
    refine wpList_nil ?_
    refine zAb hK ?_; clear hK K
    refine wp_seq_k ?_; intro K hK
    refine zAa ?_
    refine zd E ?_; clear E a; intro a E
    refine wpList_nil ?_
    refine zAb hK ?_; clear hK K
    refine wp_ret ?_
    refine zAn ?_; clear hK K
    refine ret1 E rfl rfl ?_
    have hv : s.num k = (0, { s with e := 1 }) := by simp only [Rdr.num]; rw [if_neg oZ, if_pos oZ]
    exact ⟨_, rfl, _, by rw [hv]; rfl, by rw [hv]; exact ⟨hat, hlen, ad, c, C, rfl, hc, hR⟩, by rw [hAe]; exact S.join.tr⟩
   ·replace hb := Nrm.nrm hb
    refine wp_skip ?_
    refine zAb hK ?_; clear hK K
    refine wp_seq_k ?_; intro K hK
    have S := S.join; rw [← hAe] at S
    obtain ⟨kn, rfl⟩ : ∃ kn : Nat, k = kn := ⟨k.toNat, by omega⟩
    refine zAa ?_
    iterate 2 (refine zd E ?_; clear E a; intro a E)
    refine zAh E rfl rfl dZ rfl Tryz.func110 rfl yZ rfl (zLd p s A _ hA0 S.hp kn oZ) ?_
    rintro v22 w ⟨A1, C1, hA1, hT, hB1⟩; clear E a; intro a E
    have S := S.all hT
    obtain ⟨ad1, c1, rfl⟩ := hB1.slice
    have hbl : (s.bytes kn).1.length ≤ 8 := by { simp only [Rdr.bytes]; split; simp; split; simp; split; simp; simp only [Rdr.cut, List.length_take, Int.toNat_natCast]; omega }
    refine zd E ?_; clear E a; intro a E
    refine wpList_nil ?_
    refine zAb hK ?_; clear hK K
    refine wp_seq_k ?_; intro K hK
    refine zAa ?_
    refine zd E ?_; clear E a; intro a E
    refine zAh E rfl rfl dZ rfl Tryz.func121 rfl yZ rfl (zLc C1 _ (s.bytes kn).1 _ hB1.rd (S.stab.at mZ) hbl) ?_
    rintro v24 w ⟨rfl, rfl⟩; clear E a; intro a E
    refine zd E ?_; clear E a; intro a E
    refine wpList_nil ?_
    refine zAb hK ?_; clear hK K
    refine wp_ret ?_
    refine ret1 E rfl rfl ?_
    have he : s.e = 0 := by omega
    have hv : s.num kn = (zBv (s.bytes kn).1, (s.bytes kn).2) := by { by_cases hsh : s.bs.length < s.at_ + kn <;> simp [Rdr.num, Rdr.bytes, he, hsh, zBv, show ¬ ((kn : Int) < 1 ∨ 8 < (kn : Int)) by omega, show ¬ (kn : Int) < 0 by omega] }
    exact ⟨_, rfl, A1, by rw [hv], by rw [hv]; exact hA1, (S.only (Bs := [A1]) sZ).tr⟩
theorem udone_ret (p : Nat) (s : Rdr) (A : zAl) (w0 : World) (hA : RdC 118 p s A) (H : Hp w0 [A]) :
  Ret Tryz.prog 84 #[ptr p] w0 fun u w' => u = .int .i64 s.done ∧ Trs w0 w' [A] [A] := by
 obtain ⟨hat, hlen, ad, c, C, rfl, hc, hR⟩ := hA
 have S := (St.begin H).split
 refine zCd 24 Tryz.func84 rfl rfl dZ ?_; intro a E
 refine wp_seq_k ?_; intro K hK
 refine zAa ?_
 refine zd E ?_; clear E a; intro a E
 refine wpList_nil ?_
 refine zAb hK ?_; clear hK K
 iterate 2 (refine wp_seq_k ?_; intro K hK)
 refine zBg S (.ofL [(0, 0), (1, 0), (2, 0), (3, 0), (4, 0), (5, 0), (6, 0), (7, 0), (8, 0), (9, 0), (10, 0), (11, 0), (12, 0), (13, 0), (14, 0), (15, 0), (16, 0)]) yZ yZ ?_
 clear S; intro w S
 iterate 2 (refine zmd E ?_; clear E a; intro a E)
 refine zm E rfl (fun w h => by first | exact zAc (q := 2) E rfl rfl rfl | exact zAd (q := 2) E rfl rfl rfl) ?_; clear E a; intro a E
 iterate 3 (refine zmd E ?_; clear E a; intro a E)
 refine zAj E (t := 8) rfl (fun hb8 => ?_) (fun hb8 => ?_)
 ·have hb8n := hb8; replace hb8n := Nrm.nrm hb8n
  refine zAm E rfl rfl rfl rfl rfl hb8 rfl dZ (fun w h => zDk E rfl rfl) ?_; clear E a; intro a E
  refine zAm E rfl rfl rfl rfl rfl hb8 rfl dZ (fun w h => zFb E rfl rfl) ?_; clear E a; intro a E
  refine zAm E rfl rfl rfl rfl rfl hb8 rfl dZ (fun w h => by first | exact zAc (q := 1) E rfl rfl rfl | exact zAd (q := 1) E rfl rfl rfl) ?_; clear E a; intro a E
  refine zAm E rfl rfl rfl rfl rfl hb8 rfl dZ (fun w h => by first | exact zFq E rfl rfl rfl (h.one mZ) rfl | exact zBd E rfl rfl rfl (by assumption)) ?_; clear E a; intro a E
  refine zAm E rfl rfl rfl rfl rfl hb8 rfl dZ (fun w h => zDk E rfl rfl) ?_; clear E a; intro a E
  refine zAm E rfl rfl rfl rfl rfl hb8 rfl dZ (fun w h => zFb E rfl rfl) ?_; clear E a; intro a E
  refine zAm E rfl rfl rfl rfl rfl hb8 rfl dZ (fun w h => by first | exact zAc (q := 0) E rfl rfl rfl | exact zAd (q := 0) E rfl rfl rfl) ?_; clear E a; intro a E
  refine zAm E rfl rfl rfl rfl rfl hb8 rfl dZ (fun w h => by first | exact zFq E rfl rfl rfl (h.one mZ) rfl | exact zBd E rfl rfl rfl (by assumption)) ?_; clear E a; intro a E
  refine zAm E rfl rfl rfl rfl rfl hb8 rfl dZ (fun w h => by first | exact rn_len E rfl rfl rfl | exact zFt E rfl rfl rfl | exact zDr E rfl rfl rfl) ?_; clear E a; intro a E
  refine zAm E rfl rfl rfl rfl rfl hb8 rfl dZ (fun w h => rn_lss E rfl rfl rfl) ?_; clear E a; intro a E
  refine zm E rfl (fun w h => zAf E rfl rfl hb8 rfl) ?_; clear E a; intro a E
  refine zBi ?_
  refine zAb hK ?_; clear hK K
  refine zAs E rfl (fun hb => ?_) (fun hb => ?_)
  ·replace hb := Nrm.nrm hb
   refine wp_seq_k ?_; intro K hK
   refine zAa ?_
   refine zd E ?_; clear E a; intro a E
   refine wpList_nil ?_
   refine zAb hK ?_; clear hK K
   refine wp_ret ?_
   refine zAn ?_; clear hK K
   refine ret1 E rfl rfl ?_
   exact ⟨_, rfl, by simp only [Rdr.done]; rw [if_pos oZ]; rfl, S.join.tr⟩
  ·replace hb := Nrm.nrm hb
   refine wp_skip ?_
   refine zAb hK ?_; clear hK K
   refine wp_seq_k ?_; intro K hK
   refine zAa ?_
   iterate 2 (refine zd E ?_; clear E a; intro a E)
   refine zp E (by first | exact zAc (q := 2) E rfl rfl rfl | exact zAd (q := 2) E rfl rfl rfl) ?_; clear E a; intro a E
   iterate 2 (refine zd E ?_; clear E a; intro a E)
   refine wpList_nil ?_
   refine zAb hK ?_; clear hK K
   refine wp_ret ?_
   refine ret1 E rfl rfl ?_
   exact ⟨_, rfl, by simp only [Rdr.done]; rw [if_neg oZ], S.join.tr⟩
 ·have hb8n := hb8; replace hb8n := Nrm.nrm hb8n
  iterate 10 (refine zBl E rfl rfl rfl rfl rfl hb8 rfl dZ ?_; clear E a; intro a E)
  refine zm E rfl (fun w h => zAe E rfl rfl hb8 rfl) ?_; clear E a; intro a E
  refine zBi ?_
  refine zAb hK ?_; clear hK K
  refine zCq E rfl rfl ?_
  refine wp_skip ?_
  refine zAb hK ?_; clear hK K
  refine wp_seq_k ?_; intro K hK
  refine zAa ?_
  iterate 2 (refine zd E ?_; clear E a; intro a E)
  refine zp E (by first | exact zAc (q := 2) E rfl rfl rfl | exact zAd (q := 2) E rfl rfl rfl) ?_; clear E a; intro a E
  iterate 2 (refine zd E ?_; clear E a; intro a E)
  refine wpList_nil ?_
  refine zAb hK ?_; clear hK K
  refine wp_ret ?_
  refine ret1 E rfl rfl ?_
  exact ⟨_, rfl, by simp only [Rdr.done]; rw [if_neg oZ], S.join.tr⟩
theorem zGy (p : Nat) (s : Rdr) (A : zAl) (w0 : World) (hA : RdC 118 p s A) (H : Hp w0 [A]) (most : Int) :
  Ret Tryz.prog 106 #[ptr p, .int .i64 most] w0 fun u w' => ∃ A', u = str (s.text most).1 ∧ RdC 118 p (s.text most).2 A' ∧ Trs w0 w' [A] [A'] := by
 obtain ⟨hat, hlen, ad, c, C, rfl, hc, hR⟩ := hA
 have S := (St.begin H).split
 refine zBt 93 Tryz.func106 rfl rfl dZ ?_; intro a E
 refine wp_seq_k ?_; intro K hK
 refine zAa ?_
 refine zd E ?_; clear E a; intro a E
 refine wpList_nil ?_
 refine zAb hK ?_; clear hK K
 iterate 2 (refine wp_seq_k ?_; intro K hK)
 refine zAa ?_
 iterate 2 (refine zd E ?_; clear E a; intro a E)
 refine zp E (by first | exact zAc (q := 2) E rfl rfl rfl | exact zAd (q := 2) E rfl rfl rfl) ?_; clear E a; intro a E
 iterate 2 (refine zd E ?_; clear E a; intro a E)
 refine wpList_nil ?_
 refine zAb hK ?_; clear hK K
 refine zAs E rfl (fun hb => ?_) (fun hb => ?_)
 ·replace hb := Nrm.nrm hb
  refine wp_seq_k ?_; intro K hK
  refine zAa ?_
  refine zd E ?_; clear E a; intro a E
  refine wpList_nil ?_
  refine zAb hK ?_; clear hK K
  refine wp_ret ?_
  refine zAn ?_; clear hK K
  refine ret1 E rfl rfl ?_
  have hv : s.text most = ([], s) := by simp [Rdr.text, show s.e ≠ 0 by omega]
  exact ⟨_, rfl, _, by rw [hv], by rw [hv]; exact ⟨hat, hlen, ad, c, C, rfl, hc, hR⟩, S.join.tr⟩
 ·replace hb := Nrm.nrm hb
  refine wp_skip ?_
  refine zAb hK ?_; clear hK K
  iterate 2 (refine wp_seq_k ?_; intro K hK)
  have he : s.e = 0 := by omega
  refine zBg S (.ofL [(0, 0), (1, 0), (2, 0), (3, 0), (4, 0), (5, 0), (6, 0), (7, 0), (8, 0), (9, 0), (10, 0)]) yZ yZ ?_
  clear S; intro w S
  iterate 2 (refine zmd E ?_; clear E a; intro a E)
  refine zm E rfl (fun w h => by first | exact zAc (q := 0) E rfl rfl rfl | exact zAd (q := 0) E rfl rfl rfl) ?_; clear E a; intro a E
  iterate 4 (refine zmd E ?_; clear E a; intro a E)
  refine zm E rfl (fun w h => by first | exact zAc (q := 1) E rfl rfl rfl | exact zAd (q := 1) E rfl rfl rfl) ?_; clear E a; intro a E
  refine zmd E ?_; clear E a; intro a E
  refine zm E rfl (fun w h => zCv E rfl rfl rfl (by first | exact ws1 oZ oZ | exact w_in oZ | exact zBb oZ | exact rfl)) ?_; clear E a; intro a E
  refine zmd E ?_; clear E a; intro a E
  refine zBi ?_
  refine zAb hK ?_; clear hK K
  refine zAs E rfl (fun hb => ?_) (fun hb => ?_)
  ·replace hb := Nrm.nrm hb
   refine wp_seq_k ?_; intro K hK
   refine zAa ?_
   iterate 2 (refine zd E ?_; clear E a; intro a E)
   refine zp E (by first | exact zAc (q := 2) E rfl rfl rfl | exact zAd (q := 2) E rfl rfl rfl) ?_; clear E a; intro a E
   refine zAg rfl (zAv E S rfl rfl rfl rfl rfl rfl pZ (by first | exact Nat.le_of_ble_eq_true rfl | (simp; done) | (simp; omega)) ?_); clear E S a; intro a w E S; try dsimp only [List.set] at S
   refine wpList_nil ?_
   refine zAb hK ?_; clear hK K
   refine wp_seq_k ?_; intro K hK
   refine zAa ?_
   refine zd E ?_; clear E a; intro a E
   refine wpList_nil ?_
   refine zAb hK ?_; clear hK K
   refine wp_ret ?_
   refine zAn ?_; clear hK K
   refine ret1 E rfl rfl ?_
   have hv : s.text most = ([], { s with e := 10 }) := by simp [Rdr.text, he, show s.bs.length < s.at_ + 2 by omega]
   exact ⟨_, rfl, _, by rw [hv], by rw [hv]; exact ⟨hat, hlen, ad, c, C, rfl, hc, hR⟩, S.join.tr⟩
  ·replace hb := Nrm.nrm hb
   refine wp_skip ?_
   refine zAb hK ?_; clear hK K
   refine wp_seq_k ?_; intro K hK
   have hcl := s.cut_length 2 0 oZ
   have hnl := zEu (s.cut 2 0)
   rw [hcl] at hnl
   refine zBg S (.ofL [(0, 0), (1, 0), (2, 0), (3, 0), (4, 0), (5, 0), (6, 0), (7, 0), (8, 0), (9, 0), (10, 0), (11, 0), (12, 0), (13, 0), (14, 3), (15, 2), (16, 2)]) yZ yZ ?_
   clear S; intro w S
   iterate 2 (refine zmd E ?_; clear E a; intro a E)
   refine zm E rfl (fun w h => by first | exact zAc (q := 0) E rfl rfl rfl | exact zAd (q := 0) E rfl rfl rfl) ?_; clear E a; intro a E
   iterate 3 (refine zmd E ?_; clear E a; intro a E)
   refine zm E rfl (fun w h => by first | exact zAc (q := 1) E rfl rfl rfl | exact zAd (q := 1) E rfl rfl rfl) ?_; clear E a; intro a E
   iterate 3 (refine zmd E ?_; clear E a; intro a E)
   refine zm E rfl (fun w h => by first | exact zAc (q := 1) E rfl rfl rfl | exact zAd (q := 1) E rfl rfl rfl) ?_; clear E a; intro a E
   refine zmd E ?_; clear E a; intro a E
   refine zm E rfl (fun w h => zBc E rfl rfl rfl (by first | exact zBq (y := 2) oZ | exact w_in oZ | exact zBb oZ | exact rfl)) ?_; clear E a; intro a E
   refine zm E rfl (fun w h => zDi (s := 1) E rfl rfl rfl rfl rfl rfl rfl rfl oZ oZ) ?_; clear E a; intro a E
   obtain ⟨ad2, c2, hs2, hR2⟩ := hR.cut (lo := s.at_) (hi := s.at_ + 2) oZ oZ oZ
   rw [hs2] at E
   have hR2 : Rd C 1 (.slice ad2 (s.at_ + 2 - s.at_) c2) (s.cut 2 0).length (byt (s.cut 2 0)) := by { rw [hcl]; simpa [zEs, zGd, Rdr.cut, Nat.add_sub_cancel_left] using hR2 }
   refine zFs E rfl rfl rfl dZ rfl Tryz.func121 rfl yZ rfl (zLc C _ (s.cut 2 0) _ hR2 (S.stab.at mZ) oZ) ?_
   rintro v40 w ⟨rfl, rfl⟩; clear E a; intro a E
   refine zCg E rfl rfl rfl dZ (fun w => by first | exact zAo E rfl rfl rfl rfl (by first | exact wu8 _ | exact zCz oZ | exact zCe oZ | exact w_in oZ | exact zBb oZ | exact rfl) | exact zBh E rfl rfl rfl rfl rfl (by assumption) (S.stab.at (by simp))) ?_; clear E a; intro a E
   refine zCg E rfl rfl rfl dZ (fun w => zCl E rfl rfl) ?_; clear E a; intro a E
   refine zBi ?_
   refine zAb hK ?_; clear hK K
   iterate 2 (refine wp_seq_k ?_; intro K hK)
   replace E := E.keep (e' := [(0, _), (1, _), (4, _), (5, _)]) (kE4 rfl rfl rfl rfl)
   refine zAa ?_
   iterate 3 (refine zd E ?_; clear E a; intro a E)
   refine wpList_nil ?_
   refine zAb hK ?_; clear hK K
   refine zAs E rfl (fun hb => ?_) (fun hb => ?_)
   ·replace hb := Nrm.nrm hb
    refine wp_seq_k ?_; intro K hK
    refine zAa ?_
    iterate 2 (refine zd E ?_; clear E a; intro a E)
    refine zp E (by first | exact zAc (q := 2) E rfl rfl rfl | exact zAd (q := 2) E rfl rfl rfl) ?_; clear E a; intro a E
    refine zAg rfl (zAv E S rfl rfl rfl rfl rfl rfl pZ (by first | exact Nat.le_of_ble_eq_true rfl | (simp; done) | (simp; omega)) ?_); clear E S a; intro a w E S; try dsimp only [List.set] at S
    refine wpList_nil ?_
    refine zAb hK ?_; clear hK K
    refine wp_seq_k ?_; intro K hK
    refine zAa ?_
    refine zd E ?_; clear E a; intro a E
    refine wpList_nil ?_
    refine zAb hK ?_; clear hK K
    refine wp_ret ?_
    refine zAn ?_; clear hK K
    refine ret1 E rfl rfl ?_
    have hv : s.text most = ([], { s with e := 11 }) := by simp [Rdr.text, he, show ¬ s.bs.length < s.at_ + 2 by omega, show most < (zBv (s.cut 2 0) : Int) by omega]
    exact ⟨_, rfl, _, by rw [hv], by rw [hv]; exact ⟨hat, hlen, ad, c, C, rfl, hc, hR⟩, S.join.tr⟩
   ·replace hb := Nrm.nrm hb
    refine wp_skip ?_
    refine zAb hK ?_; clear hK K
    iterate 2 (refine wp_seq_k ?_; intro K hK)
    refine zBg S (.ofL [(0, 0), (1, 0), (2, 0), (3, 0), (4, 0), (5, 0), (6, 0), (7, 0), (8, 0), (9, 0), (10, 0), (11, 0), (12, 0)]) yZ yZ ?_
    clear S; intro w S
    iterate 3 (refine zmd E ?_; clear E a; intro a E)
    refine zm E rfl (fun w h => by first | exact zAc (q := 0) E rfl rfl rfl | exact zAd (q := 0) E rfl rfl rfl) ?_; clear E a; intro a E
    iterate 4 (refine zmd E ?_; clear E a; intro a E)
    refine zm E rfl (fun w h => by first | exact zAc (q := 1) E rfl rfl rfl | exact zAd (q := 1) E rfl rfl rfl) ?_; clear E a; intro a E
    refine zmd E ?_; clear E a; intro a E
    refine zm E rfl (fun w h => zCv E rfl rfl rfl (by first | exact ws1 oZ oZ | exact w_in oZ | exact zBb oZ | exact rfl)) ?_; clear E a; intro a E
    refine zm E rfl (fun w h => zCv E rfl rfl rfl (by first | exact zFc (y := 2) oZ oZ | exact w_in oZ | exact zBb oZ | exact rfl)) ?_; clear E a; intro a E
    refine zmd E ?_; clear E a; intro a E
    refine zBi ?_
    refine zAb hK ?_; clear hK K
    refine zAs E rfl (fun hb => ?_) (fun hb => ?_)
    ·replace hb := Nrm.nrm hb
     refine wp_seq_k ?_; intro K hK
     refine zAa ?_
     iterate 2 (refine zd E ?_; clear E a; intro a E)
     refine zp E (by first | exact zAc (q := 2) E rfl rfl rfl | exact zAd (q := 2) E rfl rfl rfl) ?_; clear E a; intro a E
     refine zAg rfl (zAv E S rfl rfl rfl rfl rfl rfl pZ (by first | exact Nat.le_of_ble_eq_true rfl | (simp; done) | (simp; omega)) ?_); clear E S a; intro a w E S; try dsimp only [List.set] at S
     refine wpList_nil ?_
     refine zAb hK ?_; clear hK K
     refine wp_seq_k ?_; intro K hK
     refine zAa ?_
     refine zd E ?_; clear E a; intro a E
     refine wpList_nil ?_
     refine zAb hK ?_; clear hK K
     refine wp_ret ?_
     refine zAn ?_; clear hK K
     refine ret1 E rfl rfl ?_
     have hv : s.text most = ([], { s with e := 10 }) := by simp [Rdr.text, he, show ¬ s.bs.length < s.at_ + 2 by omega, show ¬ most < (zBv (s.cut 2 0) : Int) by omega, show s.bs.length < s.at_ + 2 + zBv (s.cut 2 0) by omega]
     exact ⟨_, rfl, _, by rw [hv], by rw [hv]; exact ⟨hat, hlen, ad, c, C, rfl, hc, hR⟩, S.join.tr⟩
    ·replace hb := Nrm.nrm hb
     refine wp_skip ?_
     refine zAb hK ?_; clear hK K
     refine wp_seq_k ?_; intro K hK
     have hcl2 := s.cut_length (zBv (s.cut 2 0)) 2 oZ
     refine zBg S (.ofL [(0, 0), (1, 0), (2, 0), (3, 0), (4, 0), (5, 0), (6, 0), (7, 0), (8, 0), (9, 0), (10, 0), (11, 0), (12, 0), (13, 0), (14, 0), (15, 0), (16, 0), (17, 0), (18, 0)]) yZ yZ ?_
     clear S; intro w S
     iterate 2 (refine zmd E ?_; clear E a; intro a E)
     refine zm E rfl (fun w h => by first | exact zAc (q := 0) E rfl rfl rfl | exact zAd (q := 0) E rfl rfl rfl) ?_; clear E a; intro a E
     iterate 3 (refine zmd E ?_; clear E a; intro a E)
     refine zm E rfl (fun w h => by first | exact zAc (q := 1) E rfl rfl rfl | exact zAd (q := 1) E rfl rfl rfl) ?_; clear E a; intro a E
     refine zmd E ?_; clear E a; intro a E
     refine zm E rfl (fun w h => zBc E rfl rfl rfl (by first | exact zBq (y := 2) oZ | exact w_in oZ | exact zBb oZ | exact rfl)) ?_; clear E a; intro a E
     iterate 2 (refine zmd E ?_; clear E a; intro a E)
     refine zm E rfl (fun w h => by first | exact zAc (q := 1) E rfl rfl rfl | exact zAd (q := 1) E rfl rfl rfl) ?_; clear E a; intro a E
     refine zmd E ?_; clear E a; intro a E
     refine zm E rfl (fun w h => zBc E rfl rfl rfl (by first | exact zBq (y := 2) oZ | exact w_in oZ | exact zBb oZ | exact rfl)) ?_; clear E a; intro a E
     refine zmd E ?_; clear E a; intro a E
     refine zm E rfl (fun w h => zBc E rfl rfl rfl (by first | exact wa1 oZ | exact w_in oZ | exact zBb oZ | exact rfl)) ?_; clear E a; intro a E
     refine zm E rfl (fun w h => zDi (s := 1) E rfl rfl rfl rfl rfl rfl rfl rfl oZ oZ) ?_; clear E a; intro a E
     obtain ⟨ad3, c3, hs3, hR3⟩ := hR.cut (lo := s.at_ + 2) (hi := s.at_ + 2 + zBv (s.cut 2 0)) oZ oZ oZ
     rw [hs3] at E
     have hR3 : Rd C 1 (.slice ad3 (s.at_ + 2 + zBv (s.cut 2 0) - (s.at_ + 2)) c3) (s.cut (zBv (s.cut 2 0)) 2).length (byt (s.cut (zBv (s.cut 2 0)) 2)) := by { rw [hcl2]; generalize zBv (s.cut 2 0) = k at *; simpa [zEs, zGd, Rdr.cut, Nat.add_sub_cancel_left] using hR3 }
     refine zm E rfl (fun w h => zBh E rfl rfl rfl rfl rfl (bs := s.cut (zBv (s.cut 2 0)) 2) hR3 (h.at mZ)) ?_; clear E a; intro a E
     refine zmd E ?_; clear E a; intro a E
     refine zBi ?_
     refine zAb hK ?_; clear hK K
     refine wp_seq_k ?_; intro K hK
     replace E := E.keep (e' := [(0, _), (4, _), (5, _), (6, _)]) (kE4 rfl rfl rfl rfl)
     refine zAa ?_
     iterate 3 (refine zd E ?_; clear E a; intro a E)
     refine zp E (by first | exact zAc (q := 1) E rfl rfl rfl | exact zAd (q := 1) E rfl rfl rfl) ?_; clear E a; intro a E
     refine zd E ?_; clear E a; intro a E
     refine zp E (zBc E rfl rfl rfl (by first | exact zBq (y := 2) oZ | exact w_in oZ | exact zBb oZ | exact rfl)) ?_; clear E a; intro a E
     refine zd E ?_; clear E a; intro a E
     refine zp E (zBc E rfl rfl rfl (by first | exact wa1 oZ | exact w_in oZ | exact zBb oZ | exact rfl)) ?_; clear E a; intro a E
     refine zd E ?_; clear E a; intro a E
     refine zp E (by first | exact zAc (q := 1) E rfl rfl rfl | exact zAd (q := 1) E rfl rfl rfl) ?_; clear E a; intro a E
     refine zAg rfl (zAv E S rfl rfl rfl rfl rfl rfl pZ (by first | exact Nat.le_of_ble_eq_true rfl | (simp; done) | (simp; omega)) ?_); clear E S a; intro a w E S; try dsimp only [List.set] at S
     refine wpList_nil ?_
     refine zAb hK ?_; clear hK K
     refine wp_seq_k ?_; intro K hK
     refine zAa ?_
     iterate 2 (refine zd E ?_; clear E a; intro a E)
     refine wpList_nil ?_
     refine zAb hK ?_; clear hK K
     refine wp_ret ?_
     refine ret1 E rfl rfl ?_
     have hv : s.text most = (s.cut (zBv (s.cut 2 0)) 2, { s with at_ := s.at_ + (2 + zBv (s.cut 2 0)) }) := by simp [Rdr.text, he, show ¬ s.bs.length < s.at_ + 2 by omega, show ¬ most < (zBv (s.cut 2 0) : Int) by omega, show ¬ s.bs.length < s.at_ + 2 + zBv (s.cut 2 0) by omega]
     rw [Nat.add_assoc] at S
     exact ⟨_, rfl, _, by rw [hv], by rw [hv]; exact ⟨by simp only; omega, hlen, ad, c, C, rfl, hc, hR⟩, S.join.tr⟩
end Go.Proofs.YtbogecljkaimdaaGreatDoor
namespace Go.Proofs.YtbogecljkaimdaaGreatDoor
open Go.Sl
set_option maxRecDepth 10000
theorem zGz (z : Int) (h0 : 0 ≤ z) (h1 : z ≤ 255) {D : zAl} {v : Value} {b : List UInt8} (hD : Rd D 1 v b.length (byt b)) (hbl : b.length ≤ 140737488351300) (s : Fs) (hok : s.Ok) {As : List zAl} (mD : D ∈ As) (hG0 : Tab As 0 sha0.l) (hG1 : Tab As 1 shaK) (w0 : World) (H : Hp w0 As) :
  Ret Tryz.prog 18 #[.int .i64 z, v, s.agg] w0 fun u w' => ∃ v' C, u = .tuple #[v', (ownS z b s).agg] ∧ BB C v' (zCt z b s) ∧ Trs w0 w' As (C :: As) := by
 obtain ⟨k, rfl⟩ : ∃ k : Nat, z = k := ⟨z.toNat, by omega⟩
 exact usealed_ret k oZ hD hbl s hok mD hG0 hG1 w0 H
noncomputable def encR (r : Rec) (s : Fs) : Int × List UInt8 × Fs := if ckB r = true then (0, zCt r.kind (zEx r.kind r) s, ownS r.kind (zEx r.kind r) s) else (200, [], zFx)
def encQ (x : Int × List UInt8 × Fs) (As : List zAl) (w0 : World) (u : Value) (w' : World) : Prop := ∃ v D, u = .tuple #[v, x.2.2.agg, .int .i64 x.1] ∧ BB D v x.2.1 ∧ Trs w0 w' As (D :: As)
theorem encR_yes {r : Rec} (h : ckB r = true) (s : Fs) : encR r s = (0, zCt r.kind (zEx r.kind r) s, ownS r.kind (zEx r.kind r) s) := by rw [encR, if_pos h]
theorem encR_no {r : Rec} (h : ckB r = false) (s : Fs) : encR r s = (200, [], zFx) := by rw [encR, if_neg (by rw [h]; decide)]
theorem trs_addNil {w w' : World} {As Bs : List zAl} (h : Trs w w' As Bs) : Trs w w' As ([] :: Bs) := by simpa [Trs] using h
theorem encP_Q {r : Rec} {s : Fs} {As : List zAl} {w0 : World} {u : Value} {w' : World} (h : encP r s As w0 u w') : encQ (encR r s) As w0 u w' := by
 rcases h with ⟨h, rfl, hT⟩ | ⟨h, v, D, rfl, hB, hT⟩
 ·rw [encR_no h]; exact ⟨_, [], rfl, Buf.nil _ _, trs_addNil hT⟩
 ·rw [encR_yes h]; exact ⟨v, D, rfl, hB, hT⟩
end Go.Proofs.YtbogecljkaimdaaGreatDoor
namespace Go.Proofs.YtbogecljkaimdaaGreatDoor
open Go.Sl
set_option maxRecDepth 10000
theorem ukeep_ret (p : Nat) (s : Rdr) (A : zAl) (hA : RdC 118 p s A) (size : Nat) (less : Int) (h4 : size ≤ 4) (hl : 0 ≤ less ∧ less ≤ 1) (w0 : World) (H : Hp w0 [A]) :
  Ret Tryz.prog 109 #[ptr p, .int .i64 size, .int .i64 less] w0 fun u w' => ∃ A' C, RdC 118 p (zFj s size less).2 A' ∧ Buf C 3 1 u (zFj s size less).1.length (ints (zFj s size less).1) ∧ Trs w0 w' [A] [A', C] := by
 have S := St.begin H
 have hn2 : (s.num 2).1 < 65536 := zCk s 2
 refine zEz 34 Tryz.func109 rfl rfl dZ ?_; intro a E
 refine wp_seq_k ?_; intro K hK
 refine zAa ?_
 refine zd E ?_; clear E a; intro a E
 refine wpList_nil ?_
 refine zAb hK ?_; clear hK K
 refine wp_seq_k ?_; intro K hK
 refine zAa ?_
 refine zd E ?_; clear E a; intro a E
 refine wpList_nil ?_
 refine zAb hK ?_; clear hK K
 refine wp_seq_k ?_; intro K hK
 refine zAa ?_
 refine zd E ?_; clear E a; intro a E
 refine zAh E rfl rfl dZ rfl Tryz.func107 rfl yZ rfl (zDw p s A _ hA (S.hp.sel sZ) 2) ?_
 rintro v12 w ⟨A1, rfl, hA1, hT⟩; clear E a; intro a E
 replace S := S.call1 sZ hT; obtain ⟨n, hn⟩ : ∃ n, n = (s.num 2).1 := ⟨_, rfl⟩; rw [← hn] at E hn2; obtain ⟨q, hq⟩ : ∃ q, q = min n 241 := ⟨_, rfl⟩
 refine zd E ?_; clear E a; intro a E
 refine wpList_nil ?_
 refine zAb hK ?_; clear hK K
 iterate 2 (refine wp_seq_k ?_; intro K hK)
 refine zAa ?_
 refine zd E ?_; clear E a; intro a E
 refine wpList_nil ?_
 refine zAb hK ?_; clear hK K
 refine wp_block ?_
 refine wp_loop_ghost (fun (m : Nat) (a : Act) (w' : World) => ∃ (i : Nat) (A' C : zAl) (v : Value), m = q - i ∧ i ≤ q ∧ RdC 118 p (zFh size less (s.num 2).2 i).2 A' ∧ Buf C 3 1 v i (ints (zFh size less (s.num 2).2 i).1) ∧ St w0 [A] w' [A', C] ∧ Fr a 34 [(0, ptr p), (1, .int .i64 size), (2, .int .i64 less), (6, nilv), (7, v), (8, .int .u64 n), (9, .int .i64 i)]) (q) ?_ ?_
 ·exact ⟨0, A1, [], _, by omega, by omega, hA1, Buf.nil _ _, S.addNil.perm2, E.keep (kE7 rfl rfl rfl rfl rfl rfl rfl)⟩
 clear E; clear a; (try clear S); rintro m a w ⟨i, A', C, v, rfl, hi, hA', hB, S, E⟩
 iterate 2 (refine wp_seq_k ?_; intro K hK)
 refine zDd (fun (a : Act) (w' : World) => ∃ z, (z = true ↔ i < q) ∧ St w0 [A] w' [A', C] ∧ Fr a 34 [(0, ptr p), (1, .int .i64 size), (2, .int .i64 less), (6, nilv), (7, v), (8, .int .u64 n), (9, .int .i64 i), (20, .bool z)]) ?_ ?_
 ·skip
  refine zAa ?_
  iterate 2 (refine zd E ?_; clear E a; intro a E)
  refine zp E (by first | exact zAo E rfl rfl rfl rfl (by first | exact wu8 _ | exact zCz oZ | exact zCe oZ | exact w_in oZ | exact zBb oZ | exact rfl) | exact zBh E rfl rfl rfl rfl rfl (by assumption) (S.stab.at (by simp))) ?_; clear E a; intro a E
  iterate 2 (refine zd E ?_; clear E a; intro a E)
  refine zAj E (t := 17) rfl (fun hb17 => ?_) (fun hb17 => ?_)
  ·have hb17n := hb17; replace hb17n := Nrm.nrm hb17n
   iterate 2 (refine zyd E hb17 ?_; clear E a; intro a E)
   refine zp E (zAf E rfl rfl hb17 rfl) ?_; clear E a; intro a E
   refine wpList_nil ?_
   refine zAk ?_
   exact ⟨_, ⟨fun q => by first | omega | (simp only [decide_eq_true_eq] at q; omega) | (simp at q; omega) | exact Bool.noConfusion q, fun q => by first | rfl | (simp only [decide_eq_true_eq]; omega) | (exfalso; omega) | (simp; omega)⟩, S, E.keep (kE8 rfl rfl rfl rfl rfl rfl rfl rfl)⟩
  ·have hb17n := hb17; replace hb17n := Nrm.nrm hb17n
   iterate 2 (refine zn E hb17 ?_; clear E a; intro a E)
   refine zp E (zAe E rfl rfl hb17 rfl) ?_; clear E a; intro a E
   refine wpList_nil ?_
   refine zAk ?_
   exact ⟨_, ⟨fun q => by first | omega | (simp only [decide_eq_true_eq] at q; omega) | (simp at q; omega) | exact Bool.noConfusion q, fun q => by first | rfl | (simp only [decide_eq_true_eq]; omega) | (exfalso; omega) | (simp; omega)⟩, S, E.keep (kE8 rfl rfl rfl rfl rfl rfl rfl rfl)⟩
 ·clear E S a; intro a w J; obtain ⟨z, hz, S, E⟩ := J
  refine zAb hK ?_; clear hK K
  refine zAs E rfl (fun hb => ?_) (fun hb => ?_)
  ·replace hb := Nrm.nrm hb
   have hiq := hz.1 hb
   refine wp_skip ?_
   refine zAb hK ?_; clear hK K
   refine wp_seq_k ?_; intro K hK
   refine wp_block ?_
   refine wp_seq_k ?_; intro K hK
   have hlt : ((zFh size less (s.num 2).2 i).2.num size).1 < 4294967296 := Nat.lt_of_lt_of_le (zCk _ size) (Nat.pow_le_pow_right (n := 256) oZ h4)
   refine zAa ?_
   iterate 2 (refine zd E ?_; clear E a; intro a E)
   refine zAh E rfl rfl dZ rfl Tryz.func107 rfl yZ rfl (zDw p _ A' _ hA' (S.hp.sel sZ) size) ?_
   rintro v25 w ⟨A2, rfl, hA2, hT⟩; clear E a; intro a E
   replace S := S.call1 sZ hT; obtain ⟨x, hx⟩ : ∃ x, x = ((zFh size less (s.num 2).2 i).2.num size).1 := ⟨_, rfl⟩; rw [← hx] at E hlt
   refine zd E ?_; clear E a; intro a E
   refine wpList_nil ?_
   refine zAb hK ?_; clear hK K
   refine zAa ?_
   iterate 2 (refine zd E ?_; clear E a; intro a E)
   refine zp E (by first | exact zAo E rfl rfl rfl rfl (by first | exact wu8 _ | exact zCz oZ | exact zCe oZ | exact w_in oZ | exact zBb oZ | exact rfl) | exact zBh E rfl rfl rfl rfl rfl (by assumption) (S.stab.at (by simp))) ?_; clear E a; intro a E
   refine zd E ?_; clear E a; intro a E
   refine zp E (zCv E rfl rfl rfl (w_in oZ)) ?_; clear E a; intro a E
   refine zAg rfl (zCm (cells := [_]) E S rfl rfl dZ rfl rfl rfl rfl rfl dZ rfl ?_); clear E S a; intro a w b31 E S
   refine zAg rfl (zBu (by' := 8) E S rfl rfl dZ rfl rfl hB pZ ((zEa (g := b31) (T := 3) (xs := [.int .i64 ((x : Int) - less)]) (s := 1) (m := 1) rfl (by simp [Value.oneCell']) oZ 1).src (S.stab.at mZ) rfl) rfl rfl rfl rfl rfl rfl (by simp only [maxLen]; omega) oZ ?_); clear E S a; intro a w v32 C32 E S hB32
   refine zd E ?_; clear E a; intro a E
   refine wpList_nil ?_
   refine zAr ?_
   refine zAb hK ?_; clear hK K
   refine zAa ?_
   refine zd E ?_; clear E a; intro a E
   refine zp E (zBc E rfl rfl rfl (by first | exact zBq (y := 1) oZ | exact w_in oZ | exact zBb oZ | exact rfl)) ?_; clear E a; intro a E
   refine zd E ?_; clear E a; intro a E
   refine wpList_nil ?_
   refine zAy ?_
   have hB2 : Buf C32 3 1 v32 (i + 1) (ints (zFh size less (s.num 2).2 (i + 1)).1) := by
    rw [zFh, ← hx]; simp only [ints, List.map_append]; exact hB32
   exact ⟨_, by omega, i + 1, A2, C32, v32, rfl, by omega, hA2, hB2, (St.drops2 [_] (S.front2 (A := A2) (B := C32) pZ pZ)), E.keep (kE7 rfl rfl rfl rfl rfl rfl rfl)⟩
  ·replace hb := Nrm.nrm hb
   have hiq : ¬ i < q := fun h => by rw [hz.2 h] at hb; cases hb
   refine wp_exit ?_
   refine zAp ?_; clear hK K
   refine zAp ?_
   refine zBr ?_
   refine zAb hK ?_; clear hK K
   refine wp_seq_k ?_; intro K hK
   refine zAa ?_
   iterate 2 (refine zd E ?_; clear E a; intro a E)
   refine wpList_nil ?_
   refine zAb hK ?_; clear hK K
   refine wp_ret ?_
   refine ret1 E rfl rfl ?_
   obtain rfl : i = q := by omega
   have hk : zFj s size less = zFh size less (s.num 2).2 i := by rw [zFj, ← hn, ← hq]
   rw [hk, zKf]
   exact ⟨_, rfl, A', C, hA', hB, S.tr⟩
theorem ubegun_ret (p : Nat) (s : Rdr) (A : zAl) (hA : RdC 118 p s A) (w0 : World) (H : Hp w0 [A]) :
  Ret Tryz.prog 108 #[ptr p] w0 fun u w' => ∃ A' D pv kv dv, u = .agg ((zHs 2 s).1.cells pv kv dv).toArray ∧ RdC 118 p (zHs 2 s).2 A' ∧ zIx D (zHs 2 s).1 pv kv dv ∧ Trs w0 w' [A] [A', D] := by
 have S := St.begin H
 obtain ⟨x0, h0⟩ : ∃ x, x = s.text 240 := ⟨_, rfl⟩
 obtain ⟨x1, h1⟩ : ∃ x, x = x0.2.num 1 := ⟨_, rfl⟩
 obtain ⟨x2, h2⟩ : ∃ x, x = x1.2.num 6 := ⟨_, rfl⟩
 obtain ⟨x3, h3⟩ : ∃ x, x = x2.2.num 6 := ⟨_, rfl⟩
 obtain ⟨x4, h4⟩ : ∃ x, x = x3.2.num 1 := ⟨_, rfl⟩
 obtain ⟨x5, h5⟩ : ∃ x, x = x4.2.text 24 := ⟨_, rfl⟩
 obtain ⟨x6, h6⟩ : ∃ x, x = x5.2.num 1 := ⟨_, rfl⟩
 have n1 : x1.1 < 256 := by rw [h1]; exact zCk _ 1
 have n2 : x2.1 < 281474976710656 := by rw [h2]; exact zCk _ 6
 have n3 : x3.1 < 281474976710656 := by rw [h3]; exact zCk _ 6
 have n4 : x4.1 < 256 := by rw [h4]; exact zCk _ 1
 have n6 : x6.1 < 256 := by rw [h6]; exact zCk _ 1
 obtain ⟨r1, hr1⟩ : ∃ r1 : Rec, r1 = { zCy 2 with name := x0.1, typ := x1.1, frm := x2.1, guid := x3.1, origin := x4.1, snap := x5.1 } := ⟨_, rfl⟩
 have htk : zHs 2 s = ({ r1 with props := (prpS x6.2 x6.1).1 }, (prpS x6.2 x6.1).2) := by rw [hr1, h6, h5, h4, h3, h2, h1, h0]; rfl
 refine zCd 60 Tryz.func108 rfl rfl dZ ?_; intro a E
 refine wp_seq_k ?_; intro K hK
 refine zAa ?_
 refine zAg rfl (zBf E S rfl rfl dZ rfl rfl rfl ?_); clear E S a; intro a w b2 E S
 refine wpList_nil ?_
 refine zAb hK ?_; clear hK K
 refine wp_seq_k ?_; intro K hK
 refine zAa ?_
 refine zp E (zBp (cells := [_, _, _, _, _, _, _, _, _, _, _, _, _]) E rfl rfl rfl) ?_; clear E a; intro a E
 refine zAg rfl (zBf E S rfl rfl dZ rfl rfl rfl ?_); clear E S a; intro a w b3 E S
 refine zAg rfl (zAq E S rfl rfl rfl rfl (by simp [Value.oneCell']) rfl pZ (by simp) ?_); clear E S a; intro a w E S; simp only [List.take_succ_cons, List.take_zero, List.drop_succ_cons, List.drop_zero, List.cons_append, List.nil_append, List.append_nil, List.length_cons, List.length_nil, Nat.zero_add, Nat.add_zero] at S
 refine wpList_nil ?_
 refine zAb hK ?_; clear hK K
 refine wp_seq_k ?_; intro K hK
 refine zAa ?_
 refine zd E ?_; clear E a; intro a E
 refine zAh E rfl rfl dZ rfl Tryz.func106 rfl yZ rfl (zGy p s A _ hA (S.hp.sel sZ) 240) ?_
 rintro v14 w ⟨A1, rfl, hA1, hT⟩; clear E a; intro a E
 replace S := S.call1 sZ hT; rw [← h0] at E hA1
 refine zp E (by first | exact zAc (q := 1) E rfl rfl rfl | exact zAd (q := 1) E rfl rfl rfl) ?_; clear E a; intro a E
 refine zAg rfl (zAv E S rfl rfl rfl rfl rfl rfl pZ (by first | exact Nat.le_of_ble_eq_true rfl | (simp; done) | (simp; omega)) ?_); clear E S a; intro a w E S; try dsimp only [List.set] at S
 refine wpList_nil ?_
 refine zAb hK ?_; clear hK K
 refine wp_seq_k ?_; intro K hK
 refine zAa ?_
 refine zd E ?_; clear E a; intro a E
 refine zAh E rfl rfl dZ rfl Tryz.func107 rfl yZ rfl (zDw p _ A1 _ hA1 (S.hp.sel sZ) 1) ?_
 rintro v17 w ⟨A2, rfl, hA2, hT⟩; clear E a; intro a E
 replace S := S.call1 sZ hT; rw [← h1] at E hA2
 refine zd E ?_; clear E a; intro a E
 refine wpList_nil ?_
 refine zAb hK ?_; clear hK K
 refine wp_seq_k ?_; intro K hK
 refine zAa ?_
 refine zd E ?_; clear E a; intro a E
 refine zAh E rfl rfl dZ rfl Tryz.func107 rfl yZ rfl (zDw p _ A2 _ hA2 (S.hp.sel sZ) 6) ?_
 rintro v19 w ⟨A3, rfl, hA3, hT⟩; clear E a; intro a E
 replace S := S.call1 sZ hT; rw [← h2] at E hA3
 refine zd E ?_; clear E a; intro a E
 refine wpList_nil ?_
 refine zAb hK ?_; clear hK K
 refine wp_seq_k ?_; intro K hK
 refine zAa ?_
 refine zd E ?_; clear E a; intro a E
 refine zAh E rfl rfl dZ rfl Tryz.func107 rfl yZ rfl (zDw p _ A3 _ hA3 (S.hp.sel sZ) 6) ?_
 rintro v21 w ⟨A4, rfl, hA4, hT⟩; clear E a; intro a E
 replace S := S.call1 sZ hT; rw [← h3] at E hA4
 refine zd E ?_; clear E a; intro a E
 refine wpList_nil ?_
 refine zAb hK ?_; clear hK K
 refine wp_seq_k ?_; intro K hK
 refine zAa ?_
 refine zd E ?_; clear E a; intro a E
 refine zAh E rfl rfl dZ rfl Tryz.func107 rfl yZ rfl (zDw p _ A4 _ hA4 (S.hp.sel sZ) 1) ?_
 rintro v23 w ⟨A5, rfl, hA5, hT⟩; clear E a; intro a E
 replace S := S.call1 sZ hT; rw [← h4] at E hA5
 refine zd E ?_; clear E a; intro a E
 refine wpList_nil ?_
 refine zAb hK ?_; clear hK K
 refine wp_seq_k ?_; intro K hK
 refine zAa ?_
 refine zd E ?_; clear E a; intro a E
 refine zp E (by first | exact zAo E rfl rfl rfl rfl (by first | exact wu8 _ | exact zCz oZ | exact zCe oZ | exact w_in oZ | exact zBb oZ | exact rfl) | exact zBh E rfl rfl rfl rfl rfl (by assumption) (S.stab.at (by simp))) ?_; clear E a; intro a E
 refine zd E ?_; clear E a; intro a E
 refine zp E (by first | exact zAo E rfl rfl rfl rfl (by first | exact wu8 _ | exact zCz oZ | exact zCe oZ | exact w_in oZ | exact zBb oZ | exact rfl) | exact zBh E rfl rfl rfl rfl rfl (by assumption) (S.stab.at (by simp))) ?_; clear E a; intro a E
 refine zd E ?_; clear E a; intro a E
 refine zp E (by first | exact zAo E rfl rfl rfl rfl (by first | exact wu8 _ | exact zCz oZ | exact zCe oZ | exact w_in oZ | exact zBb oZ | exact rfl) | exact zBh E rfl rfl rfl rfl rfl (by assumption) (S.stab.at (by simp))) ?_; clear E a; intro a E
 refine zd E ?_; clear E a; intro a E
 refine zp E (by first | exact zAo E rfl rfl rfl rfl (by first | exact wu8 _ | exact zCz oZ | exact zCe oZ | exact w_in oZ | exact zBb oZ | exact rfl) | exact zBh E rfl rfl rfl rfl rfl (by assumption) (S.stab.at (by simp))) ?_; clear E a; intro a E
 refine zp E (by first | exact zAc (q := 2) E rfl rfl rfl | exact zAd (q := 2) E rfl rfl rfl) ?_; clear E a; intro a E
 refine zAg rfl (zAv E S rfl rfl rfl rfl rfl rfl pZ (by first | exact Nat.le_of_ble_eq_true rfl | (simp; done) | (simp; omega)) ?_); clear E S a; intro a w E S; try dsimp only [List.set] at S
 refine zp E (by first | exact zAc (q := 3) E rfl rfl rfl | exact zAd (q := 3) E rfl rfl rfl) ?_; clear E a; intro a E
 refine zAg rfl (zAv E S rfl rfl rfl rfl rfl rfl pZ (by first | exact Nat.le_of_ble_eq_true rfl | (simp; done) | (simp; omega)) ?_); clear E S a; intro a w E S; try dsimp only [List.set] at S
 refine zp E (by first | exact zAc (q := 4) E rfl rfl rfl | exact zAd (q := 4) E rfl rfl rfl) ?_; clear E a; intro a E
 refine zAg rfl (zAv E S rfl rfl rfl rfl rfl rfl pZ (by first | exact Nat.le_of_ble_eq_true rfl | (simp; done) | (simp; omega)) ?_); clear E S a; intro a w E S; try dsimp only [List.set] at S
 refine zp E (by first | exact zAc (q := 5) E rfl rfl rfl | exact zAd (q := 5) E rfl rfl rfl) ?_; clear E a; intro a E
 refine zAg rfl (zAv E S rfl rfl rfl rfl rfl rfl pZ (by first | exact Nat.le_of_ble_eq_true rfl | (simp; done) | (simp; omega)) ?_); clear E S a; intro a w E S; try dsimp only [List.set] at S
 refine wpList_nil ?_
 refine zAb hK ?_; clear hK K
 refine wp_seq_k ?_; intro K hK
 replace E := E.keep (e' := [(0, _), (2, _), (3, _)]) (kE3 rfl rfl rfl)
 refine zAa ?_
 refine zd E ?_; clear E a; intro a E
 refine zAh E rfl rfl dZ rfl Tryz.func106 rfl yZ rfl (zGy p _ A5 _ hA5 (S.hp.sel sZ) 24) ?_
 rintro v37 w ⟨A6, rfl, hA6, hT⟩; clear E a; intro a E
 replace S := S.call1 sZ hT; rw [← h5] at E hA6
 refine zp E (by first | exact zAc (q := 6) E rfl rfl rfl | exact zAd (q := 6) E rfl rfl rfl) ?_; clear E a; intro a E
 refine zAg rfl (zAv E S rfl rfl rfl rfl rfl rfl pZ (by first | exact Nat.le_of_ble_eq_true rfl | (simp; done) | (simp; omega)) ?_); clear E S a; intro a w E S; try dsimp only [List.set] at S
 refine wpList_nil ?_
 refine zAb hK ?_; clear hK K
 refine wp_seq_k ?_; intro K hK
 refine zAa ?_
 refine zd E ?_; clear E a; intro a E
 refine zAh E rfl rfl dZ rfl Tryz.func107 rfl yZ rfl (zDw p _ A6 _ hA6 (S.hp.sel sZ) 1) ?_
 rintro v40 w ⟨A7, rfl, hA7, hT⟩; clear E a; intro a E
 replace S := S.call1 sZ hT; rw [← h6] at E hA7
 refine zd E ?_; clear E a; intro a E
 refine wpList_nil ?_
 refine zAb hK ?_; clear hK K
 iterate 2 (refine wp_seq_k ?_; intro K hK)
 refine zAa ?_
 refine zd E ?_; clear E a; intro a E
 refine wpList_nil ?_
 refine zAb hK ?_; clear hK K
 refine wp_block ?_
 refine wp_loop_ghost (fun (m : Nat) (a : Act) (w' : World) => ∃ (i : Nat) (A' D1 : zAl) (v : Value), m = x6.1 - i ∧ i ≤ x6.1 ∧ RdC 118 p (prpS x6.2 i).2 A' ∧ Buf D1 70 2 v i ((prpS x6.2 i).1.flatMap Prp.lay) ∧ St w0 [A] w' [A', [(b3, cel [.int .i64 2, str x0.1, .int .i64 x1.1, .int .i64 x2.1, .int .i64 x3.1, .int .i64 x4.1, str x5.1, v, .int .i64 0, .int .i64 0, .int .i64 0, nilv, nilv] 26)], D1, [(b2, cel [.int .i64 0, str [], .int .i64 0, .int .i64 0, .int .i64 0, .int .i64 0, str [], nilv, .int .i64 0, .int .i64 0, .int .i64 0, nilv, nilv] 26)]] ∧ Fr a 60 [(0, ptr p), (2, ptr b2), (3, ptr b3), (8, .int .u64 x6.1), (9, .int .i64 i)]) (x6.1) ?_ ?_
 ·exact ⟨0, A7, [], nilv, by omega, by omega, hA7, Buf.nil _ _, S.addNil.perm (Bs := [A7, [(b3, _)], [], [(b2, _)]]) (zBa pZ (zBa pZ (zBa pZ (zBa pZ (zDc _))))), E.keep (kE5 rfl rfl rfl rfl rfl)⟩
 clear E; clear a; (try clear S); rintro m a w ⟨i, A', D1, v, rfl, hi, hA', hB, S, E⟩
 iterate 2 (refine wp_seq_k ?_; intro K hK)
 refine zAa ?_
 iterate 2 (refine zd E ?_; clear E a; intro a E)
 refine zp E (by first | exact zAo E rfl rfl rfl rfl (by first | exact wu8 _ | exact zCz oZ | exact zCe oZ | exact w_in oZ | exact zBb oZ | exact rfl) | exact zBh E rfl rfl rfl rfl rfl (by assumption) (S.stab.at (by simp))) ?_; clear E a; intro a E
 refine zd E ?_; clear E a; intro a E
 refine wpList_nil ?_
 refine zAb hK ?_; clear hK K
 refine zAs E rfl (fun hb => ?_) (fun hb => ?_)
 ·replace hb := Nrm.nrm hb
  refine wp_skip ?_
  refine zAb hK ?_; clear hK K
  refine wp_seq_k ?_; intro K hK
  refine wp_block ?_
  refine wp_seq_k ?_; intro K hK
  obtain ⟨adv, cv, rfl⟩ := hB.slice
  refine zAa ?_
  refine zd E ?_; clear E a; intro a E
  refine zAh E rfl rfl dZ rfl Tryz.func106 rfl yZ rfl (zGy p _ A' _ hA' (S.hp.sel sZ) 24) ?_
  rintro v48 w ⟨B1, rfl, hB1, hT⟩; clear E a; intro a E
  replace S := S.call1 sZ hT; obtain ⟨y, hy⟩ : ∃ y, y = (prpS x6.2 i).2.text 24 := ⟨_, rfl⟩; rw [← hy] at E hB1
  refine zd E ?_; clear E a; intro a E
  refine wpList_nil ?_
  refine zAb hK ?_; clear hK K
  refine wp_seq_k ?_; intro K hK
  refine zAa ?_
  refine zd E ?_; clear E a; intro a E
  refine zAh E rfl rfl dZ rfl Tryz.func106 rfl yZ rfl (zGy p _ B1 _ hB1 (S.hp.sel sZ) 64) ?_
  rintro v50 w ⟨B2, rfl, hB2, hT⟩; clear E a; intro a E
  replace S := S.call1 sZ hT; obtain ⟨z, hz⟩ : ∃ z, z = y.2.text 64 := ⟨_, rfl⟩; rw [← hz] at E hB2
  refine zd E ?_; clear E a; intro a E
  refine wpList_nil ?_
  refine zAb hK ?_; clear hK K
  refine zAa ?_
  refine zp E (by first | exact zAc (q := 7) E rfl rfl rfl | exact zAd (q := 7) E rfl rfl rfl) ?_; clear E a; intro a E
  iterate 3 (refine zd E ?_; clear E a; intro a E)
  refine zp E (zBp (cells := [_, _]) E rfl rfl rfl) ?_; clear E a; intro a E
  refine zAg rfl (zCm (cells := [_, _]) E S rfl rfl dZ rfl rfl rfl rfl rfl dZ rfl ?_); clear E S a; intro a w b56 E S
  refine zAg rfl (zBu (by' := 32) E S rfl rfl dZ rfl rfl hB pZ ((zEa (g := b56) (T := 70) (xs := [str y.1, str z.1]) (s := 2) (m := 1) rfl (by simp [Value.oneCell']) oZ 1).src (S.stab.at mZ) rfl) rfl rfl rfl rfl rfl rfl (by simp only [maxLen]; omega) oZ ?_); clear E S a; intro a w v57 C57 E S hB57
  obtain ⟨ad2, c2, rfl⟩ := hB57.slice
  refine zp E (by first | exact zAc (q := 7) E rfl rfl rfl | exact zAd (q := 7) E rfl rfl rfl) ?_; clear E a; intro a E
  refine zAg rfl (zAv E S rfl rfl rfl rfl rfl rfl pZ (by first | exact Nat.le_of_ble_eq_true rfl | (simp; done) | (simp; omega)) ?_); clear E S a; intro a w E S; try dsimp only [List.set] at S
  refine wpList_nil ?_
  refine zAr ?_
  refine zAb hK ?_; clear hK K
  refine zAa ?_
  refine zd E ?_; clear E a; intro a E
  refine zp E (zBc E rfl rfl rfl (by first | exact zBq (y := 1) oZ | exact w_in oZ | exact zBb oZ | exact rfl)) ?_; clear E a; intro a E
  refine zd E ?_; clear E a; intro a E
  refine wpList_nil ?_
  refine zAy ?_
  have hps : prpS x6.2 (i + 1) = ((prpS x6.2 i).1 ++ [⟨y.1, z.1⟩], z.2) := by rw [prpS, ← hy, ← hz]
  have hB2' : Buf C57 70 2 (.slice ad2 (i + 1) c2) (i + 1) ((prpS x6.2 (i + 1)).1.flatMap Prp.lay) := by
   rw [hps, List.flatMap_append]; exact hB57
  exact ⟨_, by omega, i + 1, B2, C57, _, rfl, by omega, by rw [hps]; exact hB2, hB2', S.only (Bs := [B2, [(b3, _)], C57, [(b2, _)]]) sZ, E.keep (kE5 rfl rfl rfl rfl rfl)⟩
 ·replace hb := Nrm.nrm hb
  refine wp_exit ?_
  refine zAp ?_; clear hK K
  refine zAp ?_
  refine zBr ?_
  refine zAb hK ?_; clear hK K
  refine wp_seq_k ?_; intro K hK
  obtain ⟨adv, cv, rfl⟩ := hB.slice
  refine zAa ?_
  refine zp E (zAz (vs := [_, _, _, _, _, _, _, _, _, _, _, _, _]) E rfl rfl rfl (S.get pZ) rfl rfl) ?_; clear E a; intro a E
  refine zAg rfl (zAq E S rfl rfl rfl rfl (by simp [Value.oneCell']) rfl pZ (by simp) ?_); clear E S a; intro a w E S; simp only [List.take_succ_cons, List.take_zero, List.drop_succ_cons, List.drop_zero, List.cons_append, List.nil_append, List.append_nil, List.length_cons, List.length_nil, Nat.zero_add, Nat.add_zero] at S
  refine wpList_nil ?_
  refine zAb hK ?_; clear hK K
  refine wp_ret ?_
  refine zFu E rfl rfl (S.get pZ) rfl ?_
  obtain rfl : i = x6.1 := by omega
  rw [htk]
  subst hr1
  exact ⟨_, rfl, A', D1, .slice adv x6.1 cv, nilv, nilv, rfl, hA', ⟨D1, [], [], by simp, by show Buf D1 _ 2 _ (prpS x6.2 x6.1).1.length _; rw [prpS_len]; exact hB, Buf.nil _ _, Buf.nil _ _⟩, (S.only (Bs := [A', D1]) sZ).tr⟩
set_option maxHeartbeats 1000000 in
theorem utold_ret (k : Int) (hk : inK k) (p : Nat) (s : Rdr) (A : zAl) (hA : RdC 118 p s A) (w0 : World) (H : Hp w0 [A]) :
  Ret Tryz.prog 83 #[.int .i64 k, ptr p] w0 fun u w' => ∃ A' D pv kv dv, u = .agg ((zEj k s).1.cells pv kv dv).toArray ∧ RdC 118 p (zEj k s).2 A' ∧ zIx D (zEj k s).1 pv kv dv ∧ Trs w0 w' [A] [A', D] := by
 have S := St.begin H
 refine zBt 70 Tryz.func83 rfl rfl dZ ?_; intro a E
 refine wp_seq_k ?_; intro K hK
 refine zAa ?_
 refine zAg rfl (zBf E S rfl rfl dZ rfl rfl rfl ?_); clear E S a; intro a w b4 E S
 refine wpList_nil ?_
 refine zAb hK ?_; clear hK K
 refine wp_seq_k ?_; intro K hK
 refine zAa ?_
 refine zd E ?_; clear E a; intro a E
 refine zp E (zBp (cells := [_, _, _, _, _, _, _, _, _, _, _, _, _]) E rfl rfl rfl) ?_; clear E a; intro a E
 refine zAg rfl (zBf E S rfl rfl dZ rfl rfl rfl ?_); clear E S a; intro a w b5 E S
 refine zAg rfl (zAq E S rfl rfl rfl rfl (by simp [Value.oneCell']) rfl pZ (by simp) ?_); clear E S a; intro a w E S; simp only [List.take_succ_cons, List.take_zero, List.drop_succ_cons, List.drop_zero, List.cons_append, List.nil_append, List.append_nil, List.length_cons, List.length_nil, Nat.zero_add, Nat.add_zero] at S
 refine wpList_nil ?_
 refine zAb hK ?_; clear hK K
 iterate 2 (refine wp_seq_k ?_; intro K hK)
 refine zAa ?_
 refine zd E ?_; clear E a; intro a E
 refine wpList_nil ?_
 refine zAb hK ?_; clear hK K
 refine wp_block ?_
 refine wp_seq_k ?_; intro K hK
 refine zAa ?_
 iterate 2 (refine zd E ?_; clear E a; intro a E)
 refine wpList_nil ?_
 refine zAb hK ?_; clear hK K
 refine zAs E rfl (fun hb => ?_) (fun hb => ?_)
 ·replace hb := Nrm.nrm hb
  have hk1 : k = 1 := hb; have hn : ((s.text 24).2.num 2).1 < 65536 := zCk _ 2
  refine wp_seq_k ?_; intro K hK
  refine zAa ?_
  refine zd E ?_; clear E a; intro a E
  refine zAh E rfl rfl dZ rfl Tryz.func106 rfl yZ rfl (zGy p s A _ hA (S.hp.sel sZ) 24) ?_
  rintro v23 w ⟨A1, rfl, hA1, hT⟩; clear E a; intro a E
  have S := S.call1 sZ hT
  refine zp E (by first | exact zAc (q := 1) E rfl rfl rfl | exact zAd (q := 1) E rfl rfl rfl) ?_; clear E a; intro a E
  refine zAg rfl (zAv E S rfl rfl rfl rfl rfl rfl pZ (by first | exact Nat.le_of_ble_eq_true rfl | (simp; done) | (simp; omega)) ?_); clear E S a; intro a w E S; try dsimp only [List.set] at S
  refine wpList_nil ?_
  refine zAb hK ?_; clear hK K
  refine wp_seq_k ?_; intro K hK
  refine zAa ?_
  refine zd E ?_; clear E a; intro a E
  refine zAh E rfl rfl dZ rfl Tryz.func107 rfl yZ rfl (zDw p _ A1 _ hA1 (S.hp.sel sZ) 2) ?_
  rintro v26 w ⟨A2, rfl, hA2, hT⟩; clear E a; intro a E
  have S := S.call1 sZ hT
  refine zd E ?_; clear E a; intro a E
  refine wpList_nil ?_
  refine zAb hK ?_; clear hK K
  refine zAa ?_
  refine zd E ?_; clear E a; intro a E
  refine zp E (by first | exact zAo E rfl rfl rfl rfl (by first | exact wu8 _ | exact zCz oZ | exact zCe oZ | exact w_in oZ | exact zBb oZ | exact rfl) | exact zBh E rfl rfl rfl rfl rfl (by assumption) (S.stab.at (by simp))) ?_; clear E a; intro a E
  refine zp E (by first | exact zAc (q := 10) E rfl rfl rfl | exact zAd (q := 10) E rfl rfl rfl) ?_; clear E a; intro a E
  refine zAg rfl (zAv E S rfl rfl rfl rfl rfl rfl pZ (by first | exact Nat.le_of_ble_eq_true rfl | (simp; done) | (simp; omega)) ?_); clear E S a; intro a w E S; try dsimp only [List.set] at S
  refine wpList_nil ?_
  refine zAr ?_
  refine zAb hK ?_; clear hK K
  refine wp_seq_k ?_; intro K hK
  refine zAa ?_
  refine zp E (zAz (vs := [_, _, _, _, _, _, _, _, _, _, _, _, _]) E rfl rfl rfl (S.get pZ) rfl rfl) ?_; clear E a; intro a E
  refine zAg rfl (zAq E S rfl rfl rfl rfl (by simp [Value.oneCell']) rfl pZ (by simp) ?_); clear E S a; intro a w E S; simp only [List.take_succ_cons, List.take_zero, List.drop_succ_cons, List.drop_zero, List.cons_append, List.nil_append, List.append_nil, List.length_cons, List.length_nil, Nat.zero_add, Nat.add_zero] at S
  refine wpList_nil ?_
  refine zAb hK ?_; clear hK K
  refine wp_ret ?_
  refine zFu E rfl rfl (S.get pZ) rfl ?_
  subst hk1
  exact ⟨_, rfl, A2, [], nilv, nilv, nilv, rfl, hA2, ⟨[], [], [], rfl, Buf.nil _ _, Buf.nil _ _, Buf.nil _ _⟩, (S.only (Bs := [A2]) sZ).addNil.perm2.tr⟩
 ·replace hb := Nrm.nrm hb
  refine wp_seq_k ?_; intro K hK
  refine zAa ?_
  iterate 2 (refine zd E ?_; clear E a; intro a E)
  refine wpList_nil ?_
  refine zAb hK ?_; clear hK K
  refine zAs E rfl (fun hb => ?_) (fun hb => ?_)
  ·replace hb := Nrm.nrm hb
   have hk2 : k = 2 := hb
   refine wp_seq_k ?_; intro K hK
   refine zAa ?_
   refine zd E ?_; clear E a; intro a E
   refine zAh E rfl rfl dZ rfl Tryz.func108 rfl yZ rfl (ubegun_ret p s A hA _ (S.hp.sel sZ)) ?_
   rintro v33 w ⟨A1, D, pv, kv, dv, he, hA1, hD, hT⟩; clear E a; intro a E
   obtain ⟨rr, rd, htk⟩ : ∃ rr rd, zHs 2 s = (rr, rd) := ⟨_, _, rfl⟩; rw [htk] at he hA1 hD; simp only [Rec.cells] at he hA1 hD; subst he; have S := S.call2 sZ hT; obtain ⟨q1, k1, rfl⟩ := hD.rd.pr.slice; obtain ⟨q2, k2, rfl⟩ := hD.rd.kr.slice; obtain ⟨q3, k3, rfl⟩ := hD.rd.dr.slice
   refine zAg rfl (zAq E S rfl rfl rfl rfl (by simp [Value.oneCell']) rfl pZ (by simp) ?_); clear E S a; intro a w E S; simp only [List.take_succ_cons, List.take_zero, List.drop_succ_cons, List.drop_zero, List.cons_append, List.nil_append, List.append_nil, List.length_cons, List.length_nil, Nat.zero_add, Nat.add_zero] at S
   refine wpList_nil ?_
   refine zAb hK ?_; clear hK K
   refine wp_ret ?_
   refine zBw ?_
   refine zAn ?_; clear hK K
   refine zFu E rfl rfl (S.get pZ) rfl ?_
   subst hk2
   have e2 : zEj 2 s = (rr, rd) := htk
   rw [e2]
   exact ⟨_, rfl, A1, D, _, _, _, rfl, hA1, hD, (S.only (Bs := [A1, D]) sZ).tr⟩
  ·replace hb := Nrm.nrm hb
   refine wp_seq_k ?_; intro K hK
   refine zAa ?_
   iterate 2 (refine zd E ?_; clear E a; intro a E)
   refine wpList_nil ?_
   refine zAb hK ?_; clear hK K
   refine zAs E rfl (fun hb => ?_) (fun hb => ?_)
   ·replace hb := Nrm.nrm hb
    have hk3 : k = 3 := hb
    refine zAa ?_
    refine zd E ?_; clear E a; intro a E
    refine zAh E rfl rfl dZ rfl Tryz.func109 rfl yZ rfl (ukeep_ret p s A hA 4 0 oZ oZ _ (S.hp.sel sZ)) ?_
    rintro v37 w ⟨A1, C, hA1, hC, hT⟩; clear E a; intro a E
    have S := S.call2 sZ hT; obtain ⟨ad, c, rfl⟩ := hC.slice
    refine zp E (by first | exact zAc (q := 11) E rfl rfl rfl | exact zAd (q := 11) E rfl rfl rfl) ?_; clear E a; intro a E
    refine zAg rfl (zAv E S rfl rfl rfl rfl rfl rfl pZ (by first | exact Nat.le_of_ble_eq_true rfl | (simp; done) | (simp; omega)) ?_); clear E S a; intro a w E S; try dsimp only [List.set] at S
    refine wpList_nil ?_
    refine zAr ?_
    refine zAb hK ?_; clear hK K
    refine wp_seq_k ?_; intro K hK
    refine zAa ?_
    refine zp E (zAz (vs := [_, _, _, _, _, _, _, _, _, _, _, _, _]) E rfl rfl rfl (S.get pZ) rfl rfl) ?_; clear E a; intro a E
    refine zAg rfl (zAq E S rfl rfl rfl rfl (by simp [Value.oneCell']) rfl pZ (by simp) ?_); clear E S a; intro a w E S; simp only [List.take_succ_cons, List.take_zero, List.drop_succ_cons, List.drop_zero, List.cons_append, List.nil_append, List.append_nil, List.length_cons, List.length_nil, Nat.zero_add, Nat.add_zero] at S
    refine wpList_nil ?_
    refine zAb hK ?_; clear hK K
    refine wp_ret ?_
    refine zFu E rfl rfl (S.get pZ) rfl ?_
    subst hk3
    exact ⟨_, rfl, A1, C, nilv, _, nilv, rfl, hA1, ⟨[], C, [], by simp, Buf.nil _ _, hC, Buf.nil _ _⟩, (S.only (Bs := [A1, C]) sZ).tr⟩
   ·replace hb := Nrm.nrm hb
    refine wp_seq_k ?_; intro K hK
    refine zAa ?_
    iterate 2 (refine zd E ?_; clear E a; intro a E)
    refine wpList_nil ?_
    refine zAb hK ?_; clear hK K
    refine zAs E rfl (fun hb => ?_) (fun hb => ?_)
    ·replace hb := Nrm.nrm hb
     have hk4 : k = 4 := hb; have hn : (s.num 4).1 < 4294967296 := zCk _ 4
     refine wp_seq_k ?_; intro K hK
     refine zAa ?_
     refine zd E ?_; clear E a; intro a E
     refine zAh E rfl rfl dZ rfl Tryz.func107 rfl yZ rfl (zDw p s A _ hA (S.hp.sel sZ) 4) ?_
     rintro v42 w ⟨A1, rfl, hA1, hT⟩; clear E a; intro a E
     have S := S.call1 sZ hT
     refine zd E ?_; clear E a; intro a E
     refine wpList_nil ?_
     refine zAb hK ?_; clear hK K
     refine wp_seq_k ?_; intro K hK
     refine zAa ?_
     refine zd E ?_; clear E a; intro a E
     refine zp E (by first | exact zAo E rfl rfl rfl rfl (by first | exact wu8 _ | exact zCz oZ | exact zCe oZ | exact w_in oZ | exact zBb oZ | exact rfl) | exact zBh E rfl rfl rfl rfl rfl (by assumption) (S.stab.at (by simp))) ?_; clear E a; intro a E
     refine zp E (by first | exact zAc (q := 8) E rfl rfl rfl | exact zAd (q := 8) E rfl rfl rfl) ?_; clear E a; intro a E
     refine zAg rfl (zAv E S rfl rfl rfl rfl rfl rfl pZ (by first | exact Nat.le_of_ble_eq_true rfl | (simp; done) | (simp; omega)) ?_); clear E S a; intro a w E S; try dsimp only [List.set] at S
     refine wpList_nil ?_
     refine zAb hK ?_; clear hK K
     refine zAa ?_
     refine zd E ?_; clear E a; intro a E
     refine zAh E rfl rfl dZ rfl Tryz.func109 rfl yZ rfl (ukeep_ret p _ A1 hA1 2 1 oZ oZ _ (S.hp.sel sZ)) ?_
     rintro v47 w ⟨A2, C, hA2, hC, hT⟩; clear E a; intro a E
     have S := S.call2 sZ hT; obtain ⟨ad, c, rfl⟩ := hC.slice
     refine zp E (by first | exact zAc (q := 11) E rfl rfl rfl | exact zAd (q := 11) E rfl rfl rfl) ?_; clear E a; intro a E
     refine zAg rfl (zAv E S rfl rfl rfl rfl rfl rfl pZ (by first | exact Nat.le_of_ble_eq_true rfl | (simp; done) | (simp; omega)) ?_); clear E S a; intro a w E S; try dsimp only [List.set] at S
     refine wpList_nil ?_
     refine zAr ?_
     refine zAb hK ?_; clear hK K
     refine wp_seq_k ?_; intro K hK
     replace E := E.keep (e' := [(4, _), (5, _)]) (kE2 rfl rfl)
     refine zAa ?_
     refine zp E (zAz (vs := [_, _, _, _, _, _, _, _, _, _, _, _, _]) E rfl rfl rfl (S.get pZ) rfl rfl) ?_; clear E a; intro a E
     refine zAg rfl (zAq E S rfl rfl rfl rfl (by simp [Value.oneCell']) rfl pZ (by simp) ?_); clear E S a; intro a w E S; simp only [List.take_succ_cons, List.take_zero, List.drop_succ_cons, List.drop_zero, List.cons_append, List.nil_append, List.append_nil, List.length_cons, List.length_nil, Nat.zero_add, Nat.add_zero] at S
     refine wpList_nil ?_
     refine zAb hK ?_; clear hK K
     refine wp_ret ?_
     refine zFu E rfl rfl (S.get pZ) rfl ?_
     subst hk4
     exact ⟨_, rfl, A2, C, nilv, _, nilv, rfl, hA2, ⟨[], C, [], by simp, Buf.nil _ _, hC, Buf.nil _ _⟩, (S.only (Bs := [A2, C]) sZ).tr⟩
    ·replace hb := Nrm.nrm hb
     refine wp_seq_k ?_; intro K hK
     refine zAa ?_
     iterate 2 (refine zd E ?_; clear E a; intro a E)
     refine wpList_nil ?_
     refine zAb hK ?_; clear hK K
     refine zAs E rfl (fun hb => ?_) (fun hb => ?_)
     ·replace hb := Nrm.nrm hb
      have hk5 : k = 5 := hb; have hn : (s.num 4).1 < 4294967296 := zCk _ 4; have hn2 : ((s.num 4).2.num 2).1 < 65536 := zCk _ 2; have hn3 : (((s.num 4).2.num 2).2.num 2).1 < 65536 := zCk _ 2
      refine wp_seq_k ?_; intro K hK
      refine zAa ?_
      refine zd E ?_; clear E a; intro a E
      refine zAh E rfl rfl dZ rfl Tryz.func107 rfl yZ rfl (zDw p s A _ hA (S.hp.sel sZ) 4) ?_
      rintro v52 w ⟨A1, rfl, hA1, hT⟩; clear E a; intro a E
      have S := S.call1 sZ hT
      refine zd E ?_; clear E a; intro a E
      refine wpList_nil ?_
      refine zAb hK ?_; clear hK K
      refine wp_seq_k ?_; intro K hK
      refine zAa ?_
      refine zd E ?_; clear E a; intro a E
      refine zAh E rfl rfl dZ rfl Tryz.func107 rfl yZ rfl (zDw p _ A1 _ hA1 (S.hp.sel sZ) 2) ?_
      rintro v54 w ⟨A2, rfl, hA2, hT⟩; clear E a; intro a E
      have S := S.call1 sZ hT
      refine zd E ?_; clear E a; intro a E
      refine wpList_nil ?_
      refine zAb hK ?_; clear hK K
      refine wp_seq_k ?_; intro K hK
      refine zAa ?_
      refine zd E ?_; clear E a; intro a E
      refine zAh E rfl rfl dZ rfl Tryz.func107 rfl yZ rfl (zDw p _ A2 _ hA2 (S.hp.sel sZ) 2) ?_
      rintro v56 w ⟨A3, rfl, hA3, hT⟩; clear E a; intro a E
      have S := S.call1 sZ hT
      refine zd E ?_; clear E a; intro a E
      refine wpList_nil ?_
      refine zAb hK ?_; clear hK K
      refine wp_seq_k ?_; intro K hK
      replace E := E.keep (e' := [(1, _), (4, _), (5, _), (8, _), (9, _), (10, _)]) (kE6 rfl rfl rfl rfl rfl rfl)
      refine zAa ?_
      refine zd E ?_; clear E a; intro a E
      refine zp E (by first | exact zAo E rfl rfl rfl rfl (by first | exact wu8 _ | exact zCz oZ | exact zCe oZ | exact w_in oZ | exact zBb oZ | exact rfl) | exact zBh E rfl rfl rfl rfl rfl (by assumption) (S.stab.at (by simp))) ?_; clear E a; intro a E
      refine zd E ?_; clear E a; intro a E
      refine zp E (by first | exact zAo E rfl rfl rfl rfl (by first | exact wu8 _ | exact zCz oZ | exact zCe oZ | exact w_in oZ | exact zBb oZ | exact rfl) | exact zBh E rfl rfl rfl rfl rfl (by assumption) (S.stab.at (by simp))) ?_; clear E a; intro a E
      refine zp E (zCv E rfl rfl rfl (w_in oZ)) ?_; clear E a; intro a E
      refine zp E (by first | exact zAc (q := 8) E rfl rfl rfl | exact zAd (q := 8) E rfl rfl rfl) ?_; clear E a; intro a E
      refine zAg rfl (zAv E S rfl rfl rfl rfl rfl rfl pZ (by first | exact Nat.le_of_ble_eq_true rfl | (simp; done) | (simp; omega)) ?_); clear E S a; intro a w E S; try dsimp only [List.set] at S
      refine zp E (by first | exact zAc (q := 9) E rfl rfl rfl | exact zAd (q := 9) E rfl rfl rfl) ?_; clear E a; intro a E
      refine zAg rfl (zAv E S rfl rfl rfl rfl rfl rfl pZ (by first | exact Nat.le_of_ble_eq_true rfl | (simp; done) | (simp; omega)) ?_); clear E S a; intro a w E S; try dsimp only [List.set] at S
      refine wpList_nil ?_
      refine zAb hK ?_; clear hK K
      refine zAa ?_
      iterate 2 (refine zd E ?_; clear E a; intro a E)
      refine zp E (by first | exact zAo E rfl rfl rfl rfl (by first | exact wu8 _ | exact zCz oZ | exact zCe oZ | exact w_in oZ | exact zBb oZ | exact rfl) | exact zBh E rfl rfl rfl rfl rfl (by assumption) (S.stab.at (by simp))) ?_; clear E a; intro a E
      refine zAh E rfl rfl dZ rfl Tryz.func110 rfl yZ rfl (zLd p _ A3 _ hA3 (S.hp.sel sZ) (((s.num 4).2.num 2).2.num 2).1 oZ) ?_
      rintro v67 w ⟨A4, C, hA4, hT, hC⟩; clear E a; intro a E
      have S := S.call2 sZ hT; obtain ⟨ad, c, rfl⟩ := hC.slice
      refine zp E (by first | exact zAc (q := 12) E rfl rfl rfl | exact zAd (q := 12) E rfl rfl rfl) ?_; clear E a; intro a E
      refine zAg rfl (zAv E S rfl rfl rfl rfl rfl rfl pZ (by first | exact Nat.le_of_ble_eq_true rfl | (simp; done) | (simp; omega)) ?_); clear E S a; intro a w E S; try dsimp only [List.set] at S
      refine wpList_nil ?_
      refine zAr ?_
      refine zAb hK ?_; clear hK K
      refine wp_seq_k ?_; intro K hK
      refine zAa ?_
      refine zp E (zAz (vs := [_, _, _, _, _, _, _, _, _, _, _, _, _]) E rfl rfl rfl (S.get pZ) rfl rfl) ?_; clear E a; intro a E
      refine zAg rfl (zAq E S rfl rfl rfl rfl (by simp [Value.oneCell']) rfl pZ (by simp) ?_); clear E S a; intro a w E S; simp only [List.take_succ_cons, List.take_zero, List.drop_succ_cons, List.drop_zero, List.cons_append, List.nil_append, List.append_nil, List.length_cons, List.length_nil, Nat.zero_add, Nat.add_zero] at S
      refine wpList_nil ?_
      refine zAb hK ?_; clear hK K
      refine wp_ret ?_
      refine zFu E rfl rfl (S.get pZ) rfl ?_
      subst hk5
      exact ⟨_, rfl, A4, C, nilv, nilv, _, rfl, hA4, ⟨[], [], C, by simp, Buf.nil _ _, Buf.nil _ _, hC⟩, (S.only (Bs := [A4, C]) sZ).tr⟩
     ·replace hb := Nrm.nrm hb
      have hk6 : k = 6 ∨ k = 7 := (by have := hk.1; have := hk.2; omega); have hn : (s.num 4).1 < 4294967296 := zCk _ 4
      refine wp_seq_k ?_; intro K hK
      refine zAa ?_
      refine zd E ?_; clear E a; intro a E
      refine zAh E rfl rfl dZ rfl Tryz.func107 rfl yZ rfl (zDw p s A _ hA (S.hp.sel sZ) 4) ?_
      rintro v16 w ⟨A1, rfl, hA1, hT⟩; clear E a; intro a E
      have S := S.call1 sZ hT
      refine zd E ?_; clear E a; intro a E
      refine wpList_nil ?_
      refine zAb hK ?_; clear hK K
      refine zAa ?_
      refine zd E ?_; clear E a; intro a E
      refine zp E (by first | exact zAo E rfl rfl rfl rfl (by first | exact wu8 _ | exact zCz oZ | exact zCe oZ | exact w_in oZ | exact zBb oZ | exact rfl) | exact zBh E rfl rfl rfl rfl rfl (by assumption) (S.stab.at (by simp))) ?_; clear E a; intro a E
      refine zp E (by first | exact zAc (q := 10) E rfl rfl rfl | exact zAd (q := 10) E rfl rfl rfl) ?_; clear E a; intro a E
      refine zAg rfl (zAv E S rfl rfl rfl rfl rfl rfl pZ (by first | exact Nat.le_of_ble_eq_true rfl | (simp; done) | (simp; omega)) ?_); clear E S a; intro a w E S; try dsimp only [List.set] at S
      refine wpList_nil ?_
      refine zAr ?_
      refine zAb hK ?_; clear hK K
      refine wp_seq_k ?_; intro K hK
      refine zAa ?_
      refine zp E (zAz (vs := [_, _, _, _, _, _, _, _, _, _, _, _, _]) E rfl rfl rfl (S.get pZ) rfl rfl) ?_; clear E a; intro a E
      refine zAg rfl (zAq E S rfl rfl rfl rfl (by simp [Value.oneCell']) rfl pZ (by simp) ?_); clear E S a; intro a w E S; simp only [List.take_succ_cons, List.take_zero, List.drop_succ_cons, List.drop_zero, List.cons_append, List.nil_append, List.append_nil, List.length_cons, List.length_nil, Nat.zero_add, Nat.add_zero] at S
      refine wpList_nil ?_
      refine zAb hK ?_; clear hK K
      refine wp_ret ?_
      refine zFu E rfl rfl (S.get pZ) rfl ?_
      rcases hk6 with rfl | rfl
      ·exact ⟨_, rfl, A1, [], nilv, nilv, nilv, rfl, hA1, ⟨[], [], [], rfl, Buf.nil _ _, Buf.nil _ _, Buf.nil _ _⟩, (S.only (Bs := [A1]) sZ).addNil.perm2.tr⟩
      ·exact ⟨_, rfl, A1, [], nilv, nilv, nilv, rfl, hA1, ⟨[], [], [], rfl, Buf.nil _ _, Buf.nil _ _, Buf.nil _ _⟩, (S.only (Bs := [A1]) sZ).addNil.perm2.tr⟩
end Go.Proofs.YtbogecljkaimdaaGreatDoor
