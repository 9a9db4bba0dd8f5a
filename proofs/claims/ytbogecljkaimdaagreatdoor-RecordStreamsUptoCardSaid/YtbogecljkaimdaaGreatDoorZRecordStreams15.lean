/-
  Texts put together (15).
-/
import Derived.Test.YtbogecljkaimdaaGreatDoorZRecordStreams14
namespace Go.Proofs.YtbogecljkaimdaaGreatDoor
open Go.Sl
set_option maxRecDepth 10000
theorem uopen_ret (D : zAy) (v : Value) (bs : List UInt8) (w0 : World) (h : Rd D 1 v bs.length (byt bs)) (H : Hp w0 [D]) (hl : bs.length ≤ 140737488355328) :
    Ret Tryz.prog 82 #[v] w0 fun u w' => ∃ p A, u = ptr p ∧ RdC 118 p ⟨bs, 0, 0⟩ A ∧ Trs w0 w' [D] [A, D] := by
  have S := (St.begin H).addNil
  obtain ⟨ad, c, rfl⟩ := h.slice
  refine zCx 7 Tryz.func82 rfl rfl (by decide) ?_; intro a E
  refine wp_seq_k ?_; intro K hK
  refine zAb ?_
  refine zp E (zAd E rfl rfl) ?_; clear E a; intro a E
  refine wpList_nil ?_
  refine zAf hK ?_; clear hK; clear K
  refine wp_seq_k ?_; intro K hK
  refine zAb ?_
  refine zp E (zAe E rfl rfl) ?_; clear E a; intro a E
  refine zAn rfl (zCq (by' := 1) E S rfl rfl (by decide) rfl rfl (Buf.nil 5 1) (by repeat (first | exact pk1 | apply zAc)) (h.src (S.stab.at (by repeat (first | exact mm1 | assumption | apply List.Mem.tail))) rfl) rfl rfl rfl rfl rfl rfl (by simp only [maxLen]; omega) (by omega) ?_); clear E S a; intro a w v4 C4 E S hB4
  rw [Nat.zero_add, List.nil_append] at hB4
  obtain ⟨ad4, c4, rfl⟩ := hB4.slice
  refine zp E (zCh (cells := [_, _, _]) E rfl rfl rfl) ?_; clear E a; intro a E
  refine zAn rfl (zCt E S rfl rfl (by decide) rfl rfl ?_); clear E S a; intro a w b6 E S
  refine zp E (zAd E rfl rfl) ?_; clear E a; intro a E
  refine wpList_nil ?_
  refine zAf hK ?_; clear hK; clear K
  refine wp_ret ?_
  refine ret1 E rfl rfl ?_
  have hc := hB4.cap_le
  have S := S.gather (A := [(b6, _)]) (B := C4) (by repeat (first | exact pk1 | apply zAc)) (by repeat (first | exact pk1 | apply zAc))
  exact ⟨_, rfl, b6, _, rfl, ⟨Nat.zero_le _, hl, _, _, _, rfl, hc, hB4.rd⟩, S.tr⟩
theorem uvalue_ret (C : zAy) (v : Value) (bs : List UInt8) (w0 : World) (h : Rd C 1 v bs.length (byt bs)) (hs : ∀ x ∈ C, w0.heap[x.1]? = some x.2) (hl : bs.length ≤ 8) :
    Ret Tryz.prog 121 #[v] w0 fun u w' => u = .int .u64 (zCs bs) ∧ w' = w0 := by
  obtain ⟨ad, c, rfl⟩ := h.slice
  refine zCx 21 Tryz.func121 rfl rfl (by decide) ?_; intro a E
  refine wp_seq_k ?_; intro K hK
  refine zAb ?_
  refine zp E (zAd E rfl rfl) ?_; clear E a; intro a E
  refine wpList_nil ?_
  refine zAf hK ?_; clear hK; clear K
  refine wp_seq_k ?_; intro K hK
  refine zAb ?_
  refine zp E (zAd E rfl rfl) ?_; clear E a; intro a E
  refine wpList_nil ?_
  refine zAf hK ?_; clear hK; clear K
  iterate 2 (refine wp_seq_k ?_; intro K hK)
  refine zAb ?_
  refine zp E (zAe E rfl rfl) ?_; clear E a; intro a E
  refine zp E (by first | exact zBx E rfl rfl rfl | exact zAx E rfl rfl rfl | exact zAq E rfl rfl rfl) ?_; clear E a; intro a E
  refine zp E (zDs E rfl rfl rfl (w_in (by omega))) ?_; clear E a; intro a E
  refine zp E (zAd E rfl rfl) ?_; clear E a; intro a E
  refine wpList_nil ?_
  refine zAf hK ?_; clear hK; clear K
  refine wp_block ?_
  refine wp_loop_ghost (fun (m : Nat) (a : Act) (w' : World) => ∃ k : Nat, k ≤ bs.length ∧ m = k ∧ w' = w0 ∧ Fr a 21 [(0, .slice ad bs.length c), (3, .int .u64 (zCs (bs.drop k))), (4, .int .i64 ((k : Int) - 1))]) (bs.length) ?_ ?_
  · exact ⟨bs.length, by omega, rfl, rfl, by rw [List.drop_length]; exact E.keep (zAa rfl (zAa rfl (zAa rfl zAm)))⟩
  clear E; clear a; (try clear S); rintro m a w ⟨k, hk, hm, rfl, E⟩
  iterate 2 (refine wp_seq_k ?_; intro K hK)
  refine zAb ?_
  refine zp E (zAe E rfl rfl) ?_; clear E a; intro a E
  refine zp E (zEd E rfl rfl rfl) ?_; clear E a; intro a E
  refine wpList_nil ?_
  refine zAf hK ?_; clear hK; clear K
  refine zBf E rfl (fun hb => ?_) (fun hb => ?_)
  · replace hb := Nrm.nrm hb
    refine wp_skip ?_
    refine zAf hK ?_; clear hK; clear K
    refine wp_seq_k ?_; intro K hK
    refine wp_block ?_
    obtain ⟨b, off, rfl⟩ := h.addr (by omega)
    have hcb := h.byte hs (i := k - 1) (by omega)
    have hlt : zCs (bs.drop k) < 72057594037927936 := Nat.lt_of_lt_of_le (zFt _) (Nat.pow_le_pow_right (n := 256) (j := 7) (by omega) (by rw [List.length_drop]; omega))
    have h8 := (bs[k - 1]).toNat_lt
    have hnum : zCs (bs.drop (k - 1)) = 256 * zCs (bs.drop k) + (bs[k - 1]).toNat := by { rw [List.drop_eq_getElem_cons (show k - 1 < bs.length by omega), show k - 1 + 1 = k by omega]; simp only [zCs]; omega }
    refine zAb ?_
    refine zp E (zAe E rfl rfl) ?_; clear E a; intro a E
    refine zp E (zFb E rfl rfl rfl (by first | exact zFp (x := 256) (by omega) | exact zEt (x := 256) (by omega) | exact w_in (by omega) | exact rfl)) ?_; clear E a; intro a E
    iterate 2 (refine zp E (zAe E rfl rfl) ?_; clear E a; intro a E)
    refine zp E (zBl (i := k - 1) E rfl rfl rfl rfl rfl (by omega) (by omega)) ?_; clear E a; intro a E
    refine zp E (zAj E rfl rfl rfl (hcb)) ?_; clear E a; intro a E
    refine zp E (by first | exact zBe E rfl rfl rfl rfl (by first | exact wu8 _ | exact zDy (by omega) | exact zDd (by omega) | exact w_in (by omega) | exact zBt (by omega) | exact rfl) | exact zCa E rfl rfl rfl rfl rfl (by assumption) (S.stab.at (by simp))) ?_; clear E a; intro a E
    refine zp E (zBu E rfl rfl rfl ((congrArg _ (Int.natCast_add _ _).symm).trans (zDd (by omega)))) ?_; clear E a; intro a E
    refine zp E (zAd E rfl rfl) ?_; clear E a; intro a E
    refine wpList_nil ?_
    refine zBi ?_
    refine zAf hK ?_; clear hK; clear K
    refine zAb ?_
    refine zp E (zAe E rfl rfl) ?_; clear E a; intro a E
    refine zp E (zDs E rfl rfl rfl (r := ((k - 1 : Nat) : Int) - 1) (by rw [show ((k : Int) - 1 - 1) = ((k - 1 : Nat) : Int) - 1 by omega]; exact w_in (by omega))) ?_; clear E a; intro a E
    refine zp E (zAd E rfl rfl) ?_; clear E a; intro a E
    refine wpList_nil ?_
    refine zBq ?_
    exact ⟨k - 1, by omega, k - 1, by omega, rfl, rfl, by rw [hnum]; exact E.keep (zAa rfl (zAa rfl (zAa rfl zAm)))⟩
  · replace hb := Nrm.nrm hb
    refine wp_exit ?_
    refine zBc ?_; clear hK; clear K
    refine zBc ?_
    refine zCj ?_
    refine zAf hK ?_; clear hK; clear K
    refine wp_seq_k ?_; intro K hK
    refine zAb ?_
    refine zp E (zAe E rfl rfl) ?_; clear E a; intro a E
    refine zp E (zAd E rfl rfl) ?_; clear E a; intro a E
    refine wpList_nil ?_
    refine zAf hK ?_; clear hK; clear K
    refine wp_ret ?_
    refine ret1 E rfl rfl ?_
    obtain rfl : k = 0 := by omega
    exact ⟨_, rfl, rfl, rfl⟩
theorem ubytes_ret (p : Nat) (s : Rdr) (A : zAy) (w0 : World) (hA : RdC 118 p s A) (H : Hp w0 [A]) (k : Int) (hk : k ≤ 9223372036854775807) :
    Ret Tryz.prog 110 #[ptr p, .int .i64 k] w0 fun u w' => ∃ A' C, RdC 118 p (s.bytes k).2 A' ∧ Trs w0 w' [A] [A', C] ∧ Buf C 5 1 u (s.bytes k).1.length (byt (s.bytes k).1) := by
  obtain ⟨hat, hlen, ad, c, C, rfl, hc, hR⟩ := hA
  have S := (St.begin H).split
  refine zCr 57 Tryz.func110 rfl rfl (by decide) ?_; intro a E
  refine wp_seq_k ?_; intro K hK
  refine zAb ?_
  refine zp E (zAd E rfl rfl) ?_; clear E a; intro a E
  refine wpList_nil ?_
  refine zAf hK ?_; clear hK; clear K
  iterate 2 (refine wp_seq_k ?_; intro K hK)
  refine zAb ?_
  refine zp E (zAe E rfl rfl) ?_; clear E a; intro a E
  refine zp E (zBb E rfl rfl) ?_; clear E a; intro a E
  refine zp E (by first | exact zAg (q := 2) E rfl rfl rfl | exact zAh (q := 2) E rfl rfl rfl) ?_; clear E a; intro a E
  refine zp E (by first | exact zAo E rfl rfl rfl (S.get (by repeat (first | exact pk1 | apply zAc))) rfl | exact zAj E rfl rfl rfl (by assumption)) ?_; clear E a; intro a E
  refine zp E (by first | exact zCu E rfl rfl rfl | exact zBg E rfl rfl rfl rfl | exact zBr E rfl rfl rfl rfl | exact zBk E rfl rfl rfl) ?_; clear E a; intro a E
  refine wpList_nil ?_
  refine zAf hK ?_; clear hK; clear K
  refine zBf E rfl (fun hb => ?_) (fun hb => ?_)
  · replace hb := Nrm.nrm hb
    refine wp_seq_k ?_; intro K hK
    refine zAb ?_
    refine zp E (zAd E rfl rfl) ?_; clear E a; intro a E
    refine wpList_nil ?_
    refine zAf hK ?_; clear hK; clear K
    refine wp_ret ?_
    refine zAv ?_; clear hK; clear K
    refine ret1 E rfl rfl ?_
    have hv : s.bytes k = ([], s) := by simp [Rdr.bytes, show s.e ≠ 0 by omega]
    exact ⟨_, rfl, _, [], by rw [hv]; exact ⟨hat, hlen, ad, c, C, rfl, hc, hR⟩, (S.join.addNil.perm (Bs := [_, []]) (zAk (by repeat (first | exact pk1 | apply zAc)) (zAk (by repeat (first | exact pk1 | apply zAc)) (zAr _)))).tr, by rw [hv]; exact Buf.nil _ _⟩
  · replace hb := Nrm.nrm hb
    refine wp_skip ?_
    refine zAf hK ?_; clear hK; clear K
    iterate 2 (refine wp_seq_k ?_; intro K hK)
    refine zAb ?_
    refine zp E (zAe E rfl rfl) ?_; clear E a; intro a E
    refine zp E (zCn E rfl rfl rfl) ?_; clear E a; intro a E
    refine wpList_nil ?_
    refine zAf hK ?_; clear hK; clear K
    refine zBf E rfl (fun hb => ?_) (fun hb => ?_)
    · replace hb := Nrm.nrm hb
      refine wp_seq_k ?_; intro K hK
      refine zAb ?_
      refine zp E (zAe E rfl rfl) ?_; clear E a; intro a E
      refine zp E (zBb E rfl rfl) ?_; clear E a; intro a E
      refine zp E (by first | exact zAg (q := 2) E rfl rfl rfl | exact zAh (q := 2) E rfl rfl rfl) ?_; clear E a; intro a E
      refine zAn rfl (zBo E S rfl rfl rfl rfl rfl rfl (by repeat (first | exact pk1 | apply zAc)) (by first | exact Nat.le_of_ble_eq_true rfl | (simp; done) | (simp; omega)) ?_); clear E S a; intro a w E S; try dsimp only [List.set] at S
      refine wpList_nil ?_
      refine zAf hK ?_; clear hK; clear K
      refine wp_seq_k ?_; intro K hK
      refine zAb ?_
      refine zp E (zAd E rfl rfl) ?_; clear E a; intro a E
      refine wpList_nil ?_
      refine zAf hK ?_; clear hK; clear K
      refine wp_ret ?_
      refine zAv ?_; clear hK; clear K
      refine ret1 E rfl rfl ?_
      have hv : s.bytes k = ([], { s with e := 1 }) := by simp [Rdr.bytes, show s.e = 0 by omega, show k < 0 by omega]
      exact ⟨_, rfl, _, [], by rw [hv]; exact ⟨hat, hlen, ad, c, C, rfl, hc, hR⟩, (S.join.addNil.perm (Bs := [_, []]) (zAk (by repeat (first | exact pk1 | apply zAc)) (zAk (by repeat (first | exact pk1 | apply zAc)) (zAr _)))).tr, by rw [hv]; exact Buf.nil _ _⟩
    · replace hb := Nrm.nrm hb
      refine wp_skip ?_
      refine zAf hK ?_; clear hK; clear K
      iterate 2 (refine wp_seq_k ?_; intro K hK)
      obtain ⟨kn, rfl⟩ : ∃ kn : Nat, k = kn := ⟨k.toNat, by omega⟩
      refine zBz S (.ofL [(0, 0), (1, 0), (2, 0), (3, 0), (4, 0), (5, 0), (6, 0), (7, 0), (8, 0), (9, 0), (10, 0), (11, 0)]) (by kernel_rfl) (by kernel_rfl) ?_
      clear S; intro w S
      iterate 2 (refine zm E rfl (fun w h => zAe E rfl rfl) ?_; clear E a; intro a E)
      refine zm E rfl (fun w h => zBb E rfl rfl) ?_; clear E a; intro a E
      refine zm E rfl (fun w h => by first | exact zAg (q := 0) E rfl rfl rfl | exact zAh (q := 0) E rfl rfl rfl) ?_; clear E a; intro a E
      refine zm E rfl (fun w h => by first | exact zAo E rfl rfl rfl (h.one (by repeat (first | exact mm1 | assumption | apply List.Mem.tail))) rfl | exact zAj E rfl rfl rfl (by assumption)) ?_; clear E a; intro a E
      refine zm E rfl (fun w h => by first | exact zBx E rfl rfl rfl | exact zAx E rfl rfl rfl | exact zAq E rfl rfl rfl) ?_; clear E a; intro a E
      refine zm E rfl (fun w h => zAe E rfl rfl) ?_; clear E a; intro a E
      refine zm E rfl (fun w h => zBb E rfl rfl) ?_; clear E a; intro a E
      refine zm E rfl (fun w h => by first | exact zAg (q := 1) E rfl rfl rfl | exact zAh (q := 1) E rfl rfl rfl) ?_; clear E a; intro a E
      refine zm E rfl (fun w h => by first | exact zAo E rfl rfl rfl (h.one (by repeat (first | exact mm1 | assumption | apply List.Mem.tail))) rfl | exact zAj E rfl rfl rfl (by assumption)) ?_; clear E a; intro a E
      refine zm E rfl (fun w h => zDs E rfl rfl rfl (by first | exact ws1 (by omega) (by omega) | exact w_in (by omega) | exact zBt (by omega) | exact rfl)) ?_; clear E a; intro a E
      refine zm E rfl (fun w h => zDm E rfl rfl rfl) ?_; clear E a; intro a E
      refine zBw ?_
      refine zAf hK ?_; clear hK; clear K
      refine zBf E rfl (fun hb => ?_) (fun hb => ?_)
      · replace hb := Nrm.nrm hb
        refine wp_seq_k ?_; intro K hK
        refine zAb ?_
        refine zp E (zAe E rfl rfl) ?_; clear E a; intro a E
        refine zp E (zBb E rfl rfl) ?_; clear E a; intro a E
        refine zp E (by first | exact zAg (q := 2) E rfl rfl rfl | exact zAh (q := 2) E rfl rfl rfl) ?_; clear E a; intro a E
        refine zAn rfl (zBo E S rfl rfl rfl rfl rfl rfl (by repeat (first | exact pk1 | apply zAc)) (by first | exact Nat.le_of_ble_eq_true rfl | (simp; done) | (simp; omega)) ?_); clear E S a; intro a w E S; try dsimp only [List.set] at S
        refine wpList_nil ?_
        refine zAf hK ?_; clear hK; clear K
        refine wp_seq_k ?_; intro K hK
        replace E := E.keep (e' := [(0, _), (1, _), (4, _)]) (zAa rfl (zAa rfl (zAa rfl (zAm))))
        refine zAb ?_
        refine zp E (zAd E rfl rfl) ?_; clear E a; intro a E
        refine wpList_nil ?_
        refine zAf hK ?_; clear hK; clear K
        refine wp_ret ?_
        refine zAv ?_; clear hK; clear K
        refine ret1 E rfl rfl ?_
        have hv : s.bytes kn = ([], { s with e := 10 }) := by simp [Rdr.bytes, show s.e = 0 by omega, show ¬ (kn : Int) < 0 by omega, show s.bs.length < s.at_ + kn by omega]
        exact ⟨_, rfl, _, [], by rw [hv]; exact ⟨hat, hlen, ad, c, C, rfl, hc, hR⟩, (S.join.addNil.perm (Bs := [_, []]) (zAk (by repeat (first | exact pk1 | apply zAc)) (zAk (by repeat (first | exact pk1 | apply zAc)) (zAr _)))).tr, by rw [hv]; exact Buf.nil _ _⟩
      · replace hb := Nrm.nrm hb
        refine wp_skip ?_
        refine zAf hK ?_; clear hK; clear K
        refine wp_seq_k ?_; intro K hK
        have S := S.addNil
        refine zBz S (.ofL [(0, 0), (1, 0), (2, 0), (3, 0), (4, 0), (5, 0), (6, 0), (7, 0), (8, 0), (9, 0), (10, 0), (11, 0), (12, 0), (13, 0), (14, 0), (15, 3), (16, 2)]) (by kernel_rfl) (by kernel_rfl) ?_
        clear S; intro w S
        refine zm E rfl (fun w h => zAe E rfl rfl) ?_; clear E a; intro a E
        refine zm E rfl (fun w h => zBb E rfl rfl) ?_; clear E a; intro a E
        refine zm E rfl (fun w h => by first | exact zAg (q := 0) E rfl rfl rfl | exact zAh (q := 0) E rfl rfl rfl) ?_; clear E a; intro a E
        refine zm E rfl (fun w h => by first | exact zAo E rfl rfl rfl (h.one (by repeat (first | exact mm1 | assumption | apply List.Mem.tail))) rfl | exact zAj E rfl rfl rfl (by assumption)) ?_; clear E a; intro a E
        refine zm E rfl (fun w h => zAe E rfl rfl) ?_; clear E a; intro a E
        refine zm E rfl (fun w h => zBb E rfl rfl) ?_; clear E a; intro a E
        refine zm E rfl (fun w h => by first | exact zAg (q := 1) E rfl rfl rfl | exact zAh (q := 1) E rfl rfl rfl) ?_; clear E a; intro a E
        refine zm E rfl (fun w h => by first | exact zAo E rfl rfl rfl (h.one (by repeat (first | exact mm1 | assumption | apply List.Mem.tail))) rfl | exact zAj E rfl rfl rfl (by assumption)) ?_; clear E a; intro a E
        refine zm E rfl (fun w h => zAe E rfl rfl) ?_; clear E a; intro a E
        refine zm E rfl (fun w h => zBb E rfl rfl) ?_; clear E a; intro a E
        refine zm E rfl (fun w h => by first | exact zAg (q := 1) E rfl rfl rfl | exact zAh (q := 1) E rfl rfl rfl) ?_; clear E a; intro a E
        refine zm E rfl (fun w h => by first | exact zAo E rfl rfl rfl (h.one (by repeat (first | exact mm1 | assumption | apply List.Mem.tail))) rfl | exact zAj E rfl rfl rfl (by assumption)) ?_; clear E a; intro a E
        refine zm E rfl (fun w h => zAe E rfl rfl) ?_; clear E a; intro a E
        refine zm E rfl (fun w h => zBu E rfl rfl rfl (by first | exact wa1 (by omega) | exact w_in (by omega) | exact zBt (by omega) | exact rfl)) ?_; clear E a; intro a E
        refine zm E rfl (fun w h => zEg (s := 1) E rfl rfl rfl rfl rfl rfl rfl rfl (by omega) (by omega)) ?_; clear E a; intro a E
        obtain ⟨ad2, c2, hs2, hR2⟩ := hR.cut (lo := s.at_) (hi := s.at_ + kn) (by omega) (by omega) (by omega)
        rw [hs2] at E
        have hcl := s.cut_length kn 0 (by omega)
        have hR2 : Rd C 1 (.slice ad2 (s.at_ + kn - s.at_) c2) (s.cut kn 0).length (byt (s.cut kn 0)) := by { rw [hcl]; simpa [zFr, zGn, Rdr.cut, Nat.add_sub_cancel_left] using hR2 }
        refine zCk rfl rfl (zCq (by' := 1) E S rfl rfl (by decide) rfl rfl (Buf.nil 5 1) (by repeat (first | exact pk1 | apply zAc)) (hR2.src (S.stab.at (by repeat (first | exact mm1 | assumption | apply List.Mem.tail))) rfl) rfl rfl rfl rfl rfl rfl (by simp only [maxLen]; omega) (by omega) ?_); clear E S a; intro a w v46 C46 E S hB46
        rw [Nat.zero_add, List.nil_append] at hB46
        refine zCg E rfl rfl rfl (by decide) (fun w => zAd E rfl rfl) ?_; clear E a; intro a E
        refine zBw ?_
        refine zAf hK ?_; clear hK; clear K
        refine wp_seq_k ?_; intro K hK
        replace E := E.keep (e' := [(0, _), (1, _), (4, _), (5, _)]) (zAa rfl (zAa rfl (zAa rfl (zAa rfl (zAm)))))
        refine zAb ?_
        iterate 2 (refine zp E (zAe E rfl rfl) ?_; clear E a; intro a E)
        refine zp E (zBb E rfl rfl) ?_; clear E a; intro a E
        refine zp E (by first | exact zAg (q := 1) E rfl rfl rfl | exact zAh (q := 1) E rfl rfl rfl) ?_; clear E a; intro a E
        refine zp E (by first | exact zAo E rfl rfl rfl (S.get (by repeat (first | exact pk1 | apply zAc))) rfl | exact zAj E rfl rfl rfl (by assumption)) ?_; clear E a; intro a E
        refine zp E (zAe E rfl rfl) ?_; clear E a; intro a E
        refine zp E (zBu E rfl rfl rfl (by first | exact wa1 (by omega) | exact w_in (by omega) | exact zBt (by omega) | exact rfl)) ?_; clear E a; intro a E
        refine zp E (zBb E rfl rfl) ?_; clear E a; intro a E
        refine zp E (by first | exact zAg (q := 1) E rfl rfl rfl | exact zAh (q := 1) E rfl rfl rfl) ?_; clear E a; intro a E
        refine zAn rfl (zBo E S rfl rfl rfl rfl rfl rfl (by repeat (first | exact pk1 | apply zAc)) (by first | exact Nat.le_of_ble_eq_true rfl | (simp; done) | (simp; omega)) ?_); clear E S a; intro a w E S; try dsimp only [List.set] at S
        refine wpList_nil ?_
        refine zAf hK ?_; clear hK; clear K
        refine wp_seq_k ?_; intro K hK
        refine zAb ?_
        refine zp E (zAe E rfl rfl) ?_; clear E a; intro a E
        refine zp E (zAd E rfl rfl) ?_; clear E a; intro a E
        refine wpList_nil ?_
        refine zAf hK ?_; clear hK; clear K
        refine wp_ret ?_
        refine ret1 E rfl rfl ?_
        have hv : s.bytes kn = (s.cut kn 0, { s with at_ := s.at_ + kn }) := by simp [Rdr.bytes, show s.e = 0 by omega, show ¬ (kn : Int) < 0 by omega, show ¬ s.bs.length < s.at_ + kn by omega]
        have S := (S.perm (Bs := [[(p, _)], C, C46]) (zAk (by repeat (first | exact pk1 | apply zAc)) (zAk (by repeat (first | exact pk1 | apply zAc)) (zAk (by repeat (first | exact pk1 | apply zAc)) (zAr _))))).join
        exact ⟨_, rfl, _, C46, by rw [hv]; exact ⟨by simp only; omega, hlen, ad, c, C, rfl, hc, hR⟩, S.tr, by rw [hv]; exact hB46⟩
theorem zEs (p : Nat) (s : Rdr) (A : zAy) (w0 : World) (hA : RdC 118 p s A) (H : Hp w0 [A]) (k : Int) :
    Ret Tryz.prog 107 #[ptr p, .int .i64 k] w0 fun u w' => ∃ A', u = .int .u64 (s.num k).1 ∧ RdC 118 p (s.num k).2 A' ∧ Trs w0 w' [A] [A'] := by
  have hA0 := hA
  obtain ⟨hat, hlen, ad, c, C, hAe, hc, hR⟩ := hA
  have S := St.begin H
  have S := (by rw [hAe] at S; exact S.split : St w0 _ w0 ([(p, cel [.slice ad s.bs.length c, .int .i64 s.at_, .int .i64 s.e] 118)] :: C :: _))
  refine zCr 25 Tryz.func107 rfl rfl (by decide) ?_; intro a E
  refine wp_seq_k ?_; intro K hK
  refine zAb ?_
  refine zp E (zAd E rfl rfl) ?_; clear E a; intro a E
  refine wpList_nil ?_
  refine zAf hK ?_; clear hK; clear K
  iterate 2 (refine wp_seq_k ?_; intro K hK)
  refine zAb ?_
  refine zp E (zAe E rfl rfl) ?_; clear E a; intro a E
  refine zp E (zBb E rfl rfl) ?_; clear E a; intro a E
  refine zp E (by first | exact zAg (q := 2) E rfl rfl rfl | exact zAh (q := 2) E rfl rfl rfl) ?_; clear E a; intro a E
  refine zp E (by first | exact zAo E rfl rfl rfl (S.get (by repeat (first | exact pk1 | apply zAc))) rfl | exact zAj E rfl rfl rfl (by assumption)) ?_; clear E a; intro a E
  refine zp E (by first | exact zCu E rfl rfl rfl | exact zBg E rfl rfl rfl rfl | exact zBr E rfl rfl rfl rfl | exact zBk E rfl rfl rfl) ?_; clear E a; intro a E
  refine wpList_nil ?_
  refine zAf hK ?_; clear hK; clear K
  refine zBf E rfl (fun hb => ?_) (fun hb => ?_)
  · replace hb := Nrm.nrm hb
    refine wp_seq_k ?_; intro K hK
    refine zAb ?_
    refine zp E (zAd E rfl rfl) ?_; clear E a; intro a E
    refine wpList_nil ?_
    refine zAf hK ?_; clear hK; clear K
    refine wp_ret ?_
    refine zAv ?_; clear hK; clear K
    refine ret1 E rfl rfl ?_
    have S := S.join; rw [← hAe] at S
    have hv : s.num k = (0, s) := by simp [Rdr.num, show s.e ≠ 0 by omega]
    exact ⟨_, rfl, A, by rw [hv]; rfl, by rw [hv]; exact hA0, S.tr⟩
  · replace hb := Nrm.nrm hb
    refine wp_skip ?_
    refine zAf hK ?_; clear hK; clear K
    iterate 2 (refine wp_seq_k ?_; intro K hK)
    refine zAb ?_
    refine zp E (zAe E rfl rfl) ?_; clear E a; intro a E
    refine zp E (zCn E rfl rfl rfl) ?_; clear E a; intro a E
    refine zp E (zAe E rfl rfl) ?_; clear E a; intro a E
    refine zAs E (t := 13) rfl (fun hb13 => ?_) (fun hb13 => ?_)
    · have hb13n := hb13; replace hb13n := Nrm.nrm hb13n
      iterate 2 (refine zn E hb13 ?_; clear E a; intro a E)
      refine zp E (zAl E rfl rfl hb13 rfl) ?_; clear E a; intro a E
      refine wpList_nil ?_
      refine zAf hK ?_; clear hK; clear K
      refine zCi E rfl rfl ?_
      refine wp_seq_k ?_; intro K hK
      refine zAb ?_
      refine zp E (zAe E rfl rfl) ?_; clear E a; intro a E
      refine zp E (zBb E rfl rfl) ?_; clear E a; intro a E
      refine zp E (by first | exact zAg (q := 2) E rfl rfl rfl | exact zAh (q := 2) E rfl rfl rfl) ?_; clear E a; intro a E
      refine zAn rfl (zBo E S rfl rfl rfl rfl rfl rfl (by repeat (first | exact pk1 | apply zAc)) (by first | exact Nat.le_of_ble_eq_true rfl | (simp; done) | (simp; omega)) ?_); clear E S a; intro a w E S; try dsimp only [List.set] at S
      refine wpList_nil ?_
      refine zAf hK ?_; clear hK; clear K
      refine wp_seq_k ?_; intro K hK
      refine zAb ?_
      refine zp E (zAd E rfl rfl) ?_; clear E a; intro a E
      refine wpList_nil ?_
      refine zAf hK ?_; clear hK; clear K
      refine wp_ret ?_
      refine zAv ?_; clear hK; clear K
      refine ret1 E rfl rfl ?_
      have hv : s.num k = (0, { s with e := 1 }) := by simp only [Rdr.num]; rw [if_neg (by omega), if_pos (by omega)]
      exact ⟨_, rfl, _, by rw [hv]; rfl, by rw [hv]; exact ⟨hat, hlen, ad, c, C, rfl, hc, hR⟩, by rw [hAe]; exact S.join.tr⟩
    · have hb13n := hb13; replace hb13n := Nrm.nrm hb13n
      refine zy E hb13 (zAe E rfl rfl) ?_; clear E a; intro a E
      refine zy E hb13 (zDm E rfl rfl rfl) ?_; clear E a; intro a E
      refine zp E (zAi E rfl rfl hb13 rfl) ?_; clear E a; intro a E
      refine wpList_nil ?_
      refine zAf hK ?_; clear hK; clear K
      refine zBf E rfl (fun hb => ?_) (fun hb => ?_)
      · replace hb := Nrm.nrm hb
        refine wp_seq_k ?_; intro K hK
        refine zAb ?_
        refine zp E (zAe E rfl rfl) ?_; clear E a; intro a E
        refine zp E (zBb E rfl rfl) ?_; clear E a; intro a E
        refine zp E (by first | exact zAg (q := 2) E rfl rfl rfl | exact zAh (q := 2) E rfl rfl rfl) ?_; clear E a; intro a E
        refine zAn rfl (zBo E S rfl rfl rfl rfl rfl rfl (by repeat (first | exact pk1 | apply zAc)) (by first | exact Nat.le_of_ble_eq_true rfl | (simp; done) | (simp; omega)) ?_); clear E S a; intro a w E S; try dsimp only [List.set] at S
        refine wpList_nil ?_
        refine zAf hK ?_; clear hK; clear K
        refine wp_seq_k ?_; intro K hK
        refine zAb ?_
        refine zp E (zAd E rfl rfl) ?_; clear E a; intro a E
        refine wpList_nil ?_
        refine zAf hK ?_; clear hK; clear K
        refine wp_ret ?_
        refine zAv ?_; clear hK; clear K
        refine ret1 E rfl rfl ?_
        have hv : s.num k = (0, { s with e := 1 }) := by simp only [Rdr.num]; rw [if_neg (by omega), if_pos (by omega)]
        exact ⟨_, rfl, _, by rw [hv]; rfl, by rw [hv]; exact ⟨hat, hlen, ad, c, C, rfl, hc, hR⟩, by rw [hAe]; exact S.join.tr⟩
      · replace hb := Nrm.nrm hb
        refine wp_skip ?_
        refine zAf hK ?_; clear hK; clear K
        refine wp_seq_k ?_; intro K hK
        have S := S.join; rw [← hAe] at S
        obtain ⟨kn, rfl⟩ : ∃ kn : Nat, k = kn := ⟨k.toNat, by omega⟩
        refine zAb ?_
        iterate 2 (refine zp E (zAe E rfl rfl) ?_; clear E a; intro a E)
        refine zAp E rfl rfl (by decide) rfl Tryz.func110 rfl (by kernel_rfl) rfl (ubytes_ret p s A _ hA0 S.hp kn (by omega)) ?_
        rintro v22 w ⟨A1, C1, hA1, hT, hB1⟩; clear E a; intro a E
        have S := S.all hT
        obtain ⟨ad1, c1, rfl⟩ := hB1.slice
        have hbl : (s.bytes kn).1.length ≤ 8 := by { simp only [Rdr.bytes]; split; simp; split; simp; split; simp; simp only [Rdr.cut, List.length_take, Int.toNat_natCast]; omega }
        refine zp E (zAd E rfl rfl) ?_; clear E a; intro a E
        refine wpList_nil ?_
        refine zAf hK ?_; clear hK; clear K
        refine wp_seq_k ?_; intro K hK
        refine zAb ?_
        refine zp E (zAe E rfl rfl) ?_; clear E a; intro a E
        refine zAp E rfl rfl (by decide) rfl Tryz.func121 rfl (by kernel_rfl) rfl (uvalue_ret C1 _ (s.bytes kn).1 _ hB1.rd (S.stab.at (by repeat (first | exact mm1 | assumption | apply List.Mem.tail))) hbl) ?_
        rintro v24 w ⟨rfl, rfl⟩; clear E a; intro a E
        refine zp E (zAd E rfl rfl) ?_; clear E a; intro a E
        refine wpList_nil ?_
        refine zAf hK ?_; clear hK; clear K
        refine wp_ret ?_
        refine ret1 E rfl rfl ?_
        have he : s.e = 0 := by omega
        have hv : s.num kn = (zCs (s.bytes kn).1, (s.bytes kn).2) := by { by_cases hsh : s.bs.length < s.at_ + kn <;> simp [Rdr.num, Rdr.bytes, he, hsh, zCs, show ¬ ((kn : Int) < 1 ∨ 8 < (kn : Int)) by omega, show ¬ (kn : Int) < 0 by omega] }
        exact ⟨_, rfl, A1, by rw [hv], by rw [hv]; exact hA1, (S.only (Bs := [A1]) (zAk (by repeat (first | exact pk1 | apply zAc)) (zAr _))).tr⟩
theorem udone_ret (p : Nat) (s : Rdr) (A : zAy) (w0 : World) (hA : RdC 118 p s A) (H : Hp w0 [A]) :
    Ret Tryz.prog 84 #[ptr p] w0 fun u w' => u = .int .i64 s.done ∧ Trs w0 w' [A] [A] := by
  obtain ⟨hat, hlen, ad, c, C, rfl, hc, hR⟩ := hA
  have S := (St.begin H).split
  refine zCx 24 Tryz.func84 rfl rfl (by decide) ?_; intro a E
  refine wp_seq_k ?_; intro K hK
  refine zAb ?_
  refine zp E (zAd E rfl rfl) ?_; clear E a; intro a E
  refine wpList_nil ?_
  refine zAf hK ?_; clear hK; clear K
  iterate 2 (refine wp_seq_k ?_; intro K hK)
  refine zBz S (.ofL [(0, 0), (1, 0), (2, 0), (3, 0), (4, 0), (5, 0), (6, 0), (7, 0), (8, 0), (9, 0), (10, 0), (11, 0), (12, 0), (13, 0), (14, 0), (15, 0), (16, 0)]) (by kernel_rfl) (by kernel_rfl) ?_
  clear S; intro w S
  refine zm E rfl (fun w h => zAe E rfl rfl) ?_; clear E a; intro a E
  refine zm E rfl (fun w h => zBb E rfl rfl) ?_; clear E a; intro a E
  refine zm E rfl (fun w h => by first | exact zAg (q := 2) E rfl rfl rfl | exact zAh (q := 2) E rfl rfl rfl) ?_; clear E a; intro a E
  refine zm E rfl (fun w h => by first | exact zAo E rfl rfl rfl (h.one (by repeat (first | exact mm1 | assumption | apply List.Mem.tail))) rfl | exact zAj E rfl rfl rfl (by assumption)) ?_; clear E a; intro a E
  refine zm E rfl (fun w h => by first | exact zCe E rfl rfl rfl | exact zAt E rfl rfl rfl rfl | exact zBd E rfl rfl rfl rfl | exact zAw E rfl rfl rfl) ?_; clear E a; intro a E
  refine zm E rfl (fun w h => zAe E rfl rfl) ?_; clear E a; intro a E
  refine zAs E (t := 8) rfl (fun hb8 => ?_) (fun hb8 => ?_)
  · have hb8n := hb8; replace hb8n := Nrm.nrm hb8n
    refine zBa E rfl rfl rfl rfl rfl hb8 rfl (by decide) (fun w h => zAe E rfl rfl) ?_; clear E a; intro a E
    refine zBa E rfl rfl rfl rfl rfl hb8 rfl (by decide) (fun w h => zBb E rfl rfl) ?_; clear E a; intro a E
    refine zBa E rfl rfl rfl rfl rfl hb8 rfl (by decide) (fun w h => by first | exact zAg (q := 1) E rfl rfl rfl | exact zAh (q := 1) E rfl rfl rfl) ?_; clear E a; intro a E
    refine zBa E rfl rfl rfl rfl rfl hb8 rfl (by decide) (fun w h => by first | exact zAo E rfl rfl rfl (h.one (by repeat (first | exact mm1 | assumption | apply List.Mem.tail))) rfl | exact zAj E rfl rfl rfl (by assumption)) ?_; clear E a; intro a E
    refine zBa E rfl rfl rfl rfl rfl hb8 rfl (by decide) (fun w h => zAe E rfl rfl) ?_; clear E a; intro a E
    refine zBa E rfl rfl rfl rfl rfl hb8 rfl (by decide) (fun w h => zBb E rfl rfl) ?_; clear E a; intro a E
    refine zBa E rfl rfl rfl rfl rfl hb8 rfl (by decide) (fun w h => by first | exact zAg (q := 0) E rfl rfl rfl | exact zAh (q := 0) E rfl rfl rfl) ?_; clear E a; intro a E
    refine zBa E rfl rfl rfl rfl rfl hb8 rfl (by decide) (fun w h => by first | exact zAo E rfl rfl rfl (h.one (by repeat (first | exact mm1 | assumption | apply List.Mem.tail))) rfl | exact zAj E rfl rfl rfl (by assumption)) ?_; clear E a; intro a E
    refine zBa E rfl rfl rfl rfl rfl hb8 rfl (by decide) (fun w h => by first | exact zBx E rfl rfl rfl | exact zAx E rfl rfl rfl | exact zAq E rfl rfl rfl) ?_; clear E a; intro a E
    refine zBa E rfl rfl rfl rfl rfl hb8 rfl (by decide) (fun w h => zCn E rfl rfl rfl) ?_; clear E a; intro a E
    refine zm E rfl (fun w h => zAl E rfl rfl hb8 rfl) ?_; clear E a; intro a E
    refine zBw ?_
    refine zAf hK ?_; clear hK; clear K
    refine zBf E rfl (fun hb => ?_) (fun hb => ?_)
    · replace hb := Nrm.nrm hb
      refine wp_seq_k ?_; intro K hK
      refine zAb ?_
      refine zp E (zAd E rfl rfl) ?_; clear E a; intro a E
      refine wpList_nil ?_
      refine zAf hK ?_; clear hK; clear K
      refine wp_ret ?_
      refine zAv ?_; clear hK; clear K
      refine ret1 E rfl rfl ?_
      exact ⟨_, rfl, by simp only [Rdr.done]; rw [if_pos (by omega)]; rfl, S.join.tr⟩
    · replace hb := Nrm.nrm hb
      refine wp_skip ?_
      refine zAf hK ?_; clear hK; clear K
      refine wp_seq_k ?_; intro K hK
      refine zAb ?_
      refine zp E (zAe E rfl rfl) ?_; clear E a; intro a E
      refine zp E (zBb E rfl rfl) ?_; clear E a; intro a E
      refine zp E (by first | exact zAg (q := 2) E rfl rfl rfl | exact zAh (q := 2) E rfl rfl rfl) ?_; clear E a; intro a E
      refine zp E (by first | exact zAo E rfl rfl rfl (S.get (by repeat (first | exact pk1 | apply zAc))) rfl | exact zAj E rfl rfl rfl (by assumption)) ?_; clear E a; intro a E
      refine zp E (zAd E rfl rfl) ?_; clear E a; intro a E
      refine wpList_nil ?_
      refine zAf hK ?_; clear hK; clear K
      refine wp_ret ?_
      refine ret1 E rfl rfl ?_
      exact ⟨_, rfl, by simp only [Rdr.done]; rw [if_neg (by omega)], S.join.tr⟩
  · have hb8n := hb8; replace hb8n := Nrm.nrm hb8n
    iterate 10 (refine zCd E rfl rfl rfl rfl rfl hb8 rfl (by decide) ?_; clear E a; intro a E)
    refine zm E rfl (fun w h => zAi E rfl rfl hb8 rfl) ?_; clear E a; intro a E
    refine zBw ?_
    refine zAf hK ?_; clear hK; clear K
    refine zDl E rfl rfl ?_
    refine wp_skip ?_
    refine zAf hK ?_; clear hK; clear K
    refine wp_seq_k ?_; intro K hK
    refine zAb ?_
    refine zp E (zAe E rfl rfl) ?_; clear E a; intro a E
    refine zp E (zBb E rfl rfl) ?_; clear E a; intro a E
    refine zp E (by first | exact zAg (q := 2) E rfl rfl rfl | exact zAh (q := 2) E rfl rfl rfl) ?_; clear E a; intro a E
    refine zp E (by first | exact zAo E rfl rfl rfl (S.get (by repeat (first | exact pk1 | apply zAc))) rfl | exact zAj E rfl rfl rfl (by assumption)) ?_; clear E a; intro a E
    refine zp E (zAd E rfl rfl) ?_; clear E a; intro a E
    refine wpList_nil ?_
    refine zAf hK ?_; clear hK; clear K
    refine wp_ret ?_
    refine ret1 E rfl rfl ?_
    exact ⟨_, rfl, by simp only [Rdr.done]; rw [if_neg (by omega)], S.join.tr⟩
theorem zHt (p : Nat) (s : Rdr) (A : zAy) (w0 : World) (hA : RdC 118 p s A) (H : Hp w0 [A]) (most : Int) :
    Ret Tryz.prog 106 #[ptr p, .int .i64 most] w0 fun u w' => ∃ A', u = str (s.text most).1 ∧ RdC 118 p (s.text most).2 A' ∧ Trs w0 w' [A] [A'] := by
  obtain ⟨hat, hlen, ad, c, C, rfl, hc, hR⟩ := hA
  have S := (St.begin H).split
  refine zCr 93 Tryz.func106 rfl rfl (by decide) ?_; intro a E
  refine wp_seq_k ?_; intro K hK
  refine zAb ?_
  refine zp E (zAd E rfl rfl) ?_; clear E a; intro a E
  refine wpList_nil ?_
  refine zAf hK ?_; clear hK; clear K
  iterate 2 (refine wp_seq_k ?_; intro K hK)
  refine zAb ?_
  refine zp E (zAe E rfl rfl) ?_; clear E a; intro a E
  refine zp E (zBb E rfl rfl) ?_; clear E a; intro a E
  refine zp E (by first | exact zAg (q := 2) E rfl rfl rfl | exact zAh (q := 2) E rfl rfl rfl) ?_; clear E a; intro a E
  refine zp E (by first | exact zAo E rfl rfl rfl (S.get (by repeat (first | exact pk1 | apply zAc))) rfl | exact zAj E rfl rfl rfl (by assumption)) ?_; clear E a; intro a E
  refine zp E (by first | exact zCu E rfl rfl rfl | exact zBg E rfl rfl rfl rfl | exact zBr E rfl rfl rfl rfl | exact zBk E rfl rfl rfl) ?_; clear E a; intro a E
  refine wpList_nil ?_
  refine zAf hK ?_; clear hK; clear K
  refine zBf E rfl (fun hb => ?_) (fun hb => ?_)
  · replace hb := Nrm.nrm hb
    refine wp_seq_k ?_; intro K hK
    refine zAb ?_
    refine zp E (zAd E rfl rfl) ?_; clear E a; intro a E
    refine wpList_nil ?_
    refine zAf hK ?_; clear hK; clear K
    refine wp_ret ?_
    refine zAv ?_; clear hK; clear K
    refine ret1 E rfl rfl ?_
    have hv : s.text most = ([], s) := by simp [Rdr.text, show s.e ≠ 0 by omega]
    exact ⟨_, rfl, _, by rw [hv], by rw [hv]; exact ⟨hat, hlen, ad, c, C, rfl, hc, hR⟩, S.join.tr⟩
  · replace hb := Nrm.nrm hb
    refine wp_skip ?_
    refine zAf hK ?_; clear hK; clear K
    iterate 2 (refine wp_seq_k ?_; intro K hK)
    have he : s.e = 0 := by omega
    refine zBz S (.ofL [(0, 0), (1, 0), (2, 0), (3, 0), (4, 0), (5, 0), (6, 0), (7, 0), (8, 0), (9, 0), (10, 0)]) (by kernel_rfl) (by kernel_rfl) ?_
    clear S; intro w S
    refine zm E rfl (fun w h => zAe E rfl rfl) ?_; clear E a; intro a E
    refine zm E rfl (fun w h => zBb E rfl rfl) ?_; clear E a; intro a E
    refine zm E rfl (fun w h => by first | exact zAg (q := 0) E rfl rfl rfl | exact zAh (q := 0) E rfl rfl rfl) ?_; clear E a; intro a E
    refine zm E rfl (fun w h => by first | exact zAo E rfl rfl rfl (h.one (by repeat (first | exact mm1 | assumption | apply List.Mem.tail))) rfl | exact zAj E rfl rfl rfl (by assumption)) ?_; clear E a; intro a E
    refine zm E rfl (fun w h => by first | exact zBx E rfl rfl rfl | exact zAx E rfl rfl rfl | exact zAq E rfl rfl rfl) ?_; clear E a; intro a E
    refine zm E rfl (fun w h => zAe E rfl rfl) ?_; clear E a; intro a E
    refine zm E rfl (fun w h => zBb E rfl rfl) ?_; clear E a; intro a E
    refine zm E rfl (fun w h => by first | exact zAg (q := 1) E rfl rfl rfl | exact zAh (q := 1) E rfl rfl rfl) ?_; clear E a; intro a E
    refine zm E rfl (fun w h => by first | exact zAo E rfl rfl rfl (h.one (by repeat (first | exact mm1 | assumption | apply List.Mem.tail))) rfl | exact zAj E rfl rfl rfl (by assumption)) ?_; clear E a; intro a E
    refine zm E rfl (fun w h => zDs E rfl rfl rfl (by first | exact ws1 (by omega) (by omega) | exact w_in (by omega) | exact zBt (by omega) | exact rfl)) ?_; clear E a; intro a E
    refine zm E rfl (fun w h => zCn E rfl rfl rfl) ?_; clear E a; intro a E
    refine zBw ?_
    refine zAf hK ?_; clear hK; clear K
    refine zBf E rfl (fun hb => ?_) (fun hb => ?_)
    · replace hb := Nrm.nrm hb
      refine wp_seq_k ?_; intro K hK
      refine zAb ?_
      refine zp E (zAe E rfl rfl) ?_; clear E a; intro a E
      refine zp E (zBb E rfl rfl) ?_; clear E a; intro a E
      refine zp E (by first | exact zAg (q := 2) E rfl rfl rfl | exact zAh (q := 2) E rfl rfl rfl) ?_; clear E a; intro a E
      refine zAn rfl (zBo E S rfl rfl rfl rfl rfl rfl (by repeat (first | exact pk1 | apply zAc)) (by first | exact Nat.le_of_ble_eq_true rfl | (simp; done) | (simp; omega)) ?_); clear E S a; intro a w E S; try dsimp only [List.set] at S
      refine wpList_nil ?_
      refine zAf hK ?_; clear hK; clear K
      refine wp_seq_k ?_; intro K hK
      refine zAb ?_
      refine zp E (zAd E rfl rfl) ?_; clear E a; intro a E
      refine wpList_nil ?_
      refine zAf hK ?_; clear hK; clear K
      refine wp_ret ?_
      refine zAv ?_; clear hK; clear K
      refine ret1 E rfl rfl ?_
      have hv : s.text most = ([], { s with e := 10 }) := by simp [Rdr.text, he, show s.bs.length < s.at_ + 2 by omega]
      exact ⟨_, rfl, _, by rw [hv], by rw [hv]; exact ⟨hat, hlen, ad, c, C, rfl, hc, hR⟩, S.join.tr⟩
    · replace hb := Nrm.nrm hb
      refine wp_skip ?_
      refine zAf hK ?_; clear hK; clear K
      refine wp_seq_k ?_; intro K hK
      have hcl := s.cut_length 2 0 (by omega)
      have hnl := zFt (s.cut 2 0)
      rw [hcl] at hnl
      refine zBz S (.ofL [(0, 0), (1, 0), (2, 0), (3, 0), (4, 0), (5, 0), (6, 0), (7, 0), (8, 0), (9, 0), (10, 0), (11, 0), (12, 0), (13, 0), (14, 3), (15, 2), (16, 2)]) (by kernel_rfl) (by kernel_rfl) ?_
      clear S; intro w S
      refine zm E rfl (fun w h => zAe E rfl rfl) ?_; clear E a; intro a E
      refine zm E rfl (fun w h => zBb E rfl rfl) ?_; clear E a; intro a E
      refine zm E rfl (fun w h => by first | exact zAg (q := 0) E rfl rfl rfl | exact zAh (q := 0) E rfl rfl rfl) ?_; clear E a; intro a E
      refine zm E rfl (fun w h => by first | exact zAo E rfl rfl rfl (h.one (by repeat (first | exact mm1 | assumption | apply List.Mem.tail))) rfl | exact zAj E rfl rfl rfl (by assumption)) ?_; clear E a; intro a E
      refine zm E rfl (fun w h => zAe E rfl rfl) ?_; clear E a; intro a E
      refine zm E rfl (fun w h => zBb E rfl rfl) ?_; clear E a; intro a E
      refine zm E rfl (fun w h => by first | exact zAg (q := 1) E rfl rfl rfl | exact zAh (q := 1) E rfl rfl rfl) ?_; clear E a; intro a E
      refine zm E rfl (fun w h => by first | exact zAo E rfl rfl rfl (h.one (by repeat (first | exact mm1 | assumption | apply List.Mem.tail))) rfl | exact zAj E rfl rfl rfl (by assumption)) ?_; clear E a; intro a E
      refine zm E rfl (fun w h => zAe E rfl rfl) ?_; clear E a; intro a E
      refine zm E rfl (fun w h => zBb E rfl rfl) ?_; clear E a; intro a E
      refine zm E rfl (fun w h => by first | exact zAg (q := 1) E rfl rfl rfl | exact zAh (q := 1) E rfl rfl rfl) ?_; clear E a; intro a E
      refine zm E rfl (fun w h => by first | exact zAo E rfl rfl rfl (h.one (by repeat (first | exact mm1 | assumption | apply List.Mem.tail))) rfl | exact zAj E rfl rfl rfl (by assumption)) ?_; clear E a; intro a E
      refine zm E rfl (fun w h => zBu E rfl rfl rfl (by first | exact zCl (y := 2) (by omega) | exact w_in (by omega) | exact zBt (by omega) | exact rfl)) ?_; clear E a; intro a E
      refine zm E rfl (fun w h => zEg (s := 1) E rfl rfl rfl rfl rfl rfl rfl rfl (by omega) (by omega)) ?_; clear E a; intro a E
      obtain ⟨ad2, c2, hs2, hR2⟩ := hR.cut (lo := s.at_) (hi := s.at_ + 2) (by omega) (by omega) (by omega)
      rw [hs2] at E
      have hR2 : Rd C 1 (.slice ad2 (s.at_ + 2 - s.at_) c2) (s.cut 2 0).length (byt (s.cut 2 0)) := by { rw [hcl]; simpa [zFr, zGn, Rdr.cut, Nat.add_sub_cancel_left] using hR2 }
      refine zGr E rfl rfl rfl (by decide) rfl Tryz.func121 rfl (by kernel_rfl) rfl (uvalue_ret C _ (s.cut 2 0) _ hR2 (S.stab.at (by repeat (first | exact mm1 | assumption | apply List.Mem.tail))) (by omega)) ?_
      rintro v40 w ⟨rfl, rfl⟩; clear E a; intro a E
      refine zCg E rfl rfl rfl (by decide) (fun w => by first | exact zBe E rfl rfl rfl rfl (by first | exact wu8 _ | exact zDy (by omega) | exact zDd (by omega) | exact w_in (by omega) | exact zBt (by omega) | exact rfl) | exact zCa E rfl rfl rfl rfl rfl (by assumption) (S.stab.at (by simp))) ?_; clear E a; intro a E
      refine zCg E rfl rfl rfl (by decide) (fun w => zAd E rfl rfl) ?_; clear E a; intro a E
      refine zBw ?_
      refine zAf hK ?_; clear hK; clear K
      iterate 2 (refine wp_seq_k ?_; intro K hK)
      replace E := E.keep (e' := [(0, _), (1, _), (4, _), (5, _)]) (zAa rfl (zAa rfl (zAa rfl (zAa rfl (zAm)))))
      refine zAb ?_
      iterate 2 (refine zp E (zAe E rfl rfl) ?_; clear E a; intro a E)
      refine zp E (zDm E rfl rfl rfl) ?_; clear E a; intro a E
      refine wpList_nil ?_
      refine zAf hK ?_; clear hK; clear K
      refine zBf E rfl (fun hb => ?_) (fun hb => ?_)
      · replace hb := Nrm.nrm hb
        refine wp_seq_k ?_; intro K hK
        refine zAb ?_
        refine zp E (zAe E rfl rfl) ?_; clear E a; intro a E
        refine zp E (zBb E rfl rfl) ?_; clear E a; intro a E
        refine zp E (by first | exact zAg (q := 2) E rfl rfl rfl | exact zAh (q := 2) E rfl rfl rfl) ?_; clear E a; intro a E
        refine zAn rfl (zBo E S rfl rfl rfl rfl rfl rfl (by repeat (first | exact pk1 | apply zAc)) (by first | exact Nat.le_of_ble_eq_true rfl | (simp; done) | (simp; omega)) ?_); clear E S a; intro a w E S; try dsimp only [List.set] at S
        refine wpList_nil ?_
        refine zAf hK ?_; clear hK; clear K
        refine wp_seq_k ?_; intro K hK
        refine zAb ?_
        refine zp E (zAd E rfl rfl) ?_; clear E a; intro a E
        refine wpList_nil ?_
        refine zAf hK ?_; clear hK; clear K
        refine wp_ret ?_
        refine zAv ?_; clear hK; clear K
        refine ret1 E rfl rfl ?_
        have hv : s.text most = ([], { s with e := 11 }) := by simp [Rdr.text, he, show ¬ s.bs.length < s.at_ + 2 by omega, show most < (zCs (s.cut 2 0) : Int) by omega]
        exact ⟨_, rfl, _, by rw [hv], by rw [hv]; exact ⟨hat, hlen, ad, c, C, rfl, hc, hR⟩, S.join.tr⟩
      · replace hb := Nrm.nrm hb
        refine wp_skip ?_
        refine zAf hK ?_; clear hK; clear K
        iterate 2 (refine wp_seq_k ?_; intro K hK)
        refine zBz S (.ofL [(0, 0), (1, 0), (2, 0), (3, 0), (4, 0), (5, 0), (6, 0), (7, 0), (8, 0), (9, 0), (10, 0), (11, 0), (12, 0)]) (by kernel_rfl) (by kernel_rfl) ?_
        clear S; intro w S
        iterate 2 (refine zm E rfl (fun w h => zAe E rfl rfl) ?_; clear E a; intro a E)
        refine zm E rfl (fun w h => zBb E rfl rfl) ?_; clear E a; intro a E
        refine zm E rfl (fun w h => by first | exact zAg (q := 0) E rfl rfl rfl | exact zAh (q := 0) E rfl rfl rfl) ?_; clear E a; intro a E
        refine zm E rfl (fun w h => by first | exact zAo E rfl rfl rfl (h.one (by repeat (first | exact mm1 | assumption | apply List.Mem.tail))) rfl | exact zAj E rfl rfl rfl (by assumption)) ?_; clear E a; intro a E
        refine zm E rfl (fun w h => by first | exact zBx E rfl rfl rfl | exact zAx E rfl rfl rfl | exact zAq E rfl rfl rfl) ?_; clear E a; intro a E
        refine zm E rfl (fun w h => zAe E rfl rfl) ?_; clear E a; intro a E
        refine zm E rfl (fun w h => zBb E rfl rfl) ?_; clear E a; intro a E
        refine zm E rfl (fun w h => by first | exact zAg (q := 1) E rfl rfl rfl | exact zAh (q := 1) E rfl rfl rfl) ?_; clear E a; intro a E
        refine zm E rfl (fun w h => by first | exact zAo E rfl rfl rfl (h.one (by repeat (first | exact mm1 | assumption | apply List.Mem.tail))) rfl | exact zAj E rfl rfl rfl (by assumption)) ?_; clear E a; intro a E
        refine zm E rfl (fun w h => zDs E rfl rfl rfl (by first | exact ws1 (by omega) (by omega) | exact w_in (by omega) | exact zBt (by omega) | exact rfl)) ?_; clear E a; intro a E
        refine zm E rfl (fun w h => zDs E rfl rfl rfl (by first | exact zGa (y := 2) (by omega) (by omega) | exact w_in (by omega) | exact zBt (by omega) | exact rfl)) ?_; clear E a; intro a E
        refine zm E rfl (fun w h => zDm E rfl rfl rfl) ?_; clear E a; intro a E
        refine zBw ?_
        refine zAf hK ?_; clear hK; clear K
        refine zBf E rfl (fun hb => ?_) (fun hb => ?_)
        · replace hb := Nrm.nrm hb
          refine wp_seq_k ?_; intro K hK
          refine zAb ?_
          refine zp E (zAe E rfl rfl) ?_; clear E a; intro a E
          refine zp E (zBb E rfl rfl) ?_; clear E a; intro a E
          refine zp E (by first | exact zAg (q := 2) E rfl rfl rfl | exact zAh (q := 2) E rfl rfl rfl) ?_; clear E a; intro a E
          refine zAn rfl (zBo E S rfl rfl rfl rfl rfl rfl (by repeat (first | exact pk1 | apply zAc)) (by first | exact Nat.le_of_ble_eq_true rfl | (simp; done) | (simp; omega)) ?_); clear E S a; intro a w E S; try dsimp only [List.set] at S
          refine wpList_nil ?_
          refine zAf hK ?_; clear hK; clear K
          refine wp_seq_k ?_; intro K hK
          refine zAb ?_
          refine zp E (zAd E rfl rfl) ?_; clear E a; intro a E
          refine wpList_nil ?_
          refine zAf hK ?_; clear hK; clear K
          refine wp_ret ?_
          refine zAv ?_; clear hK; clear K
          refine ret1 E rfl rfl ?_
          have hv : s.text most = ([], { s with e := 10 }) := by simp [Rdr.text, he, show ¬ s.bs.length < s.at_ + 2 by omega, show ¬ most < (zCs (s.cut 2 0) : Int) by omega, show s.bs.length < s.at_ + 2 + zCs (s.cut 2 0) by omega]
          exact ⟨_, rfl, _, by rw [hv], by rw [hv]; exact ⟨hat, hlen, ad, c, C, rfl, hc, hR⟩, S.join.tr⟩
        · replace hb := Nrm.nrm hb
          refine wp_skip ?_
          refine zAf hK ?_; clear hK; clear K
          refine wp_seq_k ?_; intro K hK
          have hcl2 := s.cut_length (zCs (s.cut 2 0)) 2 (by omega)
          refine zBz S (.ofL [(0, 0), (1, 0), (2, 0), (3, 0), (4, 0), (5, 0), (6, 0), (7, 0), (8, 0), (9, 0), (10, 0), (11, 0), (12, 0), (13, 0), (14, 0), (15, 0), (16, 0), (17, 0), (18, 0)]) (by kernel_rfl) (by kernel_rfl) ?_
          clear S; intro w S
          refine zm E rfl (fun w h => zAe E rfl rfl) ?_; clear E a; intro a E
          refine zm E rfl (fun w h => zBb E rfl rfl) ?_; clear E a; intro a E
          refine zm E rfl (fun w h => by first | exact zAg (q := 0) E rfl rfl rfl | exact zAh (q := 0) E rfl rfl rfl) ?_; clear E a; intro a E
          refine zm E rfl (fun w h => by first | exact zAo E rfl rfl rfl (h.one (by repeat (first | exact mm1 | assumption | apply List.Mem.tail))) rfl | exact zAj E rfl rfl rfl (by assumption)) ?_; clear E a; intro a E
          refine zm E rfl (fun w h => zAe E rfl rfl) ?_; clear E a; intro a E
          refine zm E rfl (fun w h => zBb E rfl rfl) ?_; clear E a; intro a E
          refine zm E rfl (fun w h => by first | exact zAg (q := 1) E rfl rfl rfl | exact zAh (q := 1) E rfl rfl rfl) ?_; clear E a; intro a E
          refine zm E rfl (fun w h => by first | exact zAo E rfl rfl rfl (h.one (by repeat (first | exact mm1 | assumption | apply List.Mem.tail))) rfl | exact zAj E rfl rfl rfl (by assumption)) ?_; clear E a; intro a E
          refine zm E rfl (fun w h => zBu E rfl rfl rfl (by first | exact zCl (y := 2) (by omega) | exact w_in (by omega) | exact zBt (by omega) | exact rfl)) ?_; clear E a; intro a E
          refine zm E rfl (fun w h => zAe E rfl rfl) ?_; clear E a; intro a E
          refine zm E rfl (fun w h => zBb E rfl rfl) ?_; clear E a; intro a E
          refine zm E rfl (fun w h => by first | exact zAg (q := 1) E rfl rfl rfl | exact zAh (q := 1) E rfl rfl rfl) ?_; clear E a; intro a E
          refine zm E rfl (fun w h => by first | exact zAo E rfl rfl rfl (h.one (by repeat (first | exact mm1 | assumption | apply List.Mem.tail))) rfl | exact zAj E rfl rfl rfl (by assumption)) ?_; clear E a; intro a E
          refine zm E rfl (fun w h => zBu E rfl rfl rfl (by first | exact zCl (y := 2) (by omega) | exact w_in (by omega) | exact zBt (by omega) | exact rfl)) ?_; clear E a; intro a E
          refine zm E rfl (fun w h => zAe E rfl rfl) ?_; clear E a; intro a E
          refine zm E rfl (fun w h => zBu E rfl rfl rfl (by first | exact wa1 (by omega) | exact w_in (by omega) | exact zBt (by omega) | exact rfl)) ?_; clear E a; intro a E
          refine zm E rfl (fun w h => zEg (s := 1) E rfl rfl rfl rfl rfl rfl rfl rfl (by omega) (by omega)) ?_; clear E a; intro a E
          obtain ⟨ad3, c3, hs3, hR3⟩ := hR.cut (lo := s.at_ + 2) (hi := s.at_ + 2 + zCs (s.cut 2 0)) (by omega) (by omega) (by omega)
          rw [hs3] at E
          have hR3 : Rd C 1 (.slice ad3 (s.at_ + 2 + zCs (s.cut 2 0) - (s.at_ + 2)) c3) (s.cut (zCs (s.cut 2 0)) 2).length (byt (s.cut (zCs (s.cut 2 0)) 2)) := by { rw [hcl2]; generalize zCs (s.cut 2 0) = k at *; simpa [zFr, zGn, Rdr.cut, Nat.add_sub_cancel_left] using hR3 }
          refine zm E rfl (fun w h => zCa E rfl rfl rfl rfl rfl (bs := s.cut (zCs (s.cut 2 0)) 2) hR3 (h.at (by repeat (first | exact mm1 | assumption | apply List.Mem.tail)))) ?_; clear E a; intro a E
          refine zm E rfl (fun w h => zAd E rfl rfl) ?_; clear E a; intro a E
          refine zBw ?_
          refine zAf hK ?_; clear hK; clear K
          refine wp_seq_k ?_; intro K hK
          replace E := E.keep (e' := [(0, _), (4, _), (5, _), (6, _)]) (zAa rfl (zAa rfl (zAa rfl (zAa rfl (zAm)))))
          refine zAb ?_
          iterate 2 (refine zp E (zAe E rfl rfl) ?_; clear E a; intro a E)
          refine zp E (zBb E rfl rfl) ?_; clear E a; intro a E
          refine zp E (by first | exact zAg (q := 1) E rfl rfl rfl | exact zAh (q := 1) E rfl rfl rfl) ?_; clear E a; intro a E
          refine zp E (by first | exact zAo E rfl rfl rfl (S.get (by repeat (first | exact pk1 | apply zAc))) rfl | exact zAj E rfl rfl rfl (by assumption)) ?_; clear E a; intro a E
          refine zp E (zBu E rfl rfl rfl (by first | exact zCl (y := 2) (by omega) | exact w_in (by omega) | exact zBt (by omega) | exact rfl)) ?_; clear E a; intro a E
          refine zp E (zAe E rfl rfl) ?_; clear E a; intro a E
          refine zp E (zBu E rfl rfl rfl (by first | exact wa1 (by omega) | exact w_in (by omega) | exact zBt (by omega) | exact rfl)) ?_; clear E a; intro a E
          refine zp E (zBb E rfl rfl) ?_; clear E a; intro a E
          refine zp E (by first | exact zAg (q := 1) E rfl rfl rfl | exact zAh (q := 1) E rfl rfl rfl) ?_; clear E a; intro a E
          refine zAn rfl (zBo E S rfl rfl rfl rfl rfl rfl (by repeat (first | exact pk1 | apply zAc)) (by first | exact Nat.le_of_ble_eq_true rfl | (simp; done) | (simp; omega)) ?_); clear E S a; intro a w E S; try dsimp only [List.set] at S
          refine wpList_nil ?_
          refine zAf hK ?_; clear hK; clear K
          refine wp_seq_k ?_; intro K hK
          refine zAb ?_
          refine zp E (zAe E rfl rfl) ?_; clear E a; intro a E
          refine zp E (zAd E rfl rfl) ?_; clear E a; intro a E
          refine wpList_nil ?_
          refine zAf hK ?_; clear hK; clear K
          refine wp_ret ?_
          refine ret1 E rfl rfl ?_
          have hv : s.text most = (s.cut (zCs (s.cut 2 0)) 2, { s with at_ := s.at_ + (2 + zCs (s.cut 2 0)) }) := by simp [Rdr.text, he, show ¬ s.bs.length < s.at_ + 2 by omega, show ¬ most < (zCs (s.cut 2 0) : Int) by omega, show ¬ s.bs.length < s.at_ + 2 + zCs (s.cut 2 0) by omega]
          rw [Nat.add_assoc] at S
          exact ⟨_, rfl, _, by rw [hv], by rw [hv]; exact ⟨by simp only; omega, hlen, ad, c, C, rfl, hc, hR⟩, S.join.tr⟩
end Go.Proofs.YtbogecljkaimdaaGreatDoor
namespace Go.Proofs.YtbogecljkaimdaaGreatDoor
open Go.Sl
set_option maxRecDepth 10000
theorem zFm (z : Int) (h0 : 0 ≤ z) (h1 : z ≤ 255) {D : zAy} {v : Value} {b : List UInt8} (hD : Rd D 1 v b.length (byt b)) (hbl : b.length ≤ 140737488000000) (s : Fs) (hok : s.Ok) {As : List zAy} (mD : D ∈ As) (hG0 : Tab As 0 sha0.l) (hG1 : Tab As 1 shaK) (w0 : World) (H : Hp w0 As) :
    Ret Tryz.prog 18 #[.int .i64 z, v, s.agg] w0 fun u w' => ∃ v' C, u = .tuple #[v', (ownS z b s).agg] ∧ BB C v' (zDc z b s) ∧ Trs w0 w' As (C :: As) := by
  obtain ⟨k, rfl⟩ : ∃ k : Nat, z = k := ⟨z.toNat, by omega⟩
  exact usealed_ret k (by omega) hD hbl s hok mD hG0 hG1 w0 H
theorem own_ok (k : Int) (b : List UInt8) (s : Fs) : (ownS k b s).Ok := shaF_ok _
theorem zLj {X : zAy} {r : Rec} {pv kv dv : Value} (hR : RecR X r pv kv dv) (hs : Sml r) (s : Fs) (hok : s.Ok) {As : List zAy} (hX : X ∈ As) (hG0 : Tab As 0 sha0.l) (hG1 : Tab As 1 shaK) (w0 : World) (H : Hp w0 As) :
    Ret Tryz.prog 16 #[.agg (r.cells pv kv dv).toArray, s.agg] w0 (encP r s As w0) := by
  have S := St.begin H
  obtain ⟨ad1, c1, e1⟩ := hR.pr.slice
  obtain ⟨ad2, c2, e2⟩ := hR.kr.slice
  obtain ⟨ad3, c3, e3⟩ := hR.dr.slice
  subst e1 e2 e3
  refine zCr 27 Tryz.func16 rfl rfl (by decide) ?_; intro a E
  refine wp_seq_k ?_; intro K hK
  refine zAb ?_
  refine zAn rfl (zCt E S rfl rfl (by decide) rfl rfl ?_); clear E S a; intro a w b2 E S
  refine zAn rfl (zCt E S rfl rfl (by decide) rfl rfl ?_); clear E S a; intro a w b3 E S
  refine zp E (zAd E rfl rfl) ?_; clear E a; intro a E
  refine zAn rfl (zBs E S rfl rfl (by decide) rfl rfl rfl ?_); clear E S a; intro a w b5 E S
  refine zp E (zAd E rfl rfl) ?_; clear E a; intro a E
  refine wpList_nil ?_
  refine zAf hK ?_; clear hK; clear K
  refine wp_seq_k ?_; intro K hK
  refine zAb ?_
  refine zp E (zBp (vs := [_, _, _, _, _, _, _, _, _, _, _, _, _]) E rfl rfl rfl (S.get (by repeat (first | exact pk1 | apply zAc))) rfl rfl) ?_; clear E a; intro a E
  refine zAp E rfl rfl (by decide) rfl Tryz.func15 rfl (by kernel_rfl) rfl (ucheck_ret hR hs (List.Mem.tail _ (List.Mem.tail _ (List.Mem.tail _ hX))) _ S.hp) ?_
  rintro v11 w ⟨rfl, hT⟩; clear E a; intro a E
  have S := S.all hT
  refine zp E (zAd E rfl rfl) ?_; clear E a; intro a E
  refine wpList_nil ?_
  refine zAf hK ?_; clear hK; clear K
  iterate 2 (refine wp_seq_k ?_; intro K hK)
  refine zAb ?_
  refine zp E (zAe E rfl rfl) ?_; clear E a; intro a E
  refine zp E (by first | exact zCu E rfl rfl rfl | exact zBg E rfl rfl rfl rfl | exact zBr E rfl rfl rfl rfl | exact zBk E rfl rfl rfl) ?_; clear E a; intro a E
  refine wpList_nil ?_
  refine zAf hK ?_; clear hK; clear K
  refine zBf E rfl (fun hb => ?_) (fun hb => ?_)
  · replace hb := Nrm.nrm hb
    have hck := ckE_no hb
    refine wp_seq_k ?_; intro K hK
    refine zAb ?_
    refine zp E (zCh (cells := [_, _, _, _]) E rfl rfl rfl) ?_; clear E a; intro a E
    refine zp E (zAe E rfl rfl) ?_; clear E a; intro a E
    refine zp E (zAd E rfl rfl) ?_; clear E a; intro a E
    refine zAn rfl (zAz E S rfl rfl rfl rfl (by simp [Value.oneCell']) rfl (by repeat (first | exact pk1 | apply zAc)) (by simp) ?_); clear E S a; intro a w E S; simp only [List.take_succ_cons, List.take_zero, List.drop_succ_cons, List.drop_zero, List.cons_append, List.nil_append, List.append_nil, List.length_cons, List.length_nil, Nat.zero_add, Nat.add_zero] at S
    refine zp E (zAd E rfl rfl) ?_; clear E a; intro a E
    refine wpList_nil ?_
    refine zAf hK ?_; clear hK; clear K
    refine wp_ret ?_
    refine zAv ?_; clear hK; clear K
    refine ret_tct E rfl rfl rfl rfl (S.get (by repeat (first | exact pk1 | apply zAc))) rfl ?_
    exact ⟨_, rfl, .inl ⟨hck, by rw [show ckE r = 200 by simp [ckE, hck]]; rfl, S.tail3.tr⟩⟩
  · replace hb := Nrm.nrm hb
    have hck := ckE_yes hb
    refine wp_skip ?_
    refine zAf hK ?_; clear hK; clear K
    refine wp_seq_k ?_; intro K hK
    have hk := (zKx hck).1
    have hbl := zKy hk (zKx hck).2
    have hk0 := hk.1
    have hk7 := hk.2
    obtain ⟨own, hown⟩ : ∃ own, own = ownS r.kind (zDz r.kind r) s := ⟨_, rfl⟩
    refine zDw (fun (a : Act) (w' : World) => ∃ b9 C2 adv cv, BB C2 (.slice adv (zDc r.kind (zDz r.kind r) s).length cv) (zDc r.kind (zDz r.kind r) s) ∧ St w0 As w' (C2 :: [(b9, cel (fsC own) 29)] :: [(b5, cel [.int .u64 0, .int .u64 0, .int .u64 0, .int .u64 0] 29)] :: As) ∧ Fr a 27 [(4, nilv), (5, ptr b5), (6, .int .i64 0), (8, .slice adv (zDc r.kind (zDz r.kind r) s).length cv), (9, ptr b9)]) ?_ ?_
    · skip
      refine zCz S (.cons (0, 0) (.cons (1, 0) (.cons (2, 0) (.cons (4, 0) (.fork 3 (.fork 5 (.ofL [(6, 0), (7, 0), (8, 0), (9, 1), (10, 0), (11, 3)]) 9 (.ofL [(5, 1), (6, 0), (7, 0), (8, 0), (10, 0), (11, 3)])) 9 (.ofL [(3, 1), (5, 1), (6, 0), (7, 0), (8, 0), (10, 0), (11, 3)])))))) [[(b3, cel (fsC s) 29)], [(b2, cel (r.cells (.slice ad1 r.props.length c1) (.slice ad2 r.keep.length c2) (.slice ad3 r.data.length c3)) 26)]] (fun h => h.sub (by first | (simp; done) | (simp +contextual; done) | (simp [*]; done))) (by kernel_rfl) (by kernel_rfl) ?_
      clear S; intro w S
      refine zm E rfl (fun w h => by first | exact zAg (q := 0) E rfl rfl rfl | exact zAh (q := 0) E rfl rfl rfl) ?_; clear E a; intro a E
      refine zm E rfl (fun w h => by first | exact zAo E rfl rfl rfl (h.one (by repeat (first | exact mm1 | assumption | apply List.Mem.tail))) rfl | exact zAj E rfl rfl rfl (by assumption)) ?_; clear E a; intro a E
      refine zm E rfl (fun w h => zBp (vs := [_, _, _, _, _, _, _, _, _, _, _, _, _]) E rfl rfl rfl (h.one (by repeat (first | exact mm1 | assumption | apply List.Mem.tail))) rfl rfl) ?_; clear E a; intro a E
      refine zm E rfl (fun w h => zBp (vs := [_, _, _, _]) E rfl rfl rfl (h.one (by repeat (first | exact mm1 | assumption | apply List.Mem.tail))) rfl rfl) ?_; clear E a; intro a E
      refine ⟨?_, ?_⟩
      · skip
        refine zCc E rfl rfl rfl (by decide) rfl Tryz.func37 rfl (by kernel_rfl) rfl (ubody_ret hR hck (by repeat (first | exact mm1 | assumption | apply List.Mem.tail)) _ S.hp) ?_
        rintro v20 w ⟨D, hD, hT⟩; clear E a; intro a E
        have S := S.all hT
        refine ⟨S.stab.sub (by first | (simp; done) | (simp +contextual; done) | (simp [*]; done)), ?_⟩
        refine ⟨?_, ?_⟩
        · skip
          refine zCc E rfl rfl rfl (by decide) rfl Tryz.func18 rfl (by kernel_rfl) rfl (zFm r.kind (by omega) (by omega) hD.rd (by omega) s hok (by repeat (first | exact mm1 | assumption | apply List.Mem.tail)) (by repeat (first | exact hG0 | apply Tab.tail)) (by repeat (first | exact hG1 | apply Tab.tail)) _ S.hp) ?_
          rintro v22 w ⟨v2, C2, he, hB2, hT⟩; clear E a; intro a E
          rw [← hown] at he; subst he; have S := S.all hT; obtain ⟨adv, cv, rfl⟩ := hB2.slice
          refine ⟨S.stab.sub (by first | (simp; done) | (simp +contextual; done) | (simp [*]; done)), ?_⟩
          refine zm E rfl (fun w h => zAe E rfl rfl) ?_; clear E a; intro a E
          iterate 2 (refine zm E rfl (fun w h => zBm E rfl rfl rfl) ?_; clear E a; intro a E)
          refine zCp rfl rfl (zBs E S rfl rfl (by decide) rfl rfl rfl ?_); clear E S a; intro a w b9 E S; refine ⟨S.stab.sub (by first | (simp; done) | (simp +contextual; done) | (simp [*]; done)), ?_⟩
          refine zm E rfl (fun w h => zAd E rfl rfl) ?_; clear E a; intro a E
          refine zCk rfl rfl (zAz E S rfl rfl rfl rfl (by simp [Value.oneCell']) rfl (by repeat (first | exact pk1 | apply zAc)) (by simp) ?_); clear E S a; intro a w E S; simp only [List.take_succ_cons, List.take_zero, List.drop_succ_cons, List.drop_zero, List.cons_append, List.nil_append, List.append_nil, List.length_cons, List.length_nil, Nat.zero_add, Nat.add_zero] at S
          refine zBw ?_
          refine zAu ?_
          have S := (S.front3 (A := D) (B := [(b3, _)]) (C := [(b2, _)]) (by repeat (first | exact pk1 | apply zAc)) (by repeat (first | exact pk1 | apply zAc)) (by repeat (first | exact pk1 | apply zAc))).tail3
          exact ⟨b9, C2, adv, cv, hB2, S.front3 (A := C2) (B := [(b9, _)]) (C := [(b5, _)]) (by repeat (first | exact pk1 | apply zAc)) (by repeat (first | exact pk1 | apply zAc)) (by repeat (first | exact pk1 | apply zAc)), E.keep (zAa rfl (zAa rfl (zAa rfl (zAa rfl (zAa rfl zAm)))))⟩
        · skip
          refine zCp rfl rfl (zBs E S rfl rfl (by decide) rfl rfl rfl ?_); clear E S a; intro a w b9 E S; refine ⟨S.stab.sub (by first | (simp; done) | (simp +contextual; done) | (simp [*]; done)), ?_⟩
          refine zCc E rfl rfl rfl (by decide) rfl Tryz.func18 rfl (by kernel_rfl) rfl (zFm r.kind (by omega) (by omega) hD.rd (by omega) s hok (by repeat (first | exact mm1 | assumption | apply List.Mem.tail)) (by repeat (first | exact hG0 | apply Tab.tail)) (by repeat (first | exact hG1 | apply Tab.tail)) _ S.hp) ?_
          rintro v22 w ⟨v2, C2, he, hB2, hT⟩; clear E a; intro a E
          rw [← hown] at he; subst he; have S := S.all hT; obtain ⟨adv, cv, rfl⟩ := hB2.slice
          refine ⟨S.stab.sub (by first | (simp; done) | (simp +contextual; done) | (simp [*]; done)), ?_⟩
          refine zm E rfl (fun w h => zAe E rfl rfl) ?_; clear E a; intro a E
          iterate 2 (refine zm E rfl (fun w h => zBm E rfl rfl rfl) ?_; clear E a; intro a E)
          refine zm E rfl (fun w h => zAd E rfl rfl) ?_; clear E a; intro a E
          refine zCk rfl rfl (zAz E S rfl rfl rfl rfl (by simp [Value.oneCell']) rfl (by repeat (first | exact pk1 | apply zAc)) (by simp) ?_); clear E S a; intro a w E S; simp only [List.take_succ_cons, List.take_zero, List.drop_succ_cons, List.drop_zero, List.cons_append, List.nil_append, List.append_nil, List.length_cons, List.length_nil, Nat.zero_add, Nat.add_zero] at S
          refine zBw ?_
          refine zAu ?_
          have S := (S.front3 (A := D) (B := [(b3, _)]) (C := [(b2, _)]) (by repeat (first | exact pk1 | apply zAc)) (by repeat (first | exact pk1 | apply zAc)) (by repeat (first | exact pk1 | apply zAc))).tail3
          exact ⟨b9, C2, adv, cv, hB2, S.front3 (A := C2) (B := [(b9, _)]) (C := [(b5, _)]) (by repeat (first | exact pk1 | apply zAc)) (by repeat (first | exact pk1 | apply zAc)) (by repeat (first | exact pk1 | apply zAc)), E.keep (zAa rfl (zAa rfl (zAa rfl (zAa rfl (zAa rfl zAm)))))⟩
      · skip
        refine zCp rfl rfl (zBs E S rfl rfl (by decide) rfl rfl rfl ?_); clear E S a; intro a w b9 E S; refine ⟨S.stab.sub (by first | (simp; done) | (simp +contextual; done) | (simp [*]; done)), ?_⟩
        refine zCc E rfl rfl rfl (by decide) rfl Tryz.func37 rfl (by kernel_rfl) rfl (ubody_ret hR hck (by repeat (first | exact mm1 | assumption | apply List.Mem.tail)) _ S.hp) ?_
        rintro v20 w ⟨D, hD, hT⟩; clear E a; intro a E
        have S := S.all hT
        refine ⟨S.stab.sub (by first | (simp; done) | (simp +contextual; done) | (simp [*]; done)), ?_⟩
        refine zCc E rfl rfl rfl (by decide) rfl Tryz.func18 rfl (by kernel_rfl) rfl (zFm r.kind (by omega) (by omega) hD.rd (by omega) s hok (by repeat (first | exact mm1 | assumption | apply List.Mem.tail)) (by repeat (first | exact hG0 | apply Tab.tail)) (by repeat (first | exact hG1 | apply Tab.tail)) _ S.hp) ?_
        rintro v22 w ⟨v2, C2, he, hB2, hT⟩; clear E a; intro a E
        rw [← hown] at he; subst he; have S := S.all hT; obtain ⟨adv, cv, rfl⟩ := hB2.slice
        refine ⟨S.stab.sub (by first | (simp; done) | (simp +contextual; done) | (simp [*]; done)), ?_⟩
        refine zm E rfl (fun w h => zAe E rfl rfl) ?_; clear E a; intro a E
        iterate 2 (refine zm E rfl (fun w h => zBm E rfl rfl rfl) ?_; clear E a; intro a E)
        refine zm E rfl (fun w h => zAd E rfl rfl) ?_; clear E a; intro a E
        refine zCk rfl rfl (zAz E S rfl rfl rfl rfl (by simp [Value.oneCell']) rfl (by repeat (first | exact pk1 | apply zAc)) (by simp) ?_); clear E S a; intro a w E S; simp only [List.take_succ_cons, List.take_zero, List.drop_succ_cons, List.drop_zero, List.cons_append, List.nil_append, List.append_nil, List.length_cons, List.length_nil, Nat.zero_add, Nat.add_zero] at S
        refine zBw ?_
        refine zAu ?_
        have S := (S.front3 (A := D) (B := [(b3, _)]) (C := [(b2, _)]) (by repeat (first | exact pk1 | apply zAc)) (by repeat (first | exact pk1 | apply zAc)) (by repeat (first | exact pk1 | apply zAc))).tail3
        exact ⟨b9, C2, adv, cv, hB2, S.front3 (A := C2) (B := [(b9, _)]) (C := [(b5, _)]) (by repeat (first | exact pk1 | apply zAc)) (by repeat (first | exact pk1 | apply zAc)) (by repeat (first | exact pk1 | apply zAc)), E.keep (zAa rfl (zAa rfl (zAa rfl (zAa rfl (zAa rfl zAm)))))⟩
    · clear E S a; intro a w J; obtain ⟨b9, C2, adv, cv, hB2, S, E⟩ := J
      refine zAf hK ?_; clear hK; clear K
      refine wp_seq_k ?_; intro K hK
      refine zBz S (.ofL [(0, 0), (1, 0), (2, 0), (3, 3), (4, 2)]) (by kernel_rfl) (by kernel_rfl) ?_
      clear S; intro w S
      refine zm E rfl (fun w h => zAe E rfl rfl) ?_; clear E a; intro a E
      refine zm E rfl (fun w h => zBp (vs := [_, _, _, _]) E rfl rfl rfl (h.one (by repeat (first | exact mm1 | assumption | apply List.Mem.tail))) rfl rfl) ?_; clear E a; intro a E
      refine zm E rfl (fun w h => zAd E rfl rfl) ?_; clear E a; intro a E
      refine zCk rfl rfl (zAz E S rfl rfl rfl rfl (by simp [Value.oneCell']) rfl (by repeat (first | exact pk1 | apply zAc)) (by simp) ?_); clear E S a; intro a w E S; simp only [List.take_succ_cons, List.take_zero, List.drop_succ_cons, List.drop_zero, List.cons_append, List.nil_append, List.append_nil, List.length_cons, List.length_nil, Nat.zero_add, Nat.add_zero] at S
      refine zCg E rfl rfl rfl (by decide) (fun w => zAd E rfl rfl) ?_; clear E a; intro a E
      refine zBw ?_
      refine zAf hK ?_; clear hK; clear K
      refine wp_ret ?_
      refine ret_tct E rfl rfl rfl rfl (S.get (by repeat (first | exact pk1 | apply zAc))) rfl ?_
      exact ⟨_, rfl, .inr ⟨hck, _, C2, by rw [← hown], hB2, (St.drops [_, _] (S.front1 (A := C2) (by repeat (first | exact pk1 | apply zAc)))).tr⟩⟩
noncomputable def encR (r : Rec) (s : Fs) : Int × List UInt8 × Fs := if ckB r = true then (0, zDc r.kind (zDz r.kind r) s, ownS r.kind (zDz r.kind r) s) else (200, [], zEj)
def encQ (x : Int × List UInt8 × Fs) (As : List zAy) (w0 : World) (u : Value) (w' : World) : Prop := ∃ v D, u = .tuple #[v, x.2.2.agg, .int .i64 x.1] ∧ BB D v x.2.1 ∧ Trs w0 w' As (D :: As)
theorem zJy {r : Rec} (h : ckB r = true) (s : Fs) : encR r s = (0, zDc r.kind (zDz r.kind r) s, ownS r.kind (zDz r.kind r) s) := by rw [encR, if_pos h]
theorem encR_no {r : Rec} (h : ckB r = false) (s : Fs) : encR r s = (200, [], zEj) := by rw [encR, if_neg (by rw [h]; decide)]
theorem trs_addNil {w w' : World} {As Bs : List zAy} (h : Trs w w' As Bs) : Trs w w' As ([] :: Bs) := by simpa [Trs] using h
theorem encP_Q {r : Rec} {s : Fs} {As : List zAy} {w0 : World} {u : Value} {w' : World} (h : encP r s As w0 u w') : encQ (encR r s) As w0 u w' := by
  rcases h with ⟨h, rfl, hT⟩ | ⟨h, v, D, rfl, hB, hT⟩
  · rw [encR_no h]; exact ⟨_, [], rfl, Buf.nil _ _, trs_addNil hT⟩
  · rw [zJy h]; exact ⟨v, D, rfl, hB, hT⟩
theorem zero_ok : zEj.Ok := ⟨Nat.zero_lt_succ _, Nat.zero_lt_succ _, Nat.zero_lt_succ _, Nat.zero_lt_succ _⟩
theorem encR_ok (r : Rec) (s : Fs) : (encR r s).2.2.Ok := by
  cases h : ckB r with
  | true => rw [zJy h]; exact own_ok _ _ _
  | false => rw [encR_no h]; exact zero_ok
theorem strS_ok (l : List Rec) : (strS l).2.Ok := by
  rcases List.eq_nil_or_concat l with rfl | ⟨l', r, rfl⟩
  · exact ⟨Nat.zero_lt_succ _, Nat.zero_lt_succ _, Nat.zero_lt_succ _, Nat.zero_lt_succ _⟩
  · rw [List.concat_eq_append, strS, List.foldl_append]; exact own_ok _ _ _
set_option maxHeartbeats 1000000 in
theorem ustream_ret {D X : zAy} {v : Value} {l : List RV} (hD : Rd D 13 v l.length (l.flatMap RV.lay)) (hX : RVs X l) (hs : ∀ x ∈ l, Sml x.r) (hl : l.length ≤ 1048576) (rs : List Rec) (hrs : rs = l.map RV.r) {As : List zAy} (mD : D ∈ As) (mX : X ∈ As) (hG0 : Tab As 0 sha0.l) (hG1 : Tab As 1 shaK) (w0 : World) (H : Hp w0 As) :
    Ret Tryz.prog 24 #[v] w0 fun u w' => ∃ v' C, u = .tuple #[v', .int .i64 (strR rs).1] ∧ Buf C 5 1 v' (strR rs).2.length (byt (strR rs).2) ∧ Trs w0 w' As (C :: As) := by
  have S := St.begin H
  have hrl : rs.length = l.length := by rw [hrs, List.length_map]
  obtain ⟨ad, c, rfl⟩ := hD.slice
  refine zCx 38 Tryz.func24 rfl rfl (by decide) ?_; intro a E
  refine wp_seq_k ?_; intro K hK
  refine zAb ?_
  iterate 2 (refine zp E (zAd E rfl rfl) ?_; clear E a; intro a E)
  refine wpList_nil ?_
  refine zAf hK ?_; clear hK; clear K
  refine wp_seq_k ?_; intro K hK
  refine zAb ?_
  refine zp E (zAd E rfl rfl) ?_; clear E a; intro a E
  refine wpList_nil ?_
  refine zAf hK ?_; clear hK; clear K
  refine wp_seq_k ?_; intro K hK
  refine zAb ?_
  refine zp E (zCh (cells := [_, _, _, _]) E rfl rfl rfl) ?_; clear E a; intro a E
  refine zAn rfl (zBs E S rfl rfl (by decide) rfl rfl rfl ?_); clear E S a; intro a w b5 E S
  refine zAn rfl (zAz E S rfl rfl rfl rfl (by simp [Value.oneCell']) rfl (by repeat (first | exact pk1 | apply zAc)) (by simp) ?_); clear E S a; intro a w E S; simp only [List.take_succ_cons, List.take_zero, List.drop_succ_cons, List.drop_zero, List.cons_append, List.nil_append, List.append_nil, List.length_cons, List.length_nil, Nat.zero_add, Nat.add_zero] at S
  refine wpList_nil ?_
  refine zAf hK ?_; clear hK; clear K
  iterate 2 (refine wp_seq_k ?_; intro K hK)
  refine zAb ?_
  refine zp E (zAd E rfl rfl) ?_; clear E a; intro a E
  refine wpList_nil ?_
  refine zAf hK ?_; clear hK; clear K
  refine wp_block ?_
  refine wp_loop_ghost (fun (m : Nat) (a : Act) (w' : World) => ∃ (i : Nat) (C : zAy) (v' : Value), m = l.length - i ∧ i ≤ l.length ∧ (∀ k, ∀ h : k < rs.length, k < i → ckB rs[k] = true) ∧ BB C v' (strS (rs.take i)).1 ∧ St w0 As w' (C :: [(b5, cel (fsC (strS (rs.take i)).2) 29)] :: As) ∧ Fr a 38 [(0, .slice ad l.length c), (2, nilv), (3, .int .i64 0), (4, v'), (5, ptr b5), (6, .int .i64 i)]) (l.length) ?_ ?_
  · exact ⟨0, [], _, by omega, by omega, by intro k _ h; omega, Buf.nil _ _, S.addNil, E.keep (zAa rfl (zAa rfl (zAa rfl (zAa rfl (zAa rfl (zAa rfl zAm))))))⟩
  clear E; clear a; (try clear S); rintro m a w ⟨i, C, v', rfl, hi, hck, hB, S, E⟩
  iterate 2 (refine wp_seq_k ?_; intro K hK)
  refine zAb ?_
  iterate 2 (refine zp E (zAe E rfl rfl) ?_; clear E a; intro a E)
  refine zp E (by first | exact zBx E rfl rfl rfl | exact zAx E rfl rfl rfl | exact zAq E rfl rfl rfl) ?_; clear E a; intro a E
  refine zp E (zCn E rfl rfl rfl) ?_; clear E a; intro a E
  refine wpList_nil ?_
  refine zAf hK ?_; clear hK; clear K
  refine zBf E rfl (fun hb => ?_) (fun hb => ?_)
  · replace hb := Nrm.nrm hb
    refine wp_skip ?_
    refine zAf hK ?_; clear hK; clear K
    refine wp_seq_k ?_; intro K hK
    refine wp_block ?_
    refine wp_seq_k ?_; intro K hK
    have hil : i < l.length := by omega
    have hir : i < rs.length := by omega
    have hlen := strS_le (l := rs) i (by omega) hck
    have hri : rs[i] = l[i].r := by simp [hrs]
    have hso := strS_ok (rs.take i)
    obtain ⟨b, off, rfl⟩ := hD.addr (by omega)
    obtain ⟨x, hx⟩ : ∃ x, x = l[i] := ⟨_, rfl⟩
    have hxR := hX _ (List.getElem_mem hil)
    have hxs := hs _ (List.getElem_mem hil)
    have hcl : ∀ {w' : World}, Stab [D] w' → ∀ j u, (RV.lay l[i])[j]? = some u → w'.cell? ⟨b, off + i * 13 + j, none⟩ = some u := fun h => hD.elem RV.lay_len (h.at (by repeat (first | exact mm1 | assumption | apply List.Mem.tail))) hil
    rw [← hx] at hxR hxs hcl hri
    obtain ⟨r, pv, kv, dv⟩ := x
    simp only at hxR hxs hri
    obtain ⟨bs, hbs⟩ : ∃ bs, bs = (strS (rs.take i)).1 := ⟨_, rfl⟩
    obtain ⟨se, hse⟩ : ∃ se, se = (strS (rs.take i)).2 := ⟨_, rfl⟩
    rw [← hbs] at hB hlen
    rw [← hse] at S hso
    obtain ⟨p1, p2, p3⟩ := hxR
    obtain ⟨a1, c1, rfl⟩ := p1.slice
    obtain ⟨a2, c2, rfl⟩ := p2.slice
    obtain ⟨a3, c3, rfl⟩ := p3.slice
    have hxR : RecR X r (.slice a1 r.props.length c1) (.slice a2 r.keep.length c2) (.slice a3 r.data.length c3) := ⟨p1, p2, p3⟩
    have hokx := encR_ok r se
    have hxy : ckB r = true → encR r se = (0, zDc r.kind (zDz r.kind r) se, ownS r.kind (zDz r.kind r) se) := fun h => zJy h se
    have hxn : ckB r = false → encR r se = (200, [], zEj) := fun h => encR_no h se
    obtain ⟨er, her⟩ : ∃ x, x = encR r se := ⟨_, rfl⟩
    rw [← her] at hxy hxn hokx
    obtain ⟨er, pb, own⟩ := er
    simp only at hokx
    refine zDw (fun (a : Act) (w' : World) => ∃ b8 D2 v2, BB D2 v2 pb ∧ St w0 As w' (D2 :: [(b8, cel (fsC own) 29)] :: C :: [(b5, cel (fsC se) 29)] :: As) ∧ Fr a 38 [(0, .slice (some ⟨b, off, none⟩) l.length c), (2, nilv), (3, .int .i64 0), (4, v'), (5, ptr b5), (6, .int .i64 i), (7, v2), (8, ptr b8), (9, .int .i64 er)]) ?_ ?_
    · skip
      refine zCz S (.cons (0, 0) (.cons (1, 0) (.cons (2, 0) (.cons (3, 0) (.cons (4, 0) (.fork 5 (.ofL [(6, 0), (7, 0), (8, 0), (9, 2), (10, 1), (11, 0), (12, 3), (13, 2)]) 10 (.ofL [(5, 1), (6, 0), (7, 0), (8, 0), (9, 2), (11, 0), (12, 3), (13, 2)]))))))) [[(b5, cel (fsC se) 29)], D] (fun h => h.sub (by first | (simp; done) | (simp +contextual; done) | (simp [*]; done))) (by kernel_rfl) (by kernel_rfl) ?_
      clear S; intro w S
      iterate 2 (refine zm E rfl (fun w h => zAe E rfl rfl) ?_; clear E a; intro a E)
      refine zm E rfl (fun w h => by first | exact zBl E rfl rfl rfl rfl rfl rfl (by omega) | exact zBv E rfl rfl rfl rfl rfl rfl (by omega) | exact zBj E rfl rfl rfl rfl rfl rfl (by omega)) ?_; clear E a; intro a E
      refine zm E rfl (fun w h => zDo (vs := [_, _, _, _, _, _, _, _, _, _, _, _, _]) E rfl rfl rfl rfl (hcl (h.sub (by simp)))) ?_; clear E a; intro a E
      refine zm E rfl (fun w h => zBp (vs := [_, _, _, _]) E rfl rfl rfl (h.one (by repeat (first | exact mm1 | assumption | apply List.Mem.tail))) rfl rfl) ?_; clear E a; intro a E
      refine ⟨?_, ?_⟩
      · skip
        refine zCc E rfl rfl rfl (by decide) rfl Tryz.func16 rfl (by kernel_rfl) rfl (zLj hxR hxs se hso (by repeat (first | exact mm1 | assumption | apply List.Mem.tail)) (by repeat (first | exact hG0 | apply Tab.tail)) (by repeat (first | exact hG1 | apply Tab.tail)) _ S.hp) ?_
        rintro v23 w h; clear E a; intro a E
        replace h := encP_Q h; rw [← her] at h; obtain ⟨v2, D2, h, hB2, hT⟩ := h; simp only at h hB2; subst h; have S := S.all hT
        refine ⟨S.stab.sub (by first | (simp; done) | (simp +contextual; done) | (simp [*]; done)), ?_⟩
        refine zm E rfl (fun w h => zAe E rfl rfl) ?_; clear E a; intro a E
        iterate 2 (refine zm E rfl (fun w h => zBm E rfl rfl rfl) ?_; clear E a; intro a E)
        refine zCg E rfl rfl rfl (by decide) (fun w => zBm E rfl rfl rfl) ?_; clear E a; intro a E
        refine zCp rfl rfl (zBs E S rfl rfl (by decide) rfl rfl rfl ?_); clear E S a; intro a w b8 E S; refine ⟨S.stab.sub (by first | (simp; done) | (simp +contextual; done) | (simp [*]; done)), ?_⟩
        refine zm E rfl (fun w h => zAd E rfl rfl) ?_; clear E a; intro a E
        refine zCk rfl rfl (zAz E S rfl rfl rfl rfl (by simp [Value.oneCell']) rfl (by repeat (first | exact pk1 | apply zAc)) (by simp) ?_); clear E S a; intro a w E S; simp only [List.take_succ_cons, List.take_zero, List.drop_succ_cons, List.drop_zero, List.cons_append, List.nil_append, List.append_nil, List.length_cons, List.length_nil, Nat.zero_add, Nat.add_zero] at S
        refine zCg E rfl rfl rfl (by decide) (fun w => zAd E rfl rfl) ?_; clear E a; intro a E
        refine zBw ?_
        refine zAu ?_
        exact ⟨b8, D2, v2, hB2, S.front4 (A := D2) (B := [(b8, _)]) (C := C) (D := [(b5, _)]) (by repeat (first | exact pk1 | apply zAc)) (by repeat (first | exact pk1 | apply zAc)) (by repeat (first | exact pk1 | apply zAc)) (by repeat (first | exact pk1 | apply zAc)), E.keep (zAa rfl (zAa rfl (zAa rfl (zAa rfl (zAa rfl (zAa rfl (zAa rfl (zAa rfl (zAa rfl zAm)))))))))⟩
      · skip
        refine zCp rfl rfl (zBs E S rfl rfl (by decide) rfl rfl rfl ?_); clear E S a; intro a w b8 E S; refine ⟨S.stab.sub (by first | (simp; done) | (simp +contextual; done) | (simp [*]; done)), ?_⟩
        refine zCc E rfl rfl rfl (by decide) rfl Tryz.func16 rfl (by kernel_rfl) rfl (zLj hxR hxs se hso (by repeat (first | exact mm1 | assumption | apply List.Mem.tail)) (by repeat (first | exact hG0 | apply Tab.tail)) (by repeat (first | exact hG1 | apply Tab.tail)) _ S.hp) ?_
        rintro v23 w h; clear E a; intro a E
        replace h := encP_Q h; rw [← her] at h; obtain ⟨v2, D2, h, hB2, hT⟩ := h; simp only at h hB2; subst h; have S := S.all hT
        refine ⟨S.stab.sub (by first | (simp; done) | (simp +contextual; done) | (simp [*]; done)), ?_⟩
        refine zm E rfl (fun w h => zAe E rfl rfl) ?_; clear E a; intro a E
        iterate 2 (refine zm E rfl (fun w h => zBm E rfl rfl rfl) ?_; clear E a; intro a E)
        refine zCg E rfl rfl rfl (by decide) (fun w => zBm E rfl rfl rfl) ?_; clear E a; intro a E
        refine zm E rfl (fun w h => zAd E rfl rfl) ?_; clear E a; intro a E
        refine zCk rfl rfl (zAz E S rfl rfl rfl rfl (by simp [Value.oneCell']) rfl (by repeat (first | exact pk1 | apply zAc)) (by simp) ?_); clear E S a; intro a w E S; simp only [List.take_succ_cons, List.take_zero, List.drop_succ_cons, List.drop_zero, List.cons_append, List.nil_append, List.append_nil, List.length_cons, List.length_nil, Nat.zero_add, Nat.add_zero] at S
        refine zCg E rfl rfl rfl (by decide) (fun w => zAd E rfl rfl) ?_; clear E a; intro a E
        refine zBw ?_
        refine zAu ?_
        exact ⟨b8, D2, v2, hB2, S.front4 (A := D2) (B := [(b8, _)]) (C := C) (D := [(b5, _)]) (by repeat (first | exact pk1 | apply zAc)) (by repeat (first | exact pk1 | apply zAc)) (by repeat (first | exact pk1 | apply zAc)) (by repeat (first | exact pk1 | apply zAc)), E.keep (zAa rfl (zAa rfl (zAa rfl (zAa rfl (zAa rfl (zAa rfl (zAa rfl (zAa rfl (zAa rfl zAm)))))))))⟩
    · clear E S a; intro a w J; obtain ⟨b8, D2, v2, hB2, S, E⟩ := J
      refine zAf hK ?_; clear hK; clear K
      iterate 2 (refine wp_seq_k ?_; intro K hK)
      refine zAb ?_
      refine zp E (zAe E rfl rfl) ?_; clear E a; intro a E
      refine zp E (by first | exact zCu E rfl rfl rfl | exact zBg E rfl rfl rfl rfl | exact zBr E rfl rfl rfl rfl | exact zBk E rfl rfl rfl) ?_; clear E a; intro a E
      refine wpList_nil ?_
      refine zAf hK ?_; clear hK; clear K
      refine zBf E rfl (fun hb => ?_) (fun hb => ?_)
      · replace hb := Nrm.nrm hb
        have hno : ckB r = false := (by cases h : ckB r with | false => rfl | true => have := congrArg (·.1) (hxy h); simp only at this; omega)
        refine wp_seq_k ?_; intro K hK
        refine zAb ?_
        refine zp E (zAe E rfl rfl) ?_; clear E a; intro a E
        iterate 2 (refine zp E (zAd E rfl rfl) ?_; clear E a; intro a E)
        refine wpList_nil ?_
        refine zAf hK ?_; clear hK; clear K
        refine wp_ret ?_
        refine zAv ?_; clear hK; clear K
        refine zCm ?_
        refine zAv ?_; clear hK; clear K
        refine zAv ?_
        refine zCm ?_
        refine zAv ?_; clear hK; clear K
        refine ret2 E rfl rfl rfl ?_
        have hq := hxn hno
        simp only [Prod.mk.injEq] at hq
        obtain ⟨rfl, -, -⟩ := hq
        rw [strR_no hir (by rw [hri]; exact hno)]
        exact ⟨_, rfl, _, [], rfl, Buf.nil _ _, ((St.drops0 [_, _, _, _] S).addNil).tr⟩
      · replace hb := Nrm.nrm hb
        have hyes : ckB r = true := (by cases h : ckB r with | true => rfl | false => have := congrArg (·.1) (hxn h); simp only at this; omega); have hq := hxy hyes; simp only [Prod.mk.injEq] at hq; obtain ⟨-, rfl, rfl⟩ := hq; have hpl := piece_le hyes se
        refine wp_skip ?_
        refine zAf hK ?_; clear hK; clear K
        refine wp_seq_k ?_; intro K hK
        refine zAb ?_
        iterate 2 (refine zp E (zAe E rfl rfl) ?_; clear E a; intro a E)
        refine zAn rfl (zCq (by' := 1) E S rfl rfl (by decide) rfl rfl hB (by repeat (first | exact pk1 | apply zAc)) (hB2.rd.src (S.stab.at (by repeat (first | exact mm1 | assumption | apply List.Mem.tail))) rfl) rfl rfl rfl rfl rfl rfl (by simp only [maxLen]; omega) (by omega) ?_); clear E S a; intro a w v32 C32 E S hB32
        refine zp E (zAd E rfl rfl) ?_; clear E a; intro a E
        refine wpList_nil ?_
        refine zAf hK ?_; clear hK; clear K
        refine zAb ?_
        refine zp E (zBp (vs := [_, _, _, _]) E rfl rfl rfl (S.get (by repeat (first | exact pk1 | apply zAc))) rfl rfl) ?_; clear E a; intro a E
        refine zAn rfl (zAz E S rfl rfl rfl rfl (by simp [Value.oneCell']) rfl (by repeat (first | exact pk1 | apply zAc)) (by simp) ?_); clear E S a; intro a w E S; simp only [List.take_succ_cons, List.take_zero, List.drop_succ_cons, List.drop_zero, List.cons_append, List.nil_append, List.append_nil, List.length_cons, List.length_nil, Nat.zero_add, Nat.add_zero] at S
        refine wpList_nil ?_
        refine zBi ?_
        refine zAf hK ?_; clear hK; clear K
        refine zAb ?_
        refine zp E (zAe E rfl rfl) ?_; clear E a; intro a E
        refine zp E (zBu E rfl rfl rfl (by first | exact zCl (y := 1) (by omega) | exact w_in (by omega) | exact zBt (by omega) | exact rfl)) ?_; clear E a; intro a E
        refine zp E (zAd E rfl rfl) ?_; clear E a; intro a E
        refine wpList_nil ?_
        refine zBq ?_
        have hst := zLe hir
        rw [hri, ← hbs, ← hse] at hst
        refine ⟨_, by omega, i + 1, C32, v32, rfl, by omega, ?_, by rw [hst]; exact zJl hB32, ?_, E.keep (zAa rfl (zAa rfl (zAa rfl (zAa rfl (zAa rfl (zAa rfl zAm))))))⟩
        · intro k hk hki
          by_cases e : k = i
          · subst e; rw [hri]; exact hyes
          · exact hck k hk (by omega)
        · rw [hst]
          exact St.drops2 [_, _] (S.front2 (A := C32) (B := [(b5, _)]) (by repeat (first | exact pk1 | apply zAc)) (by repeat (first | exact pk1 | apply zAc)))
  · replace hb := Nrm.nrm hb
    refine wp_exit ?_
    refine zBc ?_; clear hK; clear K
    refine zBc ?_
    refine zCj ?_
    refine zAf hK ?_; clear hK; clear K
    iterate 2 (refine wp_seq_k ?_; intro K hK)
    obtain rfl : i = l.length := by omega
    have hck : ∀ k, ∀ h : k < rs.length, ckB rs[k] = true := fun k h => hck k h (by omega)
    rw [List.take_of_length_le (by omega)] at hB
    obtain ⟨adv, cv, rfl⟩ := hB.slice
    refine zAb ?_
    refine zp E (zAe E rfl rfl) ?_; clear E a; intro a E
    refine zp E (by first | exact zBx E rfl rfl rfl | exact zAx E rfl rfl rfl | exact zAq E rfl rfl rfl) ?_; clear E a; intro a E
    refine zp E (zDm E rfl rfl rfl) ?_; clear E a; intro a E
    refine wpList_nil ?_
    refine zAf hK ?_; clear hK; clear K
    refine zBf E rfl (fun hb => ?_) (fun hb => ?_)
    · replace hb := Nrm.nrm hb
      refine wp_seq_k ?_; intro K hK
      refine zAb ?_
      iterate 2 (refine zp E (zAd E rfl rfl) ?_; clear E a; intro a E)
      refine wpList_nil ?_
      refine zAf hK ?_; clear hK; clear K
      refine wp_ret ?_
      refine zAv ?_; clear hK; clear K
      refine ret2 E rfl rfl rfl ?_
      rw [strR_long hck (by omega)]
      exact ⟨_, rfl, _, [], rfl, Buf.nil _ _, ((St.drops0 [_, _] S).addNil).tr⟩
    · replace hb := Nrm.nrm hb
      refine wp_skip ?_
      refine zAf hK ?_; clear hK; clear K
      refine wp_seq_k ?_; intro K hK
      refine zAb ?_
      refine zp E (zAe E rfl rfl) ?_; clear E a; intro a E
      iterate 2 (refine zp E (zAd E rfl rfl) ?_; clear E a; intro a E)
      refine wpList_nil ?_
      refine zAf hK ?_; clear hK; clear K
      refine wp_ret ?_
      refine ret2 E rfl rfl rfl ?_
      rw [strR_ok hck (by omega)]
      exact ⟨_, rfl, _, C, rfl, hB, (St.drops [_] S).tr⟩
end Go.Proofs.YtbogecljkaimdaaGreatDoor
