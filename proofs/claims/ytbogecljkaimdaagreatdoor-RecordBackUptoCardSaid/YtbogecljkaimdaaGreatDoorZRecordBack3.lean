/-
  Texts put together (3).
-/
import Derived.Test.YtbogecljkaimdaaGreatDoorZRecordBack2
namespace Go.Proofs.YtbogecljkaimdaaGreatDoor
open Go.Sl
set_option maxRecDepth 10000
theorem zJf (C : zAs) (v : Value) (bs : List UInt8) (w : World) (h : Rd C 1 v bs.length (byt bs)) (hs : ∀ x ∈ C, w.heap[x.1]? = some x.2) (hl : bs.length ≤ 8) :
    Ret Tryz.prog 73 #[v] w fun u w' => u = .int .u64 (zCh bs) ∧ w' = w := by
  obtain ⟨ad, c, rfl⟩ := h.slice
  refine zDh 22 Tryz.func73 rfl rfl (by decide) ?_; intro a E
  refine wp_seq_k ?_; intro K hK
  refine zAa ?_
  refine zp E (zAe E rfl rfl) ?_; clear E a; intro a E
  refine wpList_nil ?_
  refine zAf hK ?_; clear hK; clear K
  refine wp_seq_k ?_; intro K hK
  refine zAa ?_
  refine zp E (zAe E rfl rfl) ?_; clear E a; intro a E
  refine wpList_nil ?_
  refine zAf hK ?_; clear hK; clear K
  iterate 2 (refine wp_seq_k ?_; intro K hK)
  refine zAa ?_
  refine zp E (zAd E rfl rfl) ?_; clear E a; intro a E
  refine zp E (by first | exact zBv E rfl rfl rfl | exact zAx E rfl rfl rfl | exact zAp E rfl rfl rfl) ?_; clear E a; intro a E
  refine zp E (zAd E rfl rfl) ?_; clear E a; intro a E
  refine wpList_nil ?_
  refine zAf hK ?_; clear hK; clear K
  refine wp_block ?_
  refine wp_loop_ghost (fun (m : Nat) (a : Act) (w' : World) => ∃ k : Nat, k ≤ bs.length ∧ m = bs.length - k ∧ w' = w ∧ Fr a 22 [(8, .int .i64 k), (3, .int .u64 (zCh (bs.take k))), (7, .int .i64 bs.length), (6, .slice ad bs.length c)]) (bs.length) ?_ ?_
  · exact ⟨0, by omega, by omega, rfl, E.keep (zAb rfl (zAb rfl (zAb rfl (zAb rfl zAr))))⟩
  clear E; clear a; (try clear S); rintro m a w' ⟨k, hk, rfl, rfl, E⟩
  refine wp_seq_k ?_; intro K hK
  refine zAa ?_
  refine zp E (zCw E rfl rfl rfl) ?_; clear E a; intro a E
  refine wpList_nil ?_
  refine zAf hK ?_; clear hK; clear K
  refine wp_seq_k ?_; intro K hK
  refine zBj E rfl (fun hb => ?_) (fun hb => ?_)
  · replace hb := Nrm.nrm hb
    obtain ⟨b, off, rfl⟩ := h.addr (by omega)
    have hc := h.byte hs (i := k) (by omega)
    have h1 := zFu (bs.take (k + 1))
    have h2 := zFu (bs.take k)
    have h3 := zJd bs k (by omega)
    rw [List.length_take, Nat.min_eq_left (by omega), show (256 : Nat) = 2 ^ 8 from rfl, ← Nat.pow_mul] at h1 h2
    have h4 : 2 ^ (8 * (k + 1)) ≤ 2 ^ 64 := Nat.pow_le_pow_right (by omega) (by omega)
    refine wp_skip ?_
    refine zAf hK ?_; clear hK; clear K
    refine wp_seq_k ?_; intro K hK
    refine wp_block ?_
    refine wp_seq_k ?_; intro K hK
    refine zAa ?_
    refine zp E (zAd E rfl rfl) ?_; clear E a; intro a E
    refine zp E (by first | exact zBp E rfl rfl rfl rfl rfl rfl (by omega) | exact zBs E rfl rfl rfl rfl rfl rfl (by omega) | exact zBe E rfl rfl rfl rfl rfl rfl (by omega)) ?_; clear E a; intro a E
    refine zp E (by first | exact zAq E rfl rfl rfl (S.get (by repeat (first | exact pk1 | apply zAc))) rfl | exact zAl E rfl rfl rfl (by assumption)) ?_; clear E a; intro a E
    iterate 2 (refine zp E (zAe E rfl rfl) ?_; clear E a; intro a E)
    refine wpList_nil ?_
    refine zAf hK ?_; clear hK; clear K
    refine zAa ?_
    iterate 2 (refine zp E (zAd E rfl rfl) ?_; clear E a; intro a E)
    refine zp E (by first | exact zBi E rfl rfl rfl rfl (by first | exact wu8 _ | exact zFj (by omega) | exact zDt (by omega) | exact w_in (by omega) | exact zCb (by omega) | exact rfl) | exact zBz E rfl rfl rfl rfl rfl (by assumption) (S.stab.at (by simp))) ?_; clear E a; intro a E
    refine zp E (zAd E rfl rfl) ?_; clear E a; intro a E
    refine zp E (zIa E rfl rfl rfl (by first | exact zIw (x := 8) (by omega) | exact zGy (x := 8) (by omega) | exact w_in (by omega) | exact rfl)) ?_; clear E a; intro a E
    refine zp E (zJz E rfl rfl rfl (by omega) (by simp only [IntKind.bits]; omega) (shlu (by omega))) ?_; clear E a; intro a E
    refine zp E (rn_or E rfl rfl rfl (oru h2 (by omega))) ?_; clear E a; intro a E
    refine zp E (zAe E rfl rfl) ?_; clear E a; intro a E
    refine wpList_nil ?_
    refine zBo ?_
    refine zAf hK ?_; clear hK; clear K
    refine zAa ?_
    refine zp E (zCc E rfl rfl rfl (by first | exact zCt (y := 1) (by omega) | exact w_in (by omega) | exact zCb (by omega) | exact rfl)) ?_; clear E a; intro a E
    refine zp E (zAd E rfl rfl) ?_; clear E a; intro a E
    refine wpList_nil ?_
    refine zBn ?_
    rw [← h3] at E; exact ⟨_, by omega, k + 1, by omega, rfl, rfl, E.keep (zAb rfl (zAb rfl (zAb rfl (zAb rfl zAr))))⟩
  · replace hb := Nrm.nrm hb
    refine wp_exit ?_
    refine zBf ?_; clear hK; clear K
    refine zBf ?_
    refine zCr ?_
    refine zAf hK ?_; clear hK; clear K
    refine wp_seq_k ?_; intro K hK
    refine zAa ?_
    refine zp E (zAd E rfl rfl) ?_; clear E a; intro a E
    refine zp E (zAe E rfl rfl) ?_; clear E a; intro a E
    refine wpList_nil ?_
    refine zAf hK ?_; clear hK; clear K
    refine wp_ret ?_
    refine ret1 E rfl rfl ?_
    refine ⟨_, rfl, ?_, rfl⟩; rw [List.take_of_length_le (by omega)]
theorem zLa (n : Nat) (k : Nat) (w0 : World) (hk : k ≤ 8) :
    Ret Tryz.prog 74 #[.int .u64 n, .int .i64 k] w0 fun u w' => ∃ g, u = .slice (some ⟨g, 0, none⟩) k k ∧ Trs w0 w' [] [[(g, cel (byt (zBm n k)) 5)]] := by
  have S := St.begin (w := w0) (As := []) ⟨by simp, by simp⟩
  refine zCg 24 Tryz.func74 rfl rfl (by decide) ?_; intro a E
  refine wp_seq_k ?_; intro K hK
  refine zAa ?_
  refine zp E (zAe E rfl rfl) ?_; clear E a; intro a E
  refine wpList_nil ?_
  refine zAf hK ?_; clear hK; clear K
  refine wp_seq_k ?_; intro K hK
  refine zAa ?_
  refine zp E (zAd E rfl rfl) ?_; clear E a; intro a E
  refine zAm rfl (zKv (by' := 1) E S rfl rfl (by decide) rfl rfl rfl rfl rfl rfl rfl rfl rfl rfl rfl (by first | exact mkb (by omega) | exact mkb8 (by omega) | exact mkbn rfl (by omega)) (by simp only [maxLen]; omega) ?_); clear E S a; intro a w g8 E S
  refine zp E (zAe E rfl rfl) ?_; clear E a; intro a E
  refine wpList_nil ?_
  refine zAf hK ?_; clear hK; clear K
  iterate 2 (refine wp_seq_k ?_; intro K hK)
  refine zAa ?_
  refine zp E (zAd E rfl rfl) ?_; clear E a; intro a E
  refine zp E (by first | exact zBv E rfl rfl rfl | exact zAx E rfl rfl rfl | exact zAp E rfl rfl rfl) ?_; clear E a; intro a E
  refine zp E (zAd E rfl rfl) ?_; clear E a; intro a E
  refine wpList_nil ?_
  refine zAf hK ?_; clear hK; clear K
  refine wp_block ?_
  refine wp_loop_ghost (fun (m : Nat) (a : Act) (w' : World) => ∃ (j : Nat), j ≤ k ∧ m = k - j ∧ St w0 [] w' [[(g8, cel (byt (zBm n j) ++ List.replicate (k - j) (.int .u8 0)) 5)]] ∧ Fr a 24 [(11, .int .i64 j), (10, .int .i64 k), (5, .slice (some ⟨g8, 0, none⟩) k k), (0, .int .u64 n)]) (k) ?_ ?_
  · exact ⟨0, by omega, by omega, by simpa [zBm, byt] using S, E.keep (zAb rfl (zAb rfl (zAb rfl (zAb rfl zAr))))⟩
  clear E; clear a; (try clear S); rintro m a w ⟨j, hj, rfl, S, E⟩
  refine wp_seq_k ?_; intro K hK
  refine zAa ?_
  refine zp E (zCw E rfl rfl rfl) ?_; clear E a; intro a E
  refine wpList_nil ?_
  refine zAf hK ?_; clear hK; clear K
  refine wp_seq_k ?_; intro K hK
  refine zBj E rfl (fun hb => ?_) (fun hb => ?_)
  · replace hb := Nrm.nrm hb
    refine wp_skip ?_
    refine zAf hK ?_; clear hK; clear K
    refine wp_seq_k ?_; intro K hK
    refine wp_block ?_
    refine wp_seq_k ?_; intro K hK
    refine zAa ?_
    refine zp E (zAd E rfl rfl) ?_; clear E a; intro a E
    refine zp E (zAe E rfl rfl) ?_; clear E a; intro a E
    refine wpList_nil ?_
    refine zAf hK ?_; clear hK; clear K
    refine zAa ?_
    iterate 4 (refine zp E (zAd E rfl rfl) ?_; clear E a; intro a E)
    refine zp E (zIa E rfl rfl rfl (by first | exact zIw (x := 8) (by omega) | exact zGy (x := 8) (by omega) | exact w_in (by omega) | exact rfl)) ?_; clear E a; intro a E
    refine zp E (zJy E rfl rfl rfl (by omega) (by simp only [IntKind.bits]; omega) shru) ?_; clear E a; intro a E
    refine zp E (zBi E rfl rfl rfl rfl (w8 _)) ?_; clear E a; intro a E
    refine zp E (by first | exact zBp E rfl rfl rfl rfl rfl rfl (by omega) | exact zBs E rfl rfl rfl rfl rfl rfl (by omega) | exact zBe E rfl rfl rfl rfl rfl rfl (by omega)) ?_; clear E a; intro a E
    refine zAm rfl (zBk E S rfl rfl rfl rfl rfl rfl (by repeat (first | exact pk1 | apply zAc)) (by simp only [List.length_append, List.length_replicate, zDr, zBa]; omega) ?_); clear E S a; intro a w E S; try dsimp only [List.set] at S
    refine wpList_nil ?_
    refine zBo ?_
    refine zAf hK ?_; clear hK; clear K
    refine zAa ?_
    refine zp E (zCc E rfl rfl rfl (by first | exact zCt (y := 1) (by omega) | exact w_in (by omega) | exact zCb (by omega) | exact rfl)) ?_; clear E a; intro a E
    refine zp E (zAd E rfl rfl) ?_; clear E a; intro a E
    refine wpList_nil ?_
    refine zBn ?_
    rw [Nat.zero_add, zJe _ _ _ _ _ (by simp [byt, zBa]) (by omega)] at S; exact ⟨_, by omega, j + 1, by omega, rfl, by simpa [zBm, byt] using S, E.keep (zAb rfl (zAb rfl (zAb rfl (zAb rfl zAr))))⟩
  · replace hb := Nrm.nrm hb
    refine wp_exit ?_
    refine zBf ?_; clear hK; clear K
    refine zBf ?_
    refine zCr ?_
    refine zAf hK ?_; clear hK; clear K
    refine wp_seq_k ?_; intro K hK
    refine zAa ?_
    refine zp E (zAd E rfl rfl) ?_; clear E a; intro a E
    refine zp E (zAe E rfl rfl) ?_; clear E a; intro a E
    refine wpList_nil ?_
    refine zAf hK ?_; clear hK; clear K
    refine wp_ret ?_
    refine ret1 E rfl rfl ?_
    obtain rfl : j = k := by omega
    refine ⟨_, rfl, g8, rfl, ?_⟩
    simpa using S.tr
theorem zLb {g n : Nat} {b : List UInt8} {T : TypeId} (hn : b.length = n) (hm : n ≤ 4611686018427387904) (c : Nat) : Rd [(g, cel (byt b) T)] 1 (.slice (some ⟨g, 0, none⟩) n c) n (byt b) :=
  ⟨by rw [zDr, hn, Nat.mul_one], byt_one _, by simp only [maxLen]; omega, .inr ⟨g, 0, c, _, T, (0, 0), rfl, List.mem_singleton.2 rfl, fun i u hu => by simpa using hu⟩⟩
theorem rd_blk {g : Nat} (n : Nat) {b : List UInt8} {T : TypeId} (hn : b.length = n) (hm : n ≤ 4611686018427387904) (c : Nat) : Rd [(g, cel (byt b) T)] 1 (.slice (some ⟨g, 0, none⟩) n c) b.length (byt b) := by
  subst hn; exact zLb rfl hm c
theorem zHu (C : zAs) (v : Value) (bs : List UInt8) (w0 : World) (h : Rd C 1 v bs.length (byt bs)) (hs : Hp w0 [C]) (hl : bs.length ≤ 281474976710656) :
    Ret Tryz.prog 70 #[v] w0 fun u w' => ∃ g, u = .slice (some ⟨g, 0, none⟩) bs.length bs.length ∧ Trs w0 w' [C] [[(g, cel (byt bs) 5)], C] := by
  obtain ⟨ad, c, rfl⟩ := h.slice
  have S := St.begin hs
  refine zDh 11 Tryz.func70 rfl rfl (by decide) ?_; intro a E
  refine wp_seq_k ?_; intro K hK
  refine zAa ?_
  refine zp E (zAe E rfl rfl) ?_; clear E a; intro a E
  refine wpList_nil ?_
  refine zAf hK ?_; clear hK; clear K
  refine wp_seq_k ?_; intro K hK
  refine zAa ?_
  refine zp E (zAd E rfl rfl) ?_; clear E a; intro a E
  refine zp E (by first | exact zBv E rfl rfl rfl | exact zAx E rfl rfl rfl | exact zAp E rfl rfl rfl) ?_; clear E a; intro a E
  refine zAm rfl (zKv (by' := 1) E S rfl rfl (by decide) rfl rfl rfl rfl rfl rfl rfl rfl rfl rfl rfl (by first | exact mkb (by omega) | exact mkb8 (by omega) | exact mkbn rfl (by omega)) (by simp only [maxLen]; omega) ?_); clear E S a; intro a w g6 E S
  refine zp E (zAe E rfl rfl) ?_; clear E a; intro a E
  refine wpList_nil ?_
  refine zAf hK ?_; clear hK; clear K
  refine wp_seq_k ?_; intro K hK
  refine zAa ?_
  iterate 2 (refine zp E (zAd E rfl rfl) ?_; clear E a; intro a E)
  refine zAm rfl (wp_copy E S rfl rfl (by decide) rfl rfl (by repeat (first | exact pk1 | apply zAc)) (h.copySrc (S.stab.at (by repeat (first | exact mm1 | assumption | apply List.Mem.tail))) rfl) rfl rfl (by simp) ?_); clear E S a; intro a w E S
  rw [copy_all (by simp [zDr])] at S
  refine wpList_nil ?_
  refine zAf hK ?_; clear hK; clear K
  refine wp_seq_k ?_; intro K hK
  refine zAa ?_
  refine zp E (zAd E rfl rfl) ?_; clear E a; intro a E
  refine zp E (zAe E rfl rfl) ?_; clear E a; intro a E
  refine wpList_nil ?_
  refine zAf hK ?_; clear hK; clear K
  refine wp_ret ?_
  refine ret1 E rfl rfl ?_
  exact ⟨_, rfl, g6, rfl, S.tr⟩
def WrC (T : TypeId) (p : Nat) (s : Wr) (A : zAs) : Prop :=
  ∃ v C, A = [(p, cel [.int .i64 s.room, v, .int .i64 s.e] T)] ++ C ∧ Buf C 5 1 v s.bs.length (byt s.bs)
theorem put_ret (p : Nat) (s : Wr) (A D : zAs) (bv : Value) (b : List UInt8) (w0 : World) (hA : WrC 94 p s A) (hD : Rd D 1 bv b.length (byt b)) (H : Hp w0 [A, D]) (hr : s.room ≤ 140737488355328) :
    Ret Tryz.prog 75 #[ptr p, bv] w0 fun u w' => ∃ A', u = .int .i64 (s.putE b) ∧ WrC 94 p (s.putS b) A' ∧ Trs w0 w' [A, D] [A', D] := by
  obtain ⟨v, C, rfl, hB⟩ := hA
  obtain ⟨ad, c, rfl⟩ := hD.slice
  obtain ⟨ad2, c2, rfl⟩ := hB.slice
  have S := (St.begin H).split
  have hm := hB.rd.2.2.1
  have hm2 := hD.2.2.1
  simp only [maxLen] at hm hm2
  refine zCg 27 Tryz.func75 rfl rfl (by decide) ?_; intro a E
  refine wp_seq_k ?_; intro K hK
  refine zAa ?_
  refine zp E (zAe E rfl rfl) ?_; clear E a; intro a E
  refine wpList_nil ?_
  refine zAf hK ?_; clear hK; clear K
  iterate 2 (refine wp_seq_k ?_; intro K hK)
  refine zCa S (.ofL [(0, 0), (1, 0), (2, 0), (3, 0), (4, 0), (5, 0), (6, 0), (7, 0), (8, 0), (9, 0), (10, 0), (11, 0), (12, 0)]) (by kernel_rfl) (by kernel_rfl) ?_
  clear S; intro w S
  refine zm E rfl (fun w h => zAd E rfl rfl) ?_; clear E a; intro a E
  refine zm E rfl (fun w h => by first | exact zBv E rfl rfl rfl | exact zAx E rfl rfl rfl | exact zAp E rfl rfl rfl) ?_; clear E a; intro a E
  refine zm E rfl (fun w h => zAd E rfl rfl) ?_; clear E a; intro a E
  refine zm E rfl (fun w h => zBb E rfl rfl) ?_; clear E a; intro a E
  refine zm E rfl (fun w h => by first | exact zAg (q := 0) E rfl rfl rfl | exact zAh (q := 0) E rfl rfl rfl) ?_; clear E a; intro a E
  refine zm E rfl (fun w h => by first | exact zAq E rfl rfl rfl (h.one (by repeat (first | exact mm1 | assumption | apply List.Mem.tail))) rfl | exact zAl E rfl rfl rfl (by assumption)) ?_; clear E a; intro a E
  refine zm E rfl (fun w h => zAd E rfl rfl) ?_; clear E a; intro a E
  refine zm E rfl (fun w h => zBb E rfl rfl) ?_; clear E a; intro a E
  refine zm E rfl (fun w h => by first | exact zAg (q := 1) E rfl rfl rfl | exact zAh (q := 1) E rfl rfl rfl) ?_; clear E a; intro a E
  refine zm E rfl (fun w h => by first | exact zAq E rfl rfl rfl (h.one (by repeat (first | exact mm1 | assumption | apply List.Mem.tail))) rfl | exact zAl E rfl rfl rfl (by assumption)) ?_; clear E a; intro a E
  refine zm E rfl (fun w h => by first | exact zBv E rfl rfl rfl | exact zAx E rfl rfl rfl | exact zAp E rfl rfl rfl) ?_; clear E a; intro a E
  refine zm E rfl (fun w h => zEw E rfl rfl rfl (by first | exact ws1 (by omega) (by omega) | exact w_in (by omega) | exact zCb (by omega) | exact rfl)) ?_; clear E a; intro a E
  refine zm E rfl (fun w h => zEi E rfl rfl rfl) ?_; clear E a; intro a E
  refine zCd ?_
  refine zAf hK ?_; clear hK; clear K
  refine zBj E rfl (fun hb => ?_) (fun hb => ?_)
  · replace hb := Nrm.nrm hb
    have hf : s.fits b = false := by simp only [Wr.fits, decide_eq_false_iff_not]; omega
    refine wp_seq_k ?_; intro K hK
    refine zAa ?_
    refine zp E (zAe E rfl rfl) ?_; clear E a; intro a E
    refine wpList_nil ?_
    refine zAf hK ?_; clear hK; clear K
    refine wp_ret ?_
    refine zAv ?_; clear hK; clear K
    refine ret1 E rfl rfl ?_
    exact ⟨_, rfl, _, by simp [Wr.putE, hf], ⟨_, C, rfl, by simpa [Wr.putS, hf] using hB⟩, by simpa [Wr.putS, hf] using S.join.tr⟩
  · replace hb := Nrm.nrm hb
    have hf : s.fits b = true := by simp only [Wr.fits, decide_eq_true_eq]; omega
    refine wp_skip ?_
    refine zAf hK ?_; clear hK; clear K
    refine wp_seq_k ?_; intro K hK
    have hf2 := of_decide_eq_true hf
    refine zAa ?_
    iterate 2 (refine zp E (zAd E rfl rfl) ?_; clear E a; intro a E)
    refine zp E (zBb E rfl rfl) ?_; clear E a; intro a E
    refine zp E (by first | exact zAg (q := 1) E rfl rfl rfl | exact zAh (q := 1) E rfl rfl rfl) ?_; clear E a; intro a E
    refine zp E (by first | exact zAq E rfl rfl rfl (S.get (by repeat (first | exact pk1 | apply zAc))) rfl | exact zAl E rfl rfl rfl (by assumption)) ?_; clear E a; intro a E
    refine zp E (zAd E rfl rfl) ?_; clear E a; intro a E
    refine zAm rfl (zDi (by' := 1) E S rfl rfl (by decide) rfl rfl hB (by repeat (first | exact pk1 | apply zAc)) (hD.src (S.stab.at (by repeat (first | exact mm1 | assumption | apply List.Mem.tail))) rfl) rfl rfl rfl rfl rfl rfl (by simp only [maxLen]; omega) (by omega) ?_); clear E S a; intro a w v24 C24 E S hB24
    obtain ⟨ad3, c3, rfl⟩ := hB24.slice
    refine zp E (zBb E rfl rfl) ?_; clear E a; intro a E
    refine zp E (by first | exact zAg (q := 1) E rfl rfl rfl | exact zAh (q := 1) E rfl rfl rfl) ?_; clear E a; intro a E
    refine zAm rfl (zBk E S rfl rfl rfl rfl rfl rfl (by repeat (first | exact pk1 | apply zAc)) (by first | exact Nat.le_of_ble_eq_true rfl | (simp; done) | (simp; omega)) ?_); clear E S a; intro a w E S; try dsimp only [List.set] at S
    refine wpList_nil ?_
    refine zAf hK ?_; clear hK; clear K
    refine wp_seq_k ?_; intro K hK
    replace E := E.keep (e' := [(4, _)]) (zAb rfl (zAr))
    refine zAa ?_
    refine zp E (zAe E rfl rfl) ?_; clear E a; intro a E
    refine wpList_nil ?_
    refine zAf hK ?_; clear hK; clear K
    refine wp_ret ?_
    refine ret1 E rfl rfl ?_
    exact ⟨_, rfl, [(p, cel [.int .i64 s.room, .slice ad3 (s.bs.length + b.length) c3, .int .i64 s.e] 94)] ++ C24, by simp [Wr.putE, hf], ⟨.slice ad3 (s.bs.length + b.length) c3, C24, by simp [Wr.putS, hf], by simpa [Wr.putS, hf, zDs] using hB24⟩, S.join.tr⟩
theorem buf_block {g n : Nat} {b : List UInt8} {T : TypeId} (hn : b.length = n) (hm : n ≤ 4611686018427387904) : Buf [(g, cel (byt b) T)] T 1 (.slice (some ⟨g, 0, none⟩) n n) n (byt b) :=
  ⟨by rw [zDr, hn, Nat.mul_one], byt_one _, .inr ⟨g, n, [], rfl, by simp, Nat.le_refl _, by simp only [maxLen]; omega, by simp [zDr, hn]⟩⟩
theorem try_no (p : Nat) (s : Wr) (A : zAs) (fv : Value) (w0 : World) (hA : WrC 94 p s A) (H : Hp w0 [A]) (he : s.e ≠ 0) :
    Ret Tryz.prog 71 #[ptr p, fv] w0 fun _ w' => w' = w0 := by
  obtain ⟨v, C, rfl, hB⟩ := hA
  have S := (St.begin H).split
  refine zCg 14 Tryz.func71 rfl rfl (by decide) ?_; intro a E
  refine wp_seq_k ?_; intro K hK
  refine zAa ?_
  refine zp E (zAd E rfl rfl) ?_; clear E a; intro a E
  refine zp E (zBb E rfl rfl) ?_; clear E a; intro a E
  refine zp E (by first | exact zAg (q := 2) E rfl rfl rfl | exact zAh (q := 2) E rfl rfl rfl) ?_; clear E a; intro a E
  refine zp E (by first | exact zAq E rfl rfl rfl (S.get (by repeat (first | exact pk1 | apply zAc))) rfl | exact zAl E rfl rfl rfl (by assumption)) ?_; clear E a; intro a E
  refine zp E (by first | exact zCe E rfl rfl rfl | exact zAt E rfl rfl rfl rfl | exact zAz E rfl rfl rfl rfl | exact zAu E rfl rfl rfl) ?_; clear E a; intro a E
  refine wpList_nil ?_
  refine zAf hK ?_; clear hK; clear K
  refine zBj E rfl (fun hb => ?_) (fun hb => ?_)
  · replace hb := Nrm.nrm hb
    exfalso; omega
  · replace hb := Nrm.nrm hb
    refine wp_skip ?_
    refine end0 E rfl ?_
    exact ⟨_, rfl, rfl⟩
theorem try_yes (f : FuncId) (fn : Func) (cap : List Value) (hf : Tryz.prog.funcs[f]? = some fn) (hfb : fn.body.isSome = true) (hfn : (fn.name == "runtime.NumGoroutine") = false)
    (p : Nat) (s : Wr) (A : zAs) (Rs : List zAs) (X : Nat → List UInt8 → Prop) (w0 : World) (hA : WrC 94 p s A) (H : Hp w0 (A :: Rs)) (he : s.e = 0)
    (hc : Ret Tryz.prog f cap.toArray w0 fun u w' => ∃ (e' : Nat) (bs' : List UInt8) (A' : zAs), u = .int .i64 e' ∧ WrC 94 p { s with bs := bs' } A' ∧ Trs w0 w' (A :: Rs) (A' :: Rs) ∧ X e' bs') :
    Ret Tryz.prog 71 #[ptr p, .func (.func f) #[] cap.toArray] w0 fun _ w' => ∃ (e' : Nat) (bs' : List UInt8) (A' : zAs), WrC 94 p { s with bs := bs', e := e' } A' ∧ Trs w0 w' (A :: Rs) (A' :: Rs) ∧ X e' bs' := by
  have hA0 := hA
  obtain ⟨v, C, rfl, hB⟩ := hA
  have S := (St.begin H).split
  refine zCg 14 Tryz.func71 rfl rfl (by decide) ?_; intro a E
  refine wp_seq_k ?_; intro K hK
  refine zAa ?_
  refine zp E (zAd E rfl rfl) ?_; clear E a; intro a E
  refine zp E (zBb E rfl rfl) ?_; clear E a; intro a E
  refine zp E (by first | exact zAg (q := 2) E rfl rfl rfl | exact zAh (q := 2) E rfl rfl rfl) ?_; clear E a; intro a E
  refine zp E (by first | exact zAq E rfl rfl rfl (S.get (by repeat (first | exact pk1 | apply zAc))) rfl | exact zAl E rfl rfl rfl (by assumption)) ?_; clear E a; intro a E
  refine zp E (by first | exact zCe E rfl rfl rfl | exact zAt E rfl rfl rfl rfl | exact zAz E rfl rfl rfl rfl | exact zAu E rfl rfl rfl) ?_; clear E a; intro a E
  refine wpList_nil ?_
  refine zAf hK ?_; clear hK; clear K
  refine zBj E rfl (fun hb => ?_) (fun hb => ?_)
  · replace hb := Nrm.nrm hb
    refine zAa ?_
    iterate 2 (refine zp E (zAd E rfl rfl) ?_; clear E a; intro a E)
    refine zCp E rfl rfl (by decide) rfl rfl hf hfb hfn rfl (hc) ?_
    rintro v11 w ⟨e', bs', A', rfl, ⟨v', C', rfl, hB'⟩, hT, hX⟩; clear E a; intro a E
    have S := ((St.begin H).all hT).split
    refine zp E (zBb E rfl rfl) ?_; clear E a; intro a E
    refine zp E (by first | exact zAg (q := 2) E rfl rfl rfl | exact zAh (q := 2) E rfl rfl rfl) ?_; clear E a; intro a E
    refine zAm rfl (zBk E S rfl rfl rfl rfl rfl rfl (by repeat (first | exact pk1 | apply zAc)) (by first | exact Nat.le_of_ble_eq_true rfl | (simp; done) | (simp; omega)) ?_); clear E S a; intro a w E S; try dsimp only [List.set] at S
    refine wpList_nil ?_
    refine end0 E rfl ?_
    exact ⟨_, rfl, e', bs', _, ⟨v', C', rfl, hB'⟩, S.join.tr, hX⟩
  · replace hb := Nrm.nrm hb
    exfalso; omega
theorem try_ret (s2 : Wr) (f : FuncId) (fn : Func) (cap : List Value) (hf : Tryz.prog.funcs[f]? = some fn) (hfb : fn.body.isSome = true) (hfn : (fn.name == "runtime.NumGoroutine") = false)
    (p : Nat) (s : Wr) (A : zAs) (Rs : List zAs) (w0 : World) (hA : WrC 94 p s A) (H : Hp w0 (A :: Rs)) (h0 : s.e ≠ 0 → s2 = s)
    (hc : s.e = 0 → Ret Tryz.prog f cap.toArray w0 fun u w' => ∃ (e' : Nat) (bs' : List UInt8) (A' : zAs), u = .int .i64 e' ∧ WrC 94 p { s with bs := bs' } A' ∧ Trs w0 w' (A :: Rs) (A' :: Rs) ∧ s2 = { s with bs := bs', e := e' }) :
    Ret Tryz.prog 71 #[ptr p, .func (.func f) #[] cap.toArray] w0 fun _ w' => ∃ A' : zAs, WrC 94 p s2 A' ∧ Trs w0 w' (A :: Rs) (A' :: Rs) := by
  by_cases he : s.e = 0
  · refine (try_yes f fn cap hf hfb hfn p s A Rs (fun e' bs' => s2 = { s with bs := bs', e := e' }) w0 hA H he (hc he)).mono ?_
    rintro _ w' ⟨e', bs', A', h1, h2, h3⟩
    exact ⟨A', by rw [h3]; exact h1, h2⟩
  · refine (try_no p s A _ w0 hA (H.sel (Rs := Rs) (List.Perm.refl _)) he).mono ?_
    rintro _ w' rfl
    exact ⟨A, by rw [h0 he]; exact hA, Trs.refl _ _⟩
theorem num_body (p : Nat) (s : Wr) (A : zAs) (w0 : World) (hA : WrC 94 p s A) (he : s.e = 0) (b5 b4 b3 : Nat) (n : Nat) (k : Int)
    (H : Hp w0 [A, [(b5, cel [.int .i64 k] 3)], [(b4, cel [.int .u64 n] 27)], [(b3, cel [ptr p] 63)]]) (hr : s.room ≤ 140737488355328) :
    Ret Tryz.prog 72 #[ptr b5, ptr b4, ptr b3] w0 fun u w' => ∃ (e' : Nat) (bs' : List UInt8) (A' : zAs), u = .int .i64 e' ∧ WrC 94 p { s with bs := bs' } A' ∧
      Trs w0 w' [A, [(b5, cel [.int .i64 k] 3)], [(b4, cel [.int .u64 n] 27)], [(b3, cel [ptr p] 63)]] [A', [(b5, cel [.int .i64 k] 3)], [(b4, cel [.int .u64 n] 27)], [(b3, cel [ptr p] 63)]] ∧ s.num n k = { s with bs := bs', e := e' } := by
  have S := St.begin H
  have hbad : (k < 1 ∨ 8 < k) → s.num n k = { s with bs := s.bs, e := 1 } := fun h => by simp [Wr.num, Wr.lay, numE, he, h]
  refine zGs 23 Tryz.func72 rfl rfl (by decide) ?_; intro a E
  refine wp_seq_k ?_; intro K hK
  refine zAa ?_
  refine zp E (zAe E rfl rfl) ?_; clear E a; intro a E
  refine wpList_nil ?_
  refine zAf hK ?_; clear hK; clear K
  refine wp_seq_k ?_; intro K hK
  refine wp_block ?_
  refine wp_seq_k ?_; intro K hK
  refine zAa ?_
  refine zp E (by first | exact zAq E rfl rfl rfl (S.get (by repeat (first | exact pk1 | apply zAc))) rfl | exact zAl E rfl rfl rfl (by assumption)) ?_; clear E a; intro a E
  refine zp E (zCw E rfl rfl rfl) ?_; clear E a; intro a E
  refine zp E (zAd E rfl rfl) ?_; clear E a; intro a E
  refine zAw E (t := 7) rfl (fun hb7 => ?_) (fun hb7 => ?_)
  · have hb7n := hb7; replace hb7n := Nrm.nrm hb7n
    iterate 2 (refine zn E hb7 ?_; clear E a; intro a E)
    refine zp E (zAk E rfl rfl hb7 rfl) ?_; clear E a; intro a E
    refine zp E (zAe E rfl rfl) ?_; clear E a; intro a E
    refine wpList_nil ?_
    refine zAf hK ?_; clear hK; clear K
    refine zBy E rfl rfl ?_
    refine wp_seq_k ?_; intro K hK
    refine zAa ?_
    refine zp E (zAe E rfl rfl) ?_; clear E a; intro a E
    refine wpList_nil ?_
    refine zAf hK ?_; clear hK; clear K
    refine wp_ret ?_
    refine zCi ?_
    refine zAv ?_; clear hK; clear K
    refine ret1 E rfl rfl ?_
    exact ⟨_, rfl, 1, s.bs, A, rfl, hA, S.tr, hbad (by omega)⟩
  · have hb7n := hb7; replace hb7n := Nrm.nrm hb7n
    refine zy E hb7 (by first | exact zAq E rfl rfl rfl (S.get (by repeat (first | exact pk1 | apply zAc))) rfl | exact zAl E rfl rfl rfl (by assumption)) ?_; clear E a; intro a E
    refine zy E hb7 (zEi E rfl rfl rfl) ?_; clear E a; intro a E
    refine zp E (zAj E rfl rfl hb7 rfl) ?_; clear E a; intro a E
    refine zp E (zAe E rfl rfl) ?_; clear E a; intro a E
    refine wpList_nil ?_
    refine zAf hK ?_; clear hK; clear K
    refine zBj E rfl (fun hb => ?_) (fun hb => ?_)
    · replace hb := Nrm.nrm hb
      refine wp_seq_k ?_; intro K hK
      refine zAa ?_
      refine zp E (zAe E rfl rfl) ?_; clear E a; intro a E
      refine wpList_nil ?_
      refine zAf hK ?_; clear hK; clear K
      refine wp_ret ?_
      refine zCi ?_
      refine zAv ?_; clear hK; clear K
      refine ret1 E rfl rfl ?_
      exact ⟨_, rfl, 1, s.bs, A, rfl, hA, S.tr, hbad (by omega)⟩
    · replace hb := Nrm.nrm hb
      refine wp_seq_k ?_; intro K hK
      obtain ⟨kn, rfl⟩ : ∃ kn : Nat, k = kn := ⟨k.toNat, by omega⟩
      refine zCa S (.ofL [(0, 0), (1, 0), (4, 0), (2, 1), (3, 1), (5, 0), (6, 0)]) (by kernel_rfl) (by kernel_rfl) ?_
      clear S; intro w S
      iterate 3 (refine zm E rfl (fun w h => by first | exact zAq E rfl rfl rfl (h.one (by repeat (first | exact mm1 | assumption | apply List.Mem.tail))) rfl | exact zAl E rfl rfl rfl (by assumption)) ?_; clear E a; intro a E)
      refine zCn E rfl rfl rfl (by decide) rfl Tryz.func74 rfl (by kernel_rfl) rfl (zLa n kn w (by omega)) ?_
      rintro v14 w ⟨g, rfl, hT⟩; clear E a; intro a E
      have S := S.fresh hT
      refine ⟨S.stab.sub (by first | (simp; done) | (simp +contextual; done) | (simp [*]; done)), ?_⟩
      refine zCn E rfl rfl rfl (by decide) rfl Tryz.func73 rfl (by kernel_rfl) rfl (zJf _ _ (zBm n kn) w (rd_blk kn (zBa _ _) (by omega) _) (S.stab.at (by repeat (first | exact mm1 | assumption | apply List.Mem.tail))) (by rw [zBa]; omega)) ?_
      rintro v15 w ⟨rfl, rfl⟩; clear E a; intro a E
      refine ⟨S.stab.sub (by first | (simp; done) | (simp +contextual; done) | (simp [*]; done)), ?_⟩
      refine zm E rfl (fun w h => by first | exact zDa E rfl rfl rfl | exact zBc E rfl rfl rfl rfl | exact zBl E rfl rfl rfl rfl | exact zBg E rfl rfl rfl) ?_; clear E a; intro a E
      refine zm E rfl (fun w h => zAe E rfl rfl) ?_; clear E a; intro a E
      refine zCd ?_
      refine zAf hK ?_; clear hK; clear K
      refine zBj E rfl (fun hb => ?_) (fun hb => ?_)
      · replace hb := Nrm.nrm hb
        rw [zHt] at hb
        refine wp_seq_k ?_; intro K hK
        refine zAa ?_
        refine zp E (zAe E rfl rfl) ?_; clear E a; intro a E
        refine wpList_nil ?_
        refine zAf hK ?_; clear hK; clear K
        refine wp_ret ?_
        refine zCi ?_
        refine zAv ?_; clear hK; clear K
        refine ret1 E rfl rfl ?_
        have h5 : ¬ n < 256 ^ kn := fun h => hb (by rw [Nat.mod_eq_of_lt h])
        have S := S.only (Bs := [A, _, _, _]) (Rs := [_]) ((List.perm_append_comm (l₁ := [_]) (l₂ := [A, _, _, _])))
        exact ⟨_, rfl, 11, s.bs, A, rfl, hA, S.tr, by simp [Wr.num, Wr.lay, numE, he, show ¬ ((kn : Int) < 1 ∨ 8 < (kn : Int)) by omega, Nat.not_lt.1 h5]⟩
      · replace hb := Nrm.nrm hb
        rw [zHt] at hb
        refine wp_skip ?_
        refine zBo ?_
        refine zAf hK ?_; clear hK; clear K
        refine wp_seq_k ?_; intro K hK
        have h5 : n < 256 ^ kn := by have := Nat.mod_lt n (show 0 < 256 ^ kn from Nat.pow_pos (by omega)); omega
        refine zCa S (.ofL [(0, 0), (1, 0), (2, 0), (3, 1), (4, 3), (5, 2)]) (by kernel_rfl) (by kernel_rfl) ?_
        clear S; intro w S
        iterate 3 (refine zm E rfl (fun w h => by first | exact zAq E rfl rfl rfl (h.one (by repeat (first | exact mm1 | assumption | apply List.Mem.tail))) rfl | exact zAl E rfl rfl rfl (by assumption)) ?_; clear E a; intro a E)
        refine zCn E rfl rfl rfl (by decide) rfl Tryz.func74 rfl (by kernel_rfl) rfl (zLa n kn w (by omega)) ?_
        rintro v21 w ⟨g2, rfl, hT⟩; clear E a; intro a E
        have S := S.fresh hT
        refine ⟨S.stab.sub (by first | (simp; done) | (simp +contextual; done) | (simp [*]; done)), ?_⟩
        refine zGc E rfl rfl rfl (by decide) rfl Tryz.func75 rfl (by kernel_rfl) rfl (put_ret p s A _ _ (zBm n kn) w hA (rd_blk kn (zBa _ _) (by omega) _) (S.hp.sel (zAi (by repeat (first | exact pk1 | apply zAc)) (zAi (by repeat (first | exact pk1 | apply zAc)) (zAo _)))) hr) ?_
        rintro v22 w ⟨A', rfl, hA', hT⟩; clear E a; intro a E
        have S := S.call2 (zAi (by repeat (first | exact pk1 | apply zAc)) (zAi (by repeat (first | exact pk1 | apply zAc)) (zAo _))) hT
        refine zCs E rfl rfl rfl (by decide) (fun w => zAe E rfl rfl) ?_; clear E a; intro a E
        refine zCd ?_
        refine zAf hK ?_; clear hK; clear K
        refine wp_ret ?_
        refine ret1 E rfl rfl ?_
        rw [s.putS_eq] at hA'
        have S := S.only (Bs := [A', [(b5, cel [.int .i64 kn] 3)], [(b4, cel [.int .u64 n] 27)], [(b3, cel [ptr p] 63)]]) (zAi (by repeat (first | exact pk1 | apply zAc)) (zAi (by repeat (first | exact pk1 | apply zAc)) (zAi (by repeat (first | exact pk1 | apply zAc)) (zAi (by repeat (first | exact pk1 | apply zAc)) (zAo _)))))
        refine ⟨_, rfl, _, _, A', rfl, hA', S.tr, ?_⟩
        simp only [Wr.num, Wr.lay, numE, he, show ¬ ((kn : Int) < 1 ∨ 8 < (kn : Int)) by omega, Int.toNat_natCast, show ¬ n ≥ 256 ^ kn by omega, if_false, ne_eq, not_true_eq_false]
        rw [s.putS_eq]
theorem num_ret (p : Nat) (s : Wr) (A : zAs) (w0 : World) (hA : WrC 94 p s A) (n : Nat) (k : Int) (H : Hp w0 [A]) (hr : s.room ≤ 140737488355328) :
    Ret Tryz.prog 30 #[ptr p, .int .u64 n, .int .i64 k] w0 fun _ w' => ∃ A', WrC 94 p (s.num n k) A' ∧ Trs w0 w' [A] [A'] := by
  have S := St.begin H
  refine zGs 9 Tryz.func30 rfl rfl (by decide) ?_; intro a E
  refine wp_seq_k ?_; intro K hK
  refine zAa ?_
  refine zAm rfl (zCk E S rfl rfl (by decide) rfl rfl ?_); clear E S a; intro a w b3 E S
  refine zAm rfl (zCk E S rfl rfl (by decide) rfl rfl ?_); clear E S a; intro a w b4 E S
  refine zAm rfl (zCk E S rfl rfl (by decide) rfl rfl ?_); clear E S a; intro a w b5 E S
  refine wpList_nil ?_
  refine zAf hK ?_; clear hK; clear K
  have S := S.perm (Bs := [A, [(b5, cel [.int .i64 k] 3)], [(b4, cel [.int .u64 n] 27)], [(b3, cel [ptr p] 63)]]) (zAi (by repeat (first | exact pk1 | apply zAc)) (zAi (by repeat (first | exact pk1 | apply zAc)) (zAi (by repeat (first | exact pk1 | apply zAc)) (zAi (by repeat (first | exact pk1 | apply zAc)) (zAo _)))))
  refine zAa ?_
  refine zp E (by first | exact zAq E rfl rfl rfl (S.get (by repeat (first | exact pk1 | apply zAc))) rfl | exact zAl E rfl rfl rfl (by assumption)) ?_; clear E a; intro a E
  refine zp E (zEe E rfl rfl ⟨_, rfl⟩) ?_; clear E a; intro a E
  refine zAn E rfl rfl (by decide) rfl Tryz.func71 rfl (by kernel_rfl) rfl (try_ret (s.num n k) 72 _ [ptr b5, ptr b4, ptr b3] Tryz.func72 rfl (by kernel_rfl) p s A [[(b5, cel [.int .i64 k] 3)], [(b4, cel [.int .u64 n] 27)], [(b3, cel [ptr p] 63)]] w hA S.hp (fun h => by simp [Wr.num, Wr.lay, h]) (fun h => num_body p s A w hA h b5 b4 b3 n k S.hp hr)) ?_
  rintro v8 w ⟨A', hA', hT⟩; clear E a; intro a E
  have S := S.all hT
  refine wpList_nil ?_
  refine end0 E rfl ?_
  exact ⟨_, rfl, A', hA', (S.only (Bs := [A']) (zAi (by repeat (first | exact pk1 | apply zAc)) (zAo _))).tr⟩
theorem bytes_body (p : Nat) (s : Wr) (A D : zAs) (w0 : World) (hA : WrC 94 p s A) (he : s.e = 0) (bw bb : Nat) (bv : Value) (b : List UInt8) (hD : Rd D 1 bv b.length (byt b))
    (H : Hp w0 [A, [(bb, cel [bv] 24)], [(bw, cel [ptr p] 63)], D]) (hr : s.room ≤ 140737488355328) :
    Ret Tryz.prog 97 #[ptr bw, ptr bb] w0 fun u w' => ∃ (e' : Nat) (bs' : List UInt8) (A' : zAs), u = .int .i64 e' ∧ WrC 94 p { s with bs := bs' } A' ∧
      Trs w0 w' [A, [(bb, cel [bv] 24)], [(bw, cel [ptr p] 63)], D] [A', [(bb, cel [bv] 24)], [(bw, cel [ptr p] 63)], D] ∧ s.bytes b = { s with bs := bs', e := e' } := by
  have S := St.begin H
  refine zCg 6 Tryz.func97 rfl rfl (by decide) ?_; intro a E
  refine wp_seq_k ?_; intro K hK
  refine zAa ?_
  refine zp E (zAe E rfl rfl) ?_; clear E a; intro a E
  refine wpList_nil ?_
  refine zAf hK ?_; clear hK; clear K
  refine wp_seq_k ?_; intro K hK
  refine zAa ?_
  iterate 2 (refine zp E (by first | exact zAq E rfl rfl rfl (S.get (by repeat (first | exact pk1 | apply zAc))) rfl | exact zAl E rfl rfl rfl (by assumption)) ?_; clear E a; intro a E)
  refine zAn E rfl rfl (by decide) rfl Tryz.func75 rfl (by kernel_rfl) rfl (put_ret p s A D bv b w0 hA hD (S.hp.sel (zAi (by repeat (first | exact pk1 | apply zAc)) (zAi (by repeat (first | exact pk1 | apply zAc)) (zAo _)))) hr) ?_
  rintro v5 w ⟨A', rfl, hA', hT⟩; clear E a; intro a E
  have S := S.call2 (zAi (by repeat (first | exact pk1 | apply zAc)) (zAi (by repeat (first | exact pk1 | apply zAc)) (zAo _))) hT
  refine zp E (zAe E rfl rfl) ?_; clear E a; intro a E
  refine wpList_nil ?_
  refine zAf hK ?_; clear hK; clear K
  refine wp_ret ?_
  refine ret1 E rfl rfl ?_
  rw [s.putS_eq] at hA'
  refine ⟨_, rfl, _, _, A', rfl, hA', (S.only (Bs := [A', [(bb, cel [bv] 24)], [(bw, cel [ptr p] 63)], D]) (zAi (by repeat (first | exact pk1 | apply zAc)) (zAi (by repeat (first | exact pk1 | apply zAc)) (zAi (by repeat (first | exact pk1 | apply zAc)) (zAi (by repeat (first | exact pk1 | apply zAc)) (zAo _)))))).tr, ?_⟩
  simp only [Wr.bytes, Wr.lay, he, if_false, ne_eq, not_true_eq_false]
  rw [s.putS_eq]
theorem bytes_ret (p : Nat) (s : Wr) (A D : zAs) (w0 : World) (hA : WrC 94 p s A) (bv : Value) (b : List UInt8) (hD : Rd D 1 bv b.length (byt b)) (H : Hp w0 [A, D]) (hr : s.room ≤ 140737488355328) :
    Ret Tryz.prog 66 #[ptr p, bv] w0 fun _ w' => ∃ A', WrC 94 p (s.bytes b) A' ∧ Trs w0 w' [A, D] [A', D] := by
  have S := St.begin H
  obtain ⟨ad, c, rfl⟩ := hD.slice
  refine zCg 7 Tryz.func66 rfl rfl (by decide) ?_; intro a E
  refine wp_seq_k ?_; intro K hK
  refine zAa ?_
  refine zAm rfl (zCk E S rfl rfl (by decide) rfl rfl ?_); clear E S a; intro a w b2 E S
  refine zAm rfl (zCk E S rfl rfl (by decide) rfl rfl ?_); clear E S a; intro a w b3 E S
  refine wpList_nil ?_
  refine zAf hK ?_; clear hK; clear K
  have S := S.perm (Bs := [A, [(b3, cel [.slice ad b.length c] 24)], [(b2, cel [ptr p] 63)], D]) (zAi (by repeat (first | exact pk1 | apply zAc)) (zAi (by repeat (first | exact pk1 | apply zAc)) (zAi (by repeat (first | exact pk1 | apply zAc)) (zAi (by repeat (first | exact pk1 | apply zAc)) (zAo _)))))
  refine zAa ?_
  refine zp E (by first | exact zAq E rfl rfl rfl (S.get (by repeat (first | exact pk1 | apply zAc))) rfl | exact zAl E rfl rfl rfl (by assumption)) ?_; clear E a; intro a E
  refine zp E (zEe E rfl rfl ⟨_, rfl⟩) ?_; clear E a; intro a E
  refine zAn E rfl rfl (by decide) rfl Tryz.func71 rfl (by kernel_rfl) rfl (try_ret (s.bytes b) 97 _ [ptr b2, ptr b3] Tryz.func97 rfl (by kernel_rfl) p s A [[(b3, cel [.slice ad b.length c] 24)], [(b2, cel [ptr p] 63)], D] w hA S.hp (fun h => by simp [Wr.bytes, Wr.lay, h]) (fun h => bytes_body p s A D w hA h b2 b3 _ b hD S.hp hr)) ?_
  rintro v6 w ⟨A', hA', hT⟩; clear E a; intro a E
  have S := S.all hT
  refine wpList_nil ?_
  refine end0 E rfl ?_
  exact ⟨_, rfl, A', hA', (S.only (Bs := [A', D]) (zAi (by repeat (first | exact pk1 | apply zAc)) (zAi (by repeat (first | exact pk1 | apply zAc)) (zAo _)))).tr⟩
theorem text_body (p : Nat) (s : Wr) (A : zAs) (w0 : World) (hA : WrC 94 p s A) (he : s.e = 0) (bw bb : Nat) (t : List UInt8)
    (H : Hp w0 [A, [(bb, cel [str t] 9)], [(bw, cel [ptr p] 63)]]) (hr : s.room ≤ 140737488355328) :
    Ret Tryz.prog 92 #[ptr bb, ptr bw] w0 fun u w' => ∃ (e' : Nat) (bs' : List UInt8) (A' : zAs), u = .int .i64 e' ∧ WrC 94 p { s with bs := bs' } A' ∧
      Trs w0 w' [A, [(bb, cel [str t] 9)], [(bw, cel [ptr p] 63)]] [A', [(bb, cel [str t] 9)], [(bw, cel [ptr p] 63)]] ∧ s.text t = { s with bs := bs', e := e' } := by
  have S := St.begin H
  refine zCg 14 Tryz.func92 rfl rfl (by decide) ?_; intro a E
  refine wp_seq_k ?_; intro K hK
  refine zAa ?_
  refine zp E (zAe E rfl rfl) ?_; clear E a; intro a E
  refine wpList_nil ?_
  refine zAf hK ?_; clear hK; clear K
  iterate 2 (refine wp_seq_k ?_; intro K hK)
  refine zAa ?_
  refine zp E (by first | exact zAq E rfl rfl rfl (S.get (by repeat (first | exact pk1 | apply zAc))) rfl | exact zAl E rfl rfl rfl (by assumption)) ?_; clear E a; intro a E
  refine zp E (by first | exact zBv E rfl rfl rfl | exact zAx E rfl rfl rfl | exact zAp E rfl rfl rfl) ?_; clear E a; intro a E
  refine zp E (zEi E rfl rfl rfl) ?_; clear E a; intro a E
  refine wpList_nil ?_
  refine zAf hK ?_; clear hK; clear K
  refine zBj E rfl (fun hb => ?_) (fun hb => ?_)
  · replace hb := Nrm.nrm hb
    refine wp_seq_k ?_; intro K hK
    refine zAa ?_
    refine zp E (zAe E rfl rfl) ?_; clear E a; intro a E
    refine wpList_nil ?_
    refine zAf hK ?_; clear hK; clear K
    refine wp_ret ?_
    refine zAv ?_; clear hK; clear K
    refine ret1 E rfl rfl ?_
    exact ⟨_, rfl, 11, s.bs, A, rfl, hA, S.tr, by simp [Wr.text, Wr.lay, textE, he, show 65535 < t.length by omega]⟩
  · replace hb := Nrm.nrm hb
    refine wp_skip ?_
    refine zAf hK ?_; clear hK; clear K
    refine wp_seq_k ?_; intro K hK
    refine zCa S (.ofL [(0, 0), (1, 0), (2, 0), (3, 0), (5, 0), (4, 1), (6, 1), (7, 3), (8, 2)]) (by kernel_rfl) (by kernel_rfl) ?_
    clear S; intro w S
    iterate 2 (refine zm E rfl (fun w h => by first | exact zAq E rfl rfl rfl (h.one (by repeat (first | exact mm1 | assumption | apply List.Mem.tail))) rfl | exact zAl E rfl rfl rfl (by assumption)) ?_; clear E a; intro a E)
    refine zm E rfl (fun w h => by first | exact zBv E rfl rfl rfl | exact zAx E rfl rfl rfl | exact zAp E rfl rfl rfl) ?_; clear E a; intro a E
    refine zm E rfl (fun w h => by first | exact zBi E rfl rfl rfl rfl (by first | exact wu8 _ | exact zFj (by omega) | exact zDt (by omega) | exact w_in (by omega) | exact zCb (by omega) | exact rfl) | exact zBz E rfl rfl rfl rfl rfl (by assumption) (S.stab.at (by simp))) ?_; clear E a; intro a E
    refine zm E rfl (fun w h => by first | exact zAq E rfl rfl rfl (h.one (by repeat (first | exact mm1 | assumption | apply List.Mem.tail))) rfl | exact zAl E rfl rfl rfl (by assumption)) ?_; clear E a; intro a E
    refine zCn E rfl rfl rfl (by decide) rfl Tryz.func74 rfl (by kernel_rfl) rfl (zLa t.length 2 w (by omega)) ?_
    rintro v10 w ⟨g, rfl, hT⟩; clear E a; intro a E
    have S := S.fresh hT
    refine ⟨S.stab.sub (by first | (simp; done) | (simp +contextual; done) | (simp [*]; done)), ?_⟩
    refine zDg rfl rfl (zDi (by' := 1) E S rfl rfl (by decide) rfl rfl (buf_block (zBa t.length 2) (by omega)) (by repeat (first | exact pk1 | apply zAc)) (src_str rfl t w) rfl rfl rfl rfl rfl rfl (by simp only [maxLen]; omega) (by omega) ?_); clear E S a; intro a w v12 C12 E S hB12; refine ⟨S.stab.sub (by first | (simp; done) | (simp +contextual; done) | (simp [*]; done)), ?_⟩
    obtain ⟨ad, c, rfl⟩ := hB12.slice
    refine zGc E rfl rfl rfl (by decide) rfl Tryz.func75 rfl (by kernel_rfl) rfl (put_ret p s A C12 _ (zBm t.length 2 ++ t) w hA (by rw [List.length_append, zBa, zDs]; exact hB12.rd) (S.hp.sel (zAi (by repeat (first | exact pk1 | apply zAc)) (zAi (by repeat (first | exact pk1 | apply zAc)) (zAo _)))) hr) ?_
    rintro v13 w ⟨A', rfl, hA', hT⟩; clear E a; intro a E
    have S := S.call2 (zAi (by repeat (first | exact pk1 | apply zAc)) (zAi (by repeat (first | exact pk1 | apply zAc)) (zAo _))) hT
    refine zCs E rfl rfl rfl (by decide) (fun w => zAe E rfl rfl) ?_; clear E a; intro a E
    refine zCd ?_
    refine zAf hK ?_; clear hK; clear K
    refine wp_ret ?_
    refine ret1 E rfl rfl ?_
    rw [s.putS_eq] at hA'
    refine ⟨_, rfl, _, _, A', rfl, hA', (S.only (Bs := [A', [(bb, cel [str t] 9)], [(bw, cel [ptr p] 63)]]) (zAi (by repeat (first | exact pk1 | apply zAc)) (zAi (by repeat (first | exact pk1 | apply zAc)) (zAi (by repeat (first | exact pk1 | apply zAc)) (zAo _))))).tr, ?_⟩
    simp only [Wr.text, Wr.lay, textE, he, show ¬ t.length > 65535 by omega, if_false, ne_eq, not_true_eq_false]
    rw [s.putS_eq]
theorem text_ret (p : Nat) (s : Wr) (A : zAs) (w0 : World) (hA : WrC 94 p s A) (t : List UInt8) (H : Hp w0 [A]) (hr : s.room ≤ 140737488355328) :
    Ret Tryz.prog 51 #[ptr p, str t] w0 fun _ w' => ∃ A', WrC 94 p (s.text t) A' ∧ Trs w0 w' [A] [A'] := by
  have S := St.begin H
  refine zCg 7 Tryz.func51 rfl rfl (by decide) ?_; intro a E
  refine wp_seq_k ?_; intro K hK
  refine zAa ?_
  refine zAm rfl (zCk E S rfl rfl (by decide) rfl rfl ?_); clear E S a; intro a w b2 E S
  refine zAm rfl (zCk E S rfl rfl (by decide) rfl rfl ?_); clear E S a; intro a w b3 E S
  refine wpList_nil ?_
  refine zAf hK ?_; clear hK; clear K
  have S := S.perm (Bs := [A, [(b3, cel [str t] 9)], [(b2, cel [ptr p] 63)]]) (zAi (by repeat (first | exact pk1 | apply zAc)) (zAi (by repeat (first | exact pk1 | apply zAc)) (zAi (by repeat (first | exact pk1 | apply zAc)) (zAo _))))
  refine zAa ?_
  refine zp E (by first | exact zAq E rfl rfl rfl (S.get (by repeat (first | exact pk1 | apply zAc))) rfl | exact zAl E rfl rfl rfl (by assumption)) ?_; clear E a; intro a E
  refine zp E (zEe E rfl rfl ⟨_, rfl⟩) ?_; clear E a; intro a E
  refine zAn E rfl rfl (by decide) rfl Tryz.func71 rfl (by kernel_rfl) rfl (try_ret (s.text t) 92 _ [ptr b3, ptr b2] Tryz.func92 rfl (by kernel_rfl) p s A [[(b3, cel [str t] 9)], [(b2, cel [ptr p] 63)]] w hA S.hp (fun h => by simp [Wr.text, Wr.lay, h]) (fun h => text_body p s A w hA h b2 b3 t S.hp hr)) ?_
  rintro v6 w ⟨A', hA', hT⟩; clear E a; intro a E
  have S := S.all hT
  refine wpList_nil ?_
  refine end0 E rfl ?_
  exact ⟨_, rfl, A', hA', (S.only (Bs := [A']) (zAi (by repeat (first | exact pk1 | apply zAc)) (zAo _))).tr⟩
theorem zKe (most : Int) (w0 : World) :
    Ret Tryz.prog 28 #[.int .i64 most] w0 fun u w' => ∃ p A, u = ptr p ∧ WrC 94 p ⟨most.toNat, [], 0⟩ A ∧ Trs w0 w' [] [A] := by
  have S := St.begin (w := w0) (As := []) ⟨by simp, by simp⟩
  refine zDh 7 Tryz.func28 rfl rfl (by decide) ?_; intro a E
  refine wp_seq_k ?_; intro K hK
  refine zAa ?_
  refine zp E (zAe E rfl rfl) ?_; clear E a; intro a E
  refine wpList_nil ?_
  refine zAf hK ?_; clear hK; clear K
  refine wp_seq_k ?_; intro K hK
  refine zAa ?_
  refine zp E (zAd E rfl rfl) ?_; clear E a; intro a E
  refine zp E (rn_max E rfl rfl rfl) ?_; clear E a; intro a E
  refine zp E (zCv (cells := [_, _, _]) E rfl rfl rfl) ?_; clear E a; intro a E
  refine zAm rfl (zCk E S rfl rfl (by decide) rfl rfl ?_); clear E S a; intro a w b6 E S
  refine zp E (zAe E rfl rfl) ?_; clear E a; intro a E
  refine wpList_nil ?_
  refine zAf hK ?_; clear hK; clear K
  refine wp_ret ?_
  refine ret1 E rfl rfl ?_
  exact ⟨_, rfl, b6, _, rfl, ⟨.slice none 0 0, [], by simp only [List.append_nil, Int.toNat_eq_max, Int.max_comm]; rfl, Buf.nil _ _⟩, S.tr⟩
theorem done_ret (p : Nat) (s : Wr) (A : zAs) (w0 : World) (hA : WrC 94 p s A) (H : Hp w0 [A]) (hr : s.bs.length ≤ 140737488355328) :
    Ret Tryz.prog 29 #[ptr p] w0 fun u w' => (s.e ≠ 0 ∧ u = .tuple #[.slice none 0 0, .int .i64 s.e] ∧ Trs w0 w' [A] [A]) ∨
      (s.e = 0 ∧ ∃ g, u = .tuple #[.slice (some ⟨g, 0, none⟩) s.bs.length s.bs.length, .int .i64 0] ∧ Trs w0 w' [A] [[(g, cel (byt s.bs) 5)], A]) := by
  obtain ⟨v, C, hAe, hB⟩ := hA
  obtain ⟨ad, c, rfl⟩ := hB.slice
  have S := St.begin H
  have S := (by rw [hAe] at S; exact S.split : St w0 _ w0 ([(p, cel [.int .i64 s.room, .slice ad s.bs.length c, .int .i64 s.e] 94)] :: C :: _))
  refine zDh 18 Tryz.func29 rfl rfl (by decide) ?_; intro a E
  refine wp_seq_k ?_; intro K hK
  refine zAa ?_
  iterate 2 (refine zp E (zAe E rfl rfl) ?_; clear E a; intro a E)
  refine wpList_nil ?_
  refine zAf hK ?_; clear hK; clear K
  iterate 2 (refine wp_seq_k ?_; intro K hK)
  refine zAa ?_
  refine zp E (zAd E rfl rfl) ?_; clear E a; intro a E
  refine zp E (zBb E rfl rfl) ?_; clear E a; intro a E
  refine zp E (by first | exact zAg (q := 2) E rfl rfl rfl | exact zAh (q := 2) E rfl rfl rfl) ?_; clear E a; intro a E
  refine zp E (by first | exact zAq E rfl rfl rfl (S.get (by repeat (first | exact pk1 | apply zAc))) rfl | exact zAl E rfl rfl rfl (by assumption)) ?_; clear E a; intro a E
  refine zp E (by first | exact zDa E rfl rfl rfl | exact zBc E rfl rfl rfl rfl | exact zBl E rfl rfl rfl rfl | exact zBg E rfl rfl rfl) ?_; clear E a; intro a E
  refine wpList_nil ?_
  refine zAf hK ?_; clear hK; clear K
  refine zBj E rfl (fun hb => ?_) (fun hb => ?_)
  · replace hb := Nrm.nrm hb
    refine wp_seq_k ?_; intro K hK
    refine zCa S (.ofL [(0, 0), (1, 0), (2, 0), (3, 0), (4, 0), (5, 0)]) (by kernel_rfl) (by kernel_rfl) ?_
    clear S; intro w S
    refine zm E rfl (fun w h => zAd E rfl rfl) ?_; clear E a; intro a E
    refine zm E rfl (fun w h => zBb E rfl rfl) ?_; clear E a; intro a E
    refine zm E rfl (fun w h => by first | exact zAg (q := 2) E rfl rfl rfl | exact zAh (q := 2) E rfl rfl rfl) ?_; clear E a; intro a E
    refine zm E rfl (fun w h => by first | exact zAq E rfl rfl rfl (h.one (by repeat (first | exact mm1 | assumption | apply List.Mem.tail))) rfl | exact zAl E rfl rfl rfl (by assumption)) ?_; clear E a; intro a E
    iterate 2 (refine zm E rfl (fun w h => zAe E rfl rfl) ?_; clear E a; intro a E)
    refine zCd ?_
    refine zAf hK ?_; clear hK; clear K
    refine wp_ret ?_
    refine zAv ?_; clear hK; clear K
    refine ret2 E rfl rfl rfl ?_
    have S := S.join
    rw [← hAe] at S
    exact ⟨_, rfl, .inl ⟨by omega, rfl, S.tr⟩⟩
  · replace hb := Nrm.nrm hb
    refine wp_skip ?_
    refine zAf hK ?_; clear hK; clear K
    refine wp_seq_k ?_; intro K hK
    refine zAa ?_
    refine zp E (zAd E rfl rfl) ?_; clear E a; intro a E
    refine zp E (zBb E rfl rfl) ?_; clear E a; intro a E
    refine zp E (by first | exact zAg (q := 1) E rfl rfl rfl | exact zAh (q := 1) E rfl rfl rfl) ?_; clear E a; intro a E
    refine zp E (by first | exact zAq E rfl rfl rfl (S.get (by repeat (first | exact pk1 | apply zAc))) rfl | exact zAl E rfl rfl rfl (by assumption)) ?_; clear E a; intro a E
    refine zAn E rfl rfl (by decide) rfl Tryz.func70 rfl (by kernel_rfl) rfl (zHu C _ s.bs _ hB.rd (S.hp.sel (zAi (by repeat (first | exact pk1 | apply zAc)) (zAo _))) (by omega)) ?_
    rintro v17 w ⟨g, rfl, hT⟩; clear E a; intro a E
    have S := S.call2 (zAi (by repeat (first | exact pk1 | apply zAc)) (zAo _)) hT
    iterate 2 (refine zp E (zAe E rfl rfl) ?_; clear E a; intro a E)
    refine wpList_nil ?_
    refine zAf hK ?_; clear hK; clear K
    refine wp_ret ?_
    refine ret2 E rfl rfl rfl ?_
    have S := S.gather (A := [(p, _)]) (B := C) (by repeat (first | exact pk1 | apply zAc)) (by repeat (first | exact pk1 | apply zAc))
    rw [← hAe] at S
    exact ⟨_, rfl, .inr ⟨by omega, g, rfl, (S.only (Bs := [_, A]) (zAi pk2 (zAi pk1 (zAo _)))).tr⟩⟩
end Go.Proofs.YtbogecljkaimdaaGreatDoor
