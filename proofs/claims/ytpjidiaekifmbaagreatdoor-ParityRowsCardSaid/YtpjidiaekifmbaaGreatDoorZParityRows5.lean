/-
  Texts put together (5).
-/
import Derived.Test.YtpjidiaekifmbaaGreatDoorZParityRows4
set_option maxHeartbeats 1000000
namespace Go.Proofs.YtpjidiaekifmbaaGreatDoor
open Go.Sl
set_option maxRecDepth 10000
theorem value_ret (C : zAj) (v : Value) (bs : List UInt8) (w : World) (h : Rd C 1 v bs.length (byt bs)) (hs : ∀ x ∈ C, w.heap[x.1]? = some x.2) (hl : bs.length ≤ 8) :
  Ret Tryz.prog 121 #[v] w fun u w' => u = .int .u64 (zDj bs) ∧ w' = w := by
 obtain ⟨ad, c, rfl⟩ := h.slice
 refine zCh 22 Tryz.func121 rfl rfl dZ ?_; intro a E
 refine wp_seq_k ?_; intro K hK
 refine zAa ?_
 refine zd E ?_; clear E a; intro a E
 refine wpList_nil ?_
 refine zAb hK ?_; clear hK K
 refine wp_seq_k ?_; intro K hK
 refine zAa ?_
 refine zd E ?_; clear E a; intro a E
 refine wpList_nil ?_
 refine zAb hK ?_; clear hK K
 iterate 2 (refine wp_seq_k ?_; intro K hK)
 refine zAa ?_
 iterate 3 (refine zd E ?_; clear E a; intro a E)
 refine wpList_nil ?_
 refine zAb hK ?_; clear hK K
 refine wp_block ?_
 refine wp_loop_ghost (fun (m : Nat) (a : Act) (w' : World) => ∃ k : Nat, k ≤ bs.length ∧ m = bs.length - k ∧ w' = w ∧ Fr a 22 [(8, .int .i64 k), (3, .int .u64 (zDj (bs.take k))), (7, .int .i64 bs.length), (6, .slice ad bs.length c)]) (bs.length) ?_ ?_
 ·exact ⟨0, by omega, by omega, rfl, E.keep (kE4 rfl rfl rfl rfl)⟩
 clear E; clear a; (try clear S); rintro m a w' ⟨k, hk, rfl, rfl, E⟩
 refine wp_seq_k ?_; intro K hK
 refine zAa ?_
 refine zd E ?_; clear E a; intro a E
 refine wpList_nil ?_
 refine zAb hK ?_; clear hK K
 refine wp_seq_k ?_; intro K hK
 refine zAs E rfl (fun hb => ?_) (fun hb => ?_)
 ·replace hb := Nrm.nrm hb
  obtain ⟨b, off, rfl⟩ := h.addr oZ
  have hc := h.byte hs (i := k) oZ
  have h1 := numOf_lt (bs.take (k + 1))
  have h2 := numOf_lt (bs.take k)
  have h3 := zKm bs k oZ
  rw [List.length_take, Nat.min_eq_left oZ, show (256 : Nat) = 2 ^ 8 from rfl, ← Nat.pow_mul] at h1 h2
  have h4 : 2 ^ (8 * (k + 1)) ≤ 2 ^ 64 := Nat.pow_le_pow_right oZ oZ
  refine wp_skip ?_
  refine zAb hK ?_; clear hK K
  refine wp_seq_k ?_; intro K hK
  refine wp_block ?_
  refine wp_seq_k ?_; intro K hK
  refine zAa ?_
  refine zd E ?_; clear E a; intro a E
  refine zp E (by first | exact zAp E rfl rfl rfl rfl rfl rfl oZ | exact zAz E rfl rfl rfl rfl rfl rfl oZ | exact zAm E rfl rfl rfl rfl rfl rfl oZ) ?_; clear E a; intro a E
  iterate 3 (refine zd E ?_; clear E a; intro a E)
  refine wpList_nil ?_
  refine zAb hK ?_; clear hK K
  refine zAa ?_
  iterate 2 (refine zd E ?_; clear E a; intro a E)
  refine zp E (by first | exact zBe E rfl rfl rfl rfl (by first | exact wu8 _ | exact zHm oZ | exact zEo oZ | exact w_in oZ | exact zBj oZ | exact rfl) | exact zCc E rfl rfl rfl rfl rfl (by assumption) (S.stab.at (by simp))) ?_; clear E a; intro a E
  refine zd E ?_; clear E a; intro a E
  refine zp E (zCx E rfl rfl rfl (by first | exact zGn (x := 8) oZ | exact zFb (x := 8) oZ | exact w_in oZ | exact rfl)) ?_; clear E a; intro a E
  refine zp E (zEn E rfl rfl rfl oZ (by simp only [IntKind.bits]; omega) (shlu oZ)) ?_; clear E a; intro a E
  refine zp E (zGk E rfl rfl rfl (oru h2 oZ)) ?_; clear E a; intro a E
  refine zd E ?_; clear E a; intro a E
  refine wpList_nil ?_
  refine zAq ?_
  refine zAb hK ?_; clear hK K
  refine zAa ?_
  refine zp E (zAy E rfl rfl rfl (by first | exact zBq (y := 1) oZ | exact w_in oZ | exact zBj oZ | exact rfl)) ?_; clear E a; intro a E
  refine zd E ?_; clear E a; intro a E
  refine wpList_nil ?_
  refine zAn ?_
  rw [← h3] at E; exact ⟨_, by omega, k + 1, by omega, rfl, rfl, E.keep (kE4 rfl rfl rfl rfl)⟩
 ·replace hb := Nrm.nrm hb
  refine wp_exit ?_
  refine zAl ?_; clear hK K
  refine zAl ?_
  refine zBi ?_
  refine zAb hK ?_; clear hK K
  refine wp_seq_k ?_; intro K hK
  refine zAa ?_
  iterate 2 (refine zd E ?_; clear E a; intro a E)
  refine wpList_nil ?_
  refine zAb hK ?_; clear hK K
  refine wp_ret ?_
  refine ret1 E rfl rfl ?_
  refine ⟨_, rfl, ?_, rfl⟩; rw [List.take_of_length_le oZ]
theorem form_ret (n : Nat) (k : Nat) (w0 : World) (hk : k ≤ 8) :
  Ret Tryz.prog 122 #[.int .u64 n, .int .i64 k] w0 fun u w' => ∃ g, u = .slice (some ⟨g, 0, none⟩) k k ∧ Trs w0 w' [] [[(g, cel (byt (zBu n k)) 5)]] := by
 have S := St.begin (w := w0) (As := []) ⟨by simp, by simp⟩
 refine zBx 24 Tryz.func122 rfl rfl dZ ?_; intro a E
 refine wp_seq_k ?_; intro K hK
 refine zAa ?_
 refine zd E ?_; clear E a; intro a E
 refine wpList_nil ?_
 refine zAb hK ?_; clear hK K
 refine wp_seq_k ?_; intro K hK
 refine zAa ?_
 refine zd E ?_; clear E a; intro a E
 refine zAf rfl (zCn (by' := 1) E S rfl rfl dZ rfl rfl rfl rfl rfl rfl rfl rfl rfl rfl rfl (by first | exact mkb oZ | exact mkb8 oZ | exact mkbn rfl oZ) (by simp only [maxLen]; omega) ?_); clear E S a; intro a w g8 E S
 refine zd E ?_; clear E a; intro a E
 refine wpList_nil ?_
 refine zAb hK ?_; clear hK K
 iterate 2 (refine wp_seq_k ?_; intro K hK)
 refine zAa ?_
 iterate 3 (refine zd E ?_; clear E a; intro a E)
 refine wpList_nil ?_
 refine zAb hK ?_; clear hK K
 refine wp_block ?_
 refine wp_loop_ghost (fun (m : Nat) (a : Act) (w' : World) => ∃ (j : Nat), j ≤ k ∧ m = k - j ∧ St w0 [] w' [[(g8, cel (byt (zBu n j) ++ List.replicate (k - j) (.int .u8 0)) 5)]] ∧ Fr a 24 [(11, .int .i64 j), (10, .int .i64 k), (5, .slice (some ⟨g8, 0, none⟩) k k), (0, .int .u64 n)]) (k) ?_ ?_
 ·exact ⟨0, by omega, by omega, by simpa [zBu, byt] using S, E.keep (kE4 rfl rfl rfl rfl)⟩
 clear E; clear a; (try clear S); rintro m a w ⟨j, hj, rfl, S, E⟩
 refine wp_seq_k ?_; intro K hK
 refine zAa ?_
 refine zd E ?_; clear E a; intro a E
 refine wpList_nil ?_
 refine zAb hK ?_; clear hK K
 refine wp_seq_k ?_; intro K hK
 refine zAs E rfl (fun hb => ?_) (fun hb => ?_)
 ·replace hb := Nrm.nrm hb
  refine wp_skip ?_
  refine zAb hK ?_; clear hK K
  refine wp_seq_k ?_; intro K hK
  refine wp_block ?_
  refine wp_seq_k ?_; intro K hK
  refine zAa ?_
  iterate 2 (refine zd E ?_; clear E a; intro a E)
  refine wpList_nil ?_
  refine zAb hK ?_; clear hK K
  refine zAa ?_
  iterate 4 (refine zd E ?_; clear E a; intro a E)
  refine zp E (zCx E rfl rfl rfl (by first | exact zGn (x := 8) oZ | exact zFb (x := 8) oZ | exact w_in oZ | exact rfl)) ?_; clear E a; intro a E
  refine zp E (zHv E rfl rfl rfl oZ (by simp only [IntKind.bits]; omega) shru) ?_; clear E a; intro a E
  refine zp E (zBe E rfl rfl rfl rfl (w8 _)) ?_; clear E a; intro a E
  refine zp E (by first | exact zAp E rfl rfl rfl rfl rfl rfl oZ | exact zAz E rfl rfl rfl rfl rfl rfl oZ | exact zAm E rfl rfl rfl rfl rfl rfl oZ) ?_; clear E a; intro a E
  refine zAf rfl (zBa E S rfl rfl rfl rfl rfl rfl pZ (by simp only [List.length_append, List.length_replicate, zAv, zBh]; omega) ?_); clear E S a; intro a w E S; try dsimp only [List.set] at S
  refine wpList_nil ?_
  refine zAq ?_
  refine zAb hK ?_; clear hK K
  refine zAa ?_
  refine zp E (zAy E rfl rfl rfl (by first | exact zBq (y := 1) oZ | exact w_in oZ | exact zBj oZ | exact rfl)) ?_; clear E a; intro a E
  refine zd E ?_; clear E a; intro a E
  refine wpList_nil ?_
  refine zAn ?_
  rw [Nat.zero_add, zGp _ _ _ _ _ (by simp [byt, zBh]) oZ] at S; exact ⟨_, by omega, j + 1, by omega, rfl, by simpa [zBu, byt] using S, E.keep (kE4 rfl rfl rfl rfl)⟩
 ·replace hb := Nrm.nrm hb
  refine wp_exit ?_
  refine zAl ?_; clear hK K
  refine zAl ?_
  refine zBi ?_
  refine zAb hK ?_; clear hK K
  refine wp_seq_k ?_; intro K hK
  refine zAa ?_
  iterate 2 (refine zd E ?_; clear E a; intro a E)
  refine wpList_nil ?_
  refine zAb hK ?_; clear hK K
  refine wp_ret ?_
  refine ret1 E rfl rfl ?_
  obtain rfl : j = k := by omega
  refine ⟨_, rfl, g8, rfl, ?_⟩
  simpa using S.tr
theorem rd_block {g n : Nat} {b : List UInt8} {T : TypeId} (hn : b.length = n) (hm : n ≤ 4611686018427387904) (c : Nat) : Rd [(g, cel (byt b) T)] 1 (.slice (some ⟨g, 0, none⟩) n c) n (byt b) :=
 ⟨by rw [zAv, hn, Nat.mul_one], zCq _, by simp only [maxLen]; omega, .inr ⟨g, 0, c, _, T, (0, 0), rfl, List.mem_singleton.2 rfl, fun i u hu => by simpa using hu⟩⟩
theorem rd_blk {g : Nat} (n : Nat) {b : List UInt8} {T : TypeId} (hn : b.length = n) (hm : n ≤ 4611686018427387904) (c : Nat) : Rd [(g, cel (byt b) T)] 1 (.slice (some ⟨g, 0, none⟩) n c) b.length (byt b) := by
 subst hn; exact rd_block rfl hm c
theorem copied_ret (C : zAj) (v : Value) (bs : List UInt8) (w0 : World) (h : Rd C 1 v bs.length (byt bs)) (hs : Hp w0 [C]) (hl : bs.length ≤ 281474976710656) :
  Ret Tryz.prog 117 #[v] w0 fun u w' => ∃ g, u = .slice (some ⟨g, 0, none⟩) bs.length bs.length ∧ Trs w0 w' [C] [[(g, cel (byt bs) 5)], C] := by
 obtain ⟨ad, c, rfl⟩ := h.slice
 have S := St.begin hs
 refine zCh 11 Tryz.func117 rfl rfl dZ ?_; intro a E
 refine wp_seq_k ?_; intro K hK
 refine zAa ?_
 refine zd E ?_; clear E a; intro a E
 refine wpList_nil ?_
 refine zAb hK ?_; clear hK K
 refine wp_seq_k ?_; intro K hK
 refine zAa ?_
 iterate 2 (refine zd E ?_; clear E a; intro a E)
 refine zAf rfl (zCn (by' := 1) E S rfl rfl dZ rfl rfl rfl rfl rfl rfl rfl rfl rfl rfl rfl (by first | exact mkb oZ | exact mkb8 oZ | exact mkbn rfl oZ) (by simp only [maxLen]; omega) ?_); clear E S a; intro a w g6 E S
 refine zd E ?_; clear E a; intro a E
 refine wpList_nil ?_
 refine zAb hK ?_; clear hK K
 refine wp_seq_k ?_; intro K hK
 refine zAa ?_
 iterate 2 (refine zd E ?_; clear E a; intro a E)
 refine zAf rfl (zHk E S rfl rfl dZ rfl rfl pZ (h.copySrc (S.stab.at mZ) rfl) rfl rfl (by simp) ?_); clear E S a; intro a w E S
 rw [copy_all (by simp [zAv])] at S
 refine wpList_nil ?_
 refine zAb hK ?_; clear hK K
 refine wp_seq_k ?_; intro K hK
 refine zAa ?_
 iterate 2 (refine zd E ?_; clear E a; intro a E)
 refine wpList_nil ?_
 refine zAb hK ?_; clear hK K
 refine wp_ret ?_
 refine ret1 E rfl rfl ?_
 exact ⟨_, rfl, g6, rfl, S.tr⟩
def WrC (T : TypeId) (p : Nat) (s : Wr) (A : zAj) : Prop :=
 ∃ v C, A = [(p, cel [.int .i64 s.room, v, .int .i64 s.e] T)] ++ C ∧ Buf C 5 1 v s.bs.length (byt s.bs)
theorem put_ret (p : Nat) (s : Wr) (A D : zAj) (bv : Value) (b : List UInt8) (w0 : World) (hA : WrC 202 p s A) (hD : Rd D 1 bv b.length (byt b)) (H : Hp w0 [A, D]) (hr : s.room ≤ 140737488355328) :
  Ret Tryz.prog 116 #[ptr p, bv] w0 fun u w' => ∃ A', u = .int .i64 (s.putE b) ∧ WrC 202 p (s.putS b) A' ∧ Trs w0 w' [A, D] [A', D] := by
 obtain ⟨v, C, rfl, hB⟩ := hA
 obtain ⟨ad, c, rfl⟩ := hD.slice
 obtain ⟨ad2, c2, rfl⟩ := hB.slice
 have S := (St.begin H).split
 have hm := hB.rd.2.2.1
 have hm2 := hD.2.2.1
 simp only [maxLen] at hm hm2
 refine zBx 27 Tryz.func116 rfl rfl dZ ?_; intro a E
 refine wp_seq_k ?_; intro K hK
 refine zAa ?_
 refine zd E ?_; clear E a; intro a E
 refine wpList_nil ?_
 refine zAb hK ?_; clear hK K
 iterate 2 (refine wp_seq_k ?_; intro K hK)
 refine zAw S (.ofL [(0, 0), (1, 0), (2, 0), (3, 0), (4, 0), (5, 0), (6, 0), (7, 0), (8, 0), (9, 0), (10, 0), (11, 0), (12, 0)]) yZ yZ ?_
 clear S; intro w S
 iterate 4 (refine zmd E ?_; clear E a; intro a E)
 refine zm E rfl (fun w h => by first | exact zAc (q := 0) E rfl rfl rfl | exact zAd (q := 0) E rfl rfl rfl) ?_; clear E a; intro a E
 iterate 3 (refine zmd E ?_; clear E a; intro a E)
 refine zm E rfl (fun w h => by first | exact zAc (q := 1) E rfl rfl rfl | exact zAd (q := 1) E rfl rfl rfl) ?_; clear E a; intro a E
 iterate 2 (refine zmd E ?_; clear E a; intro a E)
 refine zm E rfl (fun w h => zCo E rfl rfl rfl (by first | exact ws1 oZ oZ | exact w_in oZ | exact zBj oZ | exact rfl)) ?_; clear E a; intro a E
 refine zmd E ?_; clear E a; intro a E
 refine zBd ?_
 refine zAb hK ?_; clear hK K
 refine zAs E rfl (fun hb => ?_) (fun hb => ?_)
 ·replace hb := Nrm.nrm hb
  have hf : s.fits b = false := by simp only [Wr.fits, decide_eq_false_iff_not]; omega
  refine wp_seq_k ?_; intro K hK
  refine zAa ?_
  refine zd E ?_; clear E a; intro a E
  refine wpList_nil ?_
  refine zAb hK ?_; clear hK K
  refine wp_ret ?_
  refine zBc ?_; clear hK K
  refine ret1 E rfl rfl ?_
  exact ⟨_, rfl, _, by simp [Wr.putE, hf], ⟨_, C, rfl, by simpa [Wr.putS, hf] using hB⟩, by simpa [Wr.putS, hf] using S.join.tr⟩
 ·replace hb := Nrm.nrm hb
  have hf : s.fits b = true := by simp only [Wr.fits, decide_eq_true_eq]; omega
  refine wp_skip ?_
  refine zAb hK ?_; clear hK K
  refine wp_seq_k ?_; intro K hK
  have hf2 := of_decide_eq_true hf
  refine zAa ?_
  iterate 3 (refine zd E ?_; clear E a; intro a E)
  refine zp E (by first | exact zAc (q := 1) E rfl rfl rfl | exact zAd (q := 1) E rfl rfl rfl) ?_; clear E a; intro a E
  iterate 2 (refine zd E ?_; clear E a; intro a E)
  refine zAf rfl (zBl (by' := 1) E S rfl rfl dZ rfl rfl hB pZ (hD.src (S.stab.at mZ) rfl) rfl rfl rfl rfl rfl rfl (by simp only [maxLen]; omega) oZ ?_); clear E S a; intro a w v24 C24 E S hB24
  obtain ⟨ad3, c3, rfl⟩ := hB24.slice
  refine zd E ?_; clear E a; intro a E
  refine zp E (by first | exact zAc (q := 1) E rfl rfl rfl | exact zAd (q := 1) E rfl rfl rfl) ?_; clear E a; intro a E
  refine zAf rfl (zBa E S rfl rfl rfl rfl rfl rfl pZ (by first | exact Nat.le_of_ble_eq_true rfl | (simp; done) | (simp; omega)) ?_); clear E S a; intro a w E S; try dsimp only [List.set] at S
  refine wpList_nil ?_
  refine zAb hK ?_; clear hK K
  refine wp_seq_k ?_; intro K hK
  replace E := E.keep (e' := [(4, _)]) (kE1 rfl)
  refine zAa ?_
  refine zd E ?_; clear E a; intro a E
  refine wpList_nil ?_
  refine zAb hK ?_; clear hK K
  refine wp_ret ?_
  refine ret1 E rfl rfl ?_
  exact ⟨_, rfl, [(p, cel [.int .i64 s.room, .slice ad3 (s.bs.length + b.length) c3, .int .i64 s.e] 202)] ++ C24, by simp [Wr.putE, hf], ⟨.slice ad3 (s.bs.length + b.length) c3, C24, by simp [Wr.putS, hf], by simpa [Wr.putS, hf, zBw] using hB24⟩, S.join.tr⟩
theorem try_no (p : Nat) (s : Wr) (A : zAj) (fv : Value) (w0 : World) (hA : WrC 202 p s A) (H : Hp w0 [A]) (he : s.e ≠ 0) :
  Ret Tryz.prog 114 #[ptr p, fv] w0 fun _ w' => w' = w0 := by
 obtain ⟨v, C, rfl, hB⟩ := hA
 have S := (St.begin H).split
 refine zBx 14 Tryz.func114 rfl rfl dZ ?_; intro a E
 refine wp_seq_k ?_; intro K hK
 refine zAa ?_
 iterate 2 (refine zd E ?_; clear E a; intro a E)
 refine zp E (by first | exact zAc (q := 2) E rfl rfl rfl | exact zAd (q := 2) E rfl rfl rfl) ?_; clear E a; intro a E
 iterate 2 (refine zd E ?_; clear E a; intro a E)
 refine wpList_nil ?_
 refine zAb hK ?_; clear hK K
 refine zAs E rfl (fun hb => ?_) (fun hb => ?_)
 ·replace hb := Nrm.nrm hb
  exfalso; omega
 ·replace hb := Nrm.nrm hb
  refine wp_skip ?_
  refine end0 E rfl ?_
  exact ⟨_, rfl, rfl⟩
theorem try_yes (f : FuncId) (fn : Func) (cap : List Value) (hf : Tryz.prog.funcs[f]? = some fn) (hfb : fn.body.isSome = true) (hfn : (fn.name == "runtime.NumGoroutine") = false)
  (p : Nat) (s : Wr) (A : zAj) (Rs : List zAj) (X : Nat → List UInt8 → Prop) (w0 : World) (hA : WrC 202 p s A) (H : Hp w0 (A :: Rs)) (he : s.e = 0)
  (hc : Ret Tryz.prog f cap.toArray w0 fun u w' => ∃ (e' : Nat) (bs' : List UInt8) (A' : zAj), u = .int .i64 e' ∧ WrC 202 p { s with bs := bs' } A' ∧ Trs w0 w' (A :: Rs) (A' :: Rs) ∧ X e' bs') :
  Ret Tryz.prog 114 #[ptr p, .func (.func f) #[] cap.toArray] w0 fun _ w' => ∃ (e' : Nat) (bs' : List UInt8) (A' : zAj), WrC 202 p { s with bs := bs', e := e' } A' ∧ Trs w0 w' (A :: Rs) (A' :: Rs) ∧ X e' bs' := by
 have hA0 := hA
 obtain ⟨v, C, rfl, hB⟩ := hA
 have S := (St.begin H).split
 refine zBx 14 Tryz.func114 rfl rfl dZ ?_; intro a E
 refine wp_seq_k ?_; intro K hK
 refine zAa ?_
 iterate 2 (refine zd E ?_; clear E a; intro a E)
 refine zp E (by first | exact zAc (q := 2) E rfl rfl rfl | exact zAd (q := 2) E rfl rfl rfl) ?_; clear E a; intro a E
 iterate 2 (refine zd E ?_; clear E a; intro a E)
 refine wpList_nil ?_
 refine zAb hK ?_; clear hK K
 refine zAs E rfl (fun hb => ?_) (fun hb => ?_)
 ·replace hb := Nrm.nrm hb
  refine zAa ?_
  iterate 2 (refine zd E ?_; clear E a; intro a E)
  refine zCy E rfl rfl dZ rfl rfl hf hfb hfn rfl (hc) ?_
  rintro v11 w ⟨e', bs', A', rfl, ⟨v', C', rfl, hB'⟩, hT, hX⟩; clear E a; intro a E
  have S := ((St.begin H).all hT).split
  refine zd E ?_; clear E a; intro a E
  refine zp E (by first | exact zAc (q := 2) E rfl rfl rfl | exact zAd (q := 2) E rfl rfl rfl) ?_; clear E a; intro a E
  refine zAf rfl (zBa E S rfl rfl rfl rfl rfl rfl pZ (by first | exact Nat.le_of_ble_eq_true rfl | (simp; done) | (simp; omega)) ?_); clear E S a; intro a w E S; try dsimp only [List.set] at S
  refine wpList_nil ?_
  refine end0 E rfl ?_
  exact ⟨_, rfl, e', bs', _, ⟨v', C', rfl, hB'⟩, S.join.tr, hX⟩
 ·replace hb := Nrm.nrm hb
  exfalso; omega
theorem try_ret (s2 : Wr) (f : FuncId) (fn : Func) (cap : List Value) (hf : Tryz.prog.funcs[f]? = some fn) (hfb : fn.body.isSome = true) (hfn : (fn.name == "runtime.NumGoroutine") = false)
  (p : Nat) (s : Wr) (A : zAj) (Rs : List zAj) (w0 : World) (hA : WrC 202 p s A) (H : Hp w0 (A :: Rs)) (h0 : s.e ≠ 0 → s2 = s)
  (hc : s.e = 0 → Ret Tryz.prog f cap.toArray w0 fun u w' => ∃ (e' : Nat) (bs' : List UInt8) (A' : zAj), u = .int .i64 e' ∧ WrC 202 p { s with bs := bs' } A' ∧ Trs w0 w' (A :: Rs) (A' :: Rs) ∧ s2 = { s with bs := bs', e := e' }) :
  Ret Tryz.prog 114 #[ptr p, .func (.func f) #[] cap.toArray] w0 fun _ w' => ∃ A' : zAj, WrC 202 p s2 A' ∧ Trs w0 w' (A :: Rs) (A' :: Rs) := by
 by_cases he : s.e = 0
 ·refine (try_yes f fn cap hf hfb hfn p s A Rs (fun e' bs' => s2 = { s with bs := bs', e := e' }) w0 hA H he (hc he)).mono ?_
  rintro _ w' ⟨e', bs', A', h1, h2, h3⟩
  exact ⟨A', by rw [h3]; exact h1, h2⟩
 ·refine (try_no p s A _ w0 hA (H.sel (Rs := Rs) (List.Perm.refl _)) he).mono ?_
  rintro _ w' rfl
  exact ⟨A, by rw [h0 he]; exact hA, Trs.refl _ _⟩
theorem num_body (p : Nat) (s : Wr) (A : zAj) (w0 : World) (hA : WrC 202 p s A) (he : s.e = 0) (b5 b4 b3 : Nat) (n : Nat) (k : Int)
  (H : Hp w0 [A, [(b5, cel [.int .i64 k] 3)], [(b4, cel [.int .u64 n] 27)], [(b3, cel [ptr p] 186)]]) (hr : s.room ≤ 140737488355328) :
  Ret Tryz.prog 120 #[ptr b5, ptr b4, ptr b3] w0 fun u w' => ∃ (e' : Nat) (bs' : List UInt8) (A' : zAj), u = .int .i64 e' ∧ WrC 202 p { s with bs := bs' } A' ∧
   Trs w0 w' [A, [(b5, cel [.int .i64 k] 3)], [(b4, cel [.int .u64 n] 27)], [(b3, cel [ptr p] 186)]] [A', [(b5, cel [.int .i64 k] 3)], [(b4, cel [.int .u64 n] 27)], [(b3, cel [ptr p] 186)]] ∧ s.num n k = { s with bs := bs', e := e' } := by
 have S := St.begin H
 have hbad : (k < 1 ∨ 8 < k) → s.num n k = { s with bs := s.bs, e := 1 } := fun h => by simp [Wr.num, Wr.lay, numE, he, h]
 refine zDi 23 Tryz.func120 rfl rfl dZ ?_; intro a E
 refine wp_seq_k ?_; intro K hK
 refine zAa ?_
 refine zd E ?_; clear E a; intro a E
 refine wpList_nil ?_
 refine zAb hK ?_; clear hK K
 refine wp_seq_k ?_; intro K hK
 refine wp_block ?_
 refine wp_seq_k ?_; intro K hK
 refine zAa ?_
 iterate 3 (refine zd E ?_; clear E a; intro a E)
 refine zAr E (t := 7) rfl (fun hb7 => ?_) (fun hb7 => ?_)
 ·have hb7n := hb7; replace hb7n := Nrm.nrm hb7n
  iterate 2 (refine zn E hb7 ?_; clear E a; intro a E)
  refine zp E (zAi E rfl rfl hb7 rfl) ?_; clear E a; intro a E
  refine zd E ?_; clear E a; intro a E
  refine wpList_nil ?_
  refine zAb hK ?_; clear hK K
  refine zCk E rfl rfl ?_
  refine wp_seq_k ?_; intro K hK
  refine zAa ?_
  refine zd E ?_; clear E a; intro a E
  refine wpList_nil ?_
  refine zAb hK ?_; clear hK K
  refine wp_ret ?_
  refine zDr ?_
  refine zBc ?_; clear hK K
  refine ret1 E rfl rfl ?_
  exact ⟨_, rfl, 1, s.bs, A, rfl, hA, S.tr, hbad oZ⟩
 ·have hb7n := hb7; replace hb7n := Nrm.nrm hb7n
  iterate 2 (refine zyd E hb7 ?_; clear E a; intro a E)
  refine zp E (zAk E rfl rfl hb7 rfl) ?_; clear E a; intro a E
  refine zd E ?_; clear E a; intro a E
  refine wpList_nil ?_
  refine zAb hK ?_; clear hK K
  refine zAs E rfl (fun hb => ?_) (fun hb => ?_)
  ·replace hb := Nrm.nrm hb
   refine wp_seq_k ?_; intro K hK
   refine zAa ?_
   refine zd E ?_; clear E a; intro a E
   refine wpList_nil ?_
   refine zAb hK ?_; clear hK K
   refine wp_ret ?_
   refine zDr ?_
   refine zBc ?_; clear hK K
   refine ret1 E rfl rfl ?_
   exact ⟨_, rfl, 1, s.bs, A, rfl, hA, S.tr, hbad oZ⟩
  ·replace hb := Nrm.nrm hb
   refine wp_seq_k ?_; intro K hK
   obtain ⟨kn, rfl⟩ : ∃ kn : Nat, k = kn := ⟨k.toNat, by omega⟩
   refine zAw S (.ofL [(0, 0), (1, 0), (4, 0), (2, 1), (3, 1), (5, 0), (6, 0)]) yZ yZ ?_
   clear S; intro w S
   iterate 3 (refine zmd E ?_; clear E a; intro a E)
   refine zBo E rfl rfl rfl dZ rfl Tryz.func122 rfl yZ rfl (form_ret n kn w oZ) ?_
   rintro v14 w ⟨g, rfl, hT⟩; clear E a; intro a E
   have S := S.fresh hT
   refine ⟨S.stab.sub (by first | (simp; done) | (simp +contextual; done) | (simp [*]; done)), ?_⟩
   refine zBo E rfl rfl rfl dZ rfl Tryz.func121 rfl yZ rfl (value_ret _ _ (zBu n kn) w (rd_blk kn (zBh _ _) oZ _) (S.stab.at mZ) (by rw [zBh]; omega)) ?_
   rintro v15 w ⟨rfl, rfl⟩; clear E a; intro a E
   refine ⟨S.stab.sub (by first | (simp; done) | (simp +contextual; done) | (simp [*]; done)), ?_⟩
   iterate 2 (refine zmd E ?_; clear E a; intro a E)
   refine zBd ?_
   refine zAb hK ?_; clear hK K
   refine zAs E rfl (fun hb => ?_) (fun hb => ?_)
   ·replace hb := Nrm.nrm hb
    rw [numOf_form] at hb
    refine wp_seq_k ?_; intro K hK
    refine zAa ?_
    refine zd E ?_; clear E a; intro a E
    refine wpList_nil ?_
    refine zAb hK ?_; clear hK K
    refine wp_ret ?_
    refine zDr ?_
    refine zBc ?_; clear hK K
    refine ret1 E rfl rfl ?_
    have h5 : ¬ n < 256 ^ kn := fun h => hb (by rw [Nat.mod_eq_of_lt h])
    have S := S.only (Bs := [A, _, _, _]) (Rs := [_]) ((List.perm_append_comm (l₁ := [_]) (l₂ := [A, _, _, _])))
    exact ⟨_, rfl, 11, s.bs, A, rfl, hA, S.tr, by simp [Wr.num, Wr.lay, numE, he, show ¬ ((kn : Int) < 1 ∨ 8 < (kn : Int)) by omega, Nat.not_lt.1 h5]⟩
   ·replace hb := Nrm.nrm hb
    rw [numOf_form] at hb
    refine wp_skip ?_
    refine zAq ?_
    refine zAb hK ?_; clear hK K
    refine wp_seq_k ?_; intro K hK
    have h5 : n < 256 ^ kn := by have := Nat.mod_lt n (show 0 < 256 ^ kn from Nat.pow_pos oZ); omega
    refine zAw S (.ofL [(0, 0), (1, 0), (2, 0), (3, 1), (4, 3), (5, 2)]) yZ yZ ?_
    clear S; intro w S
    iterate 3 (refine zmd E ?_; clear E a; intro a E)
    refine zBo E rfl rfl rfl dZ rfl Tryz.func122 rfl yZ rfl (form_ret n kn w oZ) ?_
    rintro v21 w ⟨g2, rfl, hT⟩; clear E a; intro a E
    have S := S.fresh hT
    refine ⟨S.stab.sub (by first | (simp; done) | (simp +contextual; done) | (simp [*]; done)), ?_⟩
    refine zDd E rfl rfl rfl dZ rfl Tryz.func116 rfl yZ rfl (put_ret p s A _ _ (zBu n kn) w hA (rd_blk kn (zBh _ _) oZ _) (S.hp.sel sZ) hr) ?_
    rintro v22 w ⟨A', rfl, hA', hT⟩; clear E a; intro a E
    have S := S.call2 sZ hT
    refine zBp E rfl rfl rfl dZ (fun w => zCi E rfl rfl) ?_; clear E a; intro a E
    refine zBd ?_
    refine zAb hK ?_; clear hK K
    refine wp_ret ?_
    refine ret1 E rfl rfl ?_
    rw [s.putS_eq] at hA'
    have S := S.only (Bs := [A', [(b5, cel [.int .i64 kn] 3)], [(b4, cel [.int .u64 n] 27)], [(b3, cel [ptr p] 186)]]) sZ
    refine ⟨_, rfl, _, _, A', rfl, hA', S.tr, ?_⟩
    simp only [Wr.num, Wr.lay, numE, he, show ¬ ((kn : Int) < 1 ∨ 8 < (kn : Int)) by omega, Int.toNat_natCast, show ¬ n ≥ 256 ^ kn by omega, if_false, ne_eq, not_true_eq_false]
    rw [s.putS_eq]
theorem num_ret (p : Nat) (s : Wr) (A : zAj) (w0 : World) (hA : WrC 202 p s A) (n : Nat) (k : Int) (H : Hp w0 [A]) (hr : s.room ≤ 140737488355328) :
  Ret Tryz.prog 105 #[ptr p, .int .u64 n, .int .i64 k] w0 fun _ w' => ∃ A', WrC 202 p (s.num n k) A' ∧ Trs w0 w' [A] [A'] := by
 have S := St.begin H
 refine zDi 9 Tryz.func105 rfl rfl dZ ?_; intro a E
 refine wp_seq_k ?_; intro K hK
 refine zAa ?_
 refine zAf rfl (zBz E S rfl rfl dZ rfl rfl ?_); clear E S a; intro a w b3 E S
 refine zAf rfl (zBz E S rfl rfl dZ rfl rfl ?_); clear E S a; intro a w b4 E S
 refine zAf rfl (zBz E S rfl rfl dZ rfl rfl ?_); clear E S a; intro a w b5 E S
 refine wpList_nil ?_
 refine zAb hK ?_; clear hK K
 have S := S.perm (Bs := [A, [(b5, cel [.int .i64 k] 3)], [(b4, cel [.int .u64 n] 27)], [(b3, cel [ptr p] 186)]]) (zCj pZ (zCj pZ (zCj pZ (zCj pZ (zJr _)))))
 refine zAa ?_
 refine zd E ?_; clear E a; intro a E
 refine zp E (zEd E rfl rfl ⟨_, rfl⟩) ?_; clear E a; intro a E
 refine zAg E rfl rfl dZ rfl Tryz.func114 rfl yZ rfl (try_ret (s.num n k) 120 _ [ptr b5, ptr b4, ptr b3] Tryz.func120 rfl yZ p s A [[(b5, cel [.int .i64 k] 3)], [(b4, cel [.int .u64 n] 27)], [(b3, cel [ptr p] 186)]] w hA S.hp (fun h => by simp [Wr.num, Wr.lay, h]) (fun h => num_body p s A w hA h b5 b4 b3 n k S.hp hr)) ?_
 rintro v8 w ⟨A', hA', hT⟩; clear E a; intro a E
 have S := S.all hT
 refine wpList_nil ?_
 refine end0 E rfl ?_
 exact ⟨_, rfl, A', hA', (S.only (Bs := [A']) sZ).tr⟩
theorem bytes_body (p : Nat) (s : Wr) (A D : zAj) (w0 : World) (hA : WrC 202 p s A) (he : s.e = 0) (bw bb : Nat) (bv : Value) (b : List UInt8) (hD : Rd D 1 bv b.length (byt b))
  (H : Hp w0 [A, [(bb, cel [bv] 22)], [(bw, cel [ptr p] 186)], D]) (hr : s.room ≤ 140737488355328) :
  Ret Tryz.prog 115 #[ptr bw, ptr bb] w0 fun u w' => ∃ (e' : Nat) (bs' : List UInt8) (A' : zAj), u = .int .i64 e' ∧ WrC 202 p { s with bs := bs' } A' ∧
   Trs w0 w' [A, [(bb, cel [bv] 22)], [(bw, cel [ptr p] 186)], D] [A', [(bb, cel [bv] 22)], [(bw, cel [ptr p] 186)], D] ∧ s.bytes b = { s with bs := bs', e := e' } := by
 have S := St.begin H
 refine zBx 6 Tryz.func115 rfl rfl dZ ?_; intro a E
 refine wp_seq_k ?_; intro K hK
 refine zAa ?_
 refine zd E ?_; clear E a; intro a E
 refine wpList_nil ?_
 refine zAb hK ?_; clear hK K
 refine wp_seq_k ?_; intro K hK
 refine zAa ?_
 iterate 2 (refine zd E ?_; clear E a; intro a E)
 refine zAg E rfl rfl dZ rfl Tryz.func116 rfl yZ rfl (put_ret p s A D bv b w0 hA hD (S.hp.sel sZ) hr) ?_
 rintro v5 w ⟨A', rfl, hA', hT⟩; clear E a; intro a E
 have S := S.call2 sZ hT
 refine zd E ?_; clear E a; intro a E
 refine wpList_nil ?_
 refine zAb hK ?_; clear hK K
 refine wp_ret ?_
 refine ret1 E rfl rfl ?_
 rw [s.putS_eq] at hA'
 refine ⟨_, rfl, _, _, A', rfl, hA', (S.only (Bs := [A', [(bb, cel [bv] 22)], [(bw, cel [ptr p] 186)], D]) sZ).tr, ?_⟩
 simp only [Wr.bytes, Wr.lay, he, if_false, ne_eq, not_true_eq_false]
 rw [s.putS_eq]
theorem bytes_ret (p : Nat) (s : Wr) (A D : zAj) (w0 : World) (hA : WrC 202 p s A) (bv : Value) (b : List UInt8) (hD : Rd D 1 bv b.length (byt b)) (H : Hp w0 [A, D]) (hr : s.room ≤ 140737488355328) :
  Ret Tryz.prog 98 #[ptr p, bv] w0 fun _ w' => ∃ A', WrC 202 p (s.bytes b) A' ∧ Trs w0 w' [A, D] [A', D] := by
 have S := St.begin H
 obtain ⟨ad, c, rfl⟩ := hD.slice
 refine zBx 7 Tryz.func98 rfl rfl dZ ?_; intro a E
 refine wp_seq_k ?_; intro K hK
 refine zAa ?_
 refine zAf rfl (zBz E S rfl rfl dZ rfl rfl ?_); clear E S a; intro a w b2 E S
 refine zAf rfl (zBz E S rfl rfl dZ rfl rfl ?_); clear E S a; intro a w b3 E S
 refine wpList_nil ?_
 refine zAb hK ?_; clear hK K
 have S := S.perm (Bs := [A, [(b3, cel [.slice ad b.length c] 22)], [(b2, cel [ptr p] 186)], D]) (zCj pZ (zCj pZ (zCj pZ (zCj pZ (zJr _)))))
 refine zAa ?_
 refine zd E ?_; clear E a; intro a E
 refine zp E (zEd E rfl rfl ⟨_, rfl⟩) ?_; clear E a; intro a E
 refine zAg E rfl rfl dZ rfl Tryz.func114 rfl yZ rfl (try_ret (s.bytes b) 115 _ [ptr b2, ptr b3] Tryz.func115 rfl yZ p s A [[(b3, cel [.slice ad b.length c] 22)], [(b2, cel [ptr p] 186)], D] w hA S.hp (fun h => by simp [Wr.bytes, Wr.lay, h]) (fun h => bytes_body p s A D w hA h b2 b3 _ b hD S.hp hr)) ?_
 rintro v6 w ⟨A', hA', hT⟩; clear E a; intro a E
 have S := S.all hT
 refine wpList_nil ?_
 refine end0 E rfl ?_
 exact ⟨_, rfl, A', hA', (S.only (Bs := [A', D]) sZ).tr⟩
theorem byt_zeros (k : Nat) : byt (List.replicate k 0) = List.replicate k (.int .u8 0) := by simp [byt]
theorem pad_body (p : Nat) (s : Wr) (A : zAj) (w0 : World) (hA : WrC 202 p s A) (he : s.e = 0) (bw bb : Nat) (to : Int)
  (H : Hp w0 [A, [(bb, cel [.int .i64 to] 3)], [(bw, cel [ptr p] 186)]]) (hr : s.room ≤ 140737488355328) :
  Ret Tryz.prog 118 #[ptr bb, ptr bw] w0 fun u w' => ∃ (e' : Nat) (bs' : List UInt8) (A' : zAj), u = .int .i64 e' ∧ WrC 202 p { s with bs := bs' } A' ∧
   Trs w0 w' [A, [(bb, cel [.int .i64 to] 3)], [(bw, cel [ptr p] 186)]] [A', [(bb, cel [.int .i64 to] 3)], [(bw, cel [ptr p] 186)]] ∧ s.pad to = { s with bs := bs', e := e' } := by
 have hA0 := hA
 obtain ⟨v, C, hAe, hB⟩ := hA
 obtain ⟨ad, c, rfl⟩ := hB.slice
 have hm := hB.rd.2.2.1
 simp only [maxLen] at hm
 have S := St.begin H
 have S := (by rw [hAe] at S; exact S.split : St w0 _ w0 ([(p, cel [.int .i64 s.room, .slice ad s.bs.length c, .int .i64 s.e] 202)] :: C :: _))
 refine zBx 28 Tryz.func118 rfl rfl dZ ?_; intro a E
 refine wp_seq_k ?_; intro K hK
 refine zAa ?_
 refine zd E ?_; clear E a; intro a E
 refine wpList_nil ?_
 refine zAb hK ?_; clear hK K
 refine wp_seq_k ?_; intro K hK
 refine wp_block ?_
 refine wp_seq_k ?_; intro K hK
 refine zAw S (.ofL [(0, 0), (1, 0), (2, 0), (3, 0), (4, 0), (5, 0), (6, 0), (7, 0)]) yZ yZ ?_
 clear S; intro w S
 iterate 3 (refine zmd E ?_; clear E a; intro a E)
 refine zm E rfl (fun w h => by first | exact zAc (q := 1) E rfl rfl rfl | exact zAd (q := 1) E rfl rfl rfl) ?_; clear E a; intro a E
 iterate 4 (refine zmd E ?_; clear E a; intro a E)
 refine zBd ?_
 refine zAb hK ?_; clear hK K
 refine zAs E rfl (fun hb => ?_) (fun hb => ?_)
 ·replace hb := Nrm.nrm hb
  have S := S.join; rw [← hAe] at S
  refine wp_seq_k ?_; intro K hK
  refine zAa ?_
  refine zd E ?_; clear E a; intro a E
  refine wpList_nil ?_
  refine zAb hK ?_; clear hK K
  refine wp_ret ?_
  refine zDr ?_
  refine zBc ?_; clear hK K
  refine ret1 E rfl rfl ?_
  exact ⟨_, rfl, 11, s.bs, A, rfl, hA0, by simpa using S.tr, by simp [Wr.pad, Wr.lay, padE, he, show to < s.bs.length by omega]⟩
 ·replace hb := Nrm.nrm hb
  refine wp_seq_k ?_; intro K hK
  refine zAw S (.ofL [(0, 0), (1, 0), (2, 0), (3, 0), (4, 0), (5, 0), (6, 0)]) yZ yZ ?_
  clear S; intro w S
  iterate 3 (refine zmd E ?_; clear E a; intro a E)
  refine zm E rfl (fun w h => by first | exact zAc (q := 0) E rfl rfl rfl | exact zAd (q := 0) E rfl rfl rfl) ?_; clear E a; intro a E
  iterate 3 (refine zmd E ?_; clear E a; intro a E)
  refine zBd ?_
  refine zAb hK ?_; clear hK K
  refine zAs E rfl (fun hb => ?_) (fun hb => ?_)
  ·replace hb := Nrm.nrm hb
   have S := S.join; rw [← hAe] at S
   refine wp_seq_k ?_; intro K hK
   refine zAa ?_
   refine zd E ?_; clear E a; intro a E
   refine wpList_nil ?_
   refine zAb hK ?_; clear hK K
   refine wp_ret ?_
   refine zDr ?_
   refine zBc ?_; clear hK K
   refine ret1 E rfl rfl ?_
   exact ⟨_, rfl, 12, s.bs, A, rfl, hA0, by simpa using S.tr, by simp [Wr.pad, Wr.lay, padE, he, show ¬ to < s.bs.length by omega, show (s.room : Int) < to by omega]⟩
  ·replace hb := Nrm.nrm hb
   refine wp_skip ?_
   refine zAq ?_
   refine zAb hK ?_; clear hK K
   refine wp_seq_k ?_; intro K hK
   obtain ⟨tn, rfl⟩ : ∃ tn : Nat, to = tn := ⟨to.toNat, by omega⟩
   refine zAw S (.ofL [(0, 0), (1, 0), (2, 0), (3, 0), (4, 0), (5, 0), (6, 0), (7, 0), (8, 1), (9, 3), (10, 2)]) yZ yZ ?_
   clear S; intro w S
   iterate 4 (refine zmd E ?_; clear E a; intro a E)
   refine zm E rfl (fun w h => by first | exact zAc (q := 1) E rfl rfl rfl | exact zAd (q := 1) E rfl rfl rfl) ?_; clear E a; intro a E
   iterate 2 (refine zmd E ?_; clear E a; intro a E)
   refine zm E rfl (fun w h => zCo E rfl rfl rfl (by first | exact ws1 oZ oZ | exact w_in oZ | exact zBj oZ | exact rfl)) ?_; clear E a; intro a E
   refine zDb rfl rfl (zCn (by' := 1) E S rfl rfl dZ rfl rfl rfl rfl rfl rfl rfl rfl rfl rfl rfl (by first | exact mkb oZ | exact mkb8 oZ | exact mkbn rfl oZ) (by simp only [maxLen]; omega) ?_); clear E S a; intro a w g26 E S; refine ⟨S.stab.sub (by first | (simp; done) | (simp +contextual; done) | (simp [*]; done)), ?_⟩
   have S := S.gather (A := [(p, _)]) (B := C) pZ pZ
   rw [← hAe, ← byt_zeros] at S
   refine zDd E rfl rfl rfl dZ rfl Tryz.func116 rfl yZ rfl (put_ret p s A _ _ (List.replicate (tn - s.bs.length) 0) w hA0 (rd_blk (tn - s.bs.length) (by simp) oZ _) (S.hp.sel sZ) hr) ?_
   rintro v27 w ⟨A', rfl, hA', hT⟩; clear E a; intro a E
   have S := S.call2 sZ hT
   refine zBp E rfl rfl rfl dZ (fun w => zCi E rfl rfl) ?_; clear E a; intro a E
   refine zBd ?_
   refine zAb hK ?_; clear hK K
   refine wp_ret ?_
   refine ret1 E rfl rfl ?_
   rw [s.putS_eq] at hA'
   refine ⟨_, rfl, _, _, A', rfl, hA', (S.only (Bs := [A', [(bb, cel [.int .i64 tn] 3)], [(bw, cel [ptr p] 186)]]) sZ).tr, ?_⟩
   simp only [Wr.pad, Wr.lay, padE, he, show ¬ (tn : Int) < s.bs.length by omega, show ¬ (tn : Int) > s.room by omega, Int.toNat_natCast, if_false, ne_eq, not_true_eq_false]
   rw [s.putS_eq]
theorem pad_ret (p : Nat) (s : Wr) (A : zAj) (w0 : World) (hA : WrC 202 p s A) (to : Int) (H : Hp w0 [A]) (hr : s.room ≤ 140737488355328) :
  Ret Tryz.prog 101 #[ptr p, .int .i64 to] w0 fun _ w' => ∃ A', WrC 202 p (s.pad to) A' ∧ Trs w0 w' [A] [A'] := by
 have S := St.begin H
 refine zBx 7 Tryz.func101 rfl rfl dZ ?_; intro a E
 refine wp_seq_k ?_; intro K hK
 refine zAa ?_
 refine zAf rfl (zBz E S rfl rfl dZ rfl rfl ?_); clear E S a; intro a w b2 E S
 refine zAf rfl (zBz E S rfl rfl dZ rfl rfl ?_); clear E S a; intro a w b3 E S
 refine wpList_nil ?_
 refine zAb hK ?_; clear hK K
 have S := S.perm (Bs := [A, [(b3, cel [.int .i64 to] 3)], [(b2, cel [ptr p] 186)]]) (zCj pZ (zCj pZ (zCj pZ (zJr _))))
 refine zAa ?_
 refine zd E ?_; clear E a; intro a E
 refine zp E (zEd E rfl rfl ⟨_, rfl⟩) ?_; clear E a; intro a E
 refine zAg E rfl rfl dZ rfl Tryz.func114 rfl yZ rfl (try_ret (s.pad to) 118 _ [ptr b3, ptr b2] Tryz.func118 rfl yZ p s A [[(b3, cel [.int .i64 to] 3)], [(b2, cel [ptr p] 186)]] w hA S.hp (fun h => by simp [Wr.pad, Wr.lay, h]) (fun h => pad_body p s A w hA h b2 b3 to S.hp hr)) ?_
 rintro v6 w ⟨A', hA', hT⟩; clear E a; intro a E
 have S := S.all hT
 refine wpList_nil ?_
 refine end0 E rfl ?_
 exact ⟨_, rfl, A', hA', (S.only (Bs := [A']) sZ).tr⟩
theorem writer_ret (most : Int) (w0 : World) :
  Ret Tryz.prog 97 #[.int .i64 most] w0 fun u w' => ∃ p A, u = ptr p ∧ WrC 202 p ⟨most.toNat, [], 0⟩ A ∧ Trs w0 w' [] [A] := by
 have S := St.begin (w := w0) (As := []) ⟨by simp, by simp⟩
 refine zCh 7 Tryz.func97 rfl rfl dZ ?_; intro a E
 refine wp_seq_k ?_; intro K hK
 refine zAa ?_
 refine zd E ?_; clear E a; intro a E
 refine wpList_nil ?_
 refine zAb hK ?_; clear hK K
 refine wp_seq_k ?_; intro K hK
 refine zAa ?_
 refine zd E ?_; clear E a; intro a E
 refine zp E (rn_max E rfl rfl rfl) ?_; clear E a; intro a E
 refine zp E (zBt (cells := [_, _, _]) E rfl rfl rfl) ?_; clear E a; intro a E
 refine zAf rfl (zBz E S rfl rfl dZ rfl rfl ?_); clear E S a; intro a w b6 E S
 refine zd E ?_; clear E a; intro a E
 refine wpList_nil ?_
 refine zAb hK ?_; clear hK K
 refine wp_ret ?_
 refine ret1 E rfl rfl ?_
 exact ⟨_, rfl, b6, _, rfl, ⟨.slice none 0 0, [], by simp only [List.append_nil, Int.toNat_eq_max, Int.max_comm]; rfl, Buf.nil _ _⟩, S.tr⟩
theorem done_ret (p : Nat) (s : Wr) (A : zAj) (w0 : World) (hA : WrC 202 p s A) (H : Hp w0 [A]) (hr : s.bs.length ≤ 140737488355328) :
  Ret Tryz.prog 100 #[ptr p] w0 fun u w' => (s.e ≠ 0 ∧ u = .tuple #[.slice none 0 0, .int .i64 s.e] ∧ Trs w0 w' [A] [A]) ∨
   (s.e = 0 ∧ ∃ g, u = .tuple #[.slice (some ⟨g, 0, none⟩) s.bs.length s.bs.length, .int .i64 0] ∧ Trs w0 w' [A] [[(g, cel (byt s.bs) 5)], A]) := by
 obtain ⟨v, C, hAe, hB⟩ := hA
 obtain ⟨ad, c, rfl⟩ := hB.slice
 have S := St.begin H
 have S := (by rw [hAe] at S; exact S.split : St w0 _ w0 ([(p, cel [.int .i64 s.room, .slice ad s.bs.length c, .int .i64 s.e] 202)] :: C :: _))
 refine zCh 18 Tryz.func100 rfl rfl dZ ?_; intro a E
 refine wp_seq_k ?_; intro K hK
 refine zAa ?_
 iterate 2 (refine zd E ?_; clear E a; intro a E)
 refine wpList_nil ?_
 refine zAb hK ?_; clear hK K
 iterate 2 (refine wp_seq_k ?_; intro K hK)
 refine zAa ?_
 iterate 2 (refine zd E ?_; clear E a; intro a E)
 refine zp E (by first | exact zAc (q := 2) E rfl rfl rfl | exact zAd (q := 2) E rfl rfl rfl) ?_; clear E a; intro a E
 iterate 2 (refine zd E ?_; clear E a; intro a E)
 refine wpList_nil ?_
 refine zAb hK ?_; clear hK K
 refine zAs E rfl (fun hb => ?_) (fun hb => ?_)
 ·replace hb := Nrm.nrm hb
  refine wp_seq_k ?_; intro K hK
  refine zAw S (.ofL [(0, 0), (1, 0), (2, 0), (3, 0), (4, 0), (5, 0)]) yZ yZ ?_
  clear S; intro w S
  iterate 2 (refine zmd E ?_; clear E a; intro a E)
  refine zm E rfl (fun w h => by first | exact zAc (q := 2) E rfl rfl rfl | exact zAd (q := 2) E rfl rfl rfl) ?_; clear E a; intro a E
  iterate 3 (refine zmd E ?_; clear E a; intro a E)
  refine zBd ?_
  refine zAb hK ?_; clear hK K
  refine wp_ret ?_
  refine zBc ?_; clear hK K
  refine ret2 E rfl rfl rfl ?_
  have S := S.join
  rw [← hAe] at S
  exact ⟨_, rfl, .inl ⟨by omega, rfl, S.tr⟩⟩
 ·replace hb := Nrm.nrm hb
  refine wp_skip ?_
  refine zAb hK ?_; clear hK K
  refine wp_seq_k ?_; intro K hK
  refine zAa ?_
  iterate 2 (refine zd E ?_; clear E a; intro a E)
  refine zp E (by first | exact zAc (q := 1) E rfl rfl rfl | exact zAd (q := 1) E rfl rfl rfl) ?_; clear E a; intro a E
  refine zd E ?_; clear E a; intro a E
  refine zAg E rfl rfl dZ rfl Tryz.func117 rfl yZ rfl (copied_ret C _ s.bs _ hB.rd (S.hp.sel sZ) oZ) ?_
  rintro v17 w ⟨g, rfl, hT⟩; clear E a; intro a E
  have S := S.call2 sZ hT
  iterate 2 (refine zd E ?_; clear E a; intro a E)
  refine wpList_nil ?_
  refine zAb hK ?_; clear hK K
  refine wp_ret ?_
  refine ret2 E rfl rfl rfl ?_
  have S := S.gather (A := [(p, _)]) (B := C) pZ pZ
  rw [← hAe] at S
  exact ⟨_, rfl, .inr ⟨by omega, g, rfl, (S.only (Bs := [_, A]) (zCj pk2 (zCj pk1 sZ))).tr⟩⟩
end Go.Proofs.YtpjidiaekifmbaaGreatDoor
namespace Go.Sl
theorem num_fits {s : Wr} {n : Nat} {k : Nat} (he : s.e = 0) (h1 : 1 ≤ k) (h8 : k ≤ 8) (hn : n < 256 ^ k) (hr : s.bs.length + k ≤ s.room) : s.num n k = { s with bs := s.bs ++ zBu n k } := by
 have hb : ¬ ((k : Int) < 1 ∨ 8 < (k : Int)) := by omega
 have hg : ¬ n ≥ 256 ^ k := by omega
 have hf : s.fits (zBu n k) = true := by simp only [Wr.fits, zBh, decide_eq_true_eq]; omega
 simp [Wr.num, Wr.lay, numE, he, hb, Wr.putE, Wr.putS, hf, Nat.not_le.2 hn]
theorem zFv (g : Nat) (b : List UInt8) (T : TypeId) (h : b.length ≤ 4611686018427387904) : Buf [(g, cel (byt b) T)] T 1 (.slice (some ⟨g, 0, none⟩) b.length b.length) b.length (byt b) := by
 have := zHf (T := T) (g := g) (c := b.length) (s := 1) (m := b.length) (xs := byt b) (r := []) (by simp [zAv]) (zCq b) (Nat.le_refl _) (by simp only [maxLen]; omega) (by simp [zAv])
 rwa [List.append_nil] at this
theorem bytes_fits {s : Wr} {b : List UInt8} (he : s.e = 0) (hr : s.bs.length + b.length ≤ s.room) : s.bytes b = { s with bs := s.bs ++ b } := by
 have hf : s.fits b = true := by simp only [Wr.fits, decide_eq_true_eq]; omega
 simp [Wr.bytes, Wr.lay, he, Wr.putE, Wr.putS, hf]
theorem pad_fits {s : Wr} {to : Nat} (he : s.e = 0) (h1 : s.bs.length ≤ to) (h2 : to ≤ s.room) : s.pad to = { s with bs := s.bs ++ List.replicate (to - s.bs.length) 0 } := by
 have hf : s.fits (List.replicate (to - s.bs.length) 0) = true := by simp only [Wr.fits, List.length_replicate, decide_eq_true_eq]; omega
 have c1 : ¬ ((to : Int) < s.bs.length) := by omega
 have c2 : ¬ (s.room : Int) < to := by omega
 simp [Wr.pad, Wr.lay, padE, he, Wr.putE, Wr.putS, hf, show ¬ to < s.bs.length by omega, show ¬ s.room < to by omega]
end Go.Sl
namespace Go.Proofs.YtpjidiaekifmbaaGreatDoor
open Go.Sl
set_option maxRecDepth 10000
theorem zGq (p room : Nat) (bs : List UInt8) (A : zAj) (w0 : World) (hA : WrC 202 p ⟨room, bs, 0⟩ A) (n k : Nat) (H : Hp w0 [A]) (hr : room ≤ 140737488355328) (h1 : 1 ≤ k) (h8 : k ≤ 8) (hn : n < 256 ^ k) (hl : bs.length + k ≤ room) :
  Ret Tryz.prog 105 #[ptr p, .int .u64 n, .int .i64 (k : Int)] w0 fun _ w' => ∃ A', WrC 202 p ⟨room, bs ++ zBu n k, 0⟩ A' ∧ Trs w0 w' [A] [A'] := by
 refine (num_ret p _ A w0 hA n k H hr).mono fun v w' ⟨A', h, hT⟩ => ⟨A', ?_, hT⟩
 rw [num_fits rfl h1 h8 hn hl] at h
 exact h
theorem bytes_fit (p room : Nat) (bs : List UInt8) (A D : zAj) (w0 : World) (hA : WrC 202 p ⟨room, bs, 0⟩ A) (bv : Value) (b : List UInt8) (hD : Rd D 1 bv b.length (byt b)) (H : Hp w0 [A, D]) (hr : room ≤ 140737488355328) (hl : bs.length + b.length ≤ room) :
  Ret Tryz.prog 98 #[ptr p, bv] w0 fun _ w' => ∃ A', WrC 202 p ⟨room, bs ++ b, 0⟩ A' ∧ Trs w0 w' [A, D] [A', D] := by
 refine (bytes_ret p _ A D w0 hA bv b hD H hr).mono fun v w' ⟨A', h, hT⟩ => ⟨A', ?_, hT⟩
 rw [bytes_fits rfl hl] at h
 exact h
theorem pad_fit (p room : Nat) (bs : List UInt8) (A : zAj) (w0 : World) (hA : WrC 202 p ⟨room, bs, 0⟩ A) (to : Nat) (H : Hp w0 [A]) (hr : room ≤ 140737488355328) (h1 : bs.length ≤ to) (h2 : to ≤ room) :
  Ret Tryz.prog 101 #[ptr p, .int .i64 to] w0 fun _ w' => ∃ A', WrC 202 p ⟨room, bs ++ List.replicate (to - bs.length) 0, 0⟩ A' ∧ Trs w0 w' [A] [A'] := by
 refine (pad_ret p _ A w0 hA to H hr).mono fun v w' ⟨A', h, hT⟩ => ⟨A', ?_, hT⟩
 rw [pad_fits rfl h1 h2] at h
 exact h
theorem done_fit (p room : Nat) (bs : List UInt8) (A : zAj) (w0 : World) (hA : WrC 202 p ⟨room, bs, 0⟩ A) (H : Hp w0 [A]) (hr : bs.length ≤ 140737488355328) :
  Ret Tryz.prog 100 #[ptr p] w0 fun u w' => ∃ g, u = .tuple #[.slice (some ⟨g, 0, none⟩) bs.length bs.length, .int .i64 0] ∧ Trs w0 w' [A] [[(g, cel (byt bs) 5)], A] := by
 refine (done_ret p _ A w0 hA H hr).mono fun v w' h => ?_
 rcases h with ⟨h, _⟩ | ⟨_, g, h, hT⟩
 ·exact absurd rfl h
 ·exact ⟨g, h, hT⟩
end Go.Proofs.YtpjidiaekifmbaaGreatDoor
namespace Go.Sl
structure Pt where
 top : Int
 at_ : Int
 bytes : Int
 birth : Nat
 kind : Int
 a : Nat
 b : Nat
 c : Nat
 d : Nat
deriving DecidableEq
def Pt.lay (p : Pt) : List Value := [.int .i64 p.top, .int .i64 p.at_, .int .i64 p.bytes, .int .u64 p.birth, .int .i64 p.kind, .int .u64 p.a, .int .u64 p.b, .int .u64 p.c, .int .u64 p.d]
abbrev Pt.agg (p : Pt) : Value := .agg #[.int .i64 p.top, .int .i64 p.at_, .int .i64 p.bytes, .int .u64 p.birth, .int .i64 p.kind, .int .u64 p.a, .int .u64 p.b, .int .u64 p.c, .int .u64 p.d]
theorem Pt.lay_len (p : Pt) : p.lay.length = 9 := rfl
theorem Pt.lay_one (p : Pt) : ∀ u ∈ p.lay, u.oneCell' = true := fun u hu => by
 simp only [Pt.lay, List.mem_cons, List.not_mem_nil, or_false] at hu
 rcases hu with rfl | rfl | rfl | rfl | rfl | rfl | rfl | rfl | rfl <;> rfl
structure Pt.Ok (p : Pt) : Prop where
 top : -9223372036854775808 ≤ p.top ∧ p.top ≤ 9223372036854775807
 at_ : -9223372036854775808 ≤ p.at_ ∧ p.at_ ≤ 9223372036854775807
 bytes : -9223372036854775808 ≤ p.bytes ∧ p.bytes ≤ 9223372036854775807
 birth : p.birth < 18446744073709551616
 kind : -9223372036854775808 ≤ p.kind ∧ p.kind ≤ 9223372036854775807
 a : p.a < 18446744073709551616
 b : p.b < 18446744073709551616
 c : p.c < 18446744073709551616
 d : p.d < 18446744073709551616
def Pt.eqB (p q : Pt) : Bool := p.top == q.top && (p.at_ == q.at_ && (p.bytes == q.bytes && (((p.birth : Int) == (q.birth : Int)) && (p.kind == q.kind && (((p.a : Int) == (q.a : Int)) && (((p.b : Int) == (q.b : Int)) && (((p.c : Int) == (q.c : Int)) && ((p.d : Int) == (q.d : Int)))))))))
def Pt.good (p : Pt) : Prop := 0 ≤ p.top ∧ p.top < 4 ∧ 0 ≤ p.at_ ∧ p.at_ ≤ 40959 ∧ 1 ≤ p.bytes ∧ p.bytes ≤ 1024 ∧ 1 ≤ p.birth ∧ p.birth ≤ 281474976710656 ∧ (p.kind = 1 ∨ p.kind = 2)
instance (p : Pt) : Decidable p.good := by unfold Pt.good; infer_instance
abbrev nm (b : List UInt8) (q k : Nat) : Nat := zDj ((b.drop q).take k)
theorem p1 : (256 : Nat) ^ 1 = 256 := by decide
theorem p2 : (256 : Nat) ^ 2 = 65536 := by decide
theorem p4 : (256 : Nat) ^ 4 = 4294967296 := by decide
theorem p8 : (256 : Nat) ^ 8 = 18446744073709551616 := by decide
end Go.Sl
namespace Go.Sl
structure Fs where
 a : Nat
 b : Nat
 c : Nat
 d : Nat
deriving DecidableEq
def Fs.lay (s : Fs) : List Value := [.int .u64 s.a, .int .u64 s.b, .int .u64 s.c, .int .u64 s.d]
abbrev Fs.agg (s : Fs) : Value := .agg #[.int .u64 s.a, .int .u64 s.b, .int .u64 s.c, .int .u64 s.d]
def fsZero : Fs := ⟨0, 0, 0, 0⟩
def m64 : Nat := 18446744073709551616
def fstep (s : Fs) (w : Nat) : Fs :=
 let a := (s.a + w) % m64
 let b := (s.b + a) % m64
 let c := (s.c + b) % m64
 ⟨a, b, c, (s.d + c) % m64⟩
structure Fs.Ok (s : Fs) : Prop where
 a : s.a < 18446744073709551616
 b : s.b < 18446744073709551616
 c : s.c < 18446744073709551616
 d : s.d < 18446744073709551616
theorem fstep_ok (s : Fs) (w : Nat) : (fstep s w).Ok := ⟨Nat.mod_lt _ dZ, Nat.mod_lt _ dZ, Nat.mod_lt _ dZ, Nat.mod_lt _ dZ⟩
def fsN (b : List UInt8) : Nat → Fs
 | 0 => fsZero
 | i + 1 => fstep (fsN b i) (nm b (4 * i) 4)
def zEt (b : List UInt8) : Fs := fsN b ((b.length + 3) / 4)
theorem fsN_ok (b : List UInt8) : ∀ i, (fsN b i).Ok
 | 0 => by constructor <;> (show 0 < _; decide)
 | i + 1 => fstep_ok _ _
theorem zEr (b : List UInt8) : (zEt b).Ok := fsN_ok b _
end Go.Sl
namespace Go.Sl
abbrev gb (b : List UInt8) (j : Nat) : UInt8 := b.getD j 0
theorem nm_four (b : List UInt8) (q : Nat) : nm b q 4 = (gb b q).toNat + (gb b (q + 1)).toNat * 2 ^ 8 + (gb b (q + 2)).toNat * 2 ^ 16 + (gb b (q + 3)).toNat * 2 ^ 24 := by
 have key : ∀ c : List UInt8, zDj (c.take 4) = (c.getD 0 0).toNat + (c.getD 1 0).toNat * 2 ^ 8 + (c.getD 2 0).toNat * 2 ^ 16 + (c.getD 3 0).toNat * 2 ^ 24 := by
  intro c
  match c with
  | [] => rfl
  | [x] => simp [zDj]
  | [x, y] => simp [zDj]; omega
  | [x, y, z] => simp [zDj]; omega
  | x :: y :: z :: t :: r => simp [zDj]; omega
 have g : ∀ j, (b.drop q).getD j 0 = gb b (q + j) := fun j => by simp [gb, List.getD, List.getElem?_drop]
 unfold nm
 rw [key, g, g, g, g, Nat.add_zero]
theorem zLe (b : List UInt8) {j : Nat} (h : j < b.length) : gb b j = b[j] := by simp [gb, List.getD, h]
theorem gb_out (b : List UInt8) {j : Nat} (h : b.length ≤ j) : gb b j = 0 := by simp [gb, List.getD, List.getElem?_eq_none h]
theorem wa_m (x y : Nat) : IntKind.u64.wrap ((x : Int) + (y : Int)) = (((x + y) % m64 : Nat) : Int) := by
 rw [IntKind.wrap_u64]; unfold m64; omega
structure Run (b : List UInt8) (i : Nat) (s : Fs) (x0 x1 x2 x3 : UInt8) (k : Nat) : Prop where
 le : i ≤ b.length
 hk : k = i % 4
 hs : s = fsN b (i / 4)
 h0 : x0 = if 0 < k then gb b (4 * (i / 4)) else 0
 h1 : x1 = if 1 < k then gb b (4 * (i / 4) + 1) else 0
 h2 : x2 = if 2 < k then gb b (4 * (i / 4) + 2) else 0
 h3 : x3 = 0
theorem Run.start (b : List UInt8) : Run b 0 fsZero 0 0 0 0 0 := ⟨by omega, rfl, rfl, rfl, rfl, rfl, rfl⟩
theorem Run.ok {b : List UInt8} {i : Nat} {s : Fs} {x0 x1 x2 x3 : UInt8} {k : Nat} (h : Run b i s x0 x1 x2 x3 k) : s.Ok := by rw [h.hs]; exact fsN_ok _ _
def word4 (x0 x1 x2 x3 : UInt8) : Nat := x0.toNat + x1.toNat * 2 ^ 8 + x2.toNat * 2 ^ 16 + x3.toNat * 2 ^ 24
theorem Run.s0 {b : List UInt8} {i : Nat} {s : Fs} {x0 x1 x2 x3 : UInt8} (h : Run b i s x0 x1 x2 x3 0) (hi : i < b.length) : Run b (i + 1) s b[i] x1 x2 x3 1 := by
 obtain ⟨h1, h2, h3, h4, h5, h6, h7⟩ := h
 have e : (i + 1) / 4 = i / 4 := by omega
 exact ⟨by omega, by omega, by rw [e, h3], by rw [if_pos oZ, e, show 4 * (i / 4) = i by omega, zLe b hi], by rw [h5]; simp, by rw [h6]; simp, h7⟩
theorem Run.s1 {b : List UInt8} {i : Nat} {s : Fs} {x0 x1 x2 x3 : UInt8} (h : Run b i s x0 x1 x2 x3 1) (hi : i < b.length) : Run b (i + 1) s x0 b[i] x2 x3 2 := by
 obtain ⟨h1, h2, h3, h4, h5, h6, h7⟩ := h
 have e : (i + 1) / 4 = i / 4 := by omega
 exact ⟨by omega, by omega, by rw [e, h3], by rw [h4, e]; simp, by rw [if_pos oZ, e, show 4 * (i / 4) + 1 = i by omega, zLe b hi], by rw [h6]; simp, h7⟩
theorem Run.s2 {b : List UInt8} {i : Nat} {s : Fs} {x0 x1 x2 x3 : UInt8} (h : Run b i s x0 x1 x2 x3 2) (hi : i < b.length) : Run b (i + 1) s x0 x1 b[i] x3 3 := by
 obtain ⟨h1, h2, h3, h4, h5, h6, h7⟩ := h
 have e : (i + 1) / 4 = i / 4 := by omega
 exact ⟨by omega, by omega, by rw [e, h3], by rw [h4, e]; simp, by rw [h5, e]; simp, by rw [if_pos oZ, e, show 4 * (i / 4) + 2 = i by omega, zLe b hi], h7⟩
theorem Run.s3 {b : List UInt8} {i : Nat} {s : Fs} {x0 x1 x2 x3 : UInt8} (h : Run b i s x0 x1 x2 x3 3) (hi : i < b.length) : Run b (i + 1) (fstep s (word4 x0 x1 x2 b[i])) 0 0 0 0 0 := by
 obtain ⟨h1, h2, h3, h4, h5, h6, h7⟩ := h
 have e : (i + 1) / 4 = i / 4 + 1 := by omega
 refine ⟨by omega, by omega, ?_, rfl, rfl, rfl, rfl⟩
 rw [e, fsN, h3, nm_four, word4, h4, h5, h6, if_pos oZ, if_pos oZ, if_pos oZ, ← zLe b hi, show 4 * (i / 4) + 3 = i by omega]
theorem Run.done0 {b : List UInt8} {s : Fs} {x0 x1 x2 x3 : UInt8} (h : Run b b.length s x0 x1 x2 x3 0) : s = zEt b := by
 rw [h.hs, zEt]; have := h.hk; rw [show (b.length + 3) / 4 = b.length / 4 by omega]
theorem Run.done {b : List UInt8} {s : Fs} {x0 x1 x2 x3 : UInt8} {k : Nat} (h : Run b b.length s x0 x1 x2 x3 k) (hk : k ≠ 0) : fstep s (word4 x0 x1 x2 x3) = zEt b := by
 obtain ⟨h1, h2, h3, h4, h5, h6, h7⟩ := h
 have e : (b.length + 3) / 4 = b.length / 4 + 1 := by omega
 have o : ∀ j, (if j < k then gb b (4 * (b.length / 4) + j) else 0) = gb b (4 * (b.length / 4) + j) := fun j => by
  split
  ·rfl
  ·rw [gb_out b oZ]
 have o0 := o 0; have o1 := o 1; have o2 := o 2; have o3 := o 3
 rw [Nat.add_zero] at o0
 rw [zEt, e, fsN, h3, nm_four, word4, h4, h5, h6, h7, o0, o1, o2, ← o3, if_neg oZ]
theorem num_down (b : List UInt8) (q : Nat) {j : Nat} (hj : j < 4) : zDj ((b.drop (q + j)).take (4 - j)) = (gb b (q + j)).toNat + 256 * zDj ((b.drop (q + (j + 1))).take (4 - (j + 1))) := by
 by_cases h : q + j < b.length
 ·rw [zLe b h, List.drop_eq_getElem_cons h, show 4 - j = (4 - (j + 1)) + 1 by omega, List.take_succ_cons, zDj]; rfl
 ·rw [gb_out b oZ, List.drop_eq_nil_of_le oZ, List.drop_eq_nil_of_le oZ, List.take_nil, List.take_nil]; rfl
def Fs.eqB (p q : Fs) : Bool := ((p.a : Int) == (q.a : Int)) && (((p.b : Int) == (q.b : Int)) && (((p.c : Int) == (q.c : Int)) && ((p.d : Int) == (q.d : Int))))
theorem Fs.eqB_eq (p q : Fs) : p.eqB q = decide (p = q) := by
 cases p; cases q
 rw [Bool.eq_iff_iff]
 simp only [Fs.eqB, Bool.and_eq_true, beq_iff_eq, decide_eq_true_eq, Fs.mk.injEq]
 omega
theorem word_or1 (x0 x1 : UInt8) : bits .or .u64 (x0.toNat : Int) ((x1.toNat * 2 ^ 8 : Nat) : Int) = ((x0.toNat + x1.toNat * 2 ^ 8 : Nat) : Int) := oru (by have := x0.toNat_lt; omega) (by have := x0.toNat_lt; have := x1.toNat_lt; omega)
theorem word_or2 (x0 x1 x2 : UInt8) : bits .or .u64 ((x0.toNat + x1.toNat * 2 ^ 8 : Nat) : Int) ((x2.toNat * 2 ^ 16 : Nat) : Int) = ((x0.toNat + x1.toNat * 2 ^ 8 + x2.toNat * 2 ^ 16 : Nat) : Int) := oru (by have := x0.toNat_lt; have := x1.toNat_lt; omega) (by have := x0.toNat_lt; have := x1.toNat_lt; have := x2.toNat_lt; omega)
theorem word_or3 (x0 x1 x2 x3 : UInt8) : bits .or .u64 ((x0.toNat + x1.toNat * 2 ^ 8 + x2.toNat * 2 ^ 16 : Nat) : Int) ((x3.toNat * 2 ^ 24 : Nat) : Int) = ((word4 x0 x1 x2 x3 : Nat) : Int) := oru (by have := x0.toNat_lt; have := x1.toNat_lt; have := x2.toNat_lt; omega) (by have := x0.toNat_lt; have := x1.toNat_lt; have := x2.toNat_lt; have := x3.toNat_lt; omega)
theorem word_sh {x : UInt8} (j : Nat) (h : j ≤ 24) : IntKind.u64.wrap ((x.toNat : Int) * 2 ^ ((j : Nat) : Int).toNat) = ((x.toNat * 2 ^ j : Nat) : Int) := shlu (by
 have := x.toNat_lt
 have : 2 ^ j ≤ 2 ^ 24 := Nat.pow_le_pow_right oZ h
 calc x.toNat * 2 ^ j ≤ 256 * 2 ^ 24 := Nat.mul_le_mul oZ this
  _ < _ := by decide)
end Go.Sl
namespace Go.Sl
theorem len4 (a b c d : Nat) : [a, b, c, d].length = 4 := rfl
def four (L : List Nat) : List UInt8 := L.flatMap fun n => zBu n 8
theorem zLf (L : List Nat) {i : Nat} (hi : i < L.length) : four (L.take (i + 1)) = four (L.take i) ++ zBu L[i] 8 := by
 rw [← List.take_append_getElem hi, four, List.flatMap_append]; simp only [List.flatMap_cons, List.flatMap_nil, List.append_nil]; rfl
theorem four_length (L : List Nat) : (four L).length = 8 * L.length := by
 induction L with
 | nil => rfl
 | cons a r ih => simp only [four, List.flatMap_cons, List.length_append, zBh, List.length_cons] at *; omega
end Go.Sl
namespace Go.Proofs.YtpjidiaekifmbaaGreatDoor
open Go.Sl
set_option maxRecDepth 10000
theorem laysum_ret (p room : Nat) (bs : List UInt8) (A : zAj) (s1 s2 s3 s4 : Nat) (hn : s1 < 18446744073709551616 ∧ s2 < 18446744073709551616 ∧ s3 < 18446744073709551616 ∧ s4 < 18446744073709551616) (w0 : World) (hA : WrC 202 p ⟨room, bs, 0⟩ A) (H : Hp w0 [A]) (hr : room ≤ 140737488355328) (hl : bs.length + 32 ≤ room) :
  Ret Tryz.prog 99 #[ptr p, .agg #[.int .u64 s1, .int .u64 s2, .int .u64 s3, .int .u64 s4]] w0 fun _ w' => ∃ A', WrC 202 p ⟨room, bs ++ four [s1, s2, s3, s4], 0⟩ A' ∧ Trs w0 w' [A] [A'] := by
 have S := St.begin H
 have e8 := p8
 have hlt : ∀ n ∈ [s1, s2, s3, s4], n < 18446744073709551616 := by
  intro n hm
  simp only [List.mem_cons, List.not_mem_nil, or_false] at hm
  rcases hm with rfl | rfl | rfl | rfl <;> omega
 refine zBx 22 Tryz.func99 rfl rfl dZ ?_; intro a E
 refine wp_seq_k ?_; intro K hK
 refine zAa ?_
 refine zAf rfl (zBz E S rfl rfl dZ rfl rfl ?_); clear E S a; intro a w b3 E S
 refine wpList_nil ?_
 refine zAb hK ?_; clear hK K
 refine wp_seq_k ?_; intro K hK
 refine zAa ?_
 refine zp E (by first | exact zAc (q := 0) E rfl rfl rfl | exact zAd (q := 0) E rfl rfl rfl) ?_; clear E a; intro a E
 refine zd E ?_; clear E a; intro a E
 refine zp E (by first | exact zAc (q := 1) E rfl rfl rfl | exact zAd (q := 1) E rfl rfl rfl) ?_; clear E a; intro a E
 refine zd E ?_; clear E a; intro a E
 refine zp E (by first | exact zAc (q := 2) E rfl rfl rfl | exact zAd (q := 2) E rfl rfl rfl) ?_; clear E a; intro a E
 refine zd E ?_; clear E a; intro a E
 refine zp E (by first | exact zAc (q := 3) E rfl rfl rfl | exact zAd (q := 3) E rfl rfl rfl) ?_; clear E a; intro a E
 refine zd E ?_; clear E a; intro a E
 refine zp E (zBt (cells := [_, _, _, _]) E rfl rfl rfl) ?_; clear E a; intro a E
 refine zd E ?_; clear E a; intro a E
 refine wpList_nil ?_
 refine zAb hK ?_; clear hK K
 refine wp_block ?_
 refine wp_loop_ghost (fun (m : Nat) (a : Act) (w' : World) => ∃ (i : Nat) (A' : zAj), m = 4 - i ∧ i ≤ 4 ∧ WrC 202 p ⟨room, bs ++ four ([s1, s2, s3, s4].take i), 0⟩ A' ∧ (∃ Ls, St w0 [A] w' (A' :: Ls)) ∧ Fr a 22 [(0, ptr p), (14, .agg ([s1, s2, s3, s4].map fun n : Nat => Value.int .u64 n).toArray), (15, .int .i64 i)]) (4 - 0) ?_ ?_
 ·exact ⟨0, A, rfl, by omega, by simpa [four] using hA, ⟨_, S.front1 pZ⟩, E.keep (kE3 rfl rfl rfl)⟩
 clear E; clear a; (try clear S); rintro m a w ⟨i, A', rfl, hi, hA', ⟨Ls, S⟩, E⟩
 refine wp_seq_k ?_; intro K hK
 refine zAa ?_
 refine zd E ?_; clear E a; intro a E
 refine wpList_nil ?_
 refine zAb hK ?_; clear hK K
 refine wp_seq_k ?_; intro K hK
 refine zAs E rfl (fun hb => ?_) (fun hb => ?_)
 ·replace hb := Nrm.nrm hb
  refine wp_skip ?_
  refine zAb hK ?_; clear hK K
  refine wp_seq_k ?_; intro K hK
  refine wp_block ?_
  refine wp_seq_k ?_; intro K hK
  have hi4 : i < [s1, s2, s3, s4].length := by rw [len4]; omega
  have hst := zLf [s1, s2, s3, s4] hi4
  have hfl := four_length ([s1, s2, s3, s4].take i)
  rw [List.length_take, len4, Nat.min_eq_left oZ] at hfl
  have hx := hlt _ (List.getElem_mem hi4)
  refine zAa ?_
  refine zp E (zFi E rfl rfl rfl rfl rfl rfl rfl oZ (v := .int .u64 ([s1, s2, s3, s4][i]'hi4)) (by simp only [List.getElem?_toArray, List.getElem?_map, List.getElem?_eq_getElem hi4, Option.map_some])) ?_; clear E a; intro a E
  refine zd E ?_; clear E a; intro a E
  refine wpList_nil ?_
  refine zAb hK ?_; clear hK K
  refine zAa ?_
  iterate 2 (refine zd E ?_; clear E a; intro a E)
  refine zAg E rfl rfl dZ rfl Tryz.func105 rfl yZ rfl (zGq p room _ A' _ hA' ([s1, s2, s3, s4][i]'hi4) 8 (S.hp.sel sZ) hr oZ oZ oZ (by rw [List.length_append]; omega)) ?_
  rintro v20 w ⟨A2, hA2, hT⟩; clear E a; intro a E
  have S := S.call1 sZ hT
  refine wpList_nil ?_
  refine zAq ?_
  refine zAb hK ?_; clear hK K
  refine zAa ?_
  refine zp E (zAy E rfl rfl rfl (by first | exact zBq (y := 1) oZ | exact w_in oZ | exact zBj oZ | exact rfl)) ?_; clear E a; intro a E
  refine zd E ?_; clear E a; intro a E
  refine wpList_nil ?_
  refine zAn ?_
  exact ⟨_, by omega, i + 1, A2, rfl, by omega, by rw [hst, ← List.append_assoc]; exact hA2, ⟨_, S⟩, E.keep (kE3 rfl rfl rfl)⟩
 ·replace hb := Nrm.nrm hb
  refine wp_exit ?_
  refine zAl ?_; clear hK K
  refine zAl ?_
  refine zBi ?_
  refine end0 E rfl ?_
  obtain rfl : i = 4 := by omega
  exact ⟨_, rfl, A', hA', (S.only (Bs := [A']) sZ).tr⟩
end Go.Proofs.YtpjidiaekifmbaaGreatDoor
namespace Go.Sl
end Go.Sl
namespace Go.Proofs.YtpjidiaekifmbaaGreatDoor
open Go.Sl
set_option maxRecDepth 10000
end Go.Proofs.YtpjidiaekifmbaaGreatDoor
namespace Go.Sl
theorem ofNat_mod (x : Nat) : UInt8.ofNat (x % 256) = UInt8.ofNat x := by
 apply UInt8.toNat_inj.1
 simp
theorem formOf_succ (n j : Nat) : zBu n (j + 1) = zBu n j ++ [UInt8.ofNat (n / 256 ^ j % 256)] := by
 rw [ofNat_mod, zBu, Nat.pow_mul]
end Go.Sl
namespace Go.Proofs.YtpjidiaekifmbaaGreatDoor
open Go.Sl
set_option maxRecDepth 10000
theorem vform_ret (n : Nat) (hn : n < 18446744073709551616) (k : Nat) (w0 : World) (hk : k ≤ 8) :
  Ret Tryz.prog 107 #[.int .u64 n, .int .i64 k] w0 fun u w' => ∃ ad c C, u = .tuple #[.slice ad k c, .bool (((n / 256 ^ k : Nat) : Int) == 0)] ∧ Buf C 5 1 (.slice ad k c) k (byt (zBu n k)) ∧ Trs w0 w' [] [C] := by
 have S := St.begin (zDz w0)
 refine zBx 24 Tryz.func107 rfl rfl dZ ?_; intro a E
 refine wp_seq_k ?_; intro K hK
 refine zAa ?_
 iterate 2 (refine zd E ?_; clear E a; intro a E)
 refine wpList_nil ?_
 refine zAb hK ?_; clear hK K
 refine wp_seq_k ?_; intro K hK
 refine zAa ?_
 refine zd E ?_; clear E a; intro a E
 refine wpList_nil ?_
 refine zAb hK ?_; clear hK K
 iterate 2 (refine wp_seq_k ?_; intro K hK)
 refine zAa ?_
 refine zd E ?_; clear E a; intro a E
 refine wpList_nil ?_
 refine zAb hK ?_; clear hK K
 refine wp_block ?_
 refine wp_loop_ghost (fun (m : Nat) (a : Act) (w' : World) => ∃ (j : Nat) (C : zAj) (ad : Option Addr) (c : Nat), j ≤ k ∧ m = k - j ∧ Buf C 5 1 (.slice ad j c) j (byt (zBu n j)) ∧ St w0 [] w' [C] ∧ Fr a 24 [(0, .int .u64 (n / 256 ^ j : Nat)), (1, .int .i64 k), (6, .slice ad j c), (7, .int .i64 j)]) (k - 0) ?_ ?_
 ·exact ⟨0, [], none, 0, by omega, rfl, Buf.nil _ _, S.addNil, by rw [Nat.pow_zero, Nat.div_one]; exact E.keep (kE4 rfl rfl rfl rfl)⟩
 clear E; clear a; (try clear S); rintro m a w ⟨j, C, ad, c, hj, rfl, hB, S, E⟩
 iterate 2 (refine wp_seq_k ?_; intro K hK)
 refine zAa ?_
 iterate 3 (refine zd E ?_; clear E a; intro a E)
 refine wpList_nil ?_
 refine zAb hK ?_; clear hK K
 refine zAs E rfl (fun hb => ?_) (fun hb => ?_)
 ·replace hb := Nrm.nrm hb
  refine wp_skip ?_
  refine zAb hK ?_; clear hK K
  refine wp_seq_k ?_; intro K hK
  refine wp_block ?_
  refine wp_seq_k ?_; intro K hK
  refine zAa ?_
  iterate 2 (refine zd E ?_; clear E a; intro a E)
  refine zp E (zGh E rfl rfl rfl dZ (by first | exact zLn (y := 256) | exact rfl)) ?_; clear E a; intro a E
  refine zp E (zBe E rfl rfl rfl rfl (w8 _)) ?_; clear E a; intro a E
  refine zAf rfl (zBm (cells := [_]) E S rfl rfl dZ rfl rfl rfl rfl rfl dZ rfl ?_); clear E S a; intro a w b17 E S
  refine zAf rfl (zBl (by' := 1) E S rfl rfl dZ rfl rfl hB pZ ((zBn (g := b17) (T := 5) (xs := [.int .u8 (UInt8.ofNat (n / 256 ^ j % 256)).toNat]) (s := 1) (m := 1) rfl (by simp [Value.oneCell']) oZ 1).src (S.stab.at mZ) rfl) rfl rfl rfl rfl rfl rfl (by simp only [maxLen]; omega) oZ ?_); clear E S a; intro a w v18 C18 E S hB18
  obtain ⟨ad2, c2, rfl⟩ := hB18.slice
  refine zd E ?_; clear E a; intro a E
  refine wpList_nil ?_
  refine zAb hK ?_; clear hK K
  have hdl := Nat.div_le_self n (256 ^ j)
  refine zAa ?_
  refine zd E ?_; clear E a; intro a E
  refine zp E (zGg E rfl rfl rfl dZ (by first | exact zKb (y := 256) oZ | exact zHl (y := 256) oZ | exact rfl)) ?_; clear E a; intro a E
  refine zd E ?_; clear E a; intro a E
  refine wpList_nil ?_
  refine zAq ?_
  refine zAb hK ?_; clear hK K
  refine zAa ?_
  refine zd E ?_; clear E a; intro a E
  refine zp E (zAy E rfl rfl rfl (by first | exact zBq (y := 1) oZ | exact w_in oZ | exact zBj oZ | exact rfl)) ?_; clear E a; intro a E
  refine zd E ?_; clear E a; intro a E
  refine wpList_nil ?_
  refine zAn ?_
  exact ⟨_, by omega, j + 1, C18, ad2, c2, by omega, rfl, by rw [formOf_succ, zBw]; exact hB18, S.only (Bs := [C18]) sZ, by rw [Nat.pow_succ, ← Nat.div_div_eq_div_mul]; exact E.keep (kE4 rfl rfl rfl rfl)⟩
 ·replace hb := Nrm.nrm hb
  refine wp_exit ?_
  refine zAl ?_; clear hK K
  refine zAl ?_
  refine zBi ?_
  refine zAb hK ?_; clear hK K
  refine wp_seq_k ?_; intro K hK
  refine zAa ?_
  iterate 5 (refine zd E ?_; clear E a; intro a E)
  refine wpList_nil ?_
  refine zAb hK ?_; clear hK K
  refine wp_ret ?_
  refine ret2 E rfl rfl rfl ?_
  obtain rfl : j = k := by omega
  exact ⟨_, rfl, ad, c, C, rfl, hB, S.tr⟩
end Go.Proofs.YtpjidiaekifmbaaGreatDoor
namespace Go.Sl
theorem form1 (n : Nat) : zBu n 1 = [UInt8.ofNat n] := by simp [zBu]
end Go.Sl
namespace Go.Proofs.YtpjidiaekifmbaaGreatDoor
open Go.Sl
set_option maxRecDepth 10000
theorem zIc (v : Value) (bs : List UInt8) (C : zAj) (n k : Nat) (hC : Buf C 5 1 v bs.length (byt bs)) (hl : bs.length ≤ 1000000) (hn : n < 18446744073709551616) (hk : k ≤ 8) (w0 : World) (H : Hp w0 [C]) :
  Ret Tryz.prog 88 #[v, .int .u64 n, .int .i64 k] w0 fun u w' => ∃ C', Buf C' 5 1 u (bs ++ zBu n k).length (byt (bs ++ zBu n k)) ∧ Trs w0 w' [C] [C'] := by
 have S := St.begin H
 refine zDi 18 Tryz.func88 rfl rfl dZ ?_; intro a E
 refine wp_seq_k ?_; intro K hK
 refine zAa ?_
 refine zd E ?_; clear E a; intro a E
 refine wpList_nil ?_
 refine zAb hK ?_; clear hK K
 refine wp_seq_k ?_; intro K hK
 refine zAa ?_
 iterate 2 (refine zd E ?_; clear E a; intro a E)
 refine zAg E rfl rfl dZ rfl Tryz.func107 rfl yZ rfl (vform_ret n hn k _ hk) ?_
 rintro v12 w ⟨ad, c, D, rfl, hD, hT⟩; clear E a; intro a E
 have S := S.fresh hT
 iterate 5 (refine zd E ?_; clear E a; intro a E)
 refine wpList_nil ?_
 refine zAb hK ?_; clear hK K
 refine wp_seq_k ?_; intro K hK
 refine zAa ?_
 iterate 2 (refine zd E ?_; clear E a; intro a E)
 refine zAf rfl (zBl (by' := 1) E S rfl rfl dZ rfl rfl hC pZ (hD.rd.src (S.stab.at mZ) rfl) rfl rfl rfl rfl rfl rfl (by simp only [maxLen]; omega) oZ ?_); clear E S a; intro a w v17 C17 E S hB17
 refine zd E ?_; clear E a; intro a E
 refine wpList_nil ?_
 refine zAb hK ?_; clear hK K
 refine wp_ret ?_
 refine ret1 E rfl rfl ?_
 exact ⟨_, rfl, C17, by rw [zBw, List.length_append, zBh]; exact hB17, (S.only (Bs := [C17]) sZ).tr⟩
theorem dsums_ret (v : Value) (bs : List UInt8) (C : zAj) (s1 s2 s3 s4 : Nat) (hn : s1 < 18446744073709551616 ∧ s2 < 18446744073709551616 ∧ s3 < 18446744073709551616 ∧ s4 < 18446744073709551616) (hC : Buf C 5 1 v bs.length (byt bs)) (hl : bs.length ≤ 100000) (w0 : World) (H : Hp w0 [C]) :
  Ret Tryz.prog 109 #[v, .agg #[.int .u64 s1, .int .u64 s2, .int .u64 s3, .int .u64 s4]] w0 fun u w' => ∃ C', Buf C' 5 1 u (bs ++ four [s1, s2, s3, s4]).length (byt (bs ++ four [s1, s2, s3, s4])) ∧ Trs w0 w' [C] [C'] := by
 have S := St.begin H
 obtain ⟨h1, h2, h3, h4⟩ := hn
 refine zBx 21 Tryz.func109 rfl rfl dZ ?_; intro a E
 refine wp_seq_k ?_; intro K hK
 refine zAa ?_
 refine zAf rfl (zBz E S rfl rfl dZ rfl rfl ?_); clear E S a; intro a w b3 E S
 refine zd E ?_; clear E a; intro a E
 refine wpList_nil ?_
 refine zAb hK ?_; clear hK K
 refine wp_seq_k ?_; intro K hK
 refine zAa ?_
 refine zd E ?_; clear E a; intro a E
 refine zp E (by first | exact zAc (q := 0) E rfl rfl rfl | exact zAd (q := 0) E rfl rfl rfl) ?_; clear E a; intro a E
 refine zd E ?_; clear E a; intro a E
 refine zAg E rfl rfl dZ rfl Tryz.func88 rfl yZ rfl (zIc v bs C s1 8 hC oZ h1 oZ _ (S.hp.sel sZ)) ?_
 rintro v8 w ⟨C1, hC1, hT⟩; clear E a; intro a E
 have S := S.call1 sZ hT
 refine zd E ?_; clear E a; intro a E
 refine wpList_nil ?_
 refine zAb hK ?_; clear hK K
 refine wp_seq_k ?_; intro K hK
 refine zAa ?_
 refine zd E ?_; clear E a; intro a E
 refine zp E (by first | exact zAc (q := 1) E rfl rfl rfl | exact zAd (q := 1) E rfl rfl rfl) ?_; clear E a; intro a E
 refine zd E ?_; clear E a; intro a E
 refine zAg E rfl rfl dZ rfl Tryz.func88 rfl yZ rfl (zIc _ _ C1 s2 8 hC1 (by simp only [List.length_append, zBh]; omega) h2 oZ _ (S.hp.sel sZ)) ?_
 rintro v12 w ⟨C2, hC2, hT⟩; clear E a; intro a E
 have S := S.call1 sZ hT
 refine zd E ?_; clear E a; intro a E
 refine wpList_nil ?_
 refine zAb hK ?_; clear hK K
 refine wp_seq_k ?_; intro K hK
 refine zAa ?_
 refine zd E ?_; clear E a; intro a E
 refine zp E (by first | exact zAc (q := 2) E rfl rfl rfl | exact zAd (q := 2) E rfl rfl rfl) ?_; clear E a; intro a E
 refine zd E ?_; clear E a; intro a E
 refine zAg E rfl rfl dZ rfl Tryz.func88 rfl yZ rfl (zIc _ _ C2 s3 8 hC2 (by simp only [List.length_append, zBh]; omega) h3 oZ _ (S.hp.sel sZ)) ?_
 rintro v16 w ⟨C3, hC3, hT⟩; clear E a; intro a E
 have S := S.call1 sZ hT
 refine zd E ?_; clear E a; intro a E
 refine wpList_nil ?_
 refine zAb hK ?_; clear hK K
 refine wp_seq_k ?_; intro K hK
 refine zAa ?_
 refine zd E ?_; clear E a; intro a E
 refine zp E (by first | exact zAc (q := 3) E rfl rfl rfl | exact zAd (q := 3) E rfl rfl rfl) ?_; clear E a; intro a E
 refine zd E ?_; clear E a; intro a E
 refine zAg E rfl rfl dZ rfl Tryz.func88 rfl yZ rfl (zIc _ _ C3 s4 8 hC3 (by simp only [List.length_append, zBh]; omega) h4 oZ _ (S.hp.sel sZ)) ?_
 rintro v20 w ⟨C4, hC4, hT⟩; clear E a; intro a E
 have S := S.call1 sZ hT
 refine zd E ?_; clear E a; intro a E
 refine wpList_nil ?_
 refine zAb hK ?_; clear hK K
 refine wp_ret ?_
 refine ret1 E rfl rfl ?_
 exact ⟨_, rfl, C4, by simpa [four] using hC4, (S.only (Bs := [C4]) sZ).tr⟩
theorem dpadded_ret (v : Value) (bs : List UInt8) (C : zAj) (to : Nat) (hC : Buf C 5 1 v bs.length (byt bs)) (hto : to ≤ 1000000) (hl : bs.length ≤ to) (w0 : World) (H : Hp w0 [C]) :
  Ret Tryz.prog 108 #[v, .int .i64 to] w0 fun u w' => ∃ C', Buf C' 5 1 u (bs ++ List.replicate (to - bs.length) 0).length (byt (bs ++ List.replicate (to - bs.length) 0)) ∧ Trs w0 w' [C] [C'] := by
 have S := St.begin H
 refine zBx 13 Tryz.func108 rfl rfl dZ ?_; intro a E
 refine wp_seq_k ?_; intro K hK
 refine zAa ?_
 refine zd E ?_; clear E a; intro a E
 refine wpList_nil ?_
 refine zAb hK ?_; clear hK K
 refine wp_seq_k ?_; intro K hK
 refine wp_block ?_
 refine wp_loop_ghost (fun (m : Nat) (a : Act) (w' : World) => ∃ (i : Nat) (v : Value) (C' : zAj), m = to - bs.length - i ∧ bs.length + i ≤ to ∧ Buf C' 5 1 v (bs ++ List.replicate i 0).length (byt (bs ++ List.replicate i 0)) ∧ (∃ Ls, St w0 [C] w' (C' :: Ls)) ∧ Fr a 13 [(0, v), (1, .int .i64 to)]) (to - bs.length - 0) ?_ ?_
 ·exact ⟨0, v, C, rfl, by omega, by simpa using hC, ⟨_, S⟩, E.keep (kE2 rfl rfl)⟩
 clear E; clear a; (try clear S); rintro m a w ⟨i, v, C', rfl, hi, hC', ⟨Ls, S⟩, E⟩
 iterate 2 (refine wp_seq_k ?_; intro K hK)
 obtain ⟨ad, c, rfl⟩ := hC'.slice
 have hli : (bs ++ List.replicate i (0 : UInt8)).length = bs.length + i := by simp
 refine zAa ?_
 iterate 4 (refine zd E ?_; clear E a; intro a E)
 refine wpList_nil ?_
 refine zAb hK ?_; clear hK K
 refine zAs E rfl (fun hb => ?_) (fun hb => ?_)
 ·replace hb := Nrm.nrm hb
  refine wp_skip ?_
  refine zAb hK ?_; clear hK K
  refine wp_block ?_
  refine zAa ?_
  refine zd E ?_; clear E a; intro a E
  refine zAf rfl (zBm (cells := [_]) E S rfl rfl dZ rfl rfl rfl rfl rfl dZ rfl ?_); clear E S a; intro a w b10 E S
  refine zAf rfl (zBl (by' := 1) E S rfl rfl dZ rfl rfl hC' pZ ((zBn (g := b10) (T := 5) (xs := [.int .u8 0]) (s := 1) (m := 1) rfl (by simp [Value.oneCell']) oZ 1).src (S.stab.at mZ) rfl) rfl rfl rfl rfl rfl rfl (by simp only [maxLen]; omega) oZ ?_); clear E S a; intro a w v11 C11 E S hB11
  refine zd E ?_; clear E a; intro a E
  refine wpList_nil ?_
  refine zAq ?_
  refine zAn ?_
  have hB11 : Buf C11 5 1 v11 (bs ++ List.replicate (i + 1) 0).length (byt (bs ++ List.replicate (i + 1) 0)) := by
   rw [List.replicate_succ', ← List.append_assoc, zBw, List.length_append]; exact hB11
  exact ⟨_, by omega, i + 1, v11, C11, rfl, by omega, hB11, ⟨_, S⟩, E.keep (kE2 rfl rfl)⟩
 ·replace hb := Nrm.nrm hb
  refine wp_exit ?_
  refine zAl ?_; clear hK K
  refine zAl ?_
  refine zBi ?_
  refine zAb hK ?_; clear hK K
  refine wp_seq_k ?_; intro K hK
  refine zAa ?_
  iterate 2 (refine zd E ?_; clear E a; intro a E)
  refine wpList_nil ?_
  refine zAb hK ?_; clear hK K
  refine wp_ret ?_
  refine ret1 E rfl rfl ?_
  obtain rfl : i = to - bs.length := by omega
  exact ⟨_, rfl, C', hC', (S.only (Bs := [C']) sZ).tr⟩
end Go.Proofs.YtpjidiaekifmbaaGreatDoor
