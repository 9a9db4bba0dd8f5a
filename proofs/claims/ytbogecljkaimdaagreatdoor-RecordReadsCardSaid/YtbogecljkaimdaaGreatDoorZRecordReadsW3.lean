/-
  Texts put together (3).
-/
import Derived.Test.YtbogecljkaimdaaGreatDoorZRecordReadsW2
set_option maxHeartbeats 1000000
namespace Go.Proofs.YtbogecljkaimdaaGreatDoor
open Go.Sl
set_option maxRecDepth 10000
theorem zJu (C : zAl) (v : Value) (bs : List UInt8) (w : World) (h : Rd C 1 v bs.length (byt bs)) (hs : ∀ x ∈ C, w.heap[x.1]? = some x.2) (hl : bs.length ≤ 8) :
  Ret Tryz.prog 73 #[v] w fun u w' => u = .int .u64 (zBv bs) ∧ w' = w := by
 obtain ⟨ad, c, rfl⟩ := h.slice
 refine zCd 22 Tryz.func73 rfl rfl dZ ?_; intro a E
 refine wp_seq_k ?_; intro K hK
 refine zAa ?_
 refine zd E ?_; clear E a; intro a E
 refine wpList_nil ?_
 refine zAb hK ?_; clear hK K
 refine wp_seq_k ?_; intro K hK
 refine zAa ?_
 refine zd E ?_; clear E a; intro a E
 refine wpList_nil ?_
 refine zAb hK ?_; clear hK K
 iterate 2 (refine wp_seq_k ?_; intro K hK)
 refine zAa ?_
 iterate 3 (refine zd E ?_; clear E a; intro a E)
 refine wpList_nil ?_
 refine zAb hK ?_; clear hK K
 refine wp_block ?_
 refine wp_loop_ghost (fun (m : Nat) (a : Act) (w' : World) => ∃ k : Nat, k ≤ bs.length ∧ m = bs.length - k ∧ w' = w ∧ Fr a 22 [(8, .int .i64 k), (3, .int .u64 (zBv (bs.take k))), (7, .int .i64 bs.length), (6, .slice ad bs.length c)]) (bs.length) ?_ ?_
 ·exact ⟨0, by omega, by omega, rfl, E.keep (kE4 rfl rfl rfl rfl)⟩
 clear E; clear a; (try clear S); rintro m a w' ⟨k, hk, rfl, rfl, E⟩
 refine wp_seq_k ?_; intro K hK
 refine zAa ?_
 refine zd E ?_; clear E a; intro a E
 refine wpList_nil ?_
 refine zAb hK ?_; clear hK K
 refine wp_seq_k ?_; intro K hK
 refine zAs E rfl (fun hb => ?_) (fun hb => ?_)
 ·replace hb := Nrm.nrm hb
  obtain ⟨b, off, rfl⟩ := h.addr oZ
  have hc := h.byte hs (i := k) oZ
  have h1 := zEu (bs.take (k + 1))
  have h2 := zEu (bs.take k)
  have h3 := zJt bs k oZ
  rw [List.length_take, Nat.min_eq_left oZ, show (256 : Nat) = 2 ^ 8 from rfl, ← Nat.pow_mul] at h1 h2
  have h4 : 2 ^ (8 * (k + 1)) ≤ 2 ^ 64 := Nat.pow_le_pow_right oZ oZ
  refine wp_skip ?_
  refine zAb hK ?_; clear hK K
  refine wp_seq_k ?_; intro K hK
  refine wp_block ?_
  refine wp_seq_k ?_; intro K hK
  refine zAa ?_
  refine zd E ?_; clear E a; intro a E
  refine zp E (by first | exact zAw E rfl rfl rfl rfl rfl rfl oZ | exact zBe E rfl rfl rfl rfl rfl rfl oZ | exact zAu E rfl rfl rfl rfl rfl rfl oZ) ?_; clear E a; intro a E
  iterate 3 (refine zd E ?_; clear E a; intro a E)
  refine wpList_nil ?_
  refine zAb hK ?_; clear hK K
  refine zAa ?_
  iterate 2 (refine zd E ?_; clear E a; intro a E)
  refine zp E (by first | exact zAo E rfl rfl rfl rfl (by first | exact wu8 _ | exact zCz oZ | exact zCe oZ | exact w_in oZ | exact zBb oZ | exact rfl) | exact zBh E rfl rfl rfl rfl rfl (by assumption) (S.stab.at (by simp))) ?_; clear E a; intro a E
  refine zd E ?_; clear E a; intro a E
  refine zp E (zEg E rfl rfl rfl (by first | exact zEq (x := 8) oZ | exact zDx (x := 8) oZ | exact w_in oZ | exact rfl)) ?_; clear E a; intro a E
  refine zp E (zFl E rfl rfl rfl oZ (by simp only [IntKind.bits]; omega) (shlu oZ)) ?_; clear E a; intro a E
  refine zp E (zHm E rfl rfl rfl (oru h2 oZ)) ?_; clear E a; intro a E
  refine zd E ?_; clear E a; intro a E
  refine wpList_nil ?_
  refine zAr ?_
  refine zAb hK ?_; clear hK K
  refine zAa ?_
  refine zp E (zBc E rfl rfl rfl (by first | exact zBq (y := 1) oZ | exact w_in oZ | exact zBb oZ | exact rfl)) ?_; clear E a; intro a E
  refine zd E ?_; clear E a; intro a E
  refine wpList_nil ?_
  refine zAy ?_
  rw [← h3] at E; exact ⟨_, by omega, k + 1, by omega, rfl, rfl, E.keep (kE4 rfl rfl rfl rfl)⟩
 ·replace hb := Nrm.nrm hb
  refine wp_exit ?_
  refine zAp ?_; clear hK K
  refine zAp ?_
  refine zBr ?_
  refine zAb hK ?_; clear hK K
  refine wp_seq_k ?_; intro K hK
  refine zAa ?_
  iterate 2 (refine zd E ?_; clear E a; intro a E)
  refine wpList_nil ?_
  refine zAb hK ?_; clear hK K
  refine wp_ret ?_
  refine ret1 E rfl rfl ?_
  refine ⟨_, rfl, ?_, rfl⟩; rw [List.take_of_length_le oZ]
theorem zLn (n : Nat) (k : Nat) (w0 : World) (hk : k ≤ 8) :
  Ret Tryz.prog 74 #[.int .u64 n, .int .i64 k] w0 fun u w' => ∃ g, u = .slice (some ⟨g, 0, none⟩) k k ∧ Trs w0 w' [] [[(g, cel (byt (zBj n k)) 5)]] := by
 have S := St.begin (w := w0) (As := []) ⟨by simp, by simp⟩
 refine zBt 24 Tryz.func74 rfl rfl dZ ?_; intro a E
 refine wp_seq_k ?_; intro K hK
 refine zAa ?_
 refine zd E ?_; clear E a; intro a E
 refine wpList_nil ?_
 refine zAb hK ?_; clear hK K
 refine wp_seq_k ?_; intro K hK
 refine zAa ?_
 refine zd E ?_; clear E a; intro a E
 refine zAg rfl (zJa (by' := 1) E S rfl rfl dZ rfl rfl rfl rfl rfl rfl rfl rfl rfl rfl rfl (by first | exact mkb oZ | exact mkb8 oZ | exact mkbn rfl oZ) (by simp only [maxLen]; omega) ?_); clear E S a; intro a w g8 E S
 refine zd E ?_; clear E a; intro a E
 refine wpList_nil ?_
 refine zAb hK ?_; clear hK K
 iterate 2 (refine wp_seq_k ?_; intro K hK)
 refine zAa ?_
 iterate 3 (refine zd E ?_; clear E a; intro a E)
 refine wpList_nil ?_
 refine zAb hK ?_; clear hK K
 refine wp_block ?_
 refine wp_loop_ghost (fun (m : Nat) (a : Act) (w' : World) => ∃ (j : Nat), j ≤ k ∧ m = k - j ∧ St w0 [] w' [[(g8, cel (byt (zBj n j) ++ List.replicate (k - j) (.int .u8 0)) 5)]] ∧ Fr a 24 [(11, .int .i64 j), (10, .int .i64 k), (5, .slice (some ⟨g8, 0, none⟩) k k), (0, .int .u64 n)]) (k) ?_ ?_
 ·exact ⟨0, by omega, by omega, by simpa [zBj, byt] using S, E.keep (kE4 rfl rfl rfl rfl)⟩
 clear E; clear a; (try clear S); rintro m a w ⟨j, hj, rfl, S, E⟩
 refine wp_seq_k ?_; intro K hK
 refine zAa ?_
 refine zd E ?_; clear E a; intro a E
 refine wpList_nil ?_
 refine zAb hK ?_; clear hK K
 refine wp_seq_k ?_; intro K hK
 refine zAs E rfl (fun hb => ?_) (fun hb => ?_)
 ·replace hb := Nrm.nrm hb
  refine wp_skip ?_
  refine zAb hK ?_; clear hK K
  refine wp_seq_k ?_; intro K hK
  refine wp_block ?_
  refine wp_seq_k ?_; intro K hK
  refine zAa ?_
  iterate 2 (refine zd E ?_; clear E a; intro a E)
  refine wpList_nil ?_
  refine zAb hK ?_; clear hK K
  refine zAa ?_
  iterate 4 (refine zd E ?_; clear E a; intro a E)
  refine zp E (zEg E rfl rfl rfl (by first | exact zEq (x := 8) oZ | exact zDx (x := 8) oZ | exact w_in oZ | exact rfl)) ?_; clear E a; intro a E
  refine zp E (zHi E rfl rfl rfl oZ (by simp only [IntKind.bits]; omega) shru) ?_; clear E a; intro a E
  refine zp E (zAo E rfl rfl rfl rfl (w8 _)) ?_; clear E a; intro a E
  refine zp E (by first | exact zAw E rfl rfl rfl rfl rfl rfl oZ | exact zBe E rfl rfl rfl rfl rfl rfl oZ | exact zAu E rfl rfl rfl rfl rfl rfl oZ) ?_; clear E a; intro a E
  refine zAg rfl (zAv E S rfl rfl rfl rfl rfl rfl pZ (by simp only [List.length_append, List.length_replicate, zDt, zAx]; omega) ?_); clear E S a; intro a w E S; try dsimp only [List.set] at S
  refine wpList_nil ?_
  refine zAr ?_
  refine zAb hK ?_; clear hK K
  refine zAa ?_
  refine zp E (zBc E rfl rfl rfl (by first | exact zBq (y := 1) oZ | exact w_in oZ | exact zBb oZ | exact rfl)) ?_; clear E a; intro a E
  refine zd E ?_; clear E a; intro a E
  refine wpList_nil ?_
  refine zAy ?_
  rw [Nat.zero_add, zGo _ _ _ _ _ (by simp [byt, zAx]) oZ] at S; exact ⟨_, by omega, j + 1, by omega, rfl, by simpa [zBj, byt] using S, E.keep (kE4 rfl rfl rfl rfl)⟩
 ·replace hb := Nrm.nrm hb
  refine wp_exit ?_
  refine zAp ?_; clear hK K
  refine zAp ?_
  refine zBr ?_
  refine zAb hK ?_; clear hK K
  refine wp_seq_k ?_; intro K hK
  refine zAa ?_
  iterate 2 (refine zd E ?_; clear E a; intro a E)
  refine wpList_nil ?_
  refine zAb hK ?_; clear hK K
  refine wp_ret ?_
  refine ret1 E rfl rfl ?_
  obtain rfl : j = k := by omega
  refine ⟨_, rfl, g8, rfl, ?_⟩
  simpa using S.tr
theorem rd_block {g n : Nat} {b : List UInt8} {T : TypeId} (hn : b.length = n) (hm : n ≤ 4611686018427387904) (c : Nat) : Rd [(g, cel (byt b) T)] 1 (.slice (some ⟨g, 0, none⟩) n c) n (byt b) :=
 ⟨by rw [zDt, hn, Nat.mul_one], byt_one _, by simp only [maxLen]; omega, .inr ⟨g, 0, c, _, T, (0, 0), rfl, List.mem_singleton.2 rfl, fun i u hu => by simpa using hu⟩⟩
theorem rd_blk {g : Nat} (n : Nat) {b : List UInt8} {T : TypeId} (hn : b.length = n) (hm : n ≤ 4611686018427387904) (c : Nat) : Rd [(g, cel (byt b) T)] 1 (.slice (some ⟨g, 0, none⟩) n c) b.length (byt b) := by
 subst hn; exact rd_block rfl hm c
theorem zIj (C : zAl) (v : Value) (bs : List UInt8) (w0 : World) (h : Rd C 1 v bs.length (byt bs)) (hs : Hp w0 [C]) (hl : bs.length ≤ 281474976710656) :
  Ret Tryz.prog 70 #[v] w0 fun u w' => ∃ g, u = .slice (some ⟨g, 0, none⟩) bs.length bs.length ∧ Trs w0 w' [C] [[(g, cel (byt bs) 5)], C] := by
 obtain ⟨ad, c, rfl⟩ := h.slice
 have S := St.begin hs
 refine zCd 11 Tryz.func70 rfl rfl dZ ?_; intro a E
 refine wp_seq_k ?_; intro K hK
 refine zAa ?_
 refine zd E ?_; clear E a; intro a E
 refine wpList_nil ?_
 refine zAb hK ?_; clear hK K
 refine wp_seq_k ?_; intro K hK
 refine zAa ?_
 iterate 2 (refine zd E ?_; clear E a; intro a E)
 refine zAg rfl (zJa (by' := 1) E S rfl rfl dZ rfl rfl rfl rfl rfl rfl rfl rfl rfl rfl rfl (by first | exact mkb oZ | exact mkb8 oZ | exact mkbn rfl oZ) (by simp only [maxLen]; omega) ?_); clear E S a; intro a w g6 E S
 refine zd E ?_; clear E a; intro a E
 refine wpList_nil ?_
 refine zAb hK ?_; clear hK K
 refine wp_seq_k ?_; intro K hK
 refine zAa ?_
 iterate 2 (refine zd E ?_; clear E a; intro a E)
 refine zAg rfl (wp_copy E S rfl rfl dZ rfl rfl pZ (h.copySrc (S.stab.at mZ) rfl) rfl rfl (by simp) ?_); clear E S a; intro a w E S
 rw [copy_all (by simp [zDt])] at S
 refine wpList_nil ?_
 refine zAb hK ?_; clear hK K
 refine wp_seq_k ?_; intro K hK
 refine zAa ?_
 iterate 2 (refine zd E ?_; clear E a; intro a E)
 refine wpList_nil ?_
 refine zAb hK ?_; clear hK K
 refine wp_ret ?_
 refine ret1 E rfl rfl ?_
 exact ⟨_, rfl, g6, rfl, S.tr⟩
def WrC (T : TypeId) (p : Nat) (s : Wr) (A : zAl) : Prop :=
 ∃ v C, A = [(p, cel [.int .i64 s.room, v, .int .i64 s.e] T)] ++ C ∧ Buf C 5 1 v s.bs.length (byt s.bs)
theorem put_ret (p : Nat) (s : Wr) (A D : zAl) (bv : Value) (b : List UInt8) (w0 : World) (hA : WrC 94 p s A) (hD : Rd D 1 bv b.length (byt b)) (H : Hp w0 [A, D]) (hr : s.room ≤ 140737488355328) :
  Ret Tryz.prog 75 #[ptr p, bv] w0 fun u w' => ∃ A', u = .int .i64 (s.putE b) ∧ WrC 94 p (s.putS b) A' ∧ Trs w0 w' [A, D] [A', D] := by
 obtain ⟨v, C, rfl, hB⟩ := hA
 obtain ⟨ad, c, rfl⟩ := hD.slice
 obtain ⟨ad2, c2, rfl⟩ := hB.slice
 have S := (St.begin H).split
 have hm := hB.rd.2.2.1
 have hm2 := hD.2.2.1
 simp only [maxLen] at hm hm2
 refine zBt 27 Tryz.func75 rfl rfl dZ ?_; intro a E
 refine wp_seq_k ?_; intro K hK
 refine zAa ?_
 refine zd E ?_; clear E a; intro a E
 refine wpList_nil ?_
 refine zAb hK ?_; clear hK K
 iterate 2 (refine wp_seq_k ?_; intro K hK)
 refine zBg S (.ofL [(0, 0), (1, 0), (2, 0), (3, 0), (4, 0), (5, 0), (6, 0), (7, 0), (8, 0), (9, 0), (10, 0), (11, 0), (12, 0)]) yZ yZ ?_
 clear S; intro w S
 iterate 4 (refine zmd E ?_; clear E a; intro a E)
 refine zm E rfl (fun w h => by first | exact zAc (q := 0) E rfl rfl rfl | exact zAd (q := 0) E rfl rfl rfl) ?_; clear E a; intro a E
 iterate 3 (refine zmd E ?_; clear E a; intro a E)
 refine zm E rfl (fun w h => by first | exact zAc (q := 1) E rfl rfl rfl | exact zAd (q := 1) E rfl rfl rfl) ?_; clear E a; intro a E
 iterate 2 (refine zmd E ?_; clear E a; intro a E)
 refine zm E rfl (fun w h => zCv E rfl rfl rfl (by first | exact ws1 oZ oZ | exact w_in oZ | exact zBb oZ | exact rfl)) ?_; clear E a; intro a E
 refine zmd E ?_; clear E a; intro a E
 refine zBi ?_
 refine zAb hK ?_; clear hK K
 refine zAs E rfl (fun hb => ?_) (fun hb => ?_)
 ·replace hb := Nrm.nrm hb
  have hf : s.fits b = false := by simp only [Wr.fits, decide_eq_false_iff_not]; omega
  refine wp_seq_k ?_; intro K hK
  refine zAa ?_
  refine zd E ?_; clear E a; intro a E
  refine wpList_nil ?_
  refine zAb hK ?_; clear hK K
  refine wp_ret ?_
  refine zAn ?_; clear hK K
  refine ret1 E rfl rfl ?_
  exact ⟨_, rfl, _, by simp [Wr.putE, hf], ⟨_, C, rfl, by simpa [Wr.putS, hf] using hB⟩, by simpa [Wr.putS, hf] using S.join.tr⟩
 ·replace hb := Nrm.nrm hb
  have hf : s.fits b = true := by simp only [Wr.fits, decide_eq_true_eq]; omega
  refine wp_skip ?_
  refine zAb hK ?_; clear hK K
  refine wp_seq_k ?_; intro K hK
  have hf2 := of_decide_eq_true hf
  refine zAa ?_
  iterate 3 (refine zd E ?_; clear E a; intro a E)
  refine zp E (by first | exact zAc (q := 1) E rfl rfl rfl | exact zAd (q := 1) E rfl rfl rfl) ?_; clear E a; intro a E
  iterate 2 (refine zd E ?_; clear E a; intro a E)
  refine zAg rfl (zBu (by' := 1) E S rfl rfl dZ rfl rfl hB pZ (hD.src (S.stab.at mZ) rfl) rfl rfl rfl rfl rfl rfl (by simp only [maxLen]; omega) oZ ?_); clear E S a; intro a w v24 C24 E S hB24
  obtain ⟨ad3, c3, rfl⟩ := hB24.slice
  refine zd E ?_; clear E a; intro a E
  refine zp E (by first | exact zAc (q := 1) E rfl rfl rfl | exact zAd (q := 1) E rfl rfl rfl) ?_; clear E a; intro a E
  refine zAg rfl (zAv E S rfl rfl rfl rfl rfl rfl pZ (by first | exact Nat.le_of_ble_eq_true rfl | (simp; done) | (simp; omega)) ?_); clear E S a; intro a w E S; try dsimp only [List.set] at S
  refine wpList_nil ?_
  refine zAb hK ?_; clear hK K
  refine wp_seq_k ?_; intro K hK
  replace E := E.keep (e' := [(4, _)]) (kE1 rfl)
  refine zAa ?_
  refine zd E ?_; clear E a; intro a E
  refine wpList_nil ?_
  refine zAb hK ?_; clear hK K
  refine wp_ret ?_
  refine ret1 E rfl rfl ?_
  exact ⟨_, rfl, [(p, cel [.int .i64 s.room, .slice ad3 (s.bs.length + b.length) c3, .int .i64 s.e] 94)] ++ C24, by simp [Wr.putE, hf], ⟨.slice ad3 (s.bs.length + b.length) c3, C24, by simp [Wr.putS, hf], by simpa [Wr.putS, hf, zDa] using hB24⟩, S.join.tr⟩
theorem buf_block {g n : Nat} {b : List UInt8} {T : TypeId} (hn : b.length = n) (hm : n ≤ 4611686018427387904) : Buf [(g, cel (byt b) T)] T 1 (.slice (some ⟨g, 0, none⟩) n n) n (byt b) :=
 ⟨by rw [zDt, hn, Nat.mul_one], byt_one _, .inr ⟨g, n, [], rfl, by simp, Nat.le_refl _, by simp only [maxLen]; omega, by simp [zDt, hn]⟩⟩
theorem try_no (p : Nat) (s : Wr) (A : zAl) (fv : Value) (w0 : World) (hA : WrC 94 p s A) (H : Hp w0 [A]) (he : s.e ≠ 0) :
  Ret Tryz.prog 71 #[ptr p, fv] w0 fun _ w' => w' = w0 := by
 obtain ⟨v, C, rfl, hB⟩ := hA
 have S := (St.begin H).split
 refine zBt 14 Tryz.func71 rfl rfl dZ ?_; intro a E
 refine wp_seq_k ?_; intro K hK
 refine zAa ?_
 iterate 2 (refine zd E ?_; clear E a; intro a E)
 refine zp E (by first | exact zAc (q := 2) E rfl rfl rfl | exact zAd (q := 2) E rfl rfl rfl) ?_; clear E a; intro a E
 iterate 2 (refine zd E ?_; clear E a; intro a E)
 refine wpList_nil ?_
 refine zAb hK ?_; clear hK K
 refine zAs E rfl (fun hb => ?_) (fun hb => ?_)
 ·replace hb := Nrm.nrm hb
  exfalso; omega
 ·replace hb := Nrm.nrm hb
  refine wp_skip ?_
  refine end0 E rfl ?_
  exact ⟨_, rfl, rfl⟩
theorem try_yes (f : FuncId) (fn : Func) (cap : List Value) (hf : Tryz.prog.funcs[f]? = some fn) (hfb : fn.body.isSome = true) (hfn : (fn.name == "runtime.NumGoroutine") = false)
  (p : Nat) (s : Wr) (A : zAl) (Rs : List zAl) (X : Nat → List UInt8 → Prop) (w0 : World) (hA : WrC 94 p s A) (H : Hp w0 (A :: Rs)) (he : s.e = 0)
  (hc : Ret Tryz.prog f cap.toArray w0 fun u w' => ∃ (e' : Nat) (bs' : List UInt8) (A' : zAl), u = .int .i64 e' ∧ WrC 94 p { s with bs := bs' } A' ∧ Trs w0 w' (A :: Rs) (A' :: Rs) ∧ X e' bs') :
  Ret Tryz.prog 71 #[ptr p, .func (.func f) #[] cap.toArray] w0 fun _ w' => ∃ (e' : Nat) (bs' : List UInt8) (A' : zAl), WrC 94 p { s with bs := bs', e := e' } A' ∧ Trs w0 w' (A :: Rs) (A' :: Rs) ∧ X e' bs' := by
 have hA0 := hA
 obtain ⟨v, C, rfl, hB⟩ := hA
 have S := (St.begin H).split
 refine zBt 14 Tryz.func71 rfl rfl dZ ?_; intro a E
 refine wp_seq_k ?_; intro K hK
 refine zAa ?_
 iterate 2 (refine zd E ?_; clear E a; intro a E)
 refine zp E (by first | exact zAc (q := 2) E rfl rfl rfl | exact zAd (q := 2) E rfl rfl rfl) ?_; clear E a; intro a E
 iterate 2 (refine zd E ?_; clear E a; intro a E)
 refine wpList_nil ?_
 refine zAb hK ?_; clear hK K
 refine zAs E rfl (fun hb => ?_) (fun hb => ?_)
 ·replace hb := Nrm.nrm hb
  refine zAa ?_
  iterate 2 (refine zd E ?_; clear E a; intro a E)
  refine zCh E rfl rfl dZ rfl rfl hf hfb hfn rfl (hc) ?_
  rintro v11 w ⟨e', bs', A', rfl, ⟨v', C', rfl, hB'⟩, hT, hX⟩; clear E a; intro a E
  have S := ((St.begin H).all hT).split
  refine zd E ?_; clear E a; intro a E
  refine zp E (by first | exact zAc (q := 2) E rfl rfl rfl | exact zAd (q := 2) E rfl rfl rfl) ?_; clear E a; intro a E
  refine zAg rfl (zAv E S rfl rfl rfl rfl rfl rfl pZ (by first | exact Nat.le_of_ble_eq_true rfl | (simp; done) | (simp; omega)) ?_); clear E S a; intro a w E S; try dsimp only [List.set] at S
  refine wpList_nil ?_
  refine end0 E rfl ?_
  exact ⟨_, rfl, e', bs', _, ⟨v', C', rfl, hB'⟩, S.join.tr, hX⟩
 ·replace hb := Nrm.nrm hb
  exfalso; omega
theorem try_ret (s2 : Wr) (f : FuncId) (fn : Func) (cap : List Value) (hf : Tryz.prog.funcs[f]? = some fn) (hfb : fn.body.isSome = true) (hfn : (fn.name == "runtime.NumGoroutine") = false)
  (p : Nat) (s : Wr) (A : zAl) (Rs : List zAl) (w0 : World) (hA : WrC 94 p s A) (H : Hp w0 (A :: Rs)) (h0 : s.e ≠ 0 → s2 = s)
  (hc : s.e = 0 → Ret Tryz.prog f cap.toArray w0 fun u w' => ∃ (e' : Nat) (bs' : List UInt8) (A' : zAl), u = .int .i64 e' ∧ WrC 94 p { s with bs := bs' } A' ∧ Trs w0 w' (A :: Rs) (A' :: Rs) ∧ s2 = { s with bs := bs', e := e' }) :
  Ret Tryz.prog 71 #[ptr p, .func (.func f) #[] cap.toArray] w0 fun _ w' => ∃ A' : zAl, WrC 94 p s2 A' ∧ Trs w0 w' (A :: Rs) (A' :: Rs) := by
 by_cases he : s.e = 0
 ·refine (try_yes f fn cap hf hfb hfn p s A Rs (fun e' bs' => s2 = { s with bs := bs', e := e' }) w0 hA H he (hc he)).mono ?_
  rintro _ w' ⟨e', bs', A', h1, h2, h3⟩
  exact ⟨A', by rw [h3]; exact h1, h2⟩
 ·refine (try_no p s A _ w0 hA (H.sel (Rs := Rs) (List.Perm.refl _)) he).mono ?_
  rintro _ w' rfl
  exact ⟨A, by rw [h0 he]; exact hA, Trs.refl _ _⟩
theorem num_body (p : Nat) (s : Wr) (A : zAl) (w0 : World) (hA : WrC 94 p s A) (he : s.e = 0) (b5 b4 b3 : Nat) (n : Nat) (k : Int)
  (H : Hp w0 [A, [(b5, cel [.int .i64 k] 3)], [(b4, cel [.int .u64 n] 27)], [(b3, cel [ptr p] 63)]]) (hr : s.room ≤ 140737488355328) :
  Ret Tryz.prog 72 #[ptr b5, ptr b4, ptr b3] w0 fun u w' => ∃ (e' : Nat) (bs' : List UInt8) (A' : zAl), u = .int .i64 e' ∧ WrC 94 p { s with bs := bs' } A' ∧
   Trs w0 w' [A, [(b5, cel [.int .i64 k] 3)], [(b4, cel [.int .u64 n] 27)], [(b3, cel [ptr p] 63)]] [A', [(b5, cel [.int .i64 k] 3)], [(b4, cel [.int .u64 n] 27)], [(b3, cel [ptr p] 63)]] ∧ s.num n k = { s with bs := bs', e := e' } := by
 have S := St.begin H
 have hbad : (k < 1 ∨ 8 < k) → s.num n k = { s with bs := s.bs, e := 1 } := fun h => by simp [Wr.num, Wr.lay, numE, he, h]
 refine zEz 23 Tryz.func72 rfl rfl dZ ?_; intro a E
 refine wp_seq_k ?_; intro K hK
 refine zAa ?_
 refine zd E ?_; clear E a; intro a E
 refine wpList_nil ?_
 refine zAb hK ?_; clear hK K
 refine wp_seq_k ?_; intro K hK
 refine wp_block ?_
 refine wp_seq_k ?_; intro K hK
 refine zAa ?_
 iterate 3 (refine zd E ?_; clear E a; intro a E)
 refine zAj E (t := 7) rfl (fun hb7 => ?_) (fun hb7 => ?_)
 ·have hb7n := hb7; replace hb7n := Nrm.nrm hb7n
  iterate 2 (refine zn E hb7 ?_; clear E a; intro a E)
  refine zp E (zAf E rfl rfl hb7 rfl) ?_; clear E a; intro a E
  refine zd E ?_; clear E a; intro a E
  refine wpList_nil ?_
  refine zAb hK ?_; clear hK K
  refine zBo E rfl rfl ?_
  refine wp_seq_k ?_; intro K hK
  refine zAa ?_
  refine zd E ?_; clear E a; intro a E
  refine wpList_nil ?_
  refine zAb hK ?_; clear hK K
  refine wp_ret ?_
  refine zBw ?_
  refine zAn ?_; clear hK K
  refine ret1 E rfl rfl ?_
  exact ⟨_, rfl, 1, s.bs, A, rfl, hA, S.tr, hbad oZ⟩
 ·have hb7n := hb7; replace hb7n := Nrm.nrm hb7n
  iterate 2 (refine zyd E hb7 ?_; clear E a; intro a E)
  refine zp E (zAe E rfl rfl hb7 rfl) ?_; clear E a; intro a E
  refine zd E ?_; clear E a; intro a E
  refine wpList_nil ?_
  refine zAb hK ?_; clear hK K
  refine zAs E rfl (fun hb => ?_) (fun hb => ?_)
  ·replace hb := Nrm.nrm hb
   refine wp_seq_k ?_; intro K hK
   refine zAa ?_
   refine zd E ?_; clear E a; intro a E
   refine wpList_nil ?_
   refine zAb hK ?_; clear hK K
   refine wp_ret ?_
   refine zBw ?_
   refine zAn ?_; clear hK K
   refine ret1 E rfl rfl ?_
   exact ⟨_, rfl, 1, s.bs, A, rfl, hA, S.tr, hbad oZ⟩
  ·replace hb := Nrm.nrm hb
   refine wp_seq_k ?_; intro K hK
   obtain ⟨kn, rfl⟩ : ∃ kn : Nat, k = kn := ⟨k.toNat, by omega⟩
   refine zBg S (.ofL [(0, 0), (1, 0), (4, 0), (2, 1), (3, 1), (5, 0), (6, 0)]) yZ yZ ?_
   clear S; intro w S
   iterate 3 (refine zmd E ?_; clear E a; intro a E)
   refine zBs E rfl rfl rfl dZ rfl Tryz.func74 rfl yZ rfl (zLn n kn w oZ) ?_
   rintro v14 w ⟨g, rfl, hT⟩; clear E a; intro a E
   have S := S.fresh hT
   refine ⟨S.stab.sub (by first | (simp; done) | (simp +contextual; done) | (simp [*]; done)), ?_⟩
   refine zBs E rfl rfl rfl dZ rfl Tryz.func73 rfl yZ rfl (zJu _ _ (zBj n kn) w (rd_blk kn (zAx _ _) oZ _) (S.stab.at mZ) (by rw [zAx]; omega)) ?_
   rintro v15 w ⟨rfl, rfl⟩; clear E a; intro a E
   refine ⟨S.stab.sub (by first | (simp; done) | (simp +contextual; done) | (simp [*]; done)), ?_⟩
   iterate 2 (refine zmd E ?_; clear E a; intro a E)
   refine zBi ?_
   refine zAb hK ?_; clear hK K
   refine zAs E rfl (fun hb => ?_) (fun hb => ?_)
   ·replace hb := Nrm.nrm hb
    rw [zIi] at hb
    refine wp_seq_k ?_; intro K hK
    refine zAa ?_
    refine zd E ?_; clear E a; intro a E
    refine wpList_nil ?_
    refine zAb hK ?_; clear hK K
    refine wp_ret ?_
    refine zBw ?_
    refine zAn ?_; clear hK K
    refine ret1 E rfl rfl ?_
    have h5 : ¬ n < 256 ^ kn := fun h => hb (by rw [Nat.mod_eq_of_lt h])
    have S := S.only (Bs := [A, _, _, _]) (Rs := [_]) ((List.perm_append_comm (l₁ := [_]) (l₂ := [A, _, _, _])))
    exact ⟨_, rfl, 11, s.bs, A, rfl, hA, S.tr, by simp [Wr.num, Wr.lay, numE, he, show ¬ ((kn : Int) < 1 ∨ 8 < (kn : Int)) by omega, Nat.not_lt.1 h5]⟩
   ·replace hb := Nrm.nrm hb
    rw [zIi] at hb
    refine wp_skip ?_
    refine zAr ?_
    refine zAb hK ?_; clear hK K
    refine wp_seq_k ?_; intro K hK
    have h5 : n < 256 ^ kn := by have := Nat.mod_lt n (show 0 < 256 ^ kn from Nat.pow_pos oZ); omega
    refine zBg S (.ofL [(0, 0), (1, 0), (2, 0), (3, 1), (4, 3), (5, 2)]) yZ yZ ?_
    clear S; intro w S
    iterate 3 (refine zmd E ?_; clear E a; intro a E)
    refine zBs E rfl rfl rfl dZ rfl Tryz.func74 rfl yZ rfl (zLn n kn w oZ) ?_
    rintro v21 w ⟨g2, rfl, hT⟩; clear E a; intro a E
    have S := S.fresh hT
    refine ⟨S.stab.sub (by first | (simp; done) | (simp +contextual; done) | (simp [*]; done)), ?_⟩
    refine zFs E rfl rfl rfl dZ rfl Tryz.func75 rfl yZ rfl (put_ret p s A _ _ (zBj n kn) w hA (rd_blk kn (zAx _ _) oZ _) (S.hp.sel sZ) hr) ?_
    rintro v22 w ⟨A', rfl, hA', hT⟩; clear E a; intro a E
    have S := S.call2 sZ hT
    refine zCg E rfl rfl rfl dZ (fun w => zCl E rfl rfl) ?_; clear E a; intro a E
    refine zBi ?_
    refine zAb hK ?_; clear hK K
    refine wp_ret ?_
    refine ret1 E rfl rfl ?_
    rw [s.putS_eq] at hA'
    have S := S.only (Bs := [A', [(b5, cel [.int .i64 kn] 3)], [(b4, cel [.int .u64 n] 27)], [(b3, cel [ptr p] 63)]]) sZ
    refine ⟨_, rfl, _, _, A', rfl, hA', S.tr, ?_⟩
    simp only [Wr.num, Wr.lay, numE, he, show ¬ ((kn : Int) < 1 ∨ 8 < (kn : Int)) by omega, Int.toNat_natCast, show ¬ n ≥ 256 ^ kn by omega, if_false, ne_eq, not_true_eq_false]
    rw [s.putS_eq]
theorem num_ret (p : Nat) (s : Wr) (A : zAl) (w0 : World) (hA : WrC 94 p s A) (n : Nat) (k : Int) (H : Hp w0 [A]) (hr : s.room ≤ 140737488355328) :
  Ret Tryz.prog 30 #[ptr p, .int .u64 n, .int .i64 k] w0 fun _ w' => ∃ A', WrC 94 p (s.num n k) A' ∧ Trs w0 w' [A] [A'] := by
 have S := St.begin H
 refine zEz 9 Tryz.func30 rfl rfl dZ ?_; intro a E
 refine wp_seq_k ?_; intro K hK
 refine zAa ?_
 refine zAg rfl (zBx E S rfl rfl dZ rfl rfl ?_); clear E S a; intro a w b3 E S
 refine zAg rfl (zBx E S rfl rfl dZ rfl rfl ?_); clear E S a; intro a w b4 E S
 refine zAg rfl (zBx E S rfl rfl dZ rfl rfl ?_); clear E S a; intro a w b5 E S
 refine wpList_nil ?_
 refine zAb hK ?_; clear hK K
 have S := S.perm (Bs := [A, [(b5, cel [.int .i64 k] 3)], [(b4, cel [.int .u64 n] 27)], [(b3, cel [ptr p] 63)]]) (zBa pZ (zBa pZ (zBa pZ (zBa pZ (zDc _)))))
 refine zAa ?_
 refine zd E ?_; clear E a; intro a E
 refine zp E (zEc E rfl rfl ⟨_, rfl⟩) ?_; clear E a; intro a E
 refine zAh E rfl rfl dZ rfl Tryz.func71 rfl yZ rfl (try_ret (s.num n k) 72 _ [ptr b5, ptr b4, ptr b3] Tryz.func72 rfl yZ p s A [[(b5, cel [.int .i64 k] 3)], [(b4, cel [.int .u64 n] 27)], [(b3, cel [ptr p] 63)]] w hA S.hp (fun h => by simp [Wr.num, Wr.lay, h]) (fun h => num_body p s A w hA h b5 b4 b3 n k S.hp hr)) ?_
 rintro v8 w ⟨A', hA', hT⟩; clear E a; intro a E
 have S := S.all hT
 refine wpList_nil ?_
 refine end0 E rfl ?_
 exact ⟨_, rfl, A', hA', (S.only (Bs := [A']) sZ).tr⟩
theorem bytes_body (p : Nat) (s : Wr) (A D : zAl) (w0 : World) (hA : WrC 94 p s A) (he : s.e = 0) (bw bb : Nat) (bv : Value) (b : List UInt8) (hD : Rd D 1 bv b.length (byt b))
  (H : Hp w0 [A, [(bb, cel [bv] 24)], [(bw, cel [ptr p] 63)], D]) (hr : s.room ≤ 140737488355328) :
  Ret Tryz.prog 97 #[ptr bw, ptr bb] w0 fun u w' => ∃ (e' : Nat) (bs' : List UInt8) (A' : zAl), u = .int .i64 e' ∧ WrC 94 p { s with bs := bs' } A' ∧
   Trs w0 w' [A, [(bb, cel [bv] 24)], [(bw, cel [ptr p] 63)], D] [A', [(bb, cel [bv] 24)], [(bw, cel [ptr p] 63)], D] ∧ s.bytes b = { s with bs := bs', e := e' } := by
 have S := St.begin H
 refine zBt 6 Tryz.func97 rfl rfl dZ ?_; intro a E
 refine wp_seq_k ?_; intro K hK
 refine zAa ?_
 refine zd E ?_; clear E a; intro a E
 refine wpList_nil ?_
 refine zAb hK ?_; clear hK K
 refine wp_seq_k ?_; intro K hK
 refine zAa ?_
 iterate 2 (refine zd E ?_; clear E a; intro a E)
 refine zAh E rfl rfl dZ rfl Tryz.func75 rfl yZ rfl (put_ret p s A D bv b w0 hA hD (S.hp.sel sZ) hr) ?_
 rintro v5 w ⟨A', rfl, hA', hT⟩; clear E a; intro a E
 have S := S.call2 sZ hT
 refine zd E ?_; clear E a; intro a E
 refine wpList_nil ?_
 refine zAb hK ?_; clear hK K
 refine wp_ret ?_
 refine ret1 E rfl rfl ?_
 rw [s.putS_eq] at hA'
 refine ⟨_, rfl, _, _, A', rfl, hA', (S.only (Bs := [A', [(bb, cel [bv] 24)], [(bw, cel [ptr p] 63)], D]) sZ).tr, ?_⟩
 simp only [Wr.bytes, Wr.lay, he, if_false, ne_eq, not_true_eq_false]
 rw [s.putS_eq]
theorem bytes_ret (p : Nat) (s : Wr) (A D : zAl) (w0 : World) (hA : WrC 94 p s A) (bv : Value) (b : List UInt8) (hD : Rd D 1 bv b.length (byt b)) (H : Hp w0 [A, D]) (hr : s.room ≤ 140737488355328) :
  Ret Tryz.prog 66 #[ptr p, bv] w0 fun _ w' => ∃ A', WrC 94 p (s.bytes b) A' ∧ Trs w0 w' [A, D] [A', D] := by
 have S := St.begin H
 obtain ⟨ad, c, rfl⟩ := hD.slice
 refine zBt 7 Tryz.func66 rfl rfl dZ ?_; intro a E
 refine wp_seq_k ?_; intro K hK
 refine zAa ?_
 refine zAg rfl (zBx E S rfl rfl dZ rfl rfl ?_); clear E S a; intro a w b2 E S
 refine zAg rfl (zBx E S rfl rfl dZ rfl rfl ?_); clear E S a; intro a w b3 E S
 refine wpList_nil ?_
 refine zAb hK ?_; clear hK K
 have S := S.perm (Bs := [A, [(b3, cel [.slice ad b.length c] 24)], [(b2, cel [ptr p] 63)], D]) (zBa pZ (zBa pZ (zBa pZ (zBa pZ (zDc _)))))
 refine zAa ?_
 refine zd E ?_; clear E a; intro a E
 refine zp E (zEc E rfl rfl ⟨_, rfl⟩) ?_; clear E a; intro a E
 refine zAh E rfl rfl dZ rfl Tryz.func71 rfl yZ rfl (try_ret (s.bytes b) 97 _ [ptr b2, ptr b3] Tryz.func97 rfl yZ p s A [[(b3, cel [.slice ad b.length c] 24)], [(b2, cel [ptr p] 63)], D] w hA S.hp (fun h => by simp [Wr.bytes, Wr.lay, h]) (fun h => bytes_body p s A D w hA h b2 b3 _ b hD S.hp hr)) ?_
 rintro v6 w ⟨A', hA', hT⟩; clear E a; intro a E
 have S := S.all hT
 refine wpList_nil ?_
 refine end0 E rfl ?_
 exact ⟨_, rfl, A', hA', (S.only (Bs := [A', D]) sZ).tr⟩
theorem text_body (p : Nat) (s : Wr) (A : zAl) (w0 : World) (hA : WrC 94 p s A) (he : s.e = 0) (bw bb : Nat) (t : List UInt8)
  (H : Hp w0 [A, [(bb, cel [str t] 9)], [(bw, cel [ptr p] 63)]]) (hr : s.room ≤ 140737488355328) :
  Ret Tryz.prog 92 #[ptr bb, ptr bw] w0 fun u w' => ∃ (e' : Nat) (bs' : List UInt8) (A' : zAl), u = .int .i64 e' ∧ WrC 94 p { s with bs := bs' } A' ∧
   Trs w0 w' [A, [(bb, cel [str t] 9)], [(bw, cel [ptr p] 63)]] [A', [(bb, cel [str t] 9)], [(bw, cel [ptr p] 63)]] ∧ s.text t = { s with bs := bs', e := e' } := by
 have S := St.begin H
 refine zBt 14 Tryz.func92 rfl rfl dZ ?_; intro a E
 refine wp_seq_k ?_; intro K hK
 refine zAa ?_
 refine zd E ?_; clear E a; intro a E
 refine wpList_nil ?_
 refine zAb hK ?_; clear hK K
 iterate 2 (refine wp_seq_k ?_; intro K hK)
 refine zAa ?_
 iterate 3 (refine zd E ?_; clear E a; intro a E)
 refine wpList_nil ?_
 refine zAb hK ?_; clear hK K
 refine zAs E rfl (fun hb => ?_) (fun hb => ?_)
 ·replace hb := Nrm.nrm hb
  refine wp_seq_k ?_; intro K hK
  refine zAa ?_
  refine zd E ?_; clear E a; intro a E
  refine wpList_nil ?_
  refine zAb hK ?_; clear hK K
  refine wp_ret ?_
  refine zAn ?_; clear hK K
  refine ret1 E rfl rfl ?_
  exact ⟨_, rfl, 11, s.bs, A, rfl, hA, S.tr, by simp [Wr.text, Wr.lay, textE, he, show 65535 < t.length by omega]⟩
 ·replace hb := Nrm.nrm hb
  refine wp_skip ?_
  refine zAb hK ?_; clear hK K
  refine wp_seq_k ?_; intro K hK
  refine zBg S (.ofL [(0, 0), (1, 0), (2, 0), (3, 0), (5, 0), (4, 1), (6, 1), (7, 3), (8, 2)]) yZ yZ ?_
  clear S; intro w S
  iterate 3 (refine zmd E ?_; clear E a; intro a E)
  refine zm E rfl (fun w h => by first | exact zAo E rfl rfl rfl rfl (by first | exact wu8 _ | exact zCz oZ | exact zCe oZ | exact w_in oZ | exact zBb oZ | exact rfl) | exact zBh E rfl rfl rfl rfl rfl (by assumption) (S.stab.at (by simp))) ?_; clear E a; intro a E
  refine zmd E ?_; clear E a; intro a E
  refine zBs E rfl rfl rfl dZ rfl Tryz.func74 rfl yZ rfl (zLn t.length 2 w oZ) ?_
  rintro v10 w ⟨g, rfl, hT⟩; clear E a; intro a E
  have S := S.fresh hT
  refine ⟨S.stab.sub (by first | (simp; done) | (simp +contextual; done) | (simp [*]; done)), ?_⟩
  refine zCu rfl rfl (zBu (by' := 1) E S rfl rfl dZ rfl rfl (buf_block (zAx t.length 2) oZ) pZ (src_str rfl t w) rfl rfl rfl rfl rfl rfl (by simp only [maxLen]; omega) oZ ?_); clear E S a; intro a w v12 C12 E S hB12; refine ⟨S.stab.sub (by first | (simp; done) | (simp +contextual; done) | (simp [*]; done)), ?_⟩
  obtain ⟨ad, c, rfl⟩ := hB12.slice
  refine zFs E rfl rfl rfl dZ rfl Tryz.func75 rfl yZ rfl (put_ret p s A C12 _ (zBj t.length 2 ++ t) w hA (by rw [List.length_append, zAx, zDa]; exact hB12.rd) (S.hp.sel sZ) hr) ?_
  rintro v13 w ⟨A', rfl, hA', hT⟩; clear E a; intro a E
  have S := S.call2 sZ hT
  refine zCg E rfl rfl rfl dZ (fun w => zCl E rfl rfl) ?_; clear E a; intro a E
  refine zBi ?_
  refine zAb hK ?_; clear hK K
  refine wp_ret ?_
  refine ret1 E rfl rfl ?_
  rw [s.putS_eq] at hA'
  refine ⟨_, rfl, _, _, A', rfl, hA', (S.only (Bs := [A', [(bb, cel [str t] 9)], [(bw, cel [ptr p] 63)]]) sZ).tr, ?_⟩
  simp only [Wr.text, Wr.lay, textE, he, show ¬ t.length > 65535 by omega, if_false, ne_eq, not_true_eq_false]
  rw [s.putS_eq]
theorem text_ret (p : Nat) (s : Wr) (A : zAl) (w0 : World) (hA : WrC 94 p s A) (t : List UInt8) (H : Hp w0 [A]) (hr : s.room ≤ 140737488355328) :
  Ret Tryz.prog 51 #[ptr p, str t] w0 fun _ w' => ∃ A', WrC 94 p (s.text t) A' ∧ Trs w0 w' [A] [A'] := by
 have S := St.begin H
 refine zBt 7 Tryz.func51 rfl rfl dZ ?_; intro a E
 refine wp_seq_k ?_; intro K hK
 refine zAa ?_
 refine zAg rfl (zBx E S rfl rfl dZ rfl rfl ?_); clear E S a; intro a w b2 E S
 refine zAg rfl (zBx E S rfl rfl dZ rfl rfl ?_); clear E S a; intro a w b3 E S
 refine wpList_nil ?_
 refine zAb hK ?_; clear hK K
 have S := S.perm (Bs := [A, [(b3, cel [str t] 9)], [(b2, cel [ptr p] 63)]]) (zBa pZ (zBa pZ (zBa pZ (zDc _))))
 refine zAa ?_
 refine zd E ?_; clear E a; intro a E
 refine zp E (zEc E rfl rfl ⟨_, rfl⟩) ?_; clear E a; intro a E
 refine zAh E rfl rfl dZ rfl Tryz.func71 rfl yZ rfl (try_ret (s.text t) 92 _ [ptr b3, ptr b2] Tryz.func92 rfl yZ p s A [[(b3, cel [str t] 9)], [(b2, cel [ptr p] 63)]] w hA S.hp (fun h => by simp [Wr.text, Wr.lay, h]) (fun h => text_body p s A w hA h b2 b3 t S.hp hr)) ?_
 rintro v6 w ⟨A', hA', hT⟩; clear E a; intro a E
 have S := S.all hT
 refine wpList_nil ?_
 refine end0 E rfl ?_
 exact ⟨_, rfl, A', hA', (S.only (Bs := [A']) sZ).tr⟩
theorem zKr (most : Int) (w0 : World) :
  Ret Tryz.prog 28 #[.int .i64 most] w0 fun u w' => ∃ p A, u = ptr p ∧ WrC 94 p ⟨most.toNat, [], 0⟩ A ∧ Trs w0 w' [] [A] := by
 have S := St.begin (w := w0) (As := []) ⟨by simp, by simp⟩
 refine zCd 7 Tryz.func28 rfl rfl dZ ?_; intro a E
 refine wp_seq_k ?_; intro K hK
 refine zAa ?_
 refine zd E ?_; clear E a; intro a E
 refine wpList_nil ?_
 refine zAb hK ?_; clear hK K
 refine wp_seq_k ?_; intro K hK
 refine zAa ?_
 refine zd E ?_; clear E a; intro a E
 refine zp E (rn_max E rfl rfl rfl) ?_; clear E a; intro a E
 refine zp E (zBp (cells := [_, _, _]) E rfl rfl rfl) ?_; clear E a; intro a E
 refine zAg rfl (zBx E S rfl rfl dZ rfl rfl ?_); clear E S a; intro a w b6 E S
 refine zd E ?_; clear E a; intro a E
 refine wpList_nil ?_
 refine zAb hK ?_; clear hK K
 refine wp_ret ?_
 refine ret1 E rfl rfl ?_
 exact ⟨_, rfl, b6, _, rfl, ⟨.slice none 0 0, [], by simp only [List.append_nil, Int.toNat_eq_max, Int.max_comm]; rfl, Buf.nil _ _⟩, S.tr⟩
theorem done_ret (p : Nat) (s : Wr) (A : zAl) (w0 : World) (hA : WrC 94 p s A) (H : Hp w0 [A]) (hr : s.bs.length ≤ 140737488355328) :
  Ret Tryz.prog 29 #[ptr p] w0 fun u w' => (s.e ≠ 0 ∧ u = .tuple #[.slice none 0 0, .int .i64 s.e] ∧ Trs w0 w' [A] [A]) ∨
   (s.e = 0 ∧ ∃ g, u = .tuple #[.slice (some ⟨g, 0, none⟩) s.bs.length s.bs.length, .int .i64 0] ∧ Trs w0 w' [A] [[(g, cel (byt s.bs) 5)], A]) := by
 obtain ⟨v, C, hAe, hB⟩ := hA
 obtain ⟨ad, c, rfl⟩ := hB.slice
 have S := St.begin H
 have S := (by rw [hAe] at S; exact S.split : St w0 _ w0 ([(p, cel [.int .i64 s.room, .slice ad s.bs.length c, .int .i64 s.e] 94)] :: C :: _))
 refine zCd 18 Tryz.func29 rfl rfl dZ ?_; intro a E
 refine wp_seq_k ?_; intro K hK
 refine zAa ?_
 iterate 2 (refine zd E ?_; clear E a; intro a E)
 refine wpList_nil ?_
 refine zAb hK ?_; clear hK K
 iterate 2 (refine wp_seq_k ?_; intro K hK)
 refine zAa ?_
 iterate 2 (refine zd E ?_; clear E a; intro a E)
 refine zp E (by first | exact zAc (q := 2) E rfl rfl rfl | exact zAd (q := 2) E rfl rfl rfl) ?_; clear E a; intro a E
 iterate 2 (refine zd E ?_; clear E a; intro a E)
 refine wpList_nil ?_
 refine zAb hK ?_; clear hK K
 refine zAs E rfl (fun hb => ?_) (fun hb => ?_)
 ·replace hb := Nrm.nrm hb
  refine wp_seq_k ?_; intro K hK
  refine zBg S (.ofL [(0, 0), (1, 0), (2, 0), (3, 0), (4, 0), (5, 0)]) yZ yZ ?_
  clear S; intro w S
  iterate 2 (refine zmd E ?_; clear E a; intro a E)
  refine zm E rfl (fun w h => by first | exact zAc (q := 2) E rfl rfl rfl | exact zAd (q := 2) E rfl rfl rfl) ?_; clear E a; intro a E
  iterate 3 (refine zmd E ?_; clear E a; intro a E)
  refine zBi ?_
  refine zAb hK ?_; clear hK K
  refine wp_ret ?_
  refine zAn ?_; clear hK K
  refine ret2 E rfl rfl rfl ?_
  have S := S.join
  rw [← hAe] at S
  exact ⟨_, rfl, .inl ⟨by omega, rfl, S.tr⟩⟩
 ·replace hb := Nrm.nrm hb
  refine wp_skip ?_
  refine zAb hK ?_; clear hK K
  refine wp_seq_k ?_; intro K hK
  refine zAa ?_
  iterate 2 (refine zd E ?_; clear E a; intro a E)
  refine zp E (by first | exact zAc (q := 1) E rfl rfl rfl | exact zAd (q := 1) E rfl rfl rfl) ?_; clear E a; intro a E
  refine zd E ?_; clear E a; intro a E
  refine zAh E rfl rfl dZ rfl Tryz.func70 rfl yZ rfl (zIj C _ s.bs _ hB.rd (S.hp.sel sZ) oZ) ?_
  rintro v17 w ⟨g, rfl, hT⟩; clear E a; intro a E
  have S := S.call2 sZ hT
  iterate 2 (refine zd E ?_; clear E a; intro a E)
  refine wpList_nil ?_
  refine zAb hK ?_; clear hK K
  refine wp_ret ?_
  refine ret2 E rfl rfl rfl ?_
  have S := S.gather (A := [(p, _)]) (B := C) pZ pZ
  rw [← hAe] at S
  exact ⟨_, rfl, .inr ⟨by omega, g, rfl, (S.only (Bs := [_, A]) (zBa pk2 (zBa pk1 sZ))).tr⟩⟩
end Go.Proofs.YtbogecljkaimdaaGreatDoor
namespace Go.Proofs.YtbogecljkaimdaaGreatDoor
open Go.Sl
set_option maxRecDepth 10000
def RdC (T : TypeId) (p : Nat) (s : Rdr) (A : zAl) : Prop :=
 s.at_ ≤ s.bs.length ∧ s.bs.length ≤ 140737488355328 ∧
 ∃ ad c C, A = [(p, cel [.slice ad s.bs.length c, .int .i64 s.at_, .int .i64 s.e] T)] ++ C ∧ s.bs.length ≤ c ∧ Rd C 1 (.slice ad s.bs.length c) s.bs.length (byt s.bs)
theorem zKs (D : zAl) (v : Value) (bs : List UInt8) (w0 : World) (h : Rd D 1 v bs.length (byt bs)) (H : Hp w0 [D]) (hl : bs.length ≤ 140737488355328) :
  Ret Tryz.prog 43 #[v] w0 fun u w' => ∃ p A, u = ptr p ∧ RdC 108 p ⟨bs, 0, 0⟩ A ∧ Trs w0 w' [D] [A, D] := by
 have S := St.begin H
 refine zCd 7 Tryz.func43 rfl rfl dZ ?_; intro a E
 refine wp_seq_k ?_; intro K hK
 refine zAa ?_
 refine zd E ?_; clear E a; intro a E
 refine wpList_nil ?_
 refine zAb hK ?_; clear hK K
 refine wp_seq_k ?_; intro K hK
 refine zAa ?_
 refine zd E ?_; clear E a; intro a E
 refine zAh E rfl rfl dZ rfl Tryz.func70 rfl yZ rfl (zIj D v bs w0 h H oZ) ?_
 rintro v4 w ⟨g, rfl, hT⟩; clear E a; intro a E
 have S := S.all hT
 refine zp E (zBp (cells := [_, _, _]) E rfl rfl rfl) ?_; clear E a; intro a E
 refine zAg rfl (zBx E S rfl rfl dZ rfl rfl ?_); clear E S a; intro a w b6 E S
 refine zd E ?_; clear E a; intro a E
 refine wpList_nil ?_
 refine zAb hK ?_; clear hK K
 refine wp_ret ?_
 refine ret1 E rfl rfl ?_
 have S := S.gather (A := [(b6, _)]) (B := [(g, _)]) pZ pZ
 exact ⟨_, rfl, b6, _, rfl, ⟨Nat.zero_le _, hl, _, _, _, rfl, Nat.le_refl _, rd_block rfl (by simp only; omega) _⟩, S.tr⟩
theorem zJc (p : Nat) (s : Rdr) (A : zAl) (w0 : World) (hA : RdC 108 p s A) (H : Hp w0 [A]) (n behind : Nat) (hn : n ≤ 9223372036854775807) (hb : behind ≤ 8) :
    Ret Tryz.prog 89 #[ptr p, .int .i64 n, .int .i64 behind] w0 fun u w' => Trs w0 w' [A] [A] ∧
      ((s.bs.length < s.at_ + behind + n ∧ u = .tuple #[.slice none 0 0, .bool false]) ∨
       (s.at_ + behind + n ≤ s.bs.length ∧ ∃ ad c, u = .tuple #[.slice ad n c, .bool true] ∧ Rd A 1 (.slice ad n c) n (byt (s.cut n behind)))) := by
  obtain ⟨hat, hlen, ad, c, C, hAe, hc, hR⟩ := hA
  have S := St.begin H
  have S := (by rw [hAe] at S; exact S.split : St w0 _ w0 ([(p, cel [.slice ad s.bs.length c, .int .i64 s.at_, .int .i64 s.e] 108)] :: C :: _))
  refine zEz 41 Tryz.func89 rfl rfl dZ ?_; intro a E
  refine wp_seq_k ?_; intro K hK
  refine zAa ?_
  iterate 2 (refine zd E ?_; clear E a; intro a E)
  refine wpList_nil ?_
  refine zAb hK ?_; clear hK K
  iterate 2 (refine wp_seq_k ?_; intro K hK)
  refine zBg S (.ofL [(0, 0), (1, 0), (2, 0), (3, 0), (4, 0), (5, 0), (6, 0), (7, 0), (8, 0), (9, 0), (10, 0), (11, 0), (12, 0), (13, 0)]) yZ yZ ?_
  clear S; intro w S
  iterate 3 (refine zmd E ?_; clear E a; intro a E)
  refine zm E rfl (fun w h => by first | exact zAc (q := 0) E rfl rfl rfl | exact zAd (q := 0) E rfl rfl rfl) ?_; clear E a; intro a E
  iterate 4 (refine zmd E ?_; clear E a; intro a E)
  refine zm E rfl (fun w h => by first | exact zAc (q := 1) E rfl rfl rfl | exact zAd (q := 1) E rfl rfl rfl) ?_; clear E a; intro a E
  refine zmd E ?_; clear E a; intro a E
  refine zm E rfl (fun w h => zCv E rfl rfl rfl (by first | exact ws1 oZ oZ | exact w_in oZ | exact zBb oZ | exact rfl)) ?_; clear E a; intro a E
  refine zmd E ?_; clear E a; intro a E
  refine zm E rfl (fun w h => zCv E rfl rfl rfl (by first | exact ws1 oZ oZ | exact w_in oZ | exact zBb oZ | exact rfl)) ?_; clear E a; intro a E
  refine zmd E ?_; clear E a; intro a E
  refine zBi ?_
  refine zAb hK ?_; clear hK K
  refine zAs E rfl (fun hb => ?_) (fun hb => ?_)
  · replace hb := Nrm.nrm hb
    have S := S.join; rw [← hAe] at S
    refine wp_seq_k ?_; intro K hK
    refine zAa ?_
    iterate 2 (refine zd E ?_; clear E a; intro a E)
    refine wpList_nil ?_
    refine zAb hK ?_; clear hK K
    refine wp_ret ?_
    refine zAn ?_; clear hK K
    refine ret2 E rfl rfl rfl ?_
    exact ⟨_, rfl, S.tr, .inl ⟨by omega, rfl⟩⟩
  · replace hb := Nrm.nrm hb
    refine wp_skip ?_
    refine zAb hK ?_; clear hK K
    refine wp_seq_k ?_; intro K hK
    refine zBg S (.ofL [(0, 0), (1, 0), (2, 0), (3, 0), (4, 0), (5, 0), (6, 0), (7, 0), (8, 0), (9, 0), (10, 0), (11, 0), (12, 0), (13, 0), (14, 0), (15, 0), (16, 0), (17, 0), (18, 0), (19, 0), (20, 0)]) yZ yZ ?_
    clear S; intro w S
    iterate 2 (refine zmd E ?_; clear E a; intro a E)
    refine zm E rfl (fun w h => by first | exact zAc (q := 0) E rfl rfl rfl | exact zAd (q := 0) E rfl rfl rfl) ?_; clear E a; intro a E
    iterate 3 (refine zmd E ?_; clear E a; intro a E)
    refine zm E rfl (fun w h => by first | exact zAc (q := 1) E rfl rfl rfl | exact zAd (q := 1) E rfl rfl rfl) ?_; clear E a; intro a E
    iterate 2 (refine zmd E ?_; clear E a; intro a E)
    refine zm E rfl (fun w h => zBc E rfl rfl rfl (by first | exact wa1 oZ | exact w_in oZ | exact zBb oZ | exact rfl)) ?_; clear E a; intro a E
    iterate 2 (refine zmd E ?_; clear E a; intro a E)
    refine zm E rfl (fun w h => by first | exact zAc (q := 1) E rfl rfl rfl | exact zAd (q := 1) E rfl rfl rfl) ?_; clear E a; intro a E
    iterate 2 (refine zmd E ?_; clear E a; intro a E)
    refine zm E rfl (fun w h => zBc E rfl rfl rfl (by first | exact wa1 oZ | exact w_in oZ | exact zBb oZ | exact rfl)) ?_; clear E a; intro a E
    refine zmd E ?_; clear E a; intro a E
    refine zm E rfl (fun w h => zBc E rfl rfl rfl (by first | exact wa1 oZ | exact w_in oZ | exact zBb oZ | exact rfl)) ?_; clear E a; intro a E
    refine zm E rfl (fun w h => zDi (s := 1) E rfl rfl rfl rfl rfl rfl rfl rfl oZ oZ) ?_; clear E a; intro a E
    obtain ⟨ad2, c2, hs2, hR2⟩ := hR.cut (lo := s.at_ + behind) (hi := s.at_ + behind + n) oZ oZ oZ
    rw [hs2] at E
    iterate 2 (refine zmd E ?_; clear E a; intro a E)
    refine zBi ?_
    refine zAb hK ?_; clear hK K
    refine wp_ret ?_
    refine ret2 E rfl rfl rfl ?_
    have S := S.join
    rw [← hAe] at S
    rw [Nat.mul_one, Nat.mul_one, show s.at_ + behind + n - (s.at_ + behind) = n by omega, zGd, zEs] at hR2
    rw [show s.at_ + behind + n - (s.at_ + behind) = n by omega]
    exact ⟨_, rfl, S.tr, .inr ⟨by omega, ad2, c2, rfl, hR2.sub (by rw [hAe]; exact fun x hx => List.mem_append_right _ hx)⟩⟩
theorem rtry_no (p : Nat) (s : Rdr) (A : zAl) (fv : Value) (w0 : World) (hA : RdC 108 p s A) (H : Hp w0 [A]) (he : s.e ≠ 0) :
  Ret Tryz.prog 87 #[ptr p, fv] w0 fun _ w' => w' = w0 := by
 obtain ⟨hat, hlen, ad, c, C, rfl, hR⟩ := hA
 have S := (St.begin H).split
 refine zBt 14 Tryz.func87 rfl rfl dZ ?_; intro a E
 refine wp_seq_k ?_; intro K hK
 refine zAa ?_
 iterate 2 (refine zd E ?_; clear E a; intro a E)
 refine zp E (by first | exact zAc (q := 2) E rfl rfl rfl | exact zAd (q := 2) E rfl rfl rfl) ?_; clear E a; intro a E
 iterate 2 (refine zd E ?_; clear E a; intro a E)
 refine wpList_nil ?_
 refine zAb hK ?_; clear hK K
 refine zAs E rfl (fun hb => ?_) (fun hb => ?_)
 ·replace hb := Nrm.nrm hb
  exfalso; omega
 ·replace hb := Nrm.nrm hb
  refine wp_skip ?_
  refine end0 E rfl ?_
  exact ⟨_, rfl, rfl⟩
theorem rtry_yes (s2 : Rdr) (X : List zAl → Prop) (f : FuncId) (fn : Func) (cap : List Value) (hf : Tryz.prog.funcs[f]? = some fn) (hfb : fn.body.isSome = true) (hfn : (fn.name == "runtime.NumGoroutine") = false)
  (p : Nat) (s : Rdr) (A : zAl) (Rs : List zAl) (w0 : World) (hA : RdC 108 p s A) (H : Hp w0 (A :: Rs)) (he : s.e = 0)
  (hc : Ret Tryz.prog f cap.toArray w0 fun u w' => ∃ (e' at' : Nat) (A' : zAl) (Rs' : List zAl), u = .int .i64 e' ∧ RdC 108 p { s with at_ := at' } A' ∧ Trs w0 w' (A :: Rs) (A' :: Rs') ∧ s2 = { s with at_ := at', e := e' } ∧ X Rs') :
  Ret Tryz.prog 87 #[ptr p, .func (.func f) #[] cap.toArray] w0 fun _ w' => ∃ (A' : zAl) (Rs' : List zAl), RdC 108 p s2 A' ∧ Trs w0 w' (A :: Rs) (A' :: Rs') ∧ X Rs' := by
 obtain ⟨hat, hlen, ad, c, C, rfl, hR⟩ := hA
 have S := (St.begin H).split
 refine zBt 14 Tryz.func87 rfl rfl dZ ?_; intro a E
 refine wp_seq_k ?_; intro K hK
 refine zAa ?_
 iterate 2 (refine zd E ?_; clear E a; intro a E)
 refine zp E (by first | exact zAc (q := 2) E rfl rfl rfl | exact zAd (q := 2) E rfl rfl rfl) ?_; clear E a; intro a E
 iterate 2 (refine zd E ?_; clear E a; intro a E)
 refine wpList_nil ?_
 refine zAb hK ?_; clear hK K
 refine zAs E rfl (fun hb => ?_) (fun hb => ?_)
 ·replace hb := Nrm.nrm hb
  refine zAa ?_
  iterate 2 (refine zd E ?_; clear E a; intro a E)
  refine zCh E rfl rfl dZ rfl rfl hf hfb hfn rfl (hc) ?_
  rintro v11 w ⟨e', at', A', Rs', rfl, ⟨hat', hlen', ad', c', C', rfl, hR'⟩, hT, rfl, hX⟩; clear E a; intro a E
  have S := ((St.begin H).all hT).split
  refine zd E ?_; clear E a; intro a E
  refine zp E (by first | exact zAc (q := 2) E rfl rfl rfl | exact zAd (q := 2) E rfl rfl rfl) ?_; clear E a; intro a E
  refine zAg rfl (zAv E S rfl rfl rfl rfl rfl rfl pZ (by first | exact Nat.le_of_ble_eq_true rfl | (simp; done) | (simp; omega)) ?_); clear E S a; intro a w E S; try dsimp only [List.set] at S
  refine wpList_nil ?_
  refine end0 E rfl ?_
  exact ⟨_, rfl, _, Rs', ⟨hat', hlen', ad', c', C', rfl, hR'⟩, S.join.tr, hX⟩
 ·replace hb := Nrm.nrm hb
  exfalso; omega
theorem rtry_ret (s2 : Rdr) (X : List zAl → Prop) (f : FuncId) (fn : Func) (cap : List Value) (hf : Tryz.prog.funcs[f]? = some fn) (hfb : fn.body.isSome = true) (hfn : (fn.name == "runtime.NumGoroutine") = false)
  (p : Nat) (s : Rdr) (A : zAl) (Rs : List zAl) (w0 : World) (hA : RdC 108 p s A) (H : Hp w0 (A :: Rs)) (h0 : s.e ≠ 0 → s2 = s ∧ X Rs)
  (hc : s.e = 0 → Ret Tryz.prog f cap.toArray w0 fun u w' => ∃ (e' at' : Nat) (A' : zAl) (Rs' : List zAl), u = .int .i64 e' ∧ RdC 108 p { s with at_ := at' } A' ∧ Trs w0 w' (A :: Rs) (A' :: Rs') ∧ s2 = { s with at_ := at', e := e' } ∧ X Rs') :
  Ret Tryz.prog 87 #[ptr p, .func (.func f) #[] cap.toArray] w0 fun _ w' => ∃ (A' : zAl) (Rs' : List zAl), RdC 108 p s2 A' ∧ Trs w0 w' (A :: Rs) (A' :: Rs') ∧ X Rs' := by
 by_cases he : s.e = 0
 ·exact rtry_yes s2 X f fn cap hf hfb hfn p s A Rs w0 hA H he (hc he)
 ·refine (rtry_no p s A _ w0 hA (H.sel (Rs := Rs) (List.Perm.refl _)) he).mono ?_
  rintro _ w' rfl
  exact ⟨A, Rs, by rw [(h0 he).1]; exact hA, Trs.refl _ _, (h0 he).2⟩
theorem rnum_body (p : Nat) (s : Rdr) (A : zAl) (w0 : World) (hA : RdC 108 p s A) (he : s.e = 0) (bk bp bo : Nat) (k : Int)
  (H : Hp w0 [A, [(bk, cel [.int .i64 k] 3)], [(bp, cel [ptr p] 79)], [(bo, cel [.int .u64 0] 27)]]) :
  Ret Tryz.prog 88 #[ptr bk, ptr bp, ptr bo] w0 fun u w' => ∃ (e' at' : Nat) (A' : zAl) (Rs' : List zAl), u = .int .i64 e' ∧ RdC 108 p { s with at_ := at' } A' ∧
   Trs w0 w' [A, [(bk, cel [.int .i64 k] 3)], [(bp, cel [ptr p] 79)], [(bo, cel [.int .u64 0] 27)]] (A' :: Rs') ∧ (s.num k).2 = { s with at_ := at', e := e' } ∧ ∃ L, Rs'.Perm ([(bo, cel [.int .u64 (s.num k).1] 27)] :: L) := by
 have S := St.begin H
 refine zEz 30 Tryz.func88 rfl rfl dZ ?_; intro a E
 refine wp_seq_k ?_; intro K hK
 refine zAa ?_
 refine zd E ?_; clear E a; intro a E
 refine wpList_nil ?_
 refine zAb hK ?_; clear hK K
 iterate 2 (refine wp_seq_k ?_; intro K hK)
 refine zAa ?_
 iterate 3 (refine zd E ?_; clear E a; intro a E)
 refine zAj E (t := 8) rfl (fun hb8 => ?_) (fun hb8 => ?_)
 ·have hb8n := hb8; replace hb8n := Nrm.nrm hb8n
  iterate 2 (refine zn E hb8 ?_; clear E a; intro a E)
  refine zp E (zAf E rfl rfl hb8 rfl) ?_; clear E a; intro a E
  refine wpList_nil ?_
  refine zAb hK ?_; clear hK K
  refine zBo E rfl rfl ?_
  refine wp_seq_k ?_; intro K hK
  refine zAa ?_
  refine zd E ?_; clear E a; intro a E
  refine wpList_nil ?_
  refine zAb hK ?_; clear hK K
  refine wp_ret ?_
  refine zAn ?_; clear hK K
  refine ret1 E rfl rfl ?_
  have hv : s.num k = (0, { s with e := 1 }) := by simp [Rdr.num, he, show k < 1 ∨ 8 < k by omega]
  exact ⟨_, rfl, 1, s.at_, A, _, rfl, hA, (S.only (Bs := [A, [(bo, cel [.int .u64 0] 27)]]) sZ).tr, by rw [hv], [], by first | (rw [hv]; done) | (rw [hv]; exact pk1)⟩
 ·have hb8n := hb8; replace hb8n := Nrm.nrm hb8n
  iterate 2 (refine zyd E hb8 ?_; clear E a; intro a E)
  refine zp E (zAe E rfl rfl hb8 rfl) ?_; clear E a; intro a E
  refine wpList_nil ?_
  refine zAb hK ?_; clear hK K
  refine zAs E rfl (fun hb => ?_) (fun hb => ?_)
  ·replace hb := Nrm.nrm hb
   refine wp_seq_k ?_; intro K hK
   refine zAa ?_
   refine zd E ?_; clear E a; intro a E
   refine wpList_nil ?_
   refine zAb hK ?_; clear hK K
   refine wp_ret ?_
   refine zAn ?_; clear hK K
   refine ret1 E rfl rfl ?_
   have hv : s.num k = (0, { s with e := 1 }) := by simp [Rdr.num, he, show k < 1 ∨ 8 < k by omega]
   exact ⟨_, rfl, 1, s.at_, A, _, rfl, hA, (S.only (Bs := [A, [(bo, cel [.int .u64 0] 27)]]) sZ).tr, by rw [hv], [], by first | (rw [hv]; done) | (rw [hv]; exact pk1)⟩
  ·replace hb := Nrm.nrm hb
   refine wp_skip ?_
   refine zAb hK ?_; clear hK K
   refine wp_seq_k ?_; intro K hK
   obtain ⟨kn, rfl⟩ : ∃ kn : Nat, k = kn := ⟨k.toNat, by omega⟩
   refine zAa ?_
   iterate 2 (refine zd E ?_; clear E a; intro a E)
   refine zAh E rfl rfl dZ rfl Tryz.func89 rfl yZ rfl (zJc p s A _ hA (S.hp.sel sZ) kn 0 oZ oZ) ?_
   rintro v15 w ⟨hT, hres⟩; clear E a; intro a E
   have S := S.call1 sZ hT
   rcases hres with ⟨hlt, rfl⟩ | ⟨hle, adb, cb, rfl, hR⟩
   ·skip
    iterate 5 (refine zd E ?_; clear E a; intro a E)
    refine wpList_nil ?_
    refine zAb hK ?_; clear hK K
    iterate 2 (refine wp_seq_k ?_; intro K hK)
    refine zAa ?_
    iterate 2 (refine zd E ?_; clear E a; intro a E)
    refine wpList_nil ?_
    refine zAb hK ?_; clear hK K
    refine zBo E rfl (rfl) ?_
    refine wp_seq_k ?_; intro K hK
    refine zAa ?_
    refine zd E ?_; clear E a; intro a E
    refine wpList_nil ?_
    refine zAb hK ?_; clear hK K
    refine wp_ret ?_
    refine zAn ?_; clear hK K
    refine ret1 E rfl rfl ?_
    have hv : s.num kn = (0, { s with e := 10 }) := by simp [Rdr.num, he, show ¬ ((kn : Int) < 1 ∨ 8 < (kn : Int)) by omega, show s.bs.length < s.at_ + kn by omega]
    exact ⟨_, rfl, 10, s.at_, A, _, rfl, hA, (S.only (Bs := [A, [(bo, cel [.int .u64 0] 27)]]) sZ).tr, by rw [hv], [], by first | (rw [hv]; done) | (rw [hv]; exact pk1)⟩
   ·skip
    iterate 5 (refine zd E ?_; clear E a; intro a E)
    refine wpList_nil ?_
    refine zAb hK ?_; clear hK K
    iterate 2 (refine wp_seq_k ?_; intro K hK)
    refine zAa ?_
    iterate 2 (refine zd E ?_; clear E a; intro a E)
    refine wpList_nil ?_
    refine zAb hK ?_; clear hK K
    refine zCq E rfl (rfl) ?_
    refine wp_skip ?_
    refine zAb hK ?_; clear hK K
    refine wp_seq_k ?_; intro K hK
    refine zAa ?_
    refine zd E ?_; clear E a; intro a E
    refine zAh E rfl rfl dZ rfl Tryz.func73 rfl yZ rfl (zJu A _ (s.cut kn 0) _ (by rw [s.cut_length kn 0 hle]; exact hR) (S.stab.at mZ) (by rw [s.cut_length kn 0 hle]; omega)) ?_
    rintro v21 w ⟨rfl, rfl⟩; clear E a; intro a E
    refine zAg rfl (zAv E S rfl rfl rfl rfl rfl rfl pZ (by first | exact Nat.le_of_ble_eq_true rfl | (simp; done) | (simp; omega)) ?_); clear E S a; intro a w E S; try dsimp only [List.set] at S
    refine wpList_nil ?_
    obtain ⟨hat, hlen, ad, c, C, rfl, hc, hRC⟩ := hA
    have S := (S.perm (Bs := [[(p, cel [.slice ad s.bs.length c, .int .i64 s.at_, .int .i64 s.e] 108)] ++ C, _, _, _]) (zBa pZ (zBa pZ (zBa pZ (zBa pZ (zDc _)))))).split
    refine zAb hK ?_; clear hK K
    refine wp_seq_k ?_; intro K hK
    refine zBg S (.ofL [(0, 0), (1, 0), (2, 0), (3, 0), (4, 0), (5, 0), (6, 0), (7, 0), (8, 3)]) yZ yZ ?_
    clear S; intro w S
    iterate 2 (refine zmd E ?_; clear E a; intro a E)
    refine zm E rfl (fun w h => by first | exact zAc (q := 1) E rfl rfl rfl | exact zAd (q := 1) E rfl rfl rfl) ?_; clear E a; intro a E
    iterate 2 (refine zmd E ?_; clear E a; intro a E)
    refine zm E rfl (fun w h => zBc E rfl rfl rfl (by first | exact wa1 oZ | exact w_in oZ | exact zBb oZ | exact rfl)) ?_; clear E a; intro a E
    refine zmd E ?_; clear E a; intro a E
    refine zm E rfl (fun w h => by first | exact zAc (q := 1) E rfl rfl rfl | exact zAd (q := 1) E rfl rfl rfl) ?_; clear E a; intro a E
    refine zCb rfl rfl (zAv E S rfl rfl rfl rfl rfl rfl pZ (by first | exact Nat.le_of_ble_eq_true rfl | (simp; done) | (simp; omega)) ?_); clear E S a; intro a w E S; try dsimp only [List.set] at S
    refine zBi ?_
    refine zAb hK ?_; clear hK K
    refine wp_seq_k ?_; intro K hK
    replace E := E.keep (e' := [(3, _)]) (kE1 rfl)
    refine zAa ?_
    refine zd E ?_; clear E a; intro a E
    refine wpList_nil ?_
    refine zAb hK ?_; clear hK K
    refine wp_ret ?_
    refine ret1 E rfl rfl ?_
    have hv : s.num kn = (zBv (s.cut kn 0), { s with at_ := s.at_ + kn }) := by simp [Rdr.num, he, show ¬ ((kn : Int) < 1 ∨ 8 < (kn : Int)) by omega, show ¬ s.bs.length < s.at_ + kn by omega]
    exact ⟨_, rfl, 0, s.at_ + kn, _, _, rfl, ⟨by simp only; omega, hlen, ad, c, C, rfl, hc, hRC⟩, S.join.tr, by rw [hv, ← he], _, by first | (rw [hv]; done) | (rw [hv]; exact pk1)⟩
theorem zDm (p : Nat) (s : Rdr) (A : zAl) (w0 : World) (hA : RdC 108 p s A) (H : Hp w0 [A]) (k : Int) :
  Ret Tryz.prog 44 #[ptr p, .int .i64 k] w0 fun u w' => ∃ A', u = .int .u64 (s.num k).1 ∧ RdC 108 p (s.num k).2 A' ∧ Trs w0 w' [A] [A'] := by
 have S := St.begin H
 refine zBt 10 Tryz.func44 rfl rfl dZ ?_; intro a E
 refine wp_seq_k ?_; intro K hK
 refine zAa ?_
 refine zAg rfl (zBx E S rfl rfl dZ rfl rfl ?_); clear E S a; intro a w b2 E S
 refine zAg rfl (zBx E S rfl rfl dZ rfl rfl ?_); clear E S a; intro a w b3 E S
 refine zd E ?_; clear E a; intro a E
 refine wpList_nil ?_
 refine zAb hK ?_; clear hK K
 refine wp_seq_k ?_; intro K hK
 refine zAa ?_
 refine zAg rfl (zBf E S rfl rfl dZ rfl rfl rfl ?_); clear E S a; intro a w b5 E S
 refine wpList_nil ?_
 refine zAb hK ?_; clear hK K
 refine wp_seq_k ?_; intro K hK
 have S := S.perm (Bs := [A, [(b3, cel [.int .i64 k] 3)], [(b2, cel [ptr p] 79)], [(b5, cel [.int .u64 0] 27)]]) (zBa pZ (zBa pZ (zBa pZ (zBa pZ (zDc _)))))
 refine zAa ?_
 refine zd E ?_; clear E a; intro a E
 refine zp E (zEc E rfl rfl ⟨_, rfl⟩) ?_; clear E a; intro a E
 refine zAh E rfl rfl dZ rfl Tryz.func87 rfl yZ rfl (rtry_ret (s.num k).2 (fun Rs' => ∃ L, Rs'.Perm ([(b5, cel [.int .u64 (s.num k).1] 27)] :: L)) 88 _ [ptr b3, ptr b2, ptr b5] Tryz.func88 rfl yZ p s A [[(b3, cel [.int .i64 k] 3)], [(b2, cel [ptr p] 79)], [(b5, cel [.int .u64 0] 27)]] w hA S.hp (fun h => ⟨by simp [Rdr.num, h], _, by simp only [Rdr.num, h, if_true, ne_eq, not_false_eq_true]; exact pk3⟩) (fun h => rnum_body p s A w hA h b3 b2 b5 k S.hp)) ?_
 rintro v8 w ⟨A', Rs', hA', hT, L, hL⟩; clear E a; intro a E
 have S := (S.all hT).perm (hL.cons A')
 refine wpList_nil ?_
 refine zAb hK ?_; clear hK K
 refine wp_seq_k ?_; intro K hK
 refine zAa ?_
 iterate 2 (refine zd E ?_; clear E a; intro a E)
 refine wpList_nil ?_
 refine zAb hK ?_; clear hK K
 refine wp_ret ?_
 refine ret1 E rfl rfl ?_
 exact ⟨_, rfl, A', rfl, hA', (S.only (Bs := [A']) sZ).tr⟩
theorem rbytes_body (p : Nat) (s : Rdr) (A : zAl) (w0 : World) (hA : RdC 108 p s A) (he : s.e = 0) (bk bp bo : Nat) (k : Int) (hk : k ≤ 9223372036854775807)
  (H : Hp w0 [A, [(bk, cel [.int .i64 k] 3)], [(bp, cel [ptr p] 79)], [(bo, cel [.slice none 0 0] 24)], []]) :
  Ret Tryz.prog 98 #[ptr bk, ptr bp, ptr bo] w0 fun u w' => ∃ (e' at' : Nat) (A' : zAl) (Rs' : List zAl), u = .int .i64 e' ∧ RdC 108 p { s with at_ := at' } A' ∧
   Trs w0 w' [A, [(bk, cel [.int .i64 k] 3)], [(bp, cel [ptr p] 79)], [(bo, cel [.slice none 0 0] 24)], []] (A' :: Rs') ∧ (s.bytes k).2 = { s with at_ := at', e := e' } ∧
   ∃ v C L, Rs'.Perm ([(bo, cel [v] 24)] :: C :: L) ∧ Buf C 5 1 v (s.bytes k).1.length (byt (s.bytes k).1) := by
 have S := St.begin H
 refine zEz 26 Tryz.func98 rfl rfl dZ ?_; intro a E
 refine wp_seq_k ?_; intro K hK
 refine zAa ?_
 refine zd E ?_; clear E a; intro a E
 refine wpList_nil ?_
 refine zAb hK ?_; clear hK K
 iterate 2 (refine wp_seq_k ?_; intro K hK)
 refine zAa ?_
 iterate 2 (refine zd E ?_; clear E a; intro a E)
 refine wpList_nil ?_
 refine zAb hK ?_; clear hK K
 refine zAs E rfl (fun hb => ?_) (fun hb => ?_)
 ·replace hb := Nrm.nrm hb
  refine wp_seq_k ?_; intro K hK
  refine zAa ?_
  refine zd E ?_; clear E a; intro a E
  refine wpList_nil ?_
  refine zAb hK ?_; clear hK K
  refine wp_ret ?_
  refine zAn ?_; clear hK K
  refine ret1 E rfl rfl ?_
  have hv : s.bytes k = ([], { s with e := 1 }) := by simp [Rdr.bytes, he, show k < 0 by omega]
  exact ⟨_, rfl, 1, s.at_, A, _, rfl, hA, (S.only (Bs := [A, [(bo, cel [.slice none 0 0] 24)], []]) sZ).tr, by rw [hv], _, [], [], pk1, by rw [hv]; exact Buf.nil _ _⟩
 ·replace hb := Nrm.nrm hb
  refine wp_skip ?_
  refine zAb hK ?_; clear hK K
  refine wp_seq_k ?_; intro K hK
  obtain ⟨kn, rfl⟩ : ∃ kn : Nat, k = kn := ⟨k.toNat, by omega⟩
  refine zAa ?_
  iterate 2 (refine zd E ?_; clear E a; intro a E)
  refine zAh E rfl rfl dZ rfl Tryz.func89 rfl yZ rfl (zJc p s A _ hA (S.hp.sel sZ) kn 0 oZ oZ) ?_
  rintro v11 w ⟨hT, hres⟩; clear E a; intro a E
  have S := S.call1 sZ hT
  rcases hres with ⟨hlt, rfl⟩ | ⟨hle, adb, cb, rfl, hR⟩
  ·skip
   iterate 5 (refine zd E ?_; clear E a; intro a E)
   refine wpList_nil ?_
   refine zAb hK ?_; clear hK K
   iterate 2 (refine wp_seq_k ?_; intro K hK)
   refine zAa ?_
   iterate 2 (refine zd E ?_; clear E a; intro a E)
   refine wpList_nil ?_
   refine zAb hK ?_; clear hK K
   refine zBo E rfl (rfl) ?_
   refine wp_seq_k ?_; intro K hK
   refine zAa ?_
   refine zd E ?_; clear E a; intro a E
   refine wpList_nil ?_
   refine zAb hK ?_; clear hK K
   refine wp_ret ?_
   refine zAn ?_; clear hK K
   refine ret1 E rfl rfl ?_
   have hv : s.bytes kn = ([], { s with e := 10 }) := by simp [Rdr.bytes, he, show s.bs.length < s.at_ + kn by omega, show ¬ (kn : Int) < 0 by omega]
   exact ⟨_, rfl, 10, s.at_, A, _, rfl, hA, (S.only (Bs := [A, [(bo, cel [.slice none 0 0] 24)], []]) sZ).tr, by rw [hv], _, [], [], pk1, by rw [hv]; exact Buf.nil _ _⟩
  ·skip
   iterate 5 (refine zd E ?_; clear E a; intro a E)
   refine wpList_nil ?_
   refine zAb hK ?_; clear hK K
   iterate 2 (refine wp_seq_k ?_; intro K hK)
   refine zAa ?_
   iterate 2 (refine zd E ?_; clear E a; intro a E)
   refine wpList_nil ?_
   refine zAb hK ?_; clear hK K
   refine zCq E rfl (rfl) ?_
   refine wp_skip ?_
   refine zAb hK ?_; clear hK K
   refine wp_seq_k ?_; intro K hK
   have hlen := hA.2.1
   refine zAa ?_
   refine zd E ?_; clear E a; intro a E
   refine zAh E rfl rfl dZ rfl Tryz.func70 rfl yZ rfl (zIj A _ (s.cut kn 0) _ (by rw [s.cut_length kn 0 hle]; exact hR) (S.hp.sel sZ) (by rw [s.cut_length kn 0 hle]; omega)) ?_
   rintro v17 w ⟨g, rfl, hT⟩; clear E a; intro a E
   have S := S.call2 sZ hT
   refine zAg rfl (zAv E S rfl rfl rfl rfl rfl rfl pZ (by first | exact Nat.le_of_ble_eq_true rfl | (simp; done) | (simp; omega)) ?_); clear E S a; intro a w E S; try dsimp only [List.set] at S
   refine wpList_nil ?_
   obtain ⟨hat, hlen, ad, c, C, rfl, hc, hRC⟩ := hA
   have S := (S.only (Bs := [[(p, cel [.slice ad s.bs.length c, .int .i64 s.at_, .int .i64 s.e] 108)] ++ C, [(bk, cel [.int .i64 kn] 3)], [(bp, cel [ptr p] 79)], [(bo, _)], [(g, _)]]) sZ).split
   refine zAb hK ?_; clear hK K
   refine wp_seq_k ?_; intro K hK
   refine zBg S (.ofL [(0, 0), (1, 0), (2, 0), (3, 0), (4, 0), (5, 0), (6, 0), (7, 0), (8, 3)]) yZ yZ ?_
   clear S; intro w S
   iterate 2 (refine zmd E ?_; clear E a; intro a E)
   refine zm E rfl (fun w h => by first | exact zAc (q := 1) E rfl rfl rfl | exact zAd (q := 1) E rfl rfl rfl) ?_; clear E a; intro a E
   iterate 2 (refine zmd E ?_; clear E a; intro a E)
   refine zm E rfl (fun w h => zBc E rfl rfl rfl (by first | exact wa1 oZ | exact w_in oZ | exact zBb oZ | exact rfl)) ?_; clear E a; intro a E
   refine zmd E ?_; clear E a; intro a E
   refine zm E rfl (fun w h => by first | exact zAc (q := 1) E rfl rfl rfl | exact zAd (q := 1) E rfl rfl rfl) ?_; clear E a; intro a E
   refine zCb rfl rfl (zAv E S rfl rfl rfl rfl rfl rfl pZ (by first | exact Nat.le_of_ble_eq_true rfl | (simp; done) | (simp; omega)) ?_); clear E S a; intro a w E S; try dsimp only [List.set] at S
   refine zBi ?_
   refine zAb hK ?_; clear hK K
   refine wp_seq_k ?_; intro K hK
   replace E := E.keep (e' := [(3, _)]) (kE1 rfl)
   refine zAa ?_
   refine zd E ?_; clear E a; intro a E
   refine wpList_nil ?_
   refine zAb hK ?_; clear hK K
   refine wp_ret ?_
   refine ret1 E rfl rfl ?_
   have hv : s.bytes kn = (s.cut kn 0, { s with at_ := s.at_ + kn }) := by simp [Rdr.bytes, he, show ¬ (kn : Int) < 0 by omega, show ¬ s.bs.length < s.at_ + kn by omega]
   refine ⟨_, rfl, 0, s.at_ + kn, _, _, rfl, ⟨by simp only; omega, hlen, ad, c, C, rfl, hc, hRC⟩, (S.join.only (Bs := [_, [(bo, _)], [(g, _)]]) sZ).tr, by rw [hv, ← he], _, _, [], pk1, ?_⟩
   rw [hv]
   exact buf_block rfl (by rw [s.cut_length kn 0 hle]; omega)
theorem rbytes_ret (p : Nat) (s : Rdr) (A : zAl) (w0 : World) (hA : RdC 108 p s A) (H : Hp w0 [A]) (k : Int) (hk : k ≤ 9223372036854775807) :
  Ret Tryz.prog 68 #[ptr p, .int .i64 k] w0 fun u w' => ∃ A' C, RdC 108 p (s.bytes k).2 A' ∧ Trs w0 w' [A] [A', C] ∧ Buf C 5 1 u (s.bytes k).1.length (byt (s.bytes k).1) := by
 have S := St.begin H
 refine zBt 10 Tryz.func68 rfl rfl dZ ?_; intro a E
 refine wp_seq_k ?_; intro K hK
 refine zAa ?_
 refine zAg rfl (zBx E S rfl rfl dZ rfl rfl ?_); clear E S a; intro a w b2 E S
 refine zAg rfl (zBx E S rfl rfl dZ rfl rfl ?_); clear E S a; intro a w b3 E S
 refine zd E ?_; clear E a; intro a E
 refine wpList_nil ?_
 refine zAb hK ?_; clear hK K
 refine wp_seq_k ?_; intro K hK
 refine zAa ?_
 refine zAg rfl (zBf E S rfl rfl dZ rfl rfl rfl ?_); clear E S a; intro a w b5 E S
 refine wpList_nil ?_
 refine zAb hK ?_; clear hK K
 refine wp_seq_k ?_; intro K hK
 have S := S.addNil.perm (Bs := [A, [(b3, cel [.int .i64 k] 3)], [(b2, cel [ptr p] 79)], [(b5, cel [.slice none 0 0] 24)], []]) (zBa pZ (zBa pZ (zBa pZ (zBa pZ (zBa pZ (zDc _))))))
 refine zAa ?_
 refine zd E ?_; clear E a; intro a E
 refine zp E (zEc E rfl rfl ⟨_, rfl⟩) ?_; clear E a; intro a E
 refine zAh E rfl rfl dZ rfl Tryz.func87 rfl yZ rfl (rtry_ret (s.bytes k).2 (fun Rs' => ∃ v C L, Rs'.Perm ([(b5, cel [v] 24)] :: C :: L) ∧ Buf C 5 1 v (s.bytes k).1.length (byt (s.bytes k).1)) 98 _ [ptr b3, ptr b2, ptr b5] Tryz.func98 rfl yZ p s A [[(b3, cel [.int .i64 k] 3)], [(b2, cel [ptr p] 79)], [(b5, cel [.slice none 0 0] 24)], []] w hA S.hp (fun h => ⟨by simp [Rdr.bytes, h], _, [], _, pk3.trans (pk3.cons _), by simp only [Rdr.bytes, h, if_true, ne_eq, not_false_eq_true]; exact Buf.nil _ _⟩) (fun h => rbytes_body p s A w hA h b3 b2 b5 k hk S.hp)) ?_
 rintro v8 w ⟨A', Rs', hA', hT, v, C, L, hL, hB⟩; clear E a; intro a E
 have S := (S.all hT).perm (hL.cons A')
 obtain ⟨adv, cv, rfl⟩ := hB.slice
 refine wpList_nil ?_
 refine zAb hK ?_; clear hK K
 refine wp_seq_k ?_; intro K hK
 refine zAa ?_
 iterate 2 (refine zd E ?_; clear E a; intro a E)
 refine wpList_nil ?_
 refine zAb hK ?_; clear hK K
 refine wp_ret ?_
 refine ret1 E rfl rfl ?_
 exact ⟨_, rfl, A', C, hA', (S.only (Bs := [A', C]) (zBa pk1 (zBa pk2 sZ))).tr, hB⟩
theorem rtext_body (p : Nat) (s : Rdr) (A : zAl) (w0 : World) (hA : RdC 108 p s A) (he : s.e = 0) (bk bp bo : Nat) (most : Int)
  (H : Hp w0 [A, [(bk, cel [.int .i64 most] 3)], [(bp, cel [ptr p] 79)], [(bo, cel [str []] 9)]]) :
  Ret Tryz.prog 93 #[ptr bp, ptr bk, ptr bo] w0 fun u w' => ∃ (e' at' : Nat) (A' : zAl) (Rs' : List zAl), u = .int .i64 e' ∧ RdC 108 p { s with at_ := at' } A' ∧
   Trs w0 w' [A, [(bk, cel [.int .i64 most] 3)], [(bp, cel [ptr p] 79)], [(bo, cel [str []] 9)]] (A' :: Rs') ∧ (s.text most).2 = { s with at_ := at', e := e' } ∧ ∃ L, Rs'.Perm ([(bo, cel [str (s.text most).1] 9)] :: L) := by
 have S := St.begin H
 have hlen := hA.2.1
 refine zEz 40 Tryz.func93 rfl rfl dZ ?_; intro a E
 refine wp_seq_k ?_; intro K hK
 refine zAa ?_
 refine zd E ?_; clear E a; intro a E
 refine wpList_nil ?_
 refine zAb hK ?_; clear hK K
 refine wp_seq_k ?_; intro K hK
 refine zAa ?_
 refine zd E ?_; clear E a; intro a E
 refine zAh E rfl rfl dZ rfl Tryz.func89 rfl yZ rfl (zJc p s A _ hA (S.hp.sel sZ) 2 0 oZ oZ) ?_
 rintro v10 w ⟨hT, hres⟩; clear E a; intro a E
 have S := S.call1 sZ hT
 rcases hres with ⟨hlt, rfl⟩ | ⟨hle, adb, cb, rfl, hR⟩
 ·skip
  iterate 5 (refine zd E ?_; clear E a; intro a E)
  refine wpList_nil ?_
  refine zAb hK ?_; clear hK K
  iterate 2 (refine wp_seq_k ?_; intro K hK)
  refine zAa ?_
  iterate 2 (refine zd E ?_; clear E a; intro a E)
  refine wpList_nil ?_
  refine zAb hK ?_; clear hK K
  refine zBo E rfl (rfl) ?_
  refine wp_seq_k ?_; intro K hK
  refine zAa ?_
  refine zd E ?_; clear E a; intro a E
  refine wpList_nil ?_
  refine zAb hK ?_; clear hK K
  refine wp_ret ?_
  refine zAn ?_; clear hK K
  refine ret1 E rfl rfl ?_
  have hv : s.text most = ([], { s with e := 10 }) := by simp [Rdr.text, he, show s.bs.length < s.at_ + 2 by omega]
  exact ⟨_, rfl, 10, s.at_, A, _, rfl, hA, (S.only (Bs := [A, [(bo, cel [str []] 9)]]) sZ).tr, by rw [hv], [], by first | (rw [hv]; done) | (rw [hv]; exact pk1)⟩
 ·skip
  iterate 5 (refine zd E ?_; clear E a; intro a E)
  refine wpList_nil ?_
  refine zAb hK ?_; clear hK K
  iterate 2 (refine wp_seq_k ?_; intro K hK)
  refine zAa ?_
  iterate 2 (refine zd E ?_; clear E a; intro a E)
  refine wpList_nil ?_
  refine zAb hK ?_; clear hK K
  refine zCq E rfl (rfl) ?_
  refine wp_skip ?_
  refine zAb hK ?_; clear hK K
  refine wp_seq_k ?_; intro K hK
  have hnl := zEu (s.cut 2 0)
  rw [s.cut_length 2 0 hle] at hnl
  refine zAa ?_
  refine zd E ?_; clear E a; intro a E
  refine zAh E rfl rfl dZ rfl Tryz.func73 rfl yZ rfl (zJu A _ (s.cut 2 0) _ (by rw [s.cut_length 2 0 hle]; exact hR) (S.stab.at mZ) (by rw [s.cut_length 2 0 hle]; omega)) ?_
  rintro v16 w ⟨rfl, rfl⟩; clear E a; intro a E
  refine zp E (by first | exact zAo E rfl rfl rfl rfl (by first | exact wu8 _ | exact zCz oZ | exact zCe oZ | exact w_in oZ | exact zBb oZ | exact rfl) | exact zBh E rfl rfl rfl rfl rfl (by assumption) (S.stab.at (by simp))) ?_; clear E a; intro a E
  refine zd E ?_; clear E a; intro a E
  refine wpList_nil ?_
  refine zAb hK ?_; clear hK K
  iterate 2 (refine wp_seq_k ?_; intro K hK)
  refine zAa ?_
  iterate 3 (refine zd E ?_; clear E a; intro a E)
  refine wpList_nil ?_
  refine zAb hK ?_; clear hK K
  refine zAs E rfl (fun hb => ?_) (fun hb => ?_)
  ·replace hb := Nrm.nrm hb
   refine wp_seq_k ?_; intro K hK
   refine zAa ?_
   refine zd E ?_; clear E a; intro a E
   refine wpList_nil ?_
   refine zAb hK ?_; clear hK K
   refine wp_ret ?_
   refine zAn ?_; clear hK K
   refine ret1 E rfl rfl ?_
   have hv : s.text most = ([], { s with e := 11 }) := by simp [Rdr.text, he, show ¬ s.bs.length < s.at_ + 2 by omega, show most < (zBv (s.cut 2 0) : Int) by omega]
   exact ⟨_, rfl, 11, s.at_, A, _, rfl, hA, (S.only (Bs := [A, [(bo, cel [str []] 9)]]) sZ).tr, by rw [hv], [], by first | (rw [hv]; done) | (rw [hv]; exact pk1)⟩
  ·replace hb := Nrm.nrm hb
   refine wp_skip ?_
   refine zAb hK ?_; clear hK K
   refine wp_seq_k ?_; intro K hK
   refine zAa ?_
   iterate 2 (refine zd E ?_; clear E a; intro a E)
   refine zAh E rfl rfl dZ rfl Tryz.func89 rfl yZ rfl (zJc p s A _ hA (S.hp.sel sZ) (zBv (s.cut 2 0)) 2 oZ oZ) ?_
   rintro v24 w ⟨hT, hres⟩; clear E a; intro a E
   have S := S.call1 sZ hT
   rcases hres with ⟨hlt, rfl⟩ | ⟨hle2, adb2, cb2, rfl, hR2⟩
   ·skip
    iterate 5 (refine zd E ?_; clear E a; intro a E)
    refine wpList_nil ?_
    refine zAb hK ?_; clear hK K
    iterate 2 (refine wp_seq_k ?_; intro K hK)
    replace E := E.keep (e' := [(0, _), (2, _), (3, _), (5, _), (6, _), (7, _)]) (kE6 rfl rfl rfl rfl rfl rfl)
    refine zAa ?_
    iterate 2 (refine zd E ?_; clear E a; intro a E)
    refine wpList_nil ?_
    refine zAb hK ?_; clear hK K
    refine zBo E rfl (rfl) ?_
    refine wp_seq_k ?_; intro K hK
    refine zAa ?_
    refine zd E ?_; clear E a; intro a E
    refine wpList_nil ?_
    refine zAb hK ?_; clear hK K
    refine wp_ret ?_
    refine zAn ?_; clear hK K
    refine ret1 E rfl rfl ?_
    have hv : s.text most = ([], { s with e := 10 }) := by simp [Rdr.text, he, show ¬ s.bs.length < s.at_ + 2 by omega, show ¬ most < (zBv (s.cut 2 0) : Int) by omega, show s.bs.length < s.at_ + 2 + zBv (s.cut 2 0) by omega]
    exact ⟨_, rfl, 10, s.at_, A, _, rfl, hA, (S.only (Bs := [A, [(bo, cel [str []] 9)]]) sZ).tr, by rw [hv], [], by first | (rw [hv]; done) | (rw [hv]; exact pk1)⟩
   ·skip
    iterate 5 (refine zd E ?_; clear E a; intro a E)
    refine wpList_nil ?_
    refine zAb hK ?_; clear hK K
    iterate 2 (refine wp_seq_k ?_; intro K hK)
    replace E := E.keep (e' := [(0, _), (2, _), (3, _), (5, _), (6, _), (7, _)]) (kE6 rfl rfl rfl rfl rfl rfl)
    refine zAa ?_
    iterate 2 (refine zd E ?_; clear E a; intro a E)
    refine wpList_nil ?_
    refine zAb hK ?_; clear hK K
    refine zCq E rfl (rfl) ?_
    refine wp_skip ?_
    refine zAb hK ?_; clear hK K
    refine wp_seq_k ?_; intro K hK
    refine zAa ?_
    refine zd E ?_; clear E a; intro a E
    refine zp E (zBh E rfl rfl rfl rfl rfl (bs := s.cut (zBv (s.cut 2 0)) 2) (by rw [s.cut_length _ 2 hle2]; exact hR2) (S.stab.at mZ)) ?_; clear E a; intro a E
    refine zAg rfl (zAv E S rfl rfl rfl rfl rfl rfl pZ (by first | exact Nat.le_of_ble_eq_true rfl | (simp; done) | (simp; omega)) ?_); clear E S a; intro a w E S; try dsimp only [List.set] at S
    refine wpList_nil ?_
    obtain ⟨hat, hlen, ad, c, C, rfl, hc, hRC⟩ := hA
    have S := (S.perm (Bs := [[(p, cel [.slice ad s.bs.length c, .int .i64 s.at_, .int .i64 s.e] 108)] ++ C, _, _, _]) (zBa pZ (zBa pZ (zBa pZ (zBa pZ (zDc _)))))).split
    refine zAb hK ?_; clear hK K
    refine wp_seq_k ?_; intro K hK
    refine zAa ?_
    iterate 2 (refine zd E ?_; clear E a; intro a E)
    refine zp E (by first | exact zAc (q := 1) E rfl rfl rfl | exact zAd (q := 1) E rfl rfl rfl) ?_; clear E a; intro a E
    iterate 2 (refine zd E ?_; clear E a; intro a E)
    refine zp E (zBc E rfl rfl rfl (by first | exact zHq (x := 2) oZ | exact w_in oZ | exact zBb oZ | exact rfl)) ?_; clear E a; intro a E
    refine zp E (zBc E rfl rfl rfl (by first | exact wa1 oZ | exact w_in oZ | exact zBb oZ | exact rfl)) ?_; clear E a; intro a E
    refine zd E ?_; clear E a; intro a E
    refine zp E (by first | exact zAc (q := 1) E rfl rfl rfl | exact zAd (q := 1) E rfl rfl rfl) ?_; clear E a; intro a E
    refine zAg rfl (zAv E S rfl rfl rfl rfl rfl rfl pZ (by first | exact Nat.le_of_ble_eq_true rfl | (simp; done) | (simp; omega)) ?_); clear E S a; intro a w E S; try dsimp only [List.set] at S
    refine wpList_nil ?_
    refine zAb hK ?_; clear hK K
    refine wp_seq_k ?_; intro K hK
    refine zAa ?_
    refine zd E ?_; clear E a; intro a E
    refine wpList_nil ?_
    refine zAb hK ?_; clear hK K
    refine wp_ret ?_
    refine ret1 E rfl rfl ?_
    have hv : s.text most = (s.cut (zBv (s.cut 2 0)) 2, { s with at_ := s.at_ + (2 + zBv (s.cut 2 0)) }) := by simp [Rdr.text, he, show ¬ s.bs.length < s.at_ + 2 by omega, show ¬ most < (zBv (s.cut 2 0) : Int) by omega, show ¬ s.bs.length < s.at_ + 2 + zBv (s.cut 2 0) by omega]
    exact ⟨_, rfl, 0, s.at_ + (2 + zBv (s.cut 2 0)), _, _, rfl, ⟨by simp only; omega, hlen, ad, c, C, rfl, hc, hRC⟩, S.join.tr, by rw [hv, ← he], _, by first | (rw [hv]; done) | (rw [hv]; exact pk1)⟩
theorem zGp (p : Nat) (s : Rdr) (A : zAl) (w0 : World) (hA : RdC 108 p s A) (H : Hp w0 [A]) (most : Int) :
  Ret Tryz.prog 53 #[ptr p, .int .i64 most] w0 fun u w' => ∃ A', u = str (s.text most).1 ∧ RdC 108 p (s.text most).2 A' ∧ Trs w0 w' [A] [A'] := by
 have S := St.begin H
 refine zBt 10 Tryz.func53 rfl rfl dZ ?_; intro a E
 refine wp_seq_k ?_; intro K hK
 refine zAa ?_
 refine zAg rfl (zBx E S rfl rfl dZ rfl rfl ?_); clear E S a; intro a w b2 E S
 refine zAg rfl (zBx E S rfl rfl dZ rfl rfl ?_); clear E S a; intro a w b3 E S
 refine zd E ?_; clear E a; intro a E
 refine wpList_nil ?_
 refine zAb hK ?_; clear hK K
 refine wp_seq_k ?_; intro K hK
 refine zAa ?_
 refine zAg rfl (zBf E S rfl rfl dZ rfl rfl rfl ?_); clear E S a; intro a w b5 E S
 refine wpList_nil ?_
 refine zAb hK ?_; clear hK K
 refine wp_seq_k ?_; intro K hK
 have S := S.perm (Bs := [A, [(b3, cel [.int .i64 most] 3)], [(b2, cel [ptr p] 79)], [(b5, cel [str []] 9)]]) (zBa pZ (zBa pZ (zBa pZ (zBa pZ (zDc _)))))
 refine zAa ?_
 refine zd E ?_; clear E a; intro a E
 refine zp E (zEc E rfl rfl ⟨_, rfl⟩) ?_; clear E a; intro a E
 refine zAh E rfl rfl dZ rfl Tryz.func87 rfl yZ rfl (rtry_ret (s.text most).2 (fun Rs' => ∃ L, Rs'.Perm ([(b5, cel [str (s.text most).1] 9)] :: L)) 93 _ [ptr b2, ptr b3, ptr b5] Tryz.func93 rfl yZ p s A [[(b3, cel [.int .i64 most] 3)], [(b2, cel [ptr p] 79)], [(b5, cel [str []] 9)]] w hA S.hp (fun h => ⟨by simp [Rdr.text, h], _, by simp only [Rdr.text, h, if_true, ne_eq, not_false_eq_true]; exact pk3⟩) (fun h => rtext_body p s A w hA h b3 b2 b5 most S.hp)) ?_
 rintro v8 w ⟨A', Rs', hA', hT, L, hL⟩; clear E a; intro a E
 have S := (S.all hT).perm (hL.cons A')
 refine wpList_nil ?_
 refine zAb hK ?_; clear hK K
 refine wp_seq_k ?_; intro K hK
 refine zAa ?_
 iterate 2 (refine zd E ?_; clear E a; intro a E)
 refine wpList_nil ?_
 refine zAb hK ?_; clear hK K
 refine wp_ret ?_
 refine ret1 E rfl rfl ?_
 exact ⟨_, rfl, A', rfl, hA', (S.only (Bs := [A']) sZ).tr⟩
theorem left_ret (p : Nat) (s : Rdr) (A : zAl) (w0 : World) (hA : RdC 108 p s A) (H : Hp w0 [A]) :
  Ret Tryz.prog 90 #[ptr p] w0 fun u w' => u = .int .i64 s.left ∧ Trs w0 w' [A] [A] := by
 obtain ⟨hat, hlen, ad, c, C, rfl, hc, hR⟩ := hA
 have S := (St.begin H).split
 refine zCd 13 Tryz.func90 rfl rfl dZ ?_; intro a E
 refine wp_seq_k ?_; intro K hK
 refine zAa ?_
 refine zd E ?_; clear E a; intro a E
 refine wpList_nil ?_
 refine zAb hK ?_; clear hK K
 refine wp_seq_k ?_; intro K hK
 refine zBg S (.ofL [(0, 0), (1, 0), (2, 0), (3, 0), (4, 0), (5, 0), (6, 0), (7, 0), (8, 0), (9, 0), (10, 0)]) yZ yZ ?_
 clear S; intro w S
 iterate 2 (refine zmd E ?_; clear E a; intro a E)
 refine zm E rfl (fun w h => by first | exact zAc (q := 0) E rfl rfl rfl | exact zAd (q := 0) E rfl rfl rfl) ?_; clear E a; intro a E
 iterate 4 (refine zmd E ?_; clear E a; intro a E)
 refine zm E rfl (fun w h => by first | exact zAc (q := 1) E rfl rfl rfl | exact zAd (q := 1) E rfl rfl rfl) ?_; clear E a; intro a E
 refine zmd E ?_; clear E a; intro a E
 refine zm E rfl (fun w h => zCv E rfl rfl rfl (by first | exact ws1 oZ oZ | exact w_in oZ | exact zBb oZ | exact rfl)) ?_; clear E a; intro a E
 refine zmd E ?_; clear E a; intro a E
 refine zBi ?_
 refine zAb hK ?_; clear hK K
 refine wp_ret ?_
 refine ret1 E rfl rfl ?_
 exact ⟨_, rfl, by simp only [Rdr.left]; congr 1; omega, S.join.tr⟩
theorem rdone_ret (p : Nat) (s : Rdr) (A : zAl) (w0 : World) (hA : RdC 108 p s A) (H : Hp w0 [A]) :
  Ret Tryz.prog 46 #[ptr p] w0 fun u w' => u = .int .i64 s.done ∧ Trs w0 w' [A] [A] := by
 have hA0 := hA
 obtain ⟨hat, hlen, ad, c, C, hAe, hc, hR⟩ := hA
 have S := St.begin H
 have S := (by rw [hAe] at S; exact S.split : St w0 _ w0 ([(p, cel [.slice ad s.bs.length c, .int .i64 s.at_, .int .i64 s.e] 108)] :: C :: _))
 have hl : s.left = s.bs.length - s.at_ := rfl
 refine zCd 17 Tryz.func46 rfl rfl dZ ?_; intro a E
 refine wp_seq_k ?_; intro K hK
 refine zAa ?_
 refine zd E ?_; clear E a; intro a E
 refine wpList_nil ?_
 refine zAb hK ?_; clear hK K
 iterate 2 (refine wp_seq_k ?_; intro K hK)
 refine zAa ?_
 iterate 2 (refine zd E ?_; clear E a; intro a E)
 refine zp E (by first | exact zAc (q := 2) E rfl rfl rfl | exact zAd (q := 2) E rfl rfl rfl) ?_; clear E a; intro a E
 iterate 3 (refine zd E ?_; clear E a; intro a E)
 refine zAj E (t := 8) rfl (fun hb8 => ?_) (fun hb8 => ?_)
 ·have hb8n := hb8; replace hb8n := Nrm.nrm hb8n
  refine zyd E hb8 ?_; clear E a; intro a E
  refine zBk E rfl rfl rfl rfl hb8 ?_; refine zBy E rfl dZ rfl Tryz.func90 rfl yZ rfl (left_ret p s A _ hA0 H) ?_
  rintro v10 w ⟨rfl, hT⟩; clear E a; intro a E
  have S := (St.begin H).call1 sZ hT
  have S := (by rw [hAe] at S; exact S.split : St w0 _ _ ([(p, cel [.slice ad s.bs.length c, .int .i64 s.at_, .int .i64 s.e] 108)] :: C :: _))
  refine zyd E hb8 ?_; clear E a; intro a E
  refine zp E (zAf E rfl rfl hb8 rfl) ?_; clear E a; intro a E
  refine wpList_nil ?_
  refine zAb hK ?_; clear hK K
  refine zAs E rfl (fun hb => ?_) (fun hb => ?_)
  ·replace hb := Nrm.nrm hb
   refine wp_seq_k ?_; intro K hK
   refine zAa ?_
   refine zd E ?_; clear E a; intro a E
   refine wpList_nil ?_
   refine zAb hK ?_; clear hK K
   refine wp_ret ?_
   refine zAn ?_; clear hK K
   refine ret1 E rfl rfl ?_
   have S := S.join; rw [← hAe] at S
   exact ⟨_, rfl, by simp only [Rdr.done]; rw [if_pos oZ]; rfl, S.tr⟩
  ·replace hb := Nrm.nrm hb
   refine wp_skip ?_
   refine zAb hK ?_; clear hK K
   refine wp_seq_k ?_; intro K hK
   refine zAa ?_
   iterate 2 (refine zd E ?_; clear E a; intro a E)
   refine zp E (by first | exact zAc (q := 2) E rfl rfl rfl | exact zAd (q := 2) E rfl rfl rfl) ?_; clear E a; intro a E
   iterate 2 (refine zd E ?_; clear E a; intro a E)
   refine wpList_nil ?_
   refine zAb hK ?_; clear hK K
   refine wp_ret ?_
   refine ret1 E rfl rfl ?_
   have S := S.join; rw [← hAe] at S
   exact ⟨_, rfl, by simp only [Rdr.done]; rw [if_neg oZ], S.tr⟩
 ·have hb8n := hb8; replace hb8n := Nrm.nrm hb8n
  iterate 3 (refine zn E hb8 ?_; clear E a; intro a E)
  refine zp E (zAe E rfl rfl hb8 rfl) ?_; clear E a; intro a E
  refine wpList_nil ?_
  refine zAb hK ?_; clear hK K
  refine zCq E rfl rfl ?_
  refine wp_skip ?_
  refine zAb hK ?_; clear hK K
  refine wp_seq_k ?_; intro K hK
  refine zAa ?_
  iterate 2 (refine zd E ?_; clear E a; intro a E)
  refine zp E (by first | exact zAc (q := 2) E rfl rfl rfl | exact zAd (q := 2) E rfl rfl rfl) ?_; clear E a; intro a E
  iterate 2 (refine zd E ?_; clear E a; intro a E)
  refine wpList_nil ?_
  refine zAb hK ?_; clear hK K
  refine wp_ret ?_
  refine ret1 E rfl rfl ?_
  have S := S.join; rw [← hAe] at S
  exact ⟨_, rfl, by simp only [Rdr.done]; rw [if_neg oZ], S.tr⟩
end Go.Proofs.YtbogecljkaimdaaGreatDoor
namespace Go.Sl
theorem num_fits {s : Wr} {n : Nat} {k : Nat} (he : s.e = 0) (h1 : 1 ≤ k) (h8 : k ≤ 8) (hn : n < 256 ^ k) (hr : s.bs.length + k ≤ s.room) : s.num n k = { s with bs := s.bs ++ zBj n k } := by
 have hb : ¬ ((k : Int) < 1 ∨ 8 < (k : Int)) := by omega
 have hg : ¬ n ≥ 256 ^ k := by omega
 have hf : s.fits (zBj n k) = true := by simp only [Wr.fits, zAx, decide_eq_true_eq]; omega
 simp [Wr.num, Wr.lay, numE, he, hb, Wr.putE, Wr.putS, hf, Nat.not_le.2 hn]
theorem zGg {n k : Nat} (h : n < 256 ^ k) : zBv (zBj n k) = n := by rw [zIi, Nat.mod_eq_of_lt h]
theorem form_num : ∀ (b : List UInt8), zBj (zBv b) b.length = b := by
 intro b
 have key : ∀ (k n m : Nat), n % 256 ^ k = m % 256 ^ k → zBj n k = zBj m k := by
  intro k
  induction k with
  | zero => intros; rfl
  | succ k ih =>
   intro n m h
   rw [zBj, zBj, ih n m (by
    have := congrArg (· % 256 ^ k) h
    simp only [Nat.pow_succ] at this
    rwa [Nat.mod_mul_right_mod, Nat.mod_mul_right_mod] at this)]
   congr 2
   have h2 : n / 256 ^ k % 256 = m / 256 ^ k % 256 := by
    have h1 : n % (256 ^ k * 256) = m % (256 ^ k * 256) := by rw [← Nat.pow_succ]; exact h
    rw [Nat.mod_mul, Nat.mod_mul] at h1
    have h0 : n % 256 ^ k = m % 256 ^ k := by
     have := congrArg (· % 256 ^ k) h
     simp only [Nat.pow_succ] at this
     rwa [Nat.mod_mul_right_mod, Nat.mod_mul_right_mod] at this
    rw [h0] at h1
    have hp : 0 < 256 ^ k := Nat.pow_pos oZ
    exact Nat.eq_of_mul_eq_mul_left hp oZ
   rw [Nat.pow_mul]
   apply UInt8.toNat_inj.1
   simpa using h2
 have h2 : ∀ (xs : List UInt8), zBj (zBv xs) xs.length = xs := by
  intro xs
  generalize hk : xs.length = k
  induction k generalizing xs with
  | zero => simp [List.length_eq_zero_iff.1 hk, zBj]
  | succ k ih =>
   rw [zBj]
   have e : xs = xs.take k ++ [xs[k]] := by
    have := List.take_append_getElem (l := xs) (i := k) oZ
    rw [this, List.take_of_length_le oZ]
   have hlt : (xs.take k).length = k := by rw [List.length_take]; omega
   have h3 := ih (xs.take k) hlt
   have hn : zBv xs = zBv (xs.take k) + 256 ^ k * xs[k].toNat := by
    conv => lhs; rw [e]
    rw [zGn, hlt]; simp [zBv]
   have hlt2 := zEu (xs.take k)
   rw [hlt] at hlt2
   have h4 : zBj (zBv xs) k = xs.take k := by
    rw [← h3]
    refine key k _ _ ?_
    rw [hn, Nat.add_mul_mod_self_left]
   rw [h4, hn, Nat.pow_mul, Nat.add_mul_div_left _ _ (Nat.pow_pos oZ), Nat.div_eq_of_lt hlt2, Nat.zero_add]
   conv => rhs; rw [e]
   simp
 exact h2 b
theorem rnum_at (b : List UInt8) {q k : Nat} (h1 : 1 ≤ k) (h8 : k ≤ 8) (hl : q + k ≤ b.length) : (Rdr.mk b q 0).num k = (zBv ((b.drop q).take k), ⟨b, q + k, 0⟩) := by
 have hb : ¬ ((k : Int) < 1 ∨ 8 < (k : Int)) := by omega
 simp [Rdr.num, hb, Rdr.cut, show ¬ b.length < q + k by omega]
theorem zIa (g : Nat) (b : List UInt8) (T : TypeId) (h : b.length ≤ 4611686018427387904) : Buf [(g, cel (byt b) T)] T 1 (.slice (some ⟨g, 0, none⟩) b.length b.length) b.length (byt b) := by
 have := buf_mk (T := T) (g := g) (c := b.length) (s := 1) (m := b.length) (xs := byt b) (r := []) (by simp [zDt]) (byt_one b) (Nat.le_refl _) (by simp only [maxLen]; omega) (by simp [zDt])
 rwa [List.append_nil] at this
theorem numOf_cut (b : List UInt8) (q k : Nat) : zBv ((b.drop q).take k) < 256 ^ k :=
 Nat.lt_of_lt_of_le (zEu _) (Nat.pow_le_pow_right oZ (by rw [List.length_take]; omega))
theorem form_cut (b : List UInt8) {q k : Nat} (h : q + k ≤ b.length) : zBj (zBv ((b.drop q).take k)) k = (b.drop q).take k := by
 have := form_num ((b.drop q).take k)
 rwa [List.length_take, List.length_drop, Nat.min_eq_left oZ] at this
theorem bytes_fits {s : Wr} {b : List UInt8} (he : s.e = 0) (hr : s.bs.length + b.length ≤ s.room) : s.bytes b = { s with bs := s.bs ++ b } := by
 have hf : s.fits b = true := by simp only [Wr.fits, decide_eq_true_eq]; omega
 simp [Wr.bytes, Wr.lay, he, Wr.putE, Wr.putS, hf]
end Go.Sl
namespace Go.Proofs.YtbogecljkaimdaaGreatDoor
open Go.Sl
set_option maxRecDepth 10000
theorem zEd (p room : Nat) (bs : List UInt8) (A : zAl) (w0 : World) (hA : WrC 94 p ⟨room, bs, 0⟩ A) (n k : Nat) (H : Hp w0 [A]) (hr : room ≤ 140737488355328) (h1 : 1 ≤ k) (h8 : k ≤ 8) (hn : n < 256 ^ k) (hl : bs.length + k ≤ room) :
  Ret Tryz.prog 30 #[ptr p, .int .u64 n, .int .i64 (k : Int)] w0 fun _ w' => ∃ A', WrC 94 p ⟨room, bs ++ zBj n k, 0⟩ A' ∧ Trs w0 w' [A] [A'] := by
 refine (num_ret p _ A w0 hA n k H hr).mono fun v w' ⟨A', h, hT⟩ => ⟨A', ?_, hT⟩
 rw [num_fits rfl h1 h8 hn hl] at h
 exact h
theorem bytes_fit (p room : Nat) (bs : List UInt8) (A D : zAl) (w0 : World) (hA : WrC 94 p ⟨room, bs, 0⟩ A) (bv : Value) (b : List UInt8) (hD : Rd D 1 bv b.length (byt b)) (H : Hp w0 [A, D]) (hr : room ≤ 140737488355328) (hl : bs.length + b.length ≤ room) :
  Ret Tryz.prog 66 #[ptr p, bv] w0 fun _ w' => ∃ A', WrC 94 p ⟨room, bs ++ b, 0⟩ A' ∧ Trs w0 w' [A, D] [A', D] := by
 refine (bytes_ret p _ A D w0 hA bv b hD H hr).mono fun v w' ⟨A', h, hT⟩ => ⟨A', ?_, hT⟩
 rw [bytes_fits rfl hl] at h
 exact h
theorem done_fit (p room : Nat) (bs : List UInt8) (A : zAl) (w0 : World) (hA : WrC 94 p ⟨room, bs, 0⟩ A) (H : Hp w0 [A]) (hr : bs.length ≤ 140737488355328) :
  Ret Tryz.prog 29 #[ptr p] w0 fun u w' => ∃ g, u = .tuple #[.slice (some ⟨g, 0, none⟩) bs.length bs.length, .int .i64 0] ∧ Trs w0 w' [A] [[(g, cel (byt bs) 5)], A] := by
 refine (done_ret p _ A w0 hA H hr).mono fun v w' h => ?_
 rcases h with ⟨h, _⟩ | ⟨_, g, h, hT⟩
 ·exact absurd rfl h
 ·exact ⟨g, h, hT⟩
theorem rnum_fit (p : Nat) (b : List UInt8) (q : Nat) (A : zAl) (w0 : World) (hA : RdC 108 p ⟨b, q, 0⟩ A) (H : Hp w0 [A]) (k : Nat) (h1 : 1 ≤ k) (h8 : k ≤ 8) (hl : q + k ≤ b.length) :
  Ret Tryz.prog 44 #[ptr p, .int .i64 k] w0 fun u w' => ∃ A', u = .int .u64 (zBv ((b.drop q).take k)) ∧ RdC 108 p ⟨b, q + k, 0⟩ A' ∧ Trs w0 w' [A] [A'] := by
 refine (zDm p _ A w0 hA H k).mono fun v w' ⟨A', h, h2, hT⟩ => ?_
 rw [rnum_at b h1 h8 hl] at h h2
 exact ⟨A', h, h2, hT⟩
end Go.Proofs.YtbogecljkaimdaaGreatDoor
namespace Go.Sl
def zCp : List UInt8 → List (List UInt8)
 | [] => [[]]
 | c :: l => if c = 47 then [] :: zCp l else match zCp l with
  | p :: ps => (c :: p) :: ps
  | [] => [[c]]
theorem zHr (l : List UInt8) : ∃ p ps, zCp l = p :: ps := by
 cases l with
 | nil => exact ⟨_, _, rfl⟩
 | cons c l =>
  unfold zCp
  split
  ·exact ⟨_, _, rfl⟩
  ·split <;> exact ⟨_, _, rfl⟩
theorem zEv (l : List UInt8) : (zCp l).length = l.count 47 + 1 := by
 induction l with
 | nil => rfl
 | cons c l ih =>
  unfold zCp
  split
  ·rename_i h; subst h; simp [ih]
  ·rename_i h
   obtain ⟨p, ps, hp⟩ := zHr l
   rw [hp] at ih ⊢
   rw [List.count_cons_of_ne (by simpa using h)]
   simpa using ih
theorem zJv {l : List UInt8} (h : l.count 47 = 0) : zCp l = [l] := by
 induction l with
 | nil => rfl
 | cons c l ih =>
  have hc : c ≠ 47 := by rintro rfl; simp at h
  rw [List.count_cons_of_ne (by simpa using hc)] at h
  unfold zCp
  rw [if_neg hc, ih h]
def ahead1 (p : List UInt8) : List (List UInt8) → List (List UInt8)
 | q :: qs => (p ++ q) :: qs
 | [] => [p]
theorem pieces_step {c : UInt8} {l : List UInt8} (h : c ≠ 47) : zCp (c :: l) = ahead1 [c] (zCp l) := by
 obtain ⟨p, ps, hp⟩ := zHr l
 rw [zCp, if_neg h, hp]
 rfl
theorem pieces_stroke (l : List UInt8) : zCp (47 :: l) = [] :: zCp l := by rw [zCp, if_pos rfl]
theorem ibyte_cases (l : List UInt8) (c : UInt8) : (Lib.indexByte l c = -1 ∧ l.count c = 0) ∨
  ∃ m, ∃ h : m < l.length, Lib.indexByte l c = (m : Int) ∧ l[m] = c ∧ (l.take m).count c = 0 ∧ l.count c = 1 + (l.drop (m + 1)).count c := by
 induction l with
 | nil => exact .inl ⟨rfl, rfl⟩
 | cons b l ih =>
  by_cases hb : b = c
  ·subst hb
   refine .inr ⟨0, by simp, by simp [Lib.indexByte], rfl, rfl, ?_⟩
   rw [List.count_cons_self]; simp; omega
  ·have hb' : (b == c) = false := by simpa using hb
   rcases ih with ⟨h1, h2⟩ | ⟨m, hm, h1, h2, h3, h4⟩
   ·refine .inl ⟨by simp [Lib.indexByte, hb', h1], ?_⟩
    rw [List.count_cons_of_ne (by simpa using hb), h2]
   ·refine .inr ⟨m + 1, by simpa using hm, ?_, by simpa using h2, ?_, ?_⟩
    ·simp only [Lib.indexByte, hb', h1, Bool.false_eq_true, if_false]
     rw [if_neg (by simp only [beq_iff_eq]; omega)]
     omega
    ·rw [List.take_succ_cons, List.count_cons_of_ne (by simpa using hb), h3]
    ·rw [List.count_cons_of_ne (by simpa using hb), h4]; simp
theorem zIk : ∀ {l : List UInt8} {m : Nat} (h : m < l.length), l[m] = 47 → (l.take m).count 47 = 0 → zCp l = l.take m :: zCp (l.drop (m + 1))
 | [], m, h, _, _ => absurd h (by simp)
 | c :: l, 0, _, hc, _ => by
  have hc : c = 47 := hc
  subst hc
  simpa using pieces_stroke l
 | c :: l, m + 1, h, hc, h0 => by
  have hne : c ≠ 47 := by rintro rfl; simp at h0
  rw [List.take_succ_cons, List.count_cons_of_ne (by simpa using hne)] at h0
  rw [pieces_step hne, zIk (l := l) (m := m) (by simpa using h) (by simpa using hc) h0]
  rfl
theorem w8c (c : UInt8) : IntKind.u8.wrap (c.toNat : Int) = (c.toNat : Int) := by rw [w8]; simp
theorem w32c (c : UInt8) : IntKind.i32.wrap (c.toNat : Int) = (c.toNat : Int) := IntWalk.i32_in _ (by have := c.toNat_lt; omega)
def letB (c : UInt8) : Bool := (97 ≤ c && c ≤ 122) || (48 ≤ c && c ≤ 57)
def dotB (c : UInt8) : Bool := c == 46 || c == 95 || c == 45
def okAt (s : List UInt8) (k : Nat) (h : k < s.length) : Prop := letB s[k] = true ∨ (k ≠ 0 ∧ dotB s[k] = true)
def partP (s : List UInt8) : Prop := 1 ≤ s.length ∧ s.length ≤ 24 ∧ ∀ k, ∀ h : k < s.length, okAt s k h
noncomputable def zEw (s : List UInt8) : Bool := @decide (partP s) (Classical.propDecidable _)
theorem partB_iff (s : List UInt8) : zEw s = true ↔ partP s := by simp [zEw]
theorem partB_no {s : List UInt8} (h : ¬ partP s) : zEw s = false := by simp [zEw, h]
theorem part_no {l : List UInt8} {i : Nat} (h : i < l.length) (h1 : letB l[i] = false) (h2 : i = 0 ∨ dotB l[i] = false) : zEw l = false :=
 partB_no fun hp => by
  rcases hp.2.2 i h with h3 | ⟨h3, h4⟩
  ·rw [h1] at h3; cases h3
  ·rcases h2 with rfl | h2
   ·exact h3 rfl
   ·rw [h2] at h4; cases h4
theorem part_end {l : List UInt8} (h : ∀ k, ∀ hk : k < l.length, okAt l k hk) : zEw l = true ↔ (1 ≤ l.length ∧ l.length ≤ 24) := by
 rw [partB_iff]
 exact ⟨fun q => ⟨q.1, q.2.1⟩, fun q => ⟨q.1, q.2, h⟩⟩
theorem ok_more {l : List UInt8} {i : Nat} (h : ∀ k, ∀ hk : k < l.length, k < i → okAt l k hk) (hi : i < l.length) (h1 : okAt l i hi) : ∀ k, ∀ hk : k < l.length, k < i + 1 → okAt l k hk := by
 intro k hk hki
 by_cases e : k = i
 ·subst e; exact h1
 ·exact h k hk oZ
def nameP (s : List UInt8) : Prop := s.length ≤ 240 ∧ (zCp s).length ≤ 8 ∧ ∀ p ∈ zCp s, zEw p = true
noncomputable def nameB (s : List UInt8) : Bool := @decide (nameP s) (Classical.propDecidable _)
theorem zGq (s : List UInt8) : nameB s = true ↔ nameP s := by simp [nameB]
def valP (s : List UInt8) : Prop := ∀ k, ∀ h : k < s.length, 32 ≤ s[k].toNat ∧ s[k].toNat ≤ 126
noncomputable def valB (s : List UInt8) : Bool := @decide (valP s) (Classical.propDecidable _)
theorem valB_no {s : List UInt8} (h : ¬ valP s) : valB s = false := by simp [valB, h]
theorem valB_yes {s : List UInt8} (h : valP s) : valB s = true := by simp [valB, h]
theorem zHa (c : UInt8) : letB c = true ↔ (97 ≤ c.toNat ∧ c.toNat ≤ 122) ∨ (48 ≤ c.toNat ∧ c.toNat ≤ 57) := by
 simp [letB, UInt8.le_iff_toNat_le]
theorem dotB_iff (c : UInt8) : dotB c = true ↔ c.toNat = 46 ∨ c.toNat = 95 ∨ c.toNat = 45 := by
 have h : ∀ k : UInt8, c = k ↔ c.toNat = k.toNat := fun k => UInt8.toNat_inj.symm
 simp [dotB, h, or_assoc]
structure Prp where
 name : List UInt8
 value : List UInt8
def Prp.lay (p : Prp) : List Value := [str p.name, str p.value]
theorem Prp.lay_len (p : Prp) : p.lay.length = 2 := rfl
structure Rec where
 kind : Int
 name : List UInt8
 typ : Int
 frm : Int
 guid : Int
 origin : Int
 snap : List UInt8
 props : List Prp
 object : Int
 at_ : Int
 many : Int
 keep : List Int
 data : List UInt8
def ints (l : List Int) : List Value := l.map (.int .i64 ·)
def Rec.cells (r : Rec) (pv kv dv : Value) : List Value :=
 [.int .i64 r.kind, str r.name, .int .i64 r.typ, .int .i64 r.frm, .int .i64 r.guid, .int .i64 r.origin, str r.snap, pv, .int .i64 r.object, .int .i64 r.at_, .int .i64 r.many, kv, dv]
structure RecR (C : zAl) (r : Rec) (pv kv dv : Value) : Prop where
 pr : Rd C 2 pv r.props.length (r.props.flatMap Prp.lay)
 kr : Rd C 1 kv r.keep.length (ints r.keep)
 dr : Rd C 1 dv r.data.length (byt r.data)
structure Sml (r : Rec) : Prop where
 name : r.name.length ≤ 1048576
 snap : r.snap.length ≤ 1048576
 props : r.props.length ≤ 1048576
 prop : ∀ p ∈ r.props, p.name.length ≤ 1048576 ∧ p.value.length ≤ 1048576
 keep : r.keep.length ≤ 1048576
 data : r.data.length ≤ 1048576
def risP (l : List Int) (least most : Int) : Prop := l.length ≤ 240 ∧ ∀ k, ∀ h : k < l.length, least ≤ l[k] ∧ l[k] ≤ most ∧ ∀ h0 : 0 < k, l[k - 1] < l[k]
noncomputable def risB (l : List Int) (least most : Int) : Bool := @decide (risP l least most) (Classical.propDecidable _)
theorem risB_iff (l : List Int) (x y : Int) : risB l x y = true ↔ risP l x y := by simp [risB]
theorem risB_no {l : List Int} {x y : Int} (h : ¬ risP l x y) : risB l x y = false := by simp [risB, h]
def zHf (l : List Prp) (k : Nat) (h : k < l.length) : Prop :=
 zEw l[k].name = true ∧ 1 ≤ l[k].value.length ∧ l[k].value.length ≤ 64 ∧ valB l[k].value = true ∧ ∀ h0 : 0 < k, Op.bytesLess l[k - 1].name l[k].name = true
def prpsP (l : List Prp) : Prop := l.length ≤ 12 ∧ ∀ k, ∀ h : k < l.length, zHf l k h
noncomputable def prpsB (l : List Prp) : Bool := @decide (prpsP l) (Classical.propDecidable _)
theorem zGr (l : List Prp) : prpsB l = true ↔ prpsP l := by simp [prpsB]
theorem prpsB_no {l : List Prp} (h : ¬ prpsP l) : prpsB l = false := by simp [prpsB, h]
noncomputable def behB (s : List UInt8) : Bool := match s with
 | [] => true
 | c :: l => c == 47 && nameB (120 :: c :: l)
def begP (r : Rec) : Prop :=
 behB r.name = true ∧ (1 ≤ r.typ ∧ r.typ ≤ 2) ∧ (0 ≤ r.frm ∧ r.frm ≤ 2199023255552) ∧ (1 ≤ r.guid ∧ r.guid ≤ 2199023255552) ∧ (r.origin = 0 ∨ (r.origin = 1 ∧ 0 < r.frm)) ∧ zEw r.snap = true ∧ prpsB r.props = true
noncomputable def begB (r : Rec) : Bool := @decide (begP r) (Classical.propDecidable _)
theorem zDn (r : Rec) : begB r = true ↔ begP r := by simp [begB]
end Go.Sl
