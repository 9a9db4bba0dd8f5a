/-
  Texts put together (6).
-/
import Derived.Test.YtpjidiaekifmbaaGreatDoorZParityRows5
set_option maxHeartbeats 1000000
namespace Go.Proofs.YtpjidiaekifmbaaGreatDoor
open Go.Sl
set_option maxRecDepth 10000
theorem plus_ret (s : Fs) (hs : s.Ok) (x0 x1 x2 x3 : UInt8) (w0 : World) :
  Ret Tryz.prog 123 #[s.agg, .agg #[.int .u8 x0.toNat, .int .u8 x1.toNat, .int .u8 x2.toNat, .int .u8 x3.toNat]] w0 fun u w' => u = (fstep s (word4 x0 x1 x2 x3)).agg ∧ Trs w0 w' [] [] := by
 have S := St.begin (zDz w0)
 refine zBx 46 Tryz.func123 rfl rfl dZ ?_; intro a E
 refine wp_seq_k ?_; intro K hK
 refine zAa ?_
 refine zAf rfl (zBz E S rfl rfl dZ rfl rfl ?_); clear E S a; intro a w b2 E S
 refine zAf rfl (zBz E S rfl rfl dZ rfl rfl ?_); clear E S a; intro a w b3 E S
 refine zAf rfl (zBs E S rfl rfl dZ rfl rfl rfl ?_); clear E S a; intro a w b4 E S
 refine wpList_nil ?_
 refine zAb hK ?_; clear hK K
 refine wp_seq_k ?_; intro K hK
 refine zAa ?_
 refine zp E (by first | exact zAc (q := 0) E rfl rfl rfl | exact zAd (q := 0) E rfl rfl rfl) ?_; clear E a; intro a E
 refine zd E ?_; clear E a; intro a E
 refine zp E (zAm (i := 0) E rfl rfl rfl rfl rfl rfl oZ) ?_; clear E a; intro a E
 refine zd E ?_; clear E a; intro a E
 refine zp E (by first | exact zBe E rfl rfl rfl rfl (by first | exact wu8 _ | exact zHm oZ | exact zEo oZ | exact w_in oZ | exact zBj oZ | exact rfl) | exact zCc E rfl rfl rfl rfl rfl (by assumption) (S.stab.at (by simp))) ?_; clear E a; intro a E
 refine zp E (zAm (i := 1) E rfl rfl rfl rfl rfl rfl oZ) ?_; clear E a; intro a E
 refine zd E ?_; clear E a; intro a E
 refine zp E (by first | exact zBe E rfl rfl rfl rfl (by first | exact wu8 _ | exact zHm oZ | exact zEo oZ | exact w_in oZ | exact zBj oZ | exact rfl) | exact zCc E rfl rfl rfl rfl rfl (by assumption) (S.stab.at (by simp))) ?_; clear E a; intro a E
 refine zp E (zEn E rfl rfl rfl oZ (by simp only [IntKind.bits]; omega) (word_sh 8 oZ)) ?_; clear E a; intro a E
 refine zp E (zGk E rfl rfl rfl (word_or1 x0 x1)) ?_; clear E a; intro a E
 refine zp E (zAm (i := 2) E rfl rfl rfl rfl rfl rfl oZ) ?_; clear E a; intro a E
 refine zd E ?_; clear E a; intro a E
 refine zp E (by first | exact zBe E rfl rfl rfl rfl (by first | exact wu8 _ | exact zHm oZ | exact zEo oZ | exact w_in oZ | exact zBj oZ | exact rfl) | exact zCc E rfl rfl rfl rfl rfl (by assumption) (S.stab.at (by simp))) ?_; clear E a; intro a E
 refine zp E (zEn E rfl rfl rfl oZ (by simp only [IntKind.bits]; omega) (word_sh 16 oZ)) ?_; clear E a; intro a E
 refine zp E (zGk E rfl rfl rfl (word_or2 x0 x1 x2)) ?_; clear E a; intro a E
 refine zp E (zAm (i := 3) E rfl rfl rfl rfl rfl rfl oZ) ?_; clear E a; intro a E
 refine zd E ?_; clear E a; intro a E
 refine zp E (by first | exact zBe E rfl rfl rfl rfl (by first | exact wu8 _ | exact zHm oZ | exact zEo oZ | exact w_in oZ | exact zBj oZ | exact rfl) | exact zCc E rfl rfl rfl rfl rfl (by assumption) (S.stab.at (by simp))) ?_; clear E a; intro a E
 refine zp E (zEn E rfl rfl rfl oZ (by simp only [IntKind.bits]; omega) (word_sh 24 oZ)) ?_; clear E a; intro a E
 refine zp E (zGk E rfl rfl rfl (word_or3 x0 x1 x2 x3)) ?_; clear E a; intro a E
 refine zp E (zAy E rfl rfl rfl (wa_m _ _)) ?_; clear E a; intro a E
 refine zp E (by first | exact zAc (q := 0) E rfl rfl rfl | exact zAd (q := 0) E rfl rfl rfl) ?_; clear E a; intro a E
 refine zAf rfl (zBa E S rfl rfl rfl rfl rfl rfl pZ (by first | exact Nat.le_of_ble_eq_true rfl | (simp; done) | (simp; omega)) ?_); clear E S a; intro a w E S; try dsimp only [List.set] at S
 refine wpList_nil ?_
 refine zAb hK ?_; clear hK K
 refine wp_seq_k ?_; intro K hK
 replace E := E.keep (e' := [(2, _), (4, _)]) (kE2 rfl rfl)
 refine zAa ?_
 refine zp E (by first | exact zAc (q := 1) E rfl rfl rfl | exact zAd (q := 1) E rfl rfl rfl) ?_; clear E a; intro a E
 refine zd E ?_; clear E a; intro a E
 refine zp E (by first | exact zAc (q := 0) E rfl rfl rfl | exact zAd (q := 0) E rfl rfl rfl) ?_; clear E a; intro a E
 refine zd E ?_; clear E a; intro a E
 refine zp E (zAy E rfl rfl rfl (wa_m _ _)) ?_; clear E a; intro a E
 refine zp E (by first | exact zAc (q := 1) E rfl rfl rfl | exact zAd (q := 1) E rfl rfl rfl) ?_; clear E a; intro a E
 refine zAf rfl (zBa E S rfl rfl rfl rfl rfl rfl pZ (by first | exact Nat.le_of_ble_eq_true rfl | (simp; done) | (simp; omega)) ?_); clear E S a; intro a w E S; try dsimp only [List.set] at S
 refine wpList_nil ?_
 refine zAb hK ?_; clear hK K
 refine wp_seq_k ?_; intro K hK
 refine zAa ?_
 refine zp E (by first | exact zAc (q := 2) E rfl rfl rfl | exact zAd (q := 2) E rfl rfl rfl) ?_; clear E a; intro a E
 refine zd E ?_; clear E a; intro a E
 refine zp E (by first | exact zAc (q := 1) E rfl rfl rfl | exact zAd (q := 1) E rfl rfl rfl) ?_; clear E a; intro a E
 refine zd E ?_; clear E a; intro a E
 refine zp E (zAy E rfl rfl rfl (wa_m _ _)) ?_; clear E a; intro a E
 refine zp E (by first | exact zAc (q := 2) E rfl rfl rfl | exact zAd (q := 2) E rfl rfl rfl) ?_; clear E a; intro a E
 refine zAf rfl (zBa E S rfl rfl rfl rfl rfl rfl pZ (by first | exact Nat.le_of_ble_eq_true rfl | (simp; done) | (simp; omega)) ?_); clear E S a; intro a w E S; try dsimp only [List.set] at S
 refine wpList_nil ?_
 refine zAb hK ?_; clear hK K
 refine wp_seq_k ?_; intro K hK
 refine zAa ?_
 refine zp E (by first | exact zAc (q := 3) E rfl rfl rfl | exact zAd (q := 3) E rfl rfl rfl) ?_; clear E a; intro a E
 refine zd E ?_; clear E a; intro a E
 refine zp E (by first | exact zAc (q := 2) E rfl rfl rfl | exact zAd (q := 2) E rfl rfl rfl) ?_; clear E a; intro a E
 refine zd E ?_; clear E a; intro a E
 refine zp E (zAy E rfl rfl rfl (wa_m _ _)) ?_; clear E a; intro a E
 refine zp E (by first | exact zAc (q := 3) E rfl rfl rfl | exact zAd (q := 3) E rfl rfl rfl) ?_; clear E a; intro a E
 refine zAf rfl (zBa E S rfl rfl rfl rfl rfl rfl pZ (by first | exact Nat.le_of_ble_eq_true rfl | (simp; done) | (simp; omega)) ?_); clear E S a; intro a w E S; try dsimp only [List.set] at S
 refine wpList_nil ?_
 refine zAb hK ?_; clear hK K
 refine wp_seq_k ?_; intro K hK
 refine zAa ?_
 refine zp E (zBf (vs := [_, _, _, _]) E rfl rfl rfl (S.get pZ) rfl rfl) ?_; clear E a; intro a E
 refine zAf rfl (zBr E S rfl rfl rfl rfl (by simp [Value.oneCell']) rfl pZ (by simp) ?_); clear E S a; intro a w E S; simp only [List.take_succ_cons, List.take_zero, List.drop_succ_cons, List.drop_zero, List.cons_append, List.nil_append, List.append_nil, List.length_cons, List.length_nil, Nat.zero_add, Nat.add_zero] at S
 refine wpList_nil ?_
 refine zAb hK ?_; clear hK K
 refine wp_ret ?_
 refine zKj E rfl rfl (S.get pZ) rfl ?_
 exact ⟨_, rfl, rfl, (S.only (Bs := []) sZ).tr⟩
def runO (s : Fs) (x0 x1 x2 x3 : UInt8) (k : Nat) : Obj := cel [.int .u64 s.a, .int .u64 s.b, .int .u64 s.c, .int .u64 s.d, .int .u8 x0.toNat, .int .u8 x1.toNat, .int .u8 x2.toNat, .int .u8 x3.toNat, .int .i64 k] 211
theorem sumnew_ret (w0 : World) : Ret Tryz.prog 110 #[] w0 fun u w' => ∃ p, u = ptr p ∧ Trs w0 w' [] [[(p, runO fsZero 0 0 0 0 0)]] := by
 have S := St.begin (zDz w0)
 refine zLj 3 Tryz.func110 rfl rfl ?_; intro a E
 refine wp_seq_k ?_; intro K hK
 refine zAa ?_
 refine zd E ?_; clear E a; intro a E
 refine wpList_nil ?_
 refine zAb hK ?_; clear hK K
 refine wp_seq_k ?_; intro K hK
 refine zAa ?_
 refine zp E (zBt (cells := [_, _, _, _, _, _, _, _, _]) E rfl rfl rfl) ?_; clear E a; intro a E
 refine zAf rfl (zBz E S rfl rfl dZ rfl rfl ?_); clear E S a; intro a w b2 E S
 refine zd E ?_; clear E a; intro a E
 refine wpList_nil ?_
 refine zAb hK ?_; clear hK K
 refine wp_ret ?_
 refine ret1 E rfl rfl ?_
 exact ⟨_, rfl, _, rfl, (S.only (Bs := [_]) (zCj pk1 sZ)).tr⟩
theorem sumadd_ret (O : zAj) (v : Value) (b : List UInt8) (hO : Rd O 1 v b.length (byt b)) (hbl : b.length ≤ 140737488355328) (p : Nat) (w0 : World) (H : Hp w0 [[(p, runO fsZero 0 0 0 0 0)], O]) :
  Ret Tryz.prog 111 #[ptr p, v] w0 fun _ w' => ∃ s x0 x1 x2 x3 k, Run b b.length s x0 x1 x2 x3 k ∧ Trs w0 w' [[(p, runO fsZero 0 0 0 0 0)], O] [[(p, runO s x0 x1 x2 x3 k)], O] := by
 have S := St.begin H
 obtain ⟨ad, c, rfl⟩ := hO.slice
 refine zBx 53 Tryz.func111 rfl rfl dZ ?_; intro a E
 refine wp_seq_k ?_; intro K hK
 refine zAa ?_
 iterate 3 (refine zd E ?_; clear E a; intro a E)
 refine wpList_nil ?_
 refine zAb hK ?_; clear hK K
 refine wp_block ?_
 refine wp_loop_ghost (fun (m : Nat) (a : Act) (w' : World) => ∃ (i : Nat) (s : Fs) (x0 x1 x2 x3 : UInt8) (k : Nat), m = b.length - i ∧ Run b i s x0 x1 x2 x3 k ∧ (St w0 [[(p, runO fsZero 0 0 0 0 0)], O] w' [[(p, runO s x0 x1 x2 x3 k)], O]) ∧ Fr a 53 [(0, ptr p), (6, .slice ad b.length c), (7, .int .i64 b.length), (8, .int .i64 i)]) (b.length - 0) ?_ ?_
 ·exact ⟨0, _, _, _, _, _, 0, rfl, Run.start b, S, E.keep (kE4 rfl rfl rfl rfl)⟩
 clear E; clear a; (try clear S); rintro m a w ⟨i, s, x0, x1, x2, x3, k, rfl, hR, S, E⟩
 refine wp_seq_k ?_; intro K hK
 refine zAa ?_
 refine zd E ?_; clear E a; intro a E
 refine wpList_nil ?_
 refine zAb hK ?_; clear hK K
 refine wp_seq_k ?_; intro K hK
 refine zAs E rfl (fun hb => ?_) (fun hb => ?_)
 ·replace hb := Nrm.nrm hb
  refine wp_skip ?_
  refine zAb hK ?_; clear hK K
  refine wp_seq_k ?_; intro K hK
  refine wp_block ?_
  refine wp_seq_k ?_; intro K hK
  have hib : i < b.length := by omega
  obtain ⟨g, off, rfl⟩ := hO.addr oZ
  have hsok := hR.ok
  refine zAa ?_
  refine zp E (by first | exact zAp E rfl rfl rfl rfl rfl rfl oZ | exact zAz E rfl rfl rfl rfl rfl rfl oZ | exact zAm E rfl rfl rfl rfl rfl rfl oZ) ?_; clear E a; intro a E
  refine zp E (zAo E rfl rfl rfl (hO.byte (S.stab.at mZ) hib)) ?_; clear E a; intro a E
  refine zd E ?_; clear E a; intro a E
  dsimp only [runO] at S
  have hk4 : k = 0 ∨ k = 1 ∨ k = 2 ∨ k = 3 := by have := hR.hk; omega
  rcases hk4 with rfl | rfl | rfl | rfl
  ·skip
   refine wpList_nil ?_
   refine zAb hK ?_; clear hK K
   refine wp_seq_k ?_; intro K hK
   refine zAw S (.ofL [(0, 0), (1, 0), (2, 0), (3, 0), (4, 0), (5, 0), (6, 0), (7, 0), (8, 0), (9, 3)]) yZ yZ ?_
   clear S; intro w S
   iterate 3 (refine zmd E ?_; clear E a; intro a E)
   refine zm E rfl (fun w h => by first | exact zAc (q := 8) E rfl rfl rfl | exact zAd (q := 8) E rfl rfl rfl) ?_; clear E a; intro a E
   iterate 3 (refine zmd E ?_; clear E a; intro a E)
   refine zm E rfl (fun w h => by first | exact zAc (q := 4) E rfl rfl rfl | exact zAd (q := 4) E rfl rfl rfl) ?_; clear E a; intro a E
   refine zm E rfl (fun w h => zAm (i := 0) E rfl rfl rfl rfl rfl rfl oZ) ?_; clear E a; intro a E
   refine zCd rfl rfl (zBa E S rfl rfl rfl rfl rfl rfl pZ (by first | exact Nat.le_of_ble_eq_true rfl | (simp; done) | (simp; omega)) ?_); clear E S a; intro a w E S; try dsimp only [List.set] at S
   refine zBd ?_
   refine zAb hK ?_; clear hK K
   refine wp_seq_k ?_; intro K hK
   refine zAa ?_
   iterate 2 (refine zd E ?_; clear E a; intro a E)
   refine zp E (by first | exact zAc (q := 8) E rfl rfl rfl | exact zAd (q := 8) E rfl rfl rfl) ?_; clear E a; intro a E
   refine zd E ?_; clear E a; intro a E
   refine zp E (zAy E rfl rfl rfl (by first | exact zBq (y := 1) oZ | exact w_in oZ | exact zBj oZ | exact rfl)) ?_; clear E a; intro a E
   refine zd E ?_; clear E a; intro a E
   refine zp E (by first | exact zAc (q := 8) E rfl rfl rfl | exact zAd (q := 8) E rfl rfl rfl) ?_; clear E a; intro a E
   refine zAf rfl (zBa E S rfl rfl rfl rfl rfl rfl pZ (by first | exact Nat.le_of_ble_eq_true rfl | (simp; done) | (simp; omega)) ?_); clear E S a; intro a w E S; try dsimp only [List.set] at S
   refine wpList_nil ?_
   refine zAb hK ?_; clear hK K
   refine wp_seq_k ?_; intro K hK
   refine zAa ?_
   iterate 2 (refine zd E ?_; clear E a; intro a E)
   refine zp E (by first | exact zAc (q := 8) E rfl rfl rfl | exact zAd (q := 8) E rfl rfl rfl) ?_; clear E a; intro a E
   iterate 2 (refine zd E ?_; clear E a; intro a E)
   refine wpList_nil ?_
   refine zAb hK ?_; clear hK K
   refine zAt E rfl (dZ) ?_
   refine wp_skip ?_
   refine zAq ?_
   refine zAb hK ?_; clear hK K
   refine zAa ?_
   refine zp E (zAy E rfl rfl rfl (by first | exact zBq (y := 1) oZ | exact w_in oZ | exact zBj oZ | exact rfl)) ?_; clear E a; intro a E
   refine zd E ?_; clear E a; intro a E
   refine wpList_nil ?_
   refine zAn ?_
   exact ⟨_, by omega, i + 1, _, _, _, _, _, _, rfl, hR.s0 hib, S, E.keep (kE4 rfl rfl rfl rfl)⟩
  ·skip
   refine wpList_nil ?_
   refine zAb hK ?_; clear hK K
   refine wp_seq_k ?_; intro K hK
   refine zAw S (.ofL [(0, 0), (1, 0), (2, 0), (3, 0), (4, 0), (5, 0), (6, 0), (7, 0), (8, 0), (9, 3)]) yZ yZ ?_
   clear S; intro w S
   iterate 3 (refine zmd E ?_; clear E a; intro a E)
   refine zm E rfl (fun w h => by first | exact zAc (q := 8) E rfl rfl rfl | exact zAd (q := 8) E rfl rfl rfl) ?_; clear E a; intro a E
   iterate 3 (refine zmd E ?_; clear E a; intro a E)
   refine zm E rfl (fun w h => by first | exact zAc (q := 4) E rfl rfl rfl | exact zAd (q := 4) E rfl rfl rfl) ?_; clear E a; intro a E
   refine zm E rfl (fun w h => zAm (i := 1) E rfl rfl rfl rfl rfl rfl oZ) ?_; clear E a; intro a E
   refine zCd rfl rfl (zBa E S rfl rfl rfl rfl rfl rfl pZ (by first | exact Nat.le_of_ble_eq_true rfl | (simp; done) | (simp; omega)) ?_); clear E S a; intro a w E S; try dsimp only [List.set] at S
   refine zBd ?_
   refine zAb hK ?_; clear hK K
   refine wp_seq_k ?_; intro K hK
   refine zAa ?_
   iterate 2 (refine zd E ?_; clear E a; intro a E)
   refine zp E (by first | exact zAc (q := 8) E rfl rfl rfl | exact zAd (q := 8) E rfl rfl rfl) ?_; clear E a; intro a E
   refine zd E ?_; clear E a; intro a E
   refine zp E (zAy E rfl rfl rfl (by first | exact zBq (y := 1) oZ | exact w_in oZ | exact zBj oZ | exact rfl)) ?_; clear E a; intro a E
   refine zd E ?_; clear E a; intro a E
   refine zp E (by first | exact zAc (q := 8) E rfl rfl rfl | exact zAd (q := 8) E rfl rfl rfl) ?_; clear E a; intro a E
   refine zAf rfl (zBa E S rfl rfl rfl rfl rfl rfl pZ (by first | exact Nat.le_of_ble_eq_true rfl | (simp; done) | (simp; omega)) ?_); clear E S a; intro a w E S; try dsimp only [List.set] at S
   refine wpList_nil ?_
   refine zAb hK ?_; clear hK K
   refine wp_seq_k ?_; intro K hK
   refine zAa ?_
   iterate 2 (refine zd E ?_; clear E a; intro a E)
   refine zp E (by first | exact zAc (q := 8) E rfl rfl rfl | exact zAd (q := 8) E rfl rfl rfl) ?_; clear E a; intro a E
   iterate 2 (refine zd E ?_; clear E a; intro a E)
   refine wpList_nil ?_
   refine zAb hK ?_; clear hK K
   refine zAt E rfl (dZ) ?_
   refine wp_skip ?_
   refine zAq ?_
   refine zAb hK ?_; clear hK K
   refine zAa ?_
   refine zp E (zAy E rfl rfl rfl (by first | exact zBq (y := 1) oZ | exact w_in oZ | exact zBj oZ | exact rfl)) ?_; clear E a; intro a E
   refine zd E ?_; clear E a; intro a E
   refine wpList_nil ?_
   refine zAn ?_
   exact ⟨_, by omega, i + 1, _, _, _, _, _, _, rfl, hR.s1 hib, S, E.keep (kE4 rfl rfl rfl rfl)⟩
  ·skip
   refine wpList_nil ?_
   refine zAb hK ?_; clear hK K
   refine wp_seq_k ?_; intro K hK
   refine zAw S (.ofL [(0, 0), (1, 0), (2, 0), (3, 0), (4, 0), (5, 0), (6, 0), (7, 0), (8, 0), (9, 3)]) yZ yZ ?_
   clear S; intro w S
   iterate 3 (refine zmd E ?_; clear E a; intro a E)
   refine zm E rfl (fun w h => by first | exact zAc (q := 8) E rfl rfl rfl | exact zAd (q := 8) E rfl rfl rfl) ?_; clear E a; intro a E
   iterate 3 (refine zmd E ?_; clear E a; intro a E)
   refine zm E rfl (fun w h => by first | exact zAc (q := 4) E rfl rfl rfl | exact zAd (q := 4) E rfl rfl rfl) ?_; clear E a; intro a E
   refine zm E rfl (fun w h => zAm (i := 2) E rfl rfl rfl rfl rfl rfl oZ) ?_; clear E a; intro a E
   refine zCd rfl rfl (zBa E S rfl rfl rfl rfl rfl rfl pZ (by first | exact Nat.le_of_ble_eq_true rfl | (simp; done) | (simp; omega)) ?_); clear E S a; intro a w E S; try dsimp only [List.set] at S
   refine zBd ?_
   refine zAb hK ?_; clear hK K
   refine wp_seq_k ?_; intro K hK
   refine zAa ?_
   iterate 2 (refine zd E ?_; clear E a; intro a E)
   refine zp E (by first | exact zAc (q := 8) E rfl rfl rfl | exact zAd (q := 8) E rfl rfl rfl) ?_; clear E a; intro a E
   refine zd E ?_; clear E a; intro a E
   refine zp E (zAy E rfl rfl rfl (by first | exact zBq (y := 1) oZ | exact w_in oZ | exact zBj oZ | exact rfl)) ?_; clear E a; intro a E
   refine zd E ?_; clear E a; intro a E
   refine zp E (by first | exact zAc (q := 8) E rfl rfl rfl | exact zAd (q := 8) E rfl rfl rfl) ?_; clear E a; intro a E
   refine zAf rfl (zBa E S rfl rfl rfl rfl rfl rfl pZ (by first | exact Nat.le_of_ble_eq_true rfl | (simp; done) | (simp; omega)) ?_); clear E S a; intro a w E S; try dsimp only [List.set] at S
   refine wpList_nil ?_
   refine zAb hK ?_; clear hK K
   refine wp_seq_k ?_; intro K hK
   refine zAa ?_
   iterate 2 (refine zd E ?_; clear E a; intro a E)
   refine zp E (by first | exact zAc (q := 8) E rfl rfl rfl | exact zAd (q := 8) E rfl rfl rfl) ?_; clear E a; intro a E
   iterate 2 (refine zd E ?_; clear E a; intro a E)
   refine wpList_nil ?_
   refine zAb hK ?_; clear hK K
   refine zAt E rfl (dZ) ?_
   refine wp_skip ?_
   refine zAq ?_
   refine zAb hK ?_; clear hK K
   refine zAa ?_
   refine zp E (zAy E rfl rfl rfl (by first | exact zBq (y := 1) oZ | exact w_in oZ | exact zBj oZ | exact rfl)) ?_; clear E a; intro a E
   refine zd E ?_; clear E a; intro a E
   refine wpList_nil ?_
   refine zAn ?_
   exact ⟨_, by omega, i + 1, _, _, _, _, _, _, rfl, hR.s2 hib, S, E.keep (kE4 rfl rfl rfl rfl)⟩
  ·skip
   refine wpList_nil ?_
   refine zAb hK ?_; clear hK K
   refine wp_seq_k ?_; intro K hK
   refine zAw S (.ofL [(0, 0), (1, 0), (2, 0), (3, 0), (4, 0), (5, 0), (6, 0), (7, 0), (8, 0), (9, 3)]) yZ yZ ?_
   clear S; intro w S
   iterate 3 (refine zmd E ?_; clear E a; intro a E)
   refine zm E rfl (fun w h => by first | exact zAc (q := 8) E rfl rfl rfl | exact zAd (q := 8) E rfl rfl rfl) ?_; clear E a; intro a E
   iterate 3 (refine zmd E ?_; clear E a; intro a E)
   refine zm E rfl (fun w h => by first | exact zAc (q := 4) E rfl rfl rfl | exact zAd (q := 4) E rfl rfl rfl) ?_; clear E a; intro a E
   refine zm E rfl (fun w h => zAm (i := 3) E rfl rfl rfl rfl rfl rfl oZ) ?_; clear E a; intro a E
   refine zCd rfl rfl (zBa E S rfl rfl rfl rfl rfl rfl pZ (by first | exact Nat.le_of_ble_eq_true rfl | (simp; done) | (simp; omega)) ?_); clear E S a; intro a w E S; try dsimp only [List.set] at S
   refine zBd ?_
   refine zAb hK ?_; clear hK K
   refine wp_seq_k ?_; intro K hK
   refine zAa ?_
   iterate 2 (refine zd E ?_; clear E a; intro a E)
   refine zp E (by first | exact zAc (q := 8) E rfl rfl rfl | exact zAd (q := 8) E rfl rfl rfl) ?_; clear E a; intro a E
   refine zd E ?_; clear E a; intro a E
   refine zp E (zAy E rfl rfl rfl (by first | exact zBq (y := 1) oZ | exact w_in oZ | exact zBj oZ | exact rfl)) ?_; clear E a; intro a E
   refine zd E ?_; clear E a; intro a E
   refine zp E (by first | exact zAc (q := 8) E rfl rfl rfl | exact zAd (q := 8) E rfl rfl rfl) ?_; clear E a; intro a E
   refine zAf rfl (zBa E S rfl rfl rfl rfl rfl rfl pZ (by first | exact Nat.le_of_ble_eq_true rfl | (simp; done) | (simp; omega)) ?_); clear E S a; intro a w E S; try dsimp only [List.set] at S
   refine wpList_nil ?_
   refine zAb hK ?_; clear hK K
   refine wp_seq_k ?_; intro K hK
   refine zAa ?_
   iterate 2 (refine zd E ?_; clear E a; intro a E)
   refine zp E (by first | exact zAc (q := 8) E rfl rfl rfl | exact zAd (q := 8) E rfl rfl rfl) ?_; clear E a; intro a E
   iterate 2 (refine zd E ?_; clear E a; intro a E)
   refine wpList_nil ?_
   refine zAb hK ?_; clear hK K
   refine zCk E rfl (dZ) ?_
   refine wp_seq_k ?_; intro K hK
   refine zAw S (.ofL [(0, 0), (1, 0), (2, 0), (3, 0), (4, 0), (5, 0), (6, 0), (7, 0), (8, 0), (9, 1), (10, 0), (11, 0), (12, 3)]) yZ yZ ?_
   clear S; intro w S
   iterate 3 (refine zmd E ?_; clear E a; intro a E)
   refine zm E rfl (fun w h => by first | exact zAc (q := 0) E rfl rfl rfl | exact zAd (q := 0) E rfl rfl rfl) ?_; clear E a; intro a E
   refine zm E rfl (fun w h => zBf (vs := [_, _, _, _]) E rfl rfl rfl (h.one mZ) rfl rfl) ?_; clear E a; intro a E
   iterate 2 (refine zmd E ?_; clear E a; intro a E)
   refine zm E rfl (fun w h => by first | exact zAc (q := 4) E rfl rfl rfl | exact zAd (q := 4) E rfl rfl rfl) ?_; clear E a; intro a E
   refine zm E rfl (fun w h => zBf (vs := [_, _, _, _]) E rfl rfl rfl (h.one mZ) rfl rfl) ?_; clear E a; intro a E
   refine zBo E rfl rfl rfl dZ rfl Tryz.func123 rfl yZ rfl (plus_ret s hsok _ _ _ _ _) ?_
   rintro v42 w ⟨rfl, hT⟩; clear E a; intro a E
   have S := S.quiet hT
   refine ⟨S.stab.sub (by first | (simp; done) | (simp +contextual; done) | (simp [*]; done)), ?_⟩
   refine zmd E ?_; clear E a; intro a E
   refine zm E rfl (fun w h => by first | exact zAc (q := 0) E rfl rfl rfl | exact zAd (q := 0) E rfl rfl rfl) ?_; clear E a; intro a E
   refine zCd rfl rfl (zBr E S rfl rfl rfl rfl (by simp [Value.oneCell']) rfl pZ (by simp) ?_); clear E S a; intro a w E S; simp only [List.take_succ_cons, List.take_zero, List.drop_succ_cons, List.drop_zero, List.cons_append, List.nil_append, List.append_nil, List.length_cons, List.length_nil, Nat.zero_add, Nat.add_zero] at S
   refine zBd ?_
   refine zAb hK ?_; clear hK K
   refine zAa ?_
   iterate 2 (refine zd E ?_; clear E a; intro a E)
   refine zp E (zBt (cells := [_, _, _, _]) E rfl rfl rfl) ?_; clear E a; intro a E
   refine zd E ?_; clear E a; intro a E
   refine zp E (by first | exact zAc (q := 4) E rfl rfl rfl | exact zAd (q := 4) E rfl rfl rfl) ?_; clear E a; intro a E
   refine zAf rfl (zBr E S rfl rfl rfl rfl (by simp [Value.oneCell']) rfl pZ (by simp) ?_); clear E S a; intro a w E S; simp only [List.take_succ_cons, List.take_zero, List.drop_succ_cons, List.drop_zero, List.cons_append, List.nil_append, List.append_nil, List.length_cons, List.length_nil, Nat.zero_add, Nat.add_zero] at S
   refine zd E ?_; clear E a; intro a E
   refine zp E (by first | exact zAc (q := 8) E rfl rfl rfl | exact zAd (q := 8) E rfl rfl rfl) ?_; clear E a; intro a E
   refine zAf rfl (zBa E S rfl rfl rfl rfl rfl rfl pZ (by first | exact Nat.le_of_ble_eq_true rfl | (simp; done) | (simp; omega)) ?_); clear E S a; intro a w E S; try dsimp only [List.set] at S
   refine wpList_nil ?_
   refine zAq ?_
   refine zAb hK ?_; clear hK K
   refine zAa ?_
   refine zp E (zAy E rfl rfl rfl (by first | exact zBq (y := 1) oZ | exact w_in oZ | exact zBj oZ | exact rfl)) ?_; clear E a; intro a E
   refine zd E ?_; clear E a; intro a E
   refine wpList_nil ?_
   refine zAn ?_
   exact ⟨_, by omega, i + 1, _, _, _, _, _, _, rfl, hR.s3 hib, S, E.keep (kE4 rfl rfl rfl rfl)⟩
 ·replace hb := Nrm.nrm hb
  refine wp_exit ?_
  refine zAl ?_; clear hK K
  refine zAl ?_
  refine zBi ?_
  refine end0 E rfl ?_
  obtain rfl : i = b.length := by have := hR.le; omega
  exact ⟨_, rfl, s, x0, x1, x2, x3, k, hR, S.tr⟩
theorem sumvalue_ret (b : List UInt8) (s : Fs) (x0 x1 x2 x3 : UInt8) (k : Nat) (hR : Run b b.length s x0 x1 x2 x3 k) (p : Nat) (w0 : World) (H : Hp w0 [[(p, runO s x0 x1 x2 x3 k)]]) :
  Ret Tryz.prog 112 #[ptr p] w0 fun u w' => u = (zEt b).agg ∧ Trs w0 w' [[(p, runO s x0 x1 x2 x3 k)]] [[(p, runO s x0 x1 x2 x3 k)]] := by
 have S := St.begin H
 have hsok := hR.ok
 dsimp only [runO] at S
 refine zCh 21 Tryz.func112 rfl rfl dZ ?_; intro a E
 refine wp_seq_k ?_; intro K hK
 refine zAa ?_
 refine zAf rfl (zBs E S rfl rfl dZ rfl rfl rfl ?_); clear E S a; intro a w b2 E S
 refine wpList_nil ?_
 refine zAb hK ?_; clear hK K
 iterate 2 (refine wp_seq_k ?_; intro K hK)
 refine zAa ?_
 iterate 2 (refine zd E ?_; clear E a; intro a E)
 refine zp E (by first | exact zAc (q := 8) E rfl rfl rfl | exact zAd (q := 8) E rfl rfl rfl) ?_; clear E a; intro a E
 iterate 2 (refine zd E ?_; clear E a; intro a E)
 refine wpList_nil ?_
 refine zAb hK ?_; clear hK K
 refine zAs E rfl (fun hb => ?_) (fun hb => ?_)
 ·replace hb := Nrm.nrm hb
  obtain rfl : k = 0 := oZ
  refine wp_seq_k ?_; intro K hK
  refine zAa ?_
  iterate 2 (refine zd E ?_; clear E a; intro a E)
  refine zp E (by first | exact zAc (q := 0) E rfl rfl rfl | exact zAd (q := 0) E rfl rfl rfl) ?_; clear E a; intro a E
  refine zp E (zBf (vs := [_, _, _, _]) E rfl rfl rfl (S.get pZ) rfl rfl) ?_; clear E a; intro a E
  refine zAf rfl (zBr E S rfl rfl rfl rfl (by simp [Value.oneCell']) rfl pZ (by simp) ?_); clear E S a; intro a w E S; simp only [List.take_succ_cons, List.take_zero, List.drop_succ_cons, List.drop_zero, List.cons_append, List.nil_append, List.append_nil, List.length_cons, List.length_nil, Nat.zero_add, Nat.add_zero] at S
  refine wpList_nil ?_
  refine zAb hK ?_; clear hK K
  refine wp_ret ?_
  refine zBc ?_; clear hK K
  refine zKj E rfl rfl (S.get pZ) rfl ?_
  rw [← hR.done0]
  exact ⟨_, rfl, rfl, (S.only (Bs := [_]) sZ).tr⟩
 ·replace hb := Nrm.nrm hb
  skip
  refine wp_skip ?_
  refine zAb hK ?_; clear hK K
  refine wp_seq_k ?_; intro K hK
  refine zAw S (.ofL [(0, 0), (1, 0), (2, 0), (3, 0), (4, 0), (5, 0), (6, 0), (7, 0), (8, 1), (9, 3)]) yZ yZ ?_
  clear S; intro w S
  iterate 2 (refine zmd E ?_; clear E a; intro a E)
  refine zm E rfl (fun w h => by first | exact zAc (q := 0) E rfl rfl rfl | exact zAd (q := 0) E rfl rfl rfl) ?_; clear E a; intro a E
  refine zm E rfl (fun w h => zBf (vs := [_, _, _, _]) E rfl rfl rfl (h.one mZ) rfl rfl) ?_; clear E a; intro a E
  iterate 2 (refine zmd E ?_; clear E a; intro a E)
  refine zm E rfl (fun w h => by first | exact zAc (q := 4) E rfl rfl rfl | exact zAd (q := 4) E rfl rfl rfl) ?_; clear E a; intro a E
  refine zm E rfl (fun w h => zBf (vs := [_, _, _, _]) E rfl rfl rfl (h.one mZ) rfl rfl) ?_; clear E a; intro a E
  refine zBo E rfl rfl rfl dZ rfl Tryz.func123 rfl yZ rfl (plus_ret s hsok _ _ _ _ _) ?_
  rintro v20 w ⟨rfl, hT⟩; clear E a; intro a E
  have S := S.quiet hT
  refine ⟨S.stab.sub (by first | (simp; done) | (simp +contextual; done) | (simp [*]; done)), ?_⟩
  refine zCd rfl rfl (zBr E S rfl rfl rfl rfl (by simp [Value.oneCell']) rfl pZ (by simp) ?_); clear E S a; intro a w E S; simp only [List.take_succ_cons, List.take_zero, List.drop_succ_cons, List.drop_zero, List.cons_append, List.nil_append, List.append_nil, List.length_cons, List.length_nil, Nat.zero_add, Nat.add_zero] at S
  refine zBd ?_
  refine zAb hK ?_; clear hK K
  refine wp_ret ?_
  refine zKj E rfl rfl (S.get pZ) rfl ?_
  rw [← hR.done oZ]
  exact ⟨_, rfl, rfl, (S.only (Bs := [_]) sZ).tr⟩
theorem sumof_ret (O : zAj) (v : Value) (b : List UInt8) (hO : Rd O 1 v b.length (byt b)) (hbl : b.length ≤ 140737488355328) (w0 : World) (H : Hp w0 [O]) :
  Ret Tryz.prog 96 #[.int .i64 1, v] w0 fun u w' => u = .tuple #[(zEt b).agg, .int .i64 0] ∧ Trs w0 w' [O] [O] := by
 have S := St.begin H
 refine zBx 21 Tryz.func96 rfl rfl dZ ?_; intro a E
 refine wp_seq_k ?_; intro K hK
 refine zAa ?_
 refine zAf rfl (zBs E S rfl rfl dZ rfl rfl rfl ?_); clear E S a; intro a w b4 E S
 refine zd E ?_; clear E a; intro a E
 refine wpList_nil ?_
 refine zAb hK ?_; clear hK K
 iterate 2 (refine wp_seq_k ?_; intro K hK)
 refine zAa ?_
 refine zd E ?_; clear E a; intro a E
 refine wpList_nil ?_
 refine zAb hK ?_; clear hK K
 refine wp_block ?_
 refine wp_seq_k ?_; intro K hK
 refine zAa ?_
 iterate 2 (refine zd E ?_; clear E a; intro a E)
 refine wpList_nil ?_
 refine zAb hK ?_; clear hK K
 refine zCk E rfl (rfl) ?_
 refine wp_seq_k ?_; intro K hK
 refine zAa ?_
 refine zAg E rfl rfl dZ rfl Tryz.func110 rfl yZ rfl (sumnew_ret _) ?_
 rintro v10 w ⟨p, rfl, hT⟩; clear E a; intro a E
 have S := S.fresh hT
 refine zd E ?_; clear E a; intro a E
 refine wpList_nil ?_
 refine zAb hK ?_; clear hK K
 refine wp_seq_k ?_; intro K hK
 refine zAa ?_
 iterate 2 (refine zd E ?_; clear E a; intro a E)
 refine zAg E rfl rfl dZ rfl Tryz.func111 rfl yZ rfl (sumadd_ret O v b hO hbl p _ (S.hp.sel sZ)) ?_
 rintro v13 w ⟨s, x0, x1, x2, x3, k, hR, hT⟩; clear E a; intro a E
 have S := S.call2 sZ hT
 refine wpList_nil ?_
 refine zAb hK ?_; clear hK K
 refine wp_seq_k ?_; intro K hK
 refine zAa ?_
 refine zd E ?_; clear E a; intro a E
 refine zAg E rfl rfl dZ rfl Tryz.func112 rfl yZ rfl (sumvalue_ret b s x0 x1 x2 x3 k hR p _ (S.hp.sel sZ)) ?_
 rintro v15 w ⟨rfl, hT⟩; clear E a; intro a E
 have S := S.call1 sZ hT
 refine zAf rfl (zBr E S rfl rfl rfl rfl (by simp [Value.oneCell']) rfl pZ (by simp) ?_); clear E S a; intro a w E S; simp only [List.take_succ_cons, List.take_zero, List.drop_succ_cons, List.drop_zero, List.cons_append, List.nil_append, List.append_nil, List.length_cons, List.length_nil, Nat.zero_add, Nat.add_zero] at S
 refine zd E ?_; clear E a; intro a E
 refine wpList_nil ?_
 refine zAb hK ?_; clear hK K
 refine wp_ret ?_
 refine zDr ?_
 refine zBc ?_; clear hK K
 refine ret_ct E rfl rfl rfl (S.get pZ) rfl ?_
 exact ⟨_, rfl, rfl, (S.only (Bs := [O]) sZ).tr⟩
theorem zId (O : zAj) (v : Value) (b : List UInt8) (hO : Rd O 1 v b.length (byt b)) (hbl : b.length ≤ 140737488355328) (w0 : World) (H : Hp w0 [O]) :
  Ret Tryz.prog 19 #[v] w0 fun u w' => u = (zEt b).agg ∧ Trs w0 w' [O] [O] := by
 have S := St.begin H
 obtain ⟨ad, c, rfl⟩ := hO.slice
 refine zCh 59 Tryz.func19 rfl rfl dZ ?_; intro a E
 refine wp_seq_k ?_; intro K hK
 refine zAa ?_
 refine zAf rfl (zBs E S rfl rfl dZ rfl rfl rfl ?_); clear E S a; intro a w g2 E S
 refine wpList_nil ?_
 refine zAb hK ?_; clear hK K
 refine wp_seq_k ?_; intro K hK
 refine zAa ?_
 refine zp E (zBt (cells := [_, _, _, _]) E rfl rfl rfl) ?_; clear E a; intro a E
 refine zAf rfl (zBs E S rfl rfl dZ rfl rfl rfl ?_); clear E S a; intro a w g3 E S
 refine zAf rfl (zBr E S rfl rfl rfl rfl (by simp [Value.oneCell']) rfl pZ (by simp) ?_); clear E S a; intro a w E S; simp only [List.take_succ_cons, List.take_zero, List.drop_succ_cons, List.drop_zero, List.cons_append, List.nil_append, List.append_nil, List.length_cons, List.length_nil, Nat.zero_add, Nat.add_zero] at S
 refine wpList_nil ?_
 refine zAb hK ?_; clear hK K
 iterate 2 (refine wp_seq_k ?_; intro K hK)
 refine zAa ?_
 refine zd E ?_; clear E a; intro a E
 refine wpList_nil ?_
 refine zAb hK ?_; clear hK K
 refine wp_block ?_
 refine wp_loop_ghost (fun (m : Nat) (a : Act) (w' : World) => ∃ i : Nat, m = b.length + 4 - 4 * i ∧ 4 * i ≤ b.length + 3 ∧ St w0 [O] w' [[(g3, cel [.int .u64 (fsN b i).a, .int .u64 (fsN b i).b, .int .u64 (fsN b i).c, .int .u64 (fsN b i).d] 29)], [(g2, cel [.int .u64 0, .int .u64 0, .int .u64 0, .int .u64 0] 29)], O] ∧ Fr a 59 [(0, .slice ad b.length c), (2, ptr g2), (3, ptr g3), (4, .int .i64 (4 * i : Nat))]) (b.length + 4 - 4 * 0) ?_ ?_
 ·exact ⟨0, rfl, by omega, S, E.keep (kE4 rfl rfl rfl rfl)⟩
 clear E; clear a; (try clear S); rintro m a w ⟨i, rfl, hi, S, E⟩
 iterate 2 (refine wp_seq_k ?_; intro K hK)
 refine zAa ?_
 iterate 4 (refine zd E ?_; clear E a; intro a E)
 refine wpList_nil ?_
 refine zAb hK ?_; clear hK K
 refine zAs E rfl (fun hb => ?_) (fun hb => ?_)
 ·replace hb := Nrm.nrm hb
  refine wp_skip ?_
  refine zAb hK ?_; clear hK K
  refine wp_seq_k ?_; intro K hK
  refine wp_block ?_
  refine wp_seq_k ?_; intro K hK
  refine zAa ?_
  refine zd E ?_; clear E a; intro a E
  refine wpList_nil ?_
  refine zAb hK ?_; clear hK K
  iterate 2 (refine wp_seq_k ?_; intro K hK)
  refine zAa ?_
  refine zd E ?_; clear E a; intro a E
  refine wpList_nil ?_
  refine zAb hK ?_; clear hK K
  refine wp_block ?_
  refine wp_loop_ghost (fun (m : Nat) (a : Act) (w' : World) => ∃ j : Nat, m = j + 0 ∧ j ≤ 4 ∧ St w0 [O] w' [[(g3, cel [.int .u64 (fsN b i).a, .int .u64 (fsN b i).b, .int .u64 (fsN b i).c, .int .u64 (fsN b i).d] 29)], [(g2, cel [.int .u64 0, .int .u64 0, .int .u64 0, .int .u64 0] 29)], O] ∧ Fr a 59 [(0, .slice ad b.length c), (2, ptr g2), (3, ptr g3), (4, .int .i64 (4 * i : Nat)), (5, .int .u64 (zDj ((b.drop (4 * i + j)).take (4 - j)) : Nat)), (6, .int .i64 ((j : Int) - 1))]) (4) ?_ ?_
  ·exact ⟨4, rfl, by omega, S, by rw [show zDj ((b.drop (4 * i + 4)).take (4 - 4)) = 0 by rw [Nat.sub_self, List.take_zero]; rfl]; exact E.keep (kE6 rfl rfl rfl rfl rfl rfl)⟩
  clear E; clear a; (try clear S); rintro m a w ⟨j, hmj, hj, S, E⟩
  iterate 2 (refine wp_seq_k ?_; intro K hK)
  refine zAa ?_
  iterate 2 (refine zd E ?_; clear E a; intro a E)
  refine wpList_nil ?_
  refine zAb hK ?_; clear hK K
  refine zAs E rfl (fun hb => ?_) (fun hb => ?_)
  ·replace hb := Nrm.nrm hb
   refine wp_skip ?_
   refine zAb hK ?_; clear hK K
   refine wp_seq_k ?_; intro K hK
   refine wp_block ?_
   refine wp_seq_k ?_; intro K hK
   obtain ⟨l, rfl⟩ : ∃ l, j = l + 1 := ⟨j - 1, by omega⟩
   rw [show ((l + 1 : Nat) : Int) - 1 = (l : Int) by omega] at E
   have hst := num_down b (4 * i) (j := l) oZ
   have hlt := numOf_lt ((b.drop (4 * i + (l + 1))).take (4 - (l + 1)))
   have hp := Nat.pow_le_pow_right (n := 256) oZ (show ((b.drop (4 * i + (l + 1))).take (4 - (l + 1))).length ≤ 3 by rw [List.length_take]; omega)
   refine zAa ?_
   refine zd E ?_; clear E a; intro a E
   refine zp E (zCx E rfl rfl rfl (by first | exact zGn (x := 256) oZ | exact zFb (x := 256) oZ | exact w_in oZ | exact rfl)) ?_; clear E a; intro a E
   refine zd E ?_; clear E a; intro a E
   refine wpList_nil ?_
   refine zAb hK ?_; clear hK K
   refine wp_seq_k ?_; intro K hK
   refine zAa ?_
   iterate 2 (refine zd E ?_; clear E a; intro a E)
   refine zp E (zAy E rfl rfl rfl (by first | exact wa1 oZ | exact w_in oZ | exact zBj oZ | exact rfl)) ?_; clear E a; intro a E
   iterate 3 (refine zd E ?_; clear E a; intro a E)
   refine wpList_nil ?_
   refine zAb hK ?_; clear hK K
   refine zAs E rfl (fun hb => ?_) (fun hb => ?_)
   ·replace hb := Nrm.nrm hb
    have hfi : 4 * i + l < b.length := oZ
    obtain ⟨g, off, rfl⟩ := hO.addr oZ
    have hx := (b[4 * i + l]'hfi).toNat_lt
    rw [zLe b hfi] at hst
    refine zAa ?_
    iterate 4 (refine zd E ?_; clear E a; intro a E)
    refine zp E (zAy E rfl rfl rfl (by first | exact wa1 oZ | exact w_in oZ | exact zBj oZ | exact rfl)) ?_; clear E a; intro a E
    refine zp E (by first | exact zAp E rfl rfl rfl rfl rfl rfl oZ | exact zAz E rfl rfl rfl rfl rfl rfl oZ | exact zAm E rfl rfl rfl rfl rfl rfl oZ) ?_; clear E a; intro a E
    refine zp E (zAo E rfl rfl rfl (hO.byte (S.stab.at mZ) hfi)) ?_; clear E a; intro a E
    refine zp E (by first | exact zBe E rfl rfl rfl rfl (by first | exact wu8 _ | exact zHm oZ | exact zEo oZ | exact w_in oZ | exact zBj oZ | exact rfl) | exact zCc E rfl rfl rfl rfl rfl (by assumption) (S.stab.at (by simp))) ?_; clear E a; intro a E
    refine zp E (zAy E rfl rfl rfl (by first | exact wa1 oZ | exact w_in oZ | exact zBj oZ | exact rfl)) ?_; clear E a; intro a E
    refine zd E ?_; clear E a; intro a E
    refine wpList_nil ?_
    rw [show ((256 * zDj ((b.drop (4 * i + (l + 1))).take (4 - (l + 1))) : Nat) : Int) + (((b[4 * i + l]'hfi).toNat : Nat) : Int) = ((zDj ((b.drop (4 * i + l)).take (4 - l)) : Nat) : Int) by omega] at E
    refine zAq ?_
    refine zAb hK ?_; clear hK K
    refine zAa ?_
    refine zd E ?_; clear E a; intro a E
    refine zp E (zCo E rfl rfl rfl (w_in oZ)) ?_; clear E a; intro a E
    refine zd E ?_; clear E a; intro a E
    refine wpList_nil ?_
    refine zAn ?_
    skip
    first
     | exact ⟨l, by omega, l, rfl, by omega, S, E.keep (kE6 rfl rfl rfl rfl rfl rfl)⟩
     | (rw [gb_out b oZ] at hst; rw [show ((256 * zDj ((b.drop (4 * i + (l + 1))).take (4 - (l + 1))) : Nat) : Int) = ((zDj ((b.drop (4 * i + l)).take (4 - l)) : Nat) : Int) by rw [show (0 : UInt8).toNat = 0 from rfl] at hst; omega] at E; exact ⟨l, by omega, l, rfl, by omega, S, E.keep (kE6 rfl rfl rfl rfl rfl rfl)⟩)
   ·replace hb := Nrm.nrm hb
    have hfi : b.length ≤ 4 * i + l := oZ
    refine wp_skip ?_
    refine zAq ?_
    refine zAb hK ?_; clear hK K
    refine zAa ?_
    refine zd E ?_; clear E a; intro a E
    refine zp E (zCo E rfl rfl rfl (w_in oZ)) ?_; clear E a; intro a E
    refine zd E ?_; clear E a; intro a E
    refine wpList_nil ?_
    refine zAn ?_
    skip
    first
     | exact ⟨l, by omega, l, rfl, by omega, S, E.keep (kE6 rfl rfl rfl rfl rfl rfl)⟩
     | (rw [gb_out b oZ] at hst; rw [show ((256 * zDj ((b.drop (4 * i + (l + 1))).take (4 - (l + 1))) : Nat) : Int) = ((zDj ((b.drop (4 * i + l)).take (4 - l)) : Nat) : Int) by rw [show (0 : UInt8).toNat = 0 from rfl] at hst; omega] at E; exact ⟨l, by omega, l, rfl, by omega, S, E.keep (kE6 rfl rfl rfl rfl rfl rfl)⟩)
  ·replace hb := Nrm.nrm hb
   refine wp_exit ?_
   refine zAl ?_; clear hK K
   refine zAl ?_
   refine zBi ?_
   refine zAb hK ?_; clear hK K
   refine wp_seq_k ?_; intro K hK
   obtain rfl : j = 0 := by omega
   rw [show zDj ((b.drop (4 * i + 0)).take (4 - 0)) = nm b (4 * i) 4 from rfl] at E
   refine zAa ?_
   refine zp E (by first | exact zAc (q := 0) E rfl rfl rfl | exact zAd (q := 0) E rfl rfl rfl) ?_; clear E a; intro a E
   iterate 2 (refine zd E ?_; clear E a; intro a E)
   refine zp E (zAy E rfl rfl rfl (wa_m _ _)) ?_; clear E a; intro a E
   refine zp E (by first | exact zAc (q := 0) E rfl rfl rfl | exact zAd (q := 0) E rfl rfl rfl) ?_; clear E a; intro a E
   refine zAf rfl (zBa E S rfl rfl rfl rfl rfl rfl pZ (by first | exact Nat.le_of_ble_eq_true rfl | (simp; done) | (simp; omega)) ?_); clear E S a; intro a w E S; try dsimp only [List.set] at S
   refine wpList_nil ?_
   refine zAb hK ?_; clear hK K
   refine wp_seq_k ?_; intro K hK
   refine zAa ?_
   refine zp E (by first | exact zAc (q := 1) E rfl rfl rfl | exact zAd (q := 1) E rfl rfl rfl) ?_; clear E a; intro a E
   refine zd E ?_; clear E a; intro a E
   refine zp E (by first | exact zAc (q := 0) E rfl rfl rfl | exact zAd (q := 0) E rfl rfl rfl) ?_; clear E a; intro a E
   refine zd E ?_; clear E a; intro a E
   refine zp E (zAy E rfl rfl rfl (wa_m _ _)) ?_; clear E a; intro a E
   refine zp E (by first | exact zAc (q := 1) E rfl rfl rfl | exact zAd (q := 1) E rfl rfl rfl) ?_; clear E a; intro a E
   refine zAf rfl (zBa E S rfl rfl rfl rfl rfl rfl pZ (by first | exact Nat.le_of_ble_eq_true rfl | (simp; done) | (simp; omega)) ?_); clear E S a; intro a w E S; try dsimp only [List.set] at S
   refine wpList_nil ?_
   refine zAb hK ?_; clear hK K
   refine wp_seq_k ?_; intro K hK
   refine zAa ?_
   refine zp E (by first | exact zAc (q := 2) E rfl rfl rfl | exact zAd (q := 2) E rfl rfl rfl) ?_; clear E a; intro a E
   refine zd E ?_; clear E a; intro a E
   refine zp E (by first | exact zAc (q := 1) E rfl rfl rfl | exact zAd (q := 1) E rfl rfl rfl) ?_; clear E a; intro a E
   refine zd E ?_; clear E a; intro a E
   refine zp E (zAy E rfl rfl rfl (wa_m _ _)) ?_; clear E a; intro a E
   refine zp E (by first | exact zAc (q := 2) E rfl rfl rfl | exact zAd (q := 2) E rfl rfl rfl) ?_; clear E a; intro a E
   refine zAf rfl (zBa E S rfl rfl rfl rfl rfl rfl pZ (by first | exact Nat.le_of_ble_eq_true rfl | (simp; done) | (simp; omega)) ?_); clear E S a; intro a w E S; try dsimp only [List.set] at S
   refine wpList_nil ?_
   refine zAb hK ?_; clear hK K
   refine zAa ?_
   refine zp E (by first | exact zAc (q := 3) E rfl rfl rfl | exact zAd (q := 3) E rfl rfl rfl) ?_; clear E a; intro a E
   refine zd E ?_; clear E a; intro a E
   refine zp E (by first | exact zAc (q := 2) E rfl rfl rfl | exact zAd (q := 2) E rfl rfl rfl) ?_; clear E a; intro a E
   refine zd E ?_; clear E a; intro a E
   refine zp E (zAy E rfl rfl rfl (wa_m _ _)) ?_; clear E a; intro a E
   refine zp E (by first | exact zAc (q := 3) E rfl rfl rfl | exact zAd (q := 3) E rfl rfl rfl) ?_; clear E a; intro a E
   refine zAf rfl (zBa E S rfl rfl rfl rfl rfl rfl pZ (by first | exact Nat.le_of_ble_eq_true rfl | (simp; done) | (simp; omega)) ?_); clear E S a; intro a w E S; try dsimp only [List.set] at S
   refine wpList_nil ?_
   refine zAq ?_
   refine zAb hK ?_; clear hK K
   refine zAa ?_
   refine zd E ?_; clear E a; intro a E
   refine zp E (zAy E rfl rfl rfl (by first | exact zBq (y := 4) oZ | exact w_in oZ | exact zBj oZ | exact rfl)) ?_; clear E a; intro a E
   refine zd E ?_; clear E a; intro a E
   refine wpList_nil ?_
   refine zAn ?_
   rw [show 4 * i + 4 = 4 * (i + 1) by omega] at E
   exact ⟨_, by omega, i + 1, rfl, by omega, S, E.keep (kE4 rfl rfl rfl rfl)⟩
 ·replace hb := Nrm.nrm hb
  refine wp_exit ?_
  refine zAl ?_; clear hK K
  refine zAl ?_
  refine zBi ?_
  refine zAb hK ?_; clear hK K
  refine wp_seq_k ?_; intro K hK
  refine zAa ?_
  refine zp E (zBf (vs := [_, _, _, _]) E rfl rfl rfl (S.get pZ) rfl rfl) ?_; clear E a; intro a E
  refine zAf rfl (zBr E S rfl rfl rfl rfl (by simp [Value.oneCell']) rfl pZ (by simp) ?_); clear E S a; intro a w E S; simp only [List.take_succ_cons, List.take_zero, List.drop_succ_cons, List.drop_zero, List.cons_append, List.nil_append, List.append_nil, List.length_cons, List.length_nil, Nat.zero_add, Nat.add_zero] at S
  refine wpList_nil ?_
  refine zAb hK ?_; clear hK K
  refine wp_ret ?_
  refine zKj E rfl rfl (S.get pZ) rfl ?_
  have hfin : (b.length + 3) / 4 = i := by omega
  rw [zEt, hfin]
  exact ⟨_, rfl, rfl, (S.only (Bs := [O]) sZ).tr⟩
end Go.Proofs.YtpjidiaekifmbaaGreatDoor
namespace Go.Sl
def fsB (s : Fs) : List UInt8 := zBu s.a 8 ++ zBu s.b 8 ++ zBu s.c 8 ++ zBu s.d 8
theorem fsB_length (s : Fs) : (fsB s).length = 32 := by simp [fsB, zBh]
def zGd (x : List UInt8) : List UInt8 := x ++ List.replicate (96 - x.length) 0
theorem zFm {x : List UInt8} (h : x.length ≤ 96) : (zGd x).length = 96 := by simp [zGd]; omega
def whole (x : List UInt8) : List UInt8 := zGd x ++ fsB (zEt (zGd x))
theorem zJc {x : List UInt8} (h : x.length ≤ 96) : (whole x).length = 128 := by rw [whole, List.length_append, zFm h, fsB_length]
end Go.Sl
namespace Go.Sl
structure Tp where
 kind : Int
 leaves : Int
 sectors : Int
deriving DecidableEq
def Tp.lay (t : Tp) : List Value := [.int .i64 t.kind, .int .i64 t.leaves, .int .i64 t.sectors]
abbrev Tp.agg (t : Tp) : Value := .agg #[.int .i64 t.kind, .int .i64 t.leaves, .int .i64 t.sectors]
theorem Tp.lay_len (t : Tp) : t.lay.length = 3 := rfl
theorem Tp.lay_one (t : Tp) : ∀ u ∈ t.lay, u.oneCell' = true := fun u hu => by
 simp only [Tp.lay, List.mem_cons, List.not_mem_nil, or_false] at hu
 rcases hu with rfl | rfl | rfl <;> rfl
structure Tp.Ok (t : Tp) : Prop where
 kind : -9223372036854775808 ≤ t.kind ∧ t.kind ≤ 9223372036854775807
 leaves : -9223372036854775808 ≤ t.leaves ∧ t.leaves ≤ 9223372036854775807
 sectors : -9223372036854775808 ≤ t.sectors ∧ t.sectors ≤ 9223372036854775807
def zIe : Tp := ⟨0, 0, 0⟩
def Tp.made (t : Tp) : Prop := 324 ≤ t.sectors ∧ t.sectors ≤ 8192 ∧ (t.kind = 1 ∧ t.leaves = 1 ∨ t.kind = 2 ∧ 2 ≤ t.leaves ∧ t.leaves ≤ 5 ∨ t.kind = 3 ∧ 3 ≤ t.leaves ∧ t.leaves ≤ 5)
instance (t : Tp) : Decidable t.made := by unfold Tp.made; infer_instance
def tpB (t : Tp) : List UInt8 := zBu t.kind.toNat 1 ++ (zBu t.leaves.toNat 1 ++ zBu t.sectors.toNat 4)
theorem tpB_length (t : Tp) : (tpB t).length = 6 := by simp [tpB, zBh]
structure Lbl where
 pool : Nat
 tops : List Tp
 top : Int
 place : Int
deriving DecidableEq
structure Lbl.Ok (l : Lbl) : Prop where
 pool : l.pool < 18446744073709551616
 top : -9223372036854775808 ≤ l.top ∧ l.top ≤ 9223372036854775807
 place : -9223372036854775808 ≤ l.place ∧ l.place ≤ 9223372036854775807
 tops : ∀ t ∈ l.tops, t.Ok
def Lbl.may (l : Lbl) : Prop := 1 ≤ l.tops.length ∧ l.tops.length ≤ 4 ∧ 0 ≤ l.top ∧ l.top < l.tops.length ∧ 0 ≤ l.place ∧ l.place < (l.tops.getD l.top.toNat zIe).leaves ∧ ∀ t ∈ l.tops, t.made
instance (l : Lbl) : Decidable l.may := by unfold Lbl.may; infer_instance
def lbE (l : Lbl) : Int := if l.may then 0 else 42
def lLet : List UInt8 := [85, 67, 76, 66]
def lbH (l : Lbl) : List UInt8 := lLet ++ (zBu l.pool 8 ++ (zBu l.top.toNat 1 ++ (zBu l.place.toNat 1 ++ zBu l.tops.length 1)))
theorem zGz (l : Lbl) : (lbH l).length = 15 := by simp [lbH, lLet, zBh]
def lbB (l : Lbl) : List UInt8 := lbH l ++ l.tops.flatMap tpB
theorem zJn : ∀ l : List Tp, (l.flatMap tpB).length = 6 * l.length
 | [] => rfl
 | t :: r => by rw [List.flatMap_cons, List.length_append, tpB_length, zJn r, List.length_cons]; omega
theorem lbB_length (l : Lbl) : (lbB l).length = 15 + 6 * l.tops.length := by rw [lbB, List.length_append, zGz, zJn]
def lbO (l : Lbl) : List UInt8 := if lbE l = 0 then whole (lbB l) else []
structure Ub where
 pool : Nat
 txg : Nat
 note : Nat
 root : Pt
deriving DecidableEq
def Ub.lay (u : Ub) : List Value := [.int .u64 u.pool, .int .u64 u.txg, .int .u64 u.note, .int .i64 u.root.top, .int .i64 u.root.at_, .int .i64 u.root.bytes, .int .u64 u.root.birth, .int .i64 u.root.kind, .int .u64 u.root.a, .int .u64 u.root.b, .int .u64 u.root.c, .int .u64 u.root.d]
abbrev Ub.agg (u : Ub) : Value := .agg #[.int .u64 u.pool, .int .u64 u.txg, .int .u64 u.note, .int .i64 u.root.top, .int .i64 u.root.at_, .int .i64 u.root.bytes, .int .u64 u.root.birth, .int .i64 u.root.kind, .int .u64 u.root.a, .int .u64 u.root.b, .int .u64 u.root.c, .int .u64 u.root.d]
structure Ub.Ok (u : Ub) : Prop where
 pool : u.pool < 18446744073709551616
 txg : u.txg < 18446744073709551616
 note : u.note < 18446744073709551616
 root : u.root.Ok
end Go.Sl
namespace Go.Sl
theorem four_fs (s : Fs) : four [s.a, s.b, s.c, s.d] = fsB s := by simp [four, fsB]
theorem sl_of (O : zAj) {v : Value} {b : List UInt8} (h : Rd O 1 v b.length (byt b)) {m : Nat} {c : List UInt8} (hc : c = b) (hm : m = c.length) : Rd O 1 v m (byt c) := by subst hc hm; exact h
end Go.Sl
namespace Go.Proofs.YtpjidiaekifmbaaGreatDoor
open Go.Sl
set_option maxRecDepth 10000
theorem wholeno_ret (v : Value) (e : Int) (he : e ≠ 0) (w0 : World) :
  Ret Tryz.prog 83 #[v, .int .i64 e] w0 fun u w' => u = .tuple #[.slice none 0 0, .int .i64 e] ∧ Trs w0 w' [] [] := by
 have S := St.begin (zDz w0)
 refine zBx 30 Tryz.func83 rfl rfl dZ ?_; intro a E
 refine wp_seq_k ?_; intro K hK
 refine zAa ?_
 iterate 2 (refine zd E ?_; clear E a; intro a E)
 refine wpList_nil ?_
 refine zAb hK ?_; clear hK K
 iterate 2 (refine wp_seq_k ?_; intro K hK)
 refine zAa ?_
 iterate 2 (refine zd E ?_; clear E a; intro a E)
 refine wpList_nil ?_
 refine zAb hK ?_; clear hK K
 refine zCk E rfl ((by simp [he])) ?_
 refine wp_seq_k ?_; intro K hK
 refine zAa ?_
 iterate 3 (refine zd E ?_; clear E a; intro a E)
 refine wpList_nil ?_
 refine zAb hK ?_; clear hK K
 refine wp_ret ?_
 refine zBc ?_; clear hK K
 refine ret2 E rfl rfl rfl ?_
 exact ⟨_, rfl, rfl, (S.only (Bs := []) sZ).tr⟩
theorem whole_ret (O : zAj) (v : Value) (b : List UInt8) (hO : Rd O 1 v b.length (byt b)) (hl : b.length = 96) (w0 : World) (H : Hp w0 [O]) :
  Ret Tryz.prog 83 #[v, .int .i64 0] w0 fun u w' => ∃ g, u = .tuple #[.slice (some ⟨g, 0, none⟩) 128 128, .int .i64 0] ∧ Trs w0 w' [O] [[(g, cel (byt (b ++ fsB (zEt b))) 5)], O] := by
 have S := St.begin H
 have hfl : (b ++ fsB (zEt b)).length = 128 := by rw [List.length_append, fsB_length, hl]
 refine zBx 30 Tryz.func83 rfl rfl dZ ?_; intro a E
 refine wp_seq_k ?_; intro K hK
 refine zAa ?_
 iterate 2 (refine zd E ?_; clear E a; intro a E)
 refine wpList_nil ?_
 refine zAb hK ?_; clear hK K
 iterate 2 (refine wp_seq_k ?_; intro K hK)
 refine zAa ?_
 iterate 2 (refine zd E ?_; clear E a; intro a E)
 refine wpList_nil ?_
 refine zAb hK ?_; clear hK K
 refine zAt E rfl (rfl) ?_
 refine wp_skip ?_
 refine zAb hK ?_; clear hK K
 refine wp_seq_k ?_; intro K hK
 refine zAa ?_
 refine zd E ?_; clear E a; intro a E
 refine zAg E rfl rfl dZ rfl Tryz.func96 rfl yZ rfl (sumof_ret O v b hO oZ _ (S.hp.sel sZ)) ?_
 rintro v13 w ⟨rfl, hT⟩; clear E a; intro a E
 have S := S.call1 sZ hT
 iterate 3 (refine zd E ?_; clear E a; intro a E)
 refine zAf rfl (zBs E S rfl rfl dZ rfl rfl rfl ?_); clear E S a; intro a w b6 E S
 refine zAf rfl (zBr E S rfl rfl rfl rfl (by simp [Value.oneCell']) rfl pZ (by simp) ?_); clear E S a; intro a w E S; simp only [List.take_succ_cons, List.take_zero, List.drop_succ_cons, List.drop_zero, List.cons_append, List.nil_append, List.append_nil, List.length_cons, List.length_nil, Nat.zero_add, Nat.add_zero] at S
 refine zd E ?_; clear E a; intro a E
 refine wpList_nil ?_
 refine zAb hK ?_; clear hK K
 iterate 2 (refine wp_seq_k ?_; intro K hK)
 refine zAa ?_
 iterate 2 (refine zd E ?_; clear E a; intro a E)
 refine wpList_nil ?_
 refine zAb hK ?_; clear hK K
 refine zAt E rfl (rfl) ?_
 refine wp_skip ?_
 refine zAb hK ?_; clear hK K
 refine wp_seq_k ?_; intro K hK
 refine zAa ?_
 refine zAg E rfl rfl dZ rfl Tryz.func97 rfl yZ rfl (writer_ret 128 _) ?_
 rintro v19 w ⟨p, A, rfl, hA, hT⟩; clear E a; intro a E
 have S := S.fresh hT; have hA : WrC 202 p ⟨128, [], 0⟩ A := hA
 refine zd E ?_; clear E a; intro a E
 refine wpList_nil ?_
 refine zAb hK ?_; clear hK K
 refine wp_seq_k ?_; intro K hK
 refine zAa ?_
 iterate 2 (refine zd E ?_; clear E a; intro a E)
 refine zAg E rfl rfl dZ rfl Tryz.func98 rfl yZ rfl (bytes_fit p 128 [] A O _ hA v b hO (S.hp.sel sZ) oZ (by simp only [List.length_nil]; omega)) ?_
 rintro v22 w ⟨A1, hA1, hT⟩; clear E a; intro a E
 have S := S.call2 sZ hT
 refine wpList_nil ?_
 refine zAb hK ?_; clear hK K
 refine wp_seq_k ?_; intro K hK
 refine zAa ?_
 refine zd E ?_; clear E a; intro a E
 refine zp E (zBf (vs := [_, _, _, _]) E rfl rfl rfl (S.get pZ) rfl rfl) ?_; clear E a; intro a E
 refine zAg E rfl rfl dZ rfl Tryz.func99 rfl yZ rfl (laysum_ret p 128 _ A1 _ _ _ _ ⟨(zEr b).a, (zEr b).b, (zEr b).c, (zEr b).d⟩ _ hA1 (S.hp.sel sZ) oZ (by simp only [List.nil_append]; omega)) ?_
 rintro v25 w ⟨A2, hA2, hT⟩; clear E a; intro a E
 have S := S.call1 sZ hT; rw [four_fs, List.nil_append] at hA2
 refine wpList_nil ?_
 refine zAb hK ?_; clear hK K
 refine wp_seq_k ?_; intro K hK
 refine zAa ?_
 refine zd E ?_; clear E a; intro a E
 refine zAg E rfl rfl dZ rfl Tryz.func100 rfl yZ rfl (done_fit p 128 _ A2 _ hA2 (S.hp.sel sZ) oZ) ?_
 rintro v27 w ⟨g, rfl, hT⟩; clear E a; intro a E
 have S := S.call2 sZ hT; rw [hfl] at E
 iterate 4 (refine zd E ?_; clear E a; intro a E)
 refine wpList_nil ?_
 refine zAb hK ?_; clear hK K
 refine wp_ret ?_
 refine ret2 E rfl rfl rfl ?_
 exact ⟨_, rfl, g, rfl, (S.only (Bs := [[(g, _)], O]) sZ).tr⟩
end Go.Proofs.YtpjidiaekifmbaaGreatDoor
namespace Go.Sl
end Go.Sl
namespace Go.Proofs.YtpjidiaekifmbaaGreatDoor
open Go.Sl
set_option maxRecDepth 10000
theorem dsummed_ret (v : Value) (bs : List UInt8) (C : zAj) (hC : Buf C 5 1 v bs.length (byt bs)) (hl : bs.length ≤ 96) (w0 : World) (H : Hp w0 [C]) :
  Ret Tryz.prog 89 #[v] w0 fun u w' => ∃ C', Buf C' 5 1 u (whole bs).length (byt (whole bs)) ∧ Trs w0 w' [C] [C'] := by
 have S := St.begin H
 have hpl := zFm hl
 refine zCh 9 Tryz.func89 rfl rfl dZ ?_; intro a E
 refine wp_seq_k ?_; intro K hK
 refine zAa ?_
 refine zd E ?_; clear E a; intro a E
 refine wpList_nil ?_
 refine zAb hK ?_; clear hK K
 refine wp_seq_k ?_; intro K hK
 refine zAa ?_
 refine zd E ?_; clear E a; intro a E
 refine zAg E rfl rfl dZ rfl Tryz.func108 rfl yZ rfl (dpadded_ret v bs C 96 hC oZ hl _ (S.hp.sel sZ)) ?_
 rintro v4 w ⟨C1, hC1, hT⟩; clear E a; intro a E
 have S := S.call1 sZ hT; have hC1 : Buf C1 5 1 _ (zGd bs).length (byt (zGd bs)) := hC1
 refine zd E ?_; clear E a; intro a E
 refine wpList_nil ?_
 refine zAb hK ?_; clear hK K
 refine wp_seq_k ?_; intro K hK
 refine zAa ?_
 iterate 2 (refine zd E ?_; clear E a; intro a E)
 refine zAg E rfl rfl dZ rfl Tryz.func19 rfl yZ rfl (zId C1 _ (zGd bs) hC1.rd oZ _ (S.hp.sel sZ)) ?_
 rintro v7 w ⟨rfl, hT⟩; clear E a; intro a E
 have S := S.call1 sZ hT
 refine zAg E rfl rfl dZ rfl Tryz.func109 rfl yZ rfl (dsums_ret _ (zGd bs) C1 _ _ _ _ ⟨(zEr (zGd bs)).a, (zEr (zGd bs)).b, (zEr (zGd bs)).c, (zEr (zGd bs)).d⟩ hC1 oZ _ (S.hp.sel sZ)) ?_
 rintro v8 w ⟨C2, hC2, hT⟩; clear E a; intro a E
 have S := S.call1 sZ hT; rw [four_fs] at hC2
 refine zd E ?_; clear E a; intro a E
 refine wpList_nil ?_
 refine zAb hK ?_; clear hK K
 refine wp_ret ?_
 refine ret1 E rfl rfl ?_
 exact ⟨_, rfl, C2, hC2, (S.only (Bs := [C2]) sZ).tr⟩
theorem dnumf_ret (g : Nat) (bs : List UInt8) (C : zAj) (n k : Nat) (hC : Rd C 1 (.slice (some ⟨g, 0, none⟩) bs.length bs.length) bs.length (byt bs)) (hl : bs.length ≤ 1000000) (hn : n < 18446744073709551616) (h1 : 1 ≤ k) (hk : k ≤ 8) (w0 : World) (H : Hp w0 [C]) :
  Ret Tryz.prog 88 #[.slice (some ⟨g, 0, none⟩) bs.length bs.length, .int .u64 n, .int .i64 k] w0 fun u w' => ∃ C', Buf C' 5 1 u (bs ++ zBu n k).length (byt (bs ++ zBu n k)) ∧ Trs w0 w' [C] [C'] := by
 have S := St.begin H
 refine zDi 18 Tryz.func88 rfl rfl dZ ?_; intro a E
 refine wp_seq_k ?_; intro K hK
 refine zAa ?_
 refine zd E ?_; clear E a; intro a E
 refine wpList_nil ?_
 refine zAb hK ?_; clear hK K
 refine wp_seq_k ?_; intro K hK
 refine zAa ?_
 iterate 2 (refine zd E ?_; clear E a; intro a E)
 refine zAg E rfl rfl dZ rfl Tryz.func107 rfl yZ rfl (vform_ret n hn k _ hk) ?_
 rintro v12 w ⟨ad, c, D, rfl, hD, hT⟩; clear E a; intro a E
 have S := S.fresh hT
 iterate 5 (refine zd E ?_; clear E a; intro a E)
 refine wpList_nil ?_
 refine zAb hK ?_; clear hK K
 refine wp_seq_k ?_; intro K hK
 refine zAa ?_
 iterate 2 (refine zd E ?_; clear E a; intro a E)
 refine zAf rfl (wp_appendf (by' := 1) E S rfl rfl dZ rfl rfl hC mZ (hD.rd.src (S.stab.at mZ) rfl) rfl rfl rfl rfl rfl rfl (by simp only [maxLen]; omega) oZ oZ ?_); clear E S a; intro a w v17 C17 E S hB17
 refine zd E ?_; clear E a; intro a E
 refine wpList_nil ?_
 refine zAb hK ?_; clear hK K
 refine wp_ret ?_
 refine ret1 E rfl rfl ?_
 exact ⟨_, rfl, C17, by rw [zBw, List.length_append, zBh]; exact hB17, (S.only (Bs := [C17]) sZ).tr⟩
end Go.Proofs.YtpjidiaekifmbaaGreatDoor
