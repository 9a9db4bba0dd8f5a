/-
  Texts put together (6).
-/
import Derived.Test.YtidhehcjafoneaaGreatDoorZMirrorKeeps5
namespace Go.Proofs.YtidhehcjafoneaaGreatDoor
open Go.Sl
set_option maxRecDepth 10000
theorem plus_ret (s : Fs) (hs : s.Ok) (x0 x1 x2 x3 : UInt8) (w0 : World) :
    Ret Tryz.prog 116 #[s.agg, .agg #[.int .u8 x0.toNat, .int .u8 x1.toNat, .int .u8 x2.toNat, .int .u8 x3.toNat]] w0 fun u w' => u = (fstep s (word4 x0 x1 x2 x3)).agg ∧ Trs w0 w' [] [] := by
  have S := St.begin (zEs w0)
  refine zCy 46 Tryz.func116 rfl rfl (by decide) ?_; intro a E
  refine wp_seq_k ?_; intro K hK
  refine zAc ?_
  refine zAo rfl (zCr E S rfl rfl (by decide) rfl rfl ?_); clear E S a; intro a w b2 E S
  refine zAo rfl (zCr E S rfl rfl (by decide) rfl rfl ?_); clear E S a; intro a w b3 E S
  refine zAo rfl (zCe E S rfl rfl (by decide) rfl rfl rfl ?_); clear E S a; intro a w b4 E S
  refine wpList_nil ?_
  refine zAh hK ?_; clear hK; clear K
  refine wp_seq_k ?_; intro K hK
  refine zAc ?_
  refine zp E (by first | exact zAg (q := 0) E rfl rfl rfl | exact zAi (q := 0) E rfl rfl rfl) ?_; clear E a; intro a E
  refine zp E (by first | exact zAn E rfl rfl rfl (S.get (by repeat (first | exact pk1 | apply zAa))) rfl | exact zAj E rfl rfl rfl (by assumption)) ?_; clear E a; intro a E
  refine zp E (zBa (i := 0) E rfl rfl rfl rfl rfl rfl (by omega)) ?_; clear E a; intro a E
  refine zp E (by first | exact zAn E rfl rfl rfl (S.get (by repeat (first | exact pk1 | apply zAa))) rfl | exact zAj E rfl rfl rfl (by assumption)) ?_; clear E a; intro a E
  refine zp E (by first | exact zBv E rfl rfl rfl rfl (by first | exact wu8 _ | exact zHt (by omega) | exact zFc (by omega) | exact w_in (by omega) | exact zCc (by omega) | exact rfl) | exact zCz E rfl rfl rfl rfl rfl (by assumption) (S.stab.at (by simp))) ?_; clear E a; intro a E
  refine zp E (zBa (i := 1) E rfl rfl rfl rfl rfl rfl (by omega)) ?_; clear E a; intro a E
  refine zp E (by first | exact zAn E rfl rfl rfl (S.get (by repeat (first | exact pk1 | apply zAa))) rfl | exact zAj E rfl rfl rfl (by assumption)) ?_; clear E a; intro a E
  refine zp E (by first | exact zBv E rfl rfl rfl rfl (by first | exact wu8 _ | exact zHt (by omega) | exact zFc (by omega) | exact w_in (by omega) | exact zCc (by omega) | exact rfl) | exact zCz E rfl rfl rfl rfl rfl (by assumption) (S.stab.at (by simp))) ?_; clear E a; intro a E
  refine zp E (zFb E rfl rfl rfl (by omega) (by simp only [IntKind.bits]; omega) (word_sh 8 (by omega))) ?_; clear E a; intro a E
  refine zp E (zGt E rfl rfl rfl (word_or1 x0 x1)) ?_; clear E a; intro a E
  refine zp E (zBa (i := 2) E rfl rfl rfl rfl rfl rfl (by omega)) ?_; clear E a; intro a E
  refine zp E (by first | exact zAn E rfl rfl rfl (S.get (by repeat (first | exact pk1 | apply zAa))) rfl | exact zAj E rfl rfl rfl (by assumption)) ?_; clear E a; intro a E
  refine zp E (by first | exact zBv E rfl rfl rfl rfl (by first | exact wu8 _ | exact zHt (by omega) | exact zFc (by omega) | exact w_in (by omega) | exact zCc (by omega) | exact rfl) | exact zCz E rfl rfl rfl rfl rfl (by assumption) (S.stab.at (by simp))) ?_; clear E a; intro a E
  refine zp E (zFb E rfl rfl rfl (by omega) (by simp only [IntKind.bits]; omega) (word_sh 16 (by omega))) ?_; clear E a; intro a E
  refine zp E (zGt E rfl rfl rfl (word_or2 x0 x1 x2)) ?_; clear E a; intro a E
  refine zp E (zBa (i := 3) E rfl rfl rfl rfl rfl rfl (by omega)) ?_; clear E a; intro a E
  refine zp E (by first | exact zAn E rfl rfl rfl (S.get (by repeat (first | exact pk1 | apply zAa))) rfl | exact zAj E rfl rfl rfl (by assumption)) ?_; clear E a; intro a E
  refine zp E (by first | exact zBv E rfl rfl rfl rfl (by first | exact wu8 _ | exact zHt (by omega) | exact zFc (by omega) | exact w_in (by omega) | exact zCc (by omega) | exact rfl) | exact zCz E rfl rfl rfl rfl rfl (by assumption) (S.stab.at (by simp))) ?_; clear E a; intro a E
  refine zp E (zFb E rfl rfl rfl (by omega) (by simp only [IntKind.bits]; omega) (word_sh 24 (by omega))) ?_; clear E a; intro a E
  refine zp E (zGt E rfl rfl rfl (word_or3 x0 x1 x2 x3)) ?_; clear E a; intro a E
  refine zp E (zBu E rfl rfl rfl (wa_m _ _)) ?_; clear E a; intro a E
  refine zp E (by first | exact zAg (q := 0) E rfl rfl rfl | exact zAi (q := 0) E rfl rfl rfl) ?_; clear E a; intro a E
  refine zAo rfl (zBk E S rfl rfl rfl rfl rfl rfl (by repeat (first | exact pk1 | apply zAa)) (by first | exact Nat.le_of_ble_eq_true rfl | (simp; done) | (simp; omega)) ?_); clear E S a; intro a w E S; try dsimp only [List.set] at S
  refine wpList_nil ?_
  refine zAh hK ?_; clear hK; clear K
  refine wp_seq_k ?_; intro K hK
  replace E := E.keep (e' := [(2, _), (4, _)]) (zAb rfl (zAb rfl (zAq)))
  refine zAc ?_
  refine zp E (by first | exact zAg (q := 1) E rfl rfl rfl | exact zAi (q := 1) E rfl rfl rfl) ?_; clear E a; intro a E
  refine zp E (by first | exact zAn E rfl rfl rfl (S.get (by repeat (first | exact pk1 | apply zAa))) rfl | exact zAj E rfl rfl rfl (by assumption)) ?_; clear E a; intro a E
  refine zp E (by first | exact zAg (q := 0) E rfl rfl rfl | exact zAi (q := 0) E rfl rfl rfl) ?_; clear E a; intro a E
  refine zp E (by first | exact zAn E rfl rfl rfl (S.get (by repeat (first | exact pk1 | apply zAa))) rfl | exact zAj E rfl rfl rfl (by assumption)) ?_; clear E a; intro a E
  refine zp E (zBu E rfl rfl rfl (wa_m _ _)) ?_; clear E a; intro a E
  refine zp E (by first | exact zAg (q := 1) E rfl rfl rfl | exact zAi (q := 1) E rfl rfl rfl) ?_; clear E a; intro a E
  refine zAo rfl (zBk E S rfl rfl rfl rfl rfl rfl (by repeat (first | exact pk1 | apply zAa)) (by first | exact Nat.le_of_ble_eq_true rfl | (simp; done) | (simp; omega)) ?_); clear E S a; intro a w E S; try dsimp only [List.set] at S
  refine wpList_nil ?_
  refine zAh hK ?_; clear hK; clear K
  refine wp_seq_k ?_; intro K hK
  refine zAc ?_
  refine zp E (by first | exact zAg (q := 2) E rfl rfl rfl | exact zAi (q := 2) E rfl rfl rfl) ?_; clear E a; intro a E
  refine zp E (by first | exact zAn E rfl rfl rfl (S.get (by repeat (first | exact pk1 | apply zAa))) rfl | exact zAj E rfl rfl rfl (by assumption)) ?_; clear E a; intro a E
  refine zp E (by first | exact zAg (q := 1) E rfl rfl rfl | exact zAi (q := 1) E rfl rfl rfl) ?_; clear E a; intro a E
  refine zp E (by first | exact zAn E rfl rfl rfl (S.get (by repeat (first | exact pk1 | apply zAa))) rfl | exact zAj E rfl rfl rfl (by assumption)) ?_; clear E a; intro a E
  refine zp E (zBu E rfl rfl rfl (wa_m _ _)) ?_; clear E a; intro a E
  refine zp E (by first | exact zAg (q := 2) E rfl rfl rfl | exact zAi (q := 2) E rfl rfl rfl) ?_; clear E a; intro a E
  refine zAo rfl (zBk E S rfl rfl rfl rfl rfl rfl (by repeat (first | exact pk1 | apply zAa)) (by first | exact Nat.le_of_ble_eq_true rfl | (simp; done) | (simp; omega)) ?_); clear E S a; intro a w E S; try dsimp only [List.set] at S
  refine wpList_nil ?_
  refine zAh hK ?_; clear hK; clear K
  refine wp_seq_k ?_; intro K hK
  refine zAc ?_
  refine zp E (by first | exact zAg (q := 3) E rfl rfl rfl | exact zAi (q := 3) E rfl rfl rfl) ?_; clear E a; intro a E
  refine zp E (by first | exact zAn E rfl rfl rfl (S.get (by repeat (first | exact pk1 | apply zAa))) rfl | exact zAj E rfl rfl rfl (by assumption)) ?_; clear E a; intro a E
  refine zp E (by first | exact zAg (q := 2) E rfl rfl rfl | exact zAi (q := 2) E rfl rfl rfl) ?_; clear E a; intro a E
  refine zp E (by first | exact zAn E rfl rfl rfl (S.get (by repeat (first | exact pk1 | apply zAa))) rfl | exact zAj E rfl rfl rfl (by assumption)) ?_; clear E a; intro a E
  refine zp E (zBu E rfl rfl rfl (wa_m _ _)) ?_; clear E a; intro a E
  refine zp E (by first | exact zAg (q := 3) E rfl rfl rfl | exact zAi (q := 3) E rfl rfl rfl) ?_; clear E a; intro a E
  refine zAo rfl (zBk E S rfl rfl rfl rfl rfl rfl (by repeat (first | exact pk1 | apply zAa)) (by first | exact Nat.le_of_ble_eq_true rfl | (simp; done) | (simp; omega)) ?_); clear E S a; intro a w E S; try dsimp only [List.set] at S
  refine wpList_nil ?_
  refine zAh hK ?_; clear hK; clear K
  refine wp_seq_k ?_; intro K hK
  refine zAc ?_
  refine zp E (zBx (vs := [_, _, _, _]) E rfl rfl rfl (S.get (by repeat (first | exact pk1 | apply zAa))) rfl rfl) ?_; clear E a; intro a E
  refine zAo rfl (zCf E S rfl rfl rfl rfl (by simp [Value.oneCell']) rfl (by repeat (first | exact pk1 | apply zAa)) (by simp) ?_); clear E S a; intro a w E S; simp only [List.take_succ_cons, List.take_zero, List.drop_succ_cons, List.drop_zero, List.cons_append, List.nil_append, List.append_nil, List.length_cons, List.length_nil, Nat.zero_add, Nat.add_zero] at S
  refine wpList_nil ?_
  refine zAh hK ?_; clear hK; clear K
  refine wp_ret ?_
  refine zKf E rfl rfl (S.get (by repeat (first | exact pk1 | apply zAa))) rfl ?_
  exact ⟨_, rfl, rfl, (S.only (Bs := []) (zAk _)).tr⟩
def runO (s : Fs) (x0 x1 x2 x3 : UInt8) (k : Nat) : Obj := cel [.int .u64 s.a, .int .u64 s.b, .int .u64 s.c, .int .u64 s.d, .int .u8 x0.toNat, .int .u8 x1.toNat, .int .u8 x2.toNat, .int .u8 x3.toNat, .int .i64 k] 195
theorem sumnew_ret (w0 : World) : Ret Tryz.prog 103 #[] w0 fun u w' => ∃ p, u = ptr p ∧ Trs w0 w' [] [[(p, runO fsZero 0 0 0 0 0)]] := by
  have S := St.begin (zEs w0)
  refine zLh 3 Tryz.func103 rfl rfl ?_; intro a E
  refine wp_seq_k ?_; intro K hK
  refine zAc ?_
  refine zp E (zAf E rfl rfl) ?_; clear E a; intro a E
  refine wpList_nil ?_
  refine zAh hK ?_; clear hK; clear K
  refine wp_seq_k ?_; intro K hK
  refine zAc ?_
  refine zp E (zCn (cells := [_, _, _, _, _, _, _, _, _]) E rfl rfl rfl) ?_; clear E a; intro a E
  refine zAo rfl (zCr E S rfl rfl (by decide) rfl rfl ?_); clear E S a; intro a w b2 E S
  refine zp E (zAf E rfl rfl) ?_; clear E a; intro a E
  refine wpList_nil ?_
  refine zAh hK ?_; clear hK; clear K
  refine wp_ret ?_
  refine ret1 E rfl rfl ?_
  exact ⟨_, rfl, _, rfl, (S.only (Bs := [_]) (zAd pk1 (zAk _))).tr⟩
theorem sumadd_ret (O : zAu) (v : Value) (b : List UInt8) (hO : Rd O 1 v b.length (byt b)) (hbl : b.length ≤ 140737488355328) (p : Nat) (w0 : World) (H : Hp w0 [[(p, runO fsZero 0 0 0 0 0)], O]) :
    Ret Tryz.prog 104 #[ptr p, v] w0 fun _ w' => ∃ s x0 x1 x2 x3 k, Run b b.length s x0 x1 x2 x3 k ∧ Trs w0 w' [[(p, runO fsZero 0 0 0 0 0)], O] [[(p, runO s x0 x1 x2 x3 k)], O] := by
  have S := St.begin H
  obtain ⟨ad, c, rfl⟩ := hO.slice
  refine zCy 53 Tryz.func104 rfl rfl (by decide) ?_; intro a E
  refine wp_seq_k ?_; intro K hK
  refine zAc ?_
  refine zp E (zAe E rfl rfl) ?_; clear E a; intro a E
  refine zp E (by first | exact zBz E rfl rfl rfl | exact zAy E rfl rfl rfl | exact zAt E rfl rfl rfl) ?_; clear E a; intro a E
  refine zp E (zAe E rfl rfl) ?_; clear E a; intro a E
  refine wpList_nil ?_
  refine zAh hK ?_; clear hK; clear K
  refine wp_block ?_
  refine wp_loop_ghost (fun (m : Nat) (a : Act) (w' : World) => ∃ (i : Nat) (s : Fs) (x0 x1 x2 x3 : UInt8) (k : Nat), m = b.length - i ∧ Run b i s x0 x1 x2 x3 k ∧ (St w0 [[(p, runO fsZero 0 0 0 0 0)], O] w' [[(p, runO s x0 x1 x2 x3 k)], O]) ∧ Fr a 53 [(0, ptr p), (6, .slice ad b.length c), (7, .int .i64 b.length), (8, .int .i64 i)]) (b.length - 0) ?_ ?_
  · exact ⟨0, _, _, _, _, _, 0, rfl, Run.start b, S, E.keep (zAb rfl (zAb rfl (zAb rfl (zAb rfl zAq))))⟩
  clear E; clear a; (try clear S); rintro m a w ⟨i, s, x0, x1, x2, x3, k, rfl, hR, S, E⟩
  refine wp_seq_k ?_; intro K hK
  refine zAc ?_
  refine zp E (zCd E rfl rfl rfl) ?_; clear E a; intro a E
  refine wpList_nil ?_
  refine zAh hK ?_; clear hK; clear K
  refine wp_seq_k ?_; intro K hK
  refine zBl E rfl (fun hb => ?_) (fun hb => ?_)
  · replace hb := Nrm.nrm hb
    refine wp_skip ?_
    refine zAh hK ?_; clear hK; clear K
    refine wp_seq_k ?_; intro K hK
    refine wp_block ?_
    refine wp_seq_k ?_; intro K hK
    have hib : i < b.length := by omega
    obtain ⟨g, off, rfl⟩ := hO.addr (by omega)
    have hsok := hR.ok
    refine zAc ?_
    refine zp E (by first | exact zBh E rfl rfl rfl rfl rfl rfl (by omega) | exact zBo E rfl rfl rfl rfl rfl rfl (by omega) | exact zBa E rfl rfl rfl rfl rfl rfl (by omega)) ?_; clear E a; intro a E
    refine zp E (zAj E rfl rfl rfl (hO.byte (S.stab.at (by repeat (first | exact mm1 | assumption | apply List.Mem.tail))) hib)) ?_; clear E a; intro a E
    refine zp E (zAf E rfl rfl) ?_; clear E a; intro a E
    dsimp only [runO] at S
    have hk4 : k = 0 ∨ k = 1 ∨ k = 2 ∨ k = 3 := by have := hR.hk; omega
    rcases hk4 with rfl | rfl | rfl | rfl
    · skip
      refine wpList_nil ?_
      refine zAh hK ?_; clear hK; clear K
      refine wp_seq_k ?_; intro K hK
      refine zBm S (.ofL [(0, 0), (1, 0), (2, 0), (3, 0), (4, 0), (5, 0), (6, 0), (7, 0), (8, 0), (9, 3)]) (by kernel_rfl) (by kernel_rfl) ?_
      clear S; intro w S
      iterate 2 (refine zm E rfl (fun w h => zAe E rfl rfl) ?_; clear E a; intro a E)
      refine zm E rfl (fun w h => zAm E rfl rfl) ?_; clear E a; intro a E
      refine zm E rfl (fun w h => by first | exact zAg (q := 8) E rfl rfl rfl | exact zAi (q := 8) E rfl rfl rfl) ?_; clear E a; intro a E
      refine zm E rfl (fun w h => by first | exact zAn E rfl rfl rfl (h.one (by repeat (first | exact mm1 | assumption | apply List.Mem.tail))) rfl | exact zAj E rfl rfl rfl (by assumption)) ?_; clear E a; intro a E
      refine zm E rfl (fun w h => zAe E rfl rfl) ?_; clear E a; intro a E
      refine zm E rfl (fun w h => zAm E rfl rfl) ?_; clear E a; intro a E
      refine zm E rfl (fun w h => by first | exact zAg (q := 4) E rfl rfl rfl | exact zAi (q := 4) E rfl rfl rfl) ?_; clear E a; intro a E
      refine zm E rfl (fun w h => zBa (i := 0) E rfl rfl rfl rfl rfl rfl (by omega)) ?_; clear E a; intro a E
      refine zCs rfl rfl (zBk E S rfl rfl rfl rfl rfl rfl (by repeat (first | exact pk1 | apply zAa)) (by first | exact Nat.le_of_ble_eq_true rfl | (simp; done) | (simp; omega)) ?_); clear E S a; intro a w E S; try dsimp only [List.set] at S
      refine zBr ?_
      refine zAh hK ?_; clear hK; clear K
      refine wp_seq_k ?_; intro K hK
      refine zAc ?_
      refine zp E (zAe E rfl rfl) ?_; clear E a; intro a E
      refine zp E (zAm E rfl rfl) ?_; clear E a; intro a E
      refine zp E (by first | exact zAg (q := 8) E rfl rfl rfl | exact zAi (q := 8) E rfl rfl rfl) ?_; clear E a; intro a E
      refine zp E (by first | exact zAn E rfl rfl rfl (S.get (by repeat (first | exact pk1 | apply zAa))) rfl | exact zAj E rfl rfl rfl (by assumption)) ?_; clear E a; intro a E
      refine zp E (zBu E rfl rfl rfl (by first | exact zCm (y := 1) (by omega) | exact w_in (by omega) | exact zCc (by omega) | exact rfl)) ?_; clear E a; intro a E
      refine zp E (zAm E rfl rfl) ?_; clear E a; intro a E
      refine zp E (by first | exact zAg (q := 8) E rfl rfl rfl | exact zAi (q := 8) E rfl rfl rfl) ?_; clear E a; intro a E
      refine zAo rfl (zBk E S rfl rfl rfl rfl rfl rfl (by repeat (first | exact pk1 | apply zAa)) (by first | exact Nat.le_of_ble_eq_true rfl | (simp; done) | (simp; omega)) ?_); clear E S a; intro a w E S; try dsimp only [List.set] at S
      refine wpList_nil ?_
      refine zAh hK ?_; clear hK; clear K
      refine wp_seq_k ?_; intro K hK
      refine zAc ?_
      refine zp E (zAe E rfl rfl) ?_; clear E a; intro a E
      refine zp E (zAm E rfl rfl) ?_; clear E a; intro a E
      refine zp E (by first | exact zAg (q := 8) E rfl rfl rfl | exact zAi (q := 8) E rfl rfl rfl) ?_; clear E a; intro a E
      refine zp E (by first | exact zAn E rfl rfl rfl (S.get (by repeat (first | exact pk1 | apply zAa))) rfl | exact zAj E rfl rfl rfl (by assumption)) ?_; clear E a; intro a E
      refine zp E (by first | exact zCg E rfl rfl rfl | exact zAv E rfl rfl rfl rfl | exact zBc E rfl rfl rfl rfl | exact zAw E rfl rfl rfl) ?_; clear E a; intro a E
      refine wpList_nil ?_
      refine zAh hK ?_; clear hK; clear K
      refine zBs E rfl ((by decide)) ?_
      refine wp_skip ?_
      refine zBf ?_
      refine zAh hK ?_; clear hK; clear K
      refine zAc ?_
      refine zp E (zBu E rfl rfl rfl (by first | exact zCm (y := 1) (by omega) | exact w_in (by omega) | exact zCc (by omega) | exact rfl)) ?_; clear E a; intro a E
      refine zp E (zAe E rfl rfl) ?_; clear E a; intro a E
      refine wpList_nil ?_
      refine zBe ?_
      exact ⟨_, by omega, i + 1, _, _, _, _, _, _, rfl, hR.s0 hib, S, E.keep (zAb rfl (zAb rfl (zAb rfl (zAb rfl zAq))))⟩
    · skip
      refine wpList_nil ?_
      refine zAh hK ?_; clear hK; clear K
      refine wp_seq_k ?_; intro K hK
      refine zBm S (.ofL [(0, 0), (1, 0), (2, 0), (3, 0), (4, 0), (5, 0), (6, 0), (7, 0), (8, 0), (9, 3)]) (by kernel_rfl) (by kernel_rfl) ?_
      clear S; intro w S
      iterate 2 (refine zm E rfl (fun w h => zAe E rfl rfl) ?_; clear E a; intro a E)
      refine zm E rfl (fun w h => zAm E rfl rfl) ?_; clear E a; intro a E
      refine zm E rfl (fun w h => by first | exact zAg (q := 8) E rfl rfl rfl | exact zAi (q := 8) E rfl rfl rfl) ?_; clear E a; intro a E
      refine zm E rfl (fun w h => by first | exact zAn E rfl rfl rfl (h.one (by repeat (first | exact mm1 | assumption | apply List.Mem.tail))) rfl | exact zAj E rfl rfl rfl (by assumption)) ?_; clear E a; intro a E
      refine zm E rfl (fun w h => zAe E rfl rfl) ?_; clear E a; intro a E
      refine zm E rfl (fun w h => zAm E rfl rfl) ?_; clear E a; intro a E
      refine zm E rfl (fun w h => by first | exact zAg (q := 4) E rfl rfl rfl | exact zAi (q := 4) E rfl rfl rfl) ?_; clear E a; intro a E
      refine zm E rfl (fun w h => zBa (i := 1) E rfl rfl rfl rfl rfl rfl (by omega)) ?_; clear E a; intro a E
      refine zCs rfl rfl (zBk E S rfl rfl rfl rfl rfl rfl (by repeat (first | exact pk1 | apply zAa)) (by first | exact Nat.le_of_ble_eq_true rfl | (simp; done) | (simp; omega)) ?_); clear E S a; intro a w E S; try dsimp only [List.set] at S
      refine zBr ?_
      refine zAh hK ?_; clear hK; clear K
      refine wp_seq_k ?_; intro K hK
      refine zAc ?_
      refine zp E (zAe E rfl rfl) ?_; clear E a; intro a E
      refine zp E (zAm E rfl rfl) ?_; clear E a; intro a E
      refine zp E (by first | exact zAg (q := 8) E rfl rfl rfl | exact zAi (q := 8) E rfl rfl rfl) ?_; clear E a; intro a E
      refine zp E (by first | exact zAn E rfl rfl rfl (S.get (by repeat (first | exact pk1 | apply zAa))) rfl | exact zAj E rfl rfl rfl (by assumption)) ?_; clear E a; intro a E
      refine zp E (zBu E rfl rfl rfl (by first | exact zCm (y := 1) (by omega) | exact w_in (by omega) | exact zCc (by omega) | exact rfl)) ?_; clear E a; intro a E
      refine zp E (zAm E rfl rfl) ?_; clear E a; intro a E
      refine zp E (by first | exact zAg (q := 8) E rfl rfl rfl | exact zAi (q := 8) E rfl rfl rfl) ?_; clear E a; intro a E
      refine zAo rfl (zBk E S rfl rfl rfl rfl rfl rfl (by repeat (first | exact pk1 | apply zAa)) (by first | exact Nat.le_of_ble_eq_true rfl | (simp; done) | (simp; omega)) ?_); clear E S a; intro a w E S; try dsimp only [List.set] at S
      refine wpList_nil ?_
      refine zAh hK ?_; clear hK; clear K
      refine wp_seq_k ?_; intro K hK
      refine zAc ?_
      refine zp E (zAe E rfl rfl) ?_; clear E a; intro a E
      refine zp E (zAm E rfl rfl) ?_; clear E a; intro a E
      refine zp E (by first | exact zAg (q := 8) E rfl rfl rfl | exact zAi (q := 8) E rfl rfl rfl) ?_; clear E a; intro a E
      refine zp E (by first | exact zAn E rfl rfl rfl (S.get (by repeat (first | exact pk1 | apply zAa))) rfl | exact zAj E rfl rfl rfl (by assumption)) ?_; clear E a; intro a E
      refine zp E (by first | exact zCg E rfl rfl rfl | exact zAv E rfl rfl rfl rfl | exact zBc E rfl rfl rfl rfl | exact zAw E rfl rfl rfl) ?_; clear E a; intro a E
      refine wpList_nil ?_
      refine zAh hK ?_; clear hK; clear K
      refine zBs E rfl ((by decide)) ?_
      refine wp_skip ?_
      refine zBf ?_
      refine zAh hK ?_; clear hK; clear K
      refine zAc ?_
      refine zp E (zBu E rfl rfl rfl (by first | exact zCm (y := 1) (by omega) | exact w_in (by omega) | exact zCc (by omega) | exact rfl)) ?_; clear E a; intro a E
      refine zp E (zAe E rfl rfl) ?_; clear E a; intro a E
      refine wpList_nil ?_
      refine zBe ?_
      exact ⟨_, by omega, i + 1, _, _, _, _, _, _, rfl, hR.s1 hib, S, E.keep (zAb rfl (zAb rfl (zAb rfl (zAb rfl zAq))))⟩
    · skip
      refine wpList_nil ?_
      refine zAh hK ?_; clear hK; clear K
      refine wp_seq_k ?_; intro K hK
      refine zBm S (.ofL [(0, 0), (1, 0), (2, 0), (3, 0), (4, 0), (5, 0), (6, 0), (7, 0), (8, 0), (9, 3)]) (by kernel_rfl) (by kernel_rfl) ?_
      clear S; intro w S
      iterate 2 (refine zm E rfl (fun w h => zAe E rfl rfl) ?_; clear E a; intro a E)
      refine zm E rfl (fun w h => zAm E rfl rfl) ?_; clear E a; intro a E
      refine zm E rfl (fun w h => by first | exact zAg (q := 8) E rfl rfl rfl | exact zAi (q := 8) E rfl rfl rfl) ?_; clear E a; intro a E
      refine zm E rfl (fun w h => by first | exact zAn E rfl rfl rfl (h.one (by repeat (first | exact mm1 | assumption | apply List.Mem.tail))) rfl | exact zAj E rfl rfl rfl (by assumption)) ?_; clear E a; intro a E
      refine zm E rfl (fun w h => zAe E rfl rfl) ?_; clear E a; intro a E
      refine zm E rfl (fun w h => zAm E rfl rfl) ?_; clear E a; intro a E
      refine zm E rfl (fun w h => by first | exact zAg (q := 4) E rfl rfl rfl | exact zAi (q := 4) E rfl rfl rfl) ?_; clear E a; intro a E
      refine zm E rfl (fun w h => zBa (i := 2) E rfl rfl rfl rfl rfl rfl (by omega)) ?_; clear E a; intro a E
      refine zCs rfl rfl (zBk E S rfl rfl rfl rfl rfl rfl (by repeat (first | exact pk1 | apply zAa)) (by first | exact Nat.le_of_ble_eq_true rfl | (simp; done) | (simp; omega)) ?_); clear E S a; intro a w E S; try dsimp only [List.set] at S
      refine zBr ?_
      refine zAh hK ?_; clear hK; clear K
      refine wp_seq_k ?_; intro K hK
      refine zAc ?_
      refine zp E (zAe E rfl rfl) ?_; clear E a; intro a E
      refine zp E (zAm E rfl rfl) ?_; clear E a; intro a E
      refine zp E (by first | exact zAg (q := 8) E rfl rfl rfl | exact zAi (q := 8) E rfl rfl rfl) ?_; clear E a; intro a E
      refine zp E (by first | exact zAn E rfl rfl rfl (S.get (by repeat (first | exact pk1 | apply zAa))) rfl | exact zAj E rfl rfl rfl (by assumption)) ?_; clear E a; intro a E
      refine zp E (zBu E rfl rfl rfl (by first | exact zCm (y := 1) (by omega) | exact w_in (by omega) | exact zCc (by omega) | exact rfl)) ?_; clear E a; intro a E
      refine zp E (zAm E rfl rfl) ?_; clear E a; intro a E
      refine zp E (by first | exact zAg (q := 8) E rfl rfl rfl | exact zAi (q := 8) E rfl rfl rfl) ?_; clear E a; intro a E
      refine zAo rfl (zBk E S rfl rfl rfl rfl rfl rfl (by repeat (first | exact pk1 | apply zAa)) (by first | exact Nat.le_of_ble_eq_true rfl | (simp; done) | (simp; omega)) ?_); clear E S a; intro a w E S; try dsimp only [List.set] at S
      refine wpList_nil ?_
      refine zAh hK ?_; clear hK; clear K
      refine wp_seq_k ?_; intro K hK
      refine zAc ?_
      refine zp E (zAe E rfl rfl) ?_; clear E a; intro a E
      refine zp E (zAm E rfl rfl) ?_; clear E a; intro a E
      refine zp E (by first | exact zAg (q := 8) E rfl rfl rfl | exact zAi (q := 8) E rfl rfl rfl) ?_; clear E a; intro a E
      refine zp E (by first | exact zAn E rfl rfl rfl (S.get (by repeat (first | exact pk1 | apply zAa))) rfl | exact zAj E rfl rfl rfl (by assumption)) ?_; clear E a; intro a E
      refine zp E (by first | exact zCg E rfl rfl rfl | exact zAv E rfl rfl rfl rfl | exact zBc E rfl rfl rfl rfl | exact zAw E rfl rfl rfl) ?_; clear E a; intro a E
      refine wpList_nil ?_
      refine zAh hK ?_; clear hK; clear K
      refine zBs E rfl ((by decide)) ?_
      refine wp_skip ?_
      refine zBf ?_
      refine zAh hK ?_; clear hK; clear K
      refine zAc ?_
      refine zp E (zBu E rfl rfl rfl (by first | exact zCm (y := 1) (by omega) | exact w_in (by omega) | exact zCc (by omega) | exact rfl)) ?_; clear E a; intro a E
      refine zp E (zAe E rfl rfl) ?_; clear E a; intro a E
      refine wpList_nil ?_
      refine zBe ?_
      exact ⟨_, by omega, i + 1, _, _, _, _, _, _, rfl, hR.s2 hib, S, E.keep (zAb rfl (zAb rfl (zAb rfl (zAb rfl zAq))))⟩
    · skip
      refine wpList_nil ?_
      refine zAh hK ?_; clear hK; clear K
      refine wp_seq_k ?_; intro K hK
      refine zBm S (.ofL [(0, 0), (1, 0), (2, 0), (3, 0), (4, 0), (5, 0), (6, 0), (7, 0), (8, 0), (9, 3)]) (by kernel_rfl) (by kernel_rfl) ?_
      clear S; intro w S
      iterate 2 (refine zm E rfl (fun w h => zAe E rfl rfl) ?_; clear E a; intro a E)
      refine zm E rfl (fun w h => zAm E rfl rfl) ?_; clear E a; intro a E
      refine zm E rfl (fun w h => by first | exact zAg (q := 8) E rfl rfl rfl | exact zAi (q := 8) E rfl rfl rfl) ?_; clear E a; intro a E
      refine zm E rfl (fun w h => by first | exact zAn E rfl rfl rfl (h.one (by repeat (first | exact mm1 | assumption | apply List.Mem.tail))) rfl | exact zAj E rfl rfl rfl (by assumption)) ?_; clear E a; intro a E
      refine zm E rfl (fun w h => zAe E rfl rfl) ?_; clear E a; intro a E
      refine zm E rfl (fun w h => zAm E rfl rfl) ?_; clear E a; intro a E
      refine zm E rfl (fun w h => by first | exact zAg (q := 4) E rfl rfl rfl | exact zAi (q := 4) E rfl rfl rfl) ?_; clear E a; intro a E
      refine zm E rfl (fun w h => zBa (i := 3) E rfl rfl rfl rfl rfl rfl (by omega)) ?_; clear E a; intro a E
      refine zCs rfl rfl (zBk E S rfl rfl rfl rfl rfl rfl (by repeat (first | exact pk1 | apply zAa)) (by first | exact Nat.le_of_ble_eq_true rfl | (simp; done) | (simp; omega)) ?_); clear E S a; intro a w E S; try dsimp only [List.set] at S
      refine zBr ?_
      refine zAh hK ?_; clear hK; clear K
      refine wp_seq_k ?_; intro K hK
      refine zAc ?_
      refine zp E (zAe E rfl rfl) ?_; clear E a; intro a E
      refine zp E (zAm E rfl rfl) ?_; clear E a; intro a E
      refine zp E (by first | exact zAg (q := 8) E rfl rfl rfl | exact zAi (q := 8) E rfl rfl rfl) ?_; clear E a; intro a E
      refine zp E (by first | exact zAn E rfl rfl rfl (S.get (by repeat (first | exact pk1 | apply zAa))) rfl | exact zAj E rfl rfl rfl (by assumption)) ?_; clear E a; intro a E
      refine zp E (zBu E rfl rfl rfl (by first | exact zCm (y := 1) (by omega) | exact w_in (by omega) | exact zCc (by omega) | exact rfl)) ?_; clear E a; intro a E
      refine zp E (zAm E rfl rfl) ?_; clear E a; intro a E
      refine zp E (by first | exact zAg (q := 8) E rfl rfl rfl | exact zAi (q := 8) E rfl rfl rfl) ?_; clear E a; intro a E
      refine zAo rfl (zBk E S rfl rfl rfl rfl rfl rfl (by repeat (first | exact pk1 | apply zAa)) (by first | exact Nat.le_of_ble_eq_true rfl | (simp; done) | (simp; omega)) ?_); clear E S a; intro a w E S; try dsimp only [List.set] at S
      refine wpList_nil ?_
      refine zAh hK ?_; clear hK; clear K
      refine wp_seq_k ?_; intro K hK
      refine zAc ?_
      refine zp E (zAe E rfl rfl) ?_; clear E a; intro a E
      refine zp E (zAm E rfl rfl) ?_; clear E a; intro a E
      refine zp E (by first | exact zAg (q := 8) E rfl rfl rfl | exact zAi (q := 8) E rfl rfl rfl) ?_; clear E a; intro a E
      refine zp E (by first | exact zAn E rfl rfl rfl (S.get (by repeat (first | exact pk1 | apply zAa))) rfl | exact zAj E rfl rfl rfl (by assumption)) ?_; clear E a; intro a E
      refine zp E (by first | exact zCg E rfl rfl rfl | exact zAv E rfl rfl rfl rfl | exact zBc E rfl rfl rfl rfl | exact zAw E rfl rfl rfl) ?_; clear E a; intro a E
      refine wpList_nil ?_
      refine zAh hK ?_; clear hK; clear K
      refine zDb E rfl ((by decide)) ?_
      refine wp_seq_k ?_; intro K hK
      refine zBm S (.ofL [(0, 0), (1, 0), (2, 0), (3, 0), (4, 0), (5, 0), (6, 0), (7, 0), (8, 0), (9, 1), (10, 0), (11, 0), (12, 3)]) (by kernel_rfl) (by kernel_rfl) ?_
      clear S; intro w S
      iterate 2 (refine zm E rfl (fun w h => zAe E rfl rfl) ?_; clear E a; intro a E)
      refine zm E rfl (fun w h => zAm E rfl rfl) ?_; clear E a; intro a E
      refine zm E rfl (fun w h => by first | exact zAg (q := 0) E rfl rfl rfl | exact zAi (q := 0) E rfl rfl rfl) ?_; clear E a; intro a E
      refine zm E rfl (fun w h => zBx (vs := [_, _, _, _]) E rfl rfl rfl (h.one (by repeat (first | exact mm1 | assumption | apply List.Mem.tail))) rfl rfl) ?_; clear E a; intro a E
      refine zm E rfl (fun w h => zAe E rfl rfl) ?_; clear E a; intro a E
      refine zm E rfl (fun w h => zAm E rfl rfl) ?_; clear E a; intro a E
      refine zm E rfl (fun w h => by first | exact zAg (q := 4) E rfl rfl rfl | exact zAi (q := 4) E rfl rfl rfl) ?_; clear E a; intro a E
      refine zm E rfl (fun w h => zBx (vs := [_, _, _, _]) E rfl rfl rfl (h.one (by repeat (first | exact mm1 | assumption | apply List.Mem.tail))) rfl rfl) ?_; clear E a; intro a E
      refine zCp E rfl rfl rfl (by decide) rfl Tryz.func116 rfl (by kernel_rfl) rfl (plus_ret s hsok _ _ _ _ _) ?_
      rintro v42 w ⟨rfl, hT⟩; clear E a; intro a E
      have S := S.quiet hT
      refine ⟨S.stab.sub (by first | (simp; done) | (simp +contextual; done) | (simp [*]; done)), ?_⟩
      refine zm E rfl (fun w h => zAm E rfl rfl) ?_; clear E a; intro a E
      refine zm E rfl (fun w h => by first | exact zAg (q := 0) E rfl rfl rfl | exact zAi (q := 0) E rfl rfl rfl) ?_; clear E a; intro a E
      refine zCs rfl rfl (zCf E S rfl rfl rfl rfl (by simp [Value.oneCell']) rfl (by repeat (first | exact pk1 | apply zAa)) (by simp) ?_); clear E S a; intro a w E S; simp only [List.take_succ_cons, List.take_zero, List.drop_succ_cons, List.drop_zero, List.cons_append, List.nil_append, List.append_nil, List.length_cons, List.length_nil, Nat.zero_add, Nat.add_zero] at S
      refine zBr ?_
      refine zAh hK ?_; clear hK; clear K
      refine zAc ?_
      iterate 2 (refine zp E (zAe E rfl rfl) ?_; clear E a; intro a E)
      refine zp E (zCn (cells := [_, _, _, _]) E rfl rfl rfl) ?_; clear E a; intro a E
      refine zp E (zAm E rfl rfl) ?_; clear E a; intro a E
      refine zp E (by first | exact zAg (q := 4) E rfl rfl rfl | exact zAi (q := 4) E rfl rfl rfl) ?_; clear E a; intro a E
      refine zAo rfl (zCf E S rfl rfl rfl rfl (by simp [Value.oneCell']) rfl (by repeat (first | exact pk1 | apply zAa)) (by simp) ?_); clear E S a; intro a w E S; simp only [List.take_succ_cons, List.take_zero, List.drop_succ_cons, List.drop_zero, List.cons_append, List.nil_append, List.append_nil, List.length_cons, List.length_nil, Nat.zero_add, Nat.add_zero] at S
      refine zp E (zAm E rfl rfl) ?_; clear E a; intro a E
      refine zp E (by first | exact zAg (q := 8) E rfl rfl rfl | exact zAi (q := 8) E rfl rfl rfl) ?_; clear E a; intro a E
      refine zAo rfl (zBk E S rfl rfl rfl rfl rfl rfl (by repeat (first | exact pk1 | apply zAa)) (by first | exact Nat.le_of_ble_eq_true rfl | (simp; done) | (simp; omega)) ?_); clear E S a; intro a w E S; try dsimp only [List.set] at S
      refine wpList_nil ?_
      refine zBf ?_
      refine zAh hK ?_; clear hK; clear K
      refine zAc ?_
      refine zp E (zBu E rfl rfl rfl (by first | exact zCm (y := 1) (by omega) | exact w_in (by omega) | exact zCc (by omega) | exact rfl)) ?_; clear E a; intro a E
      refine zp E (zAe E rfl rfl) ?_; clear E a; intro a E
      refine wpList_nil ?_
      refine zBe ?_
      exact ⟨_, by omega, i + 1, _, _, _, _, _, _, rfl, hR.s3 hib, S, E.keep (zAb rfl (zAb rfl (zAb rfl (zAb rfl zAq))))⟩
  · replace hb := Nrm.nrm hb
    refine wp_exit ?_
    refine zBd ?_; clear hK; clear K
    refine zBd ?_
    refine zCl ?_
    refine end0 E rfl ?_
    obtain rfl : i = b.length := by have := hR.le; omega
    exact ⟨_, rfl, s, x0, x1, x2, x3, k, hR, S.tr⟩
theorem sumvalue_ret (b : List UInt8) (s : Fs) (x0 x1 x2 x3 : UInt8) (k : Nat) (hR : Run b b.length s x0 x1 x2 x3 k) (p : Nat) (w0 : World) (H : Hp w0 [[(p, runO s x0 x1 x2 x3 k)]]) :
    Ret Tryz.prog 105 #[ptr p] w0 fun u w' => u = (zFj b).agg ∧ Trs w0 w' [[(p, runO s x0 x1 x2 x3 k)]] [[(p, runO s x0 x1 x2 x3 k)]] := by
  have S := St.begin H
  have hsok := hR.ok
  dsimp only [runO] at S
  refine zDc 21 Tryz.func105 rfl rfl (by decide) ?_; intro a E
  refine wp_seq_k ?_; intro K hK
  refine zAc ?_
  refine zAo rfl (zCe E S rfl rfl (by decide) rfl rfl rfl ?_); clear E S a; intro a w b2 E S
  refine wpList_nil ?_
  refine zAh hK ?_; clear hK; clear K
  iterate 2 (refine wp_seq_k ?_; intro K hK)
  refine zAc ?_
  refine zp E (zAe E rfl rfl) ?_; clear E a; intro a E
  refine zp E (zAm E rfl rfl) ?_; clear E a; intro a E
  refine zp E (by first | exact zAg (q := 8) E rfl rfl rfl | exact zAi (q := 8) E rfl rfl rfl) ?_; clear E a; intro a E
  refine zp E (by first | exact zAn E rfl rfl rfl (S.get (by repeat (first | exact pk1 | apply zAa))) rfl | exact zAj E rfl rfl rfl (by assumption)) ?_; clear E a; intro a E
  refine zp E (by first | exact zCg E rfl rfl rfl | exact zAv E rfl rfl rfl rfl | exact zBc E rfl rfl rfl rfl | exact zAw E rfl rfl rfl) ?_; clear E a; intro a E
  refine wpList_nil ?_
  refine zAh hK ?_; clear hK; clear K
  refine zBl E rfl (fun hb => ?_) (fun hb => ?_)
  · replace hb := Nrm.nrm hb
    obtain rfl : k = 0 := (by omega)
    refine wp_seq_k ?_; intro K hK
    refine zAc ?_
    refine zp E (zAe E rfl rfl) ?_; clear E a; intro a E
    refine zp E (zAm E rfl rfl) ?_; clear E a; intro a E
    refine zp E (by first | exact zAg (q := 0) E rfl rfl rfl | exact zAi (q := 0) E rfl rfl rfl) ?_; clear E a; intro a E
    refine zp E (zBx (vs := [_, _, _, _]) E rfl rfl rfl (S.get (by repeat (first | exact pk1 | apply zAa))) rfl rfl) ?_; clear E a; intro a E
    refine zAo rfl (zCf E S rfl rfl rfl rfl (by simp [Value.oneCell']) rfl (by repeat (first | exact pk1 | apply zAa)) (by simp) ?_); clear E S a; intro a w E S; simp only [List.take_succ_cons, List.take_zero, List.drop_succ_cons, List.drop_zero, List.cons_append, List.nil_append, List.append_nil, List.length_cons, List.length_nil, Nat.zero_add, Nat.add_zero] at S
    refine wpList_nil ?_
    refine zAh hK ?_; clear hK; clear K
    refine wp_ret ?_
    refine zBi ?_; clear hK; clear K
    refine zKf E rfl rfl (S.get (by repeat (first | exact pk1 | apply zAa))) rfl ?_
    rw [← hR.done0]
    exact ⟨_, rfl, rfl, (S.only (Bs := [_]) (zAd (by repeat (first | exact pk1 | apply zAa)) (zAk _))).tr⟩
  · replace hb := Nrm.nrm hb
    skip
    refine wp_skip ?_
    refine zAh hK ?_; clear hK; clear K
    refine wp_seq_k ?_; intro K hK
    refine zBm S (.ofL [(0, 0), (1, 0), (2, 0), (3, 0), (4, 0), (5, 0), (6, 0), (7, 0), (8, 1), (9, 3)]) (by kernel_rfl) (by kernel_rfl) ?_
    clear S; intro w S
    refine zm E rfl (fun w h => zAe E rfl rfl) ?_; clear E a; intro a E
    refine zm E rfl (fun w h => zAm E rfl rfl) ?_; clear E a; intro a E
    refine zm E rfl (fun w h => by first | exact zAg (q := 0) E rfl rfl rfl | exact zAi (q := 0) E rfl rfl rfl) ?_; clear E a; intro a E
    refine zm E rfl (fun w h => zBx (vs := [_, _, _, _]) E rfl rfl rfl (h.one (by repeat (first | exact mm1 | assumption | apply List.Mem.tail))) rfl rfl) ?_; clear E a; intro a E
    refine zm E rfl (fun w h => zAe E rfl rfl) ?_; clear E a; intro a E
    refine zm E rfl (fun w h => zAm E rfl rfl) ?_; clear E a; intro a E
    refine zm E rfl (fun w h => by first | exact zAg (q := 4) E rfl rfl rfl | exact zAi (q := 4) E rfl rfl rfl) ?_; clear E a; intro a E
    refine zm E rfl (fun w h => zBx (vs := [_, _, _, _]) E rfl rfl rfl (h.one (by repeat (first | exact mm1 | assumption | apply List.Mem.tail))) rfl rfl) ?_; clear E a; intro a E
    refine zCp E rfl rfl rfl (by decide) rfl Tryz.func116 rfl (by kernel_rfl) rfl (plus_ret s hsok _ _ _ _ _) ?_
    rintro v20 w ⟨rfl, hT⟩; clear E a; intro a E
    have S := S.quiet hT
    refine ⟨S.stab.sub (by first | (simp; done) | (simp +contextual; done) | (simp [*]; done)), ?_⟩
    refine zCs rfl rfl (zCf E S rfl rfl rfl rfl (by simp [Value.oneCell']) rfl (by repeat (first | exact pk1 | apply zAa)) (by simp) ?_); clear E S a; intro a w E S; simp only [List.take_succ_cons, List.take_zero, List.drop_succ_cons, List.drop_zero, List.cons_append, List.nil_append, List.append_nil, List.length_cons, List.length_nil, Nat.zero_add, Nat.add_zero] at S
    refine zBr ?_
    refine zAh hK ?_; clear hK; clear K
    refine wp_ret ?_
    refine zKf E rfl rfl (S.get (by repeat (first | exact pk1 | apply zAa))) rfl ?_
    rw [← hR.done (by omega)]
    exact ⟨_, rfl, rfl, (S.only (Bs := [_]) (zAd (by repeat (first | exact pk1 | apply zAa)) (zAk _))).tr⟩
theorem sumof_ret (O : zAu) (v : Value) (b : List UInt8) (hO : Rd O 1 v b.length (byt b)) (hbl : b.length ≤ 140737488355328) (w0 : World) (H : Hp w0 [O]) :
    Ret Tryz.prog 89 #[.int .i64 1, v] w0 fun u w' => u = .tuple #[(zFj b).agg, .int .i64 0] ∧ Trs w0 w' [O] [O] := by
  have S := St.begin H
  refine zCy 21 Tryz.func89 rfl rfl (by decide) ?_; intro a E
  refine wp_seq_k ?_; intro K hK
  refine zAc ?_
  refine zAo rfl (zCe E S rfl rfl (by decide) rfl rfl rfl ?_); clear E S a; intro a w b4 E S
  refine zp E (zAf E rfl rfl) ?_; clear E a; intro a E
  refine wpList_nil ?_
  refine zAh hK ?_; clear hK; clear K
  iterate 2 (refine wp_seq_k ?_; intro K hK)
  refine zAc ?_
  refine zp E (zAe E rfl rfl) ?_; clear E a; intro a E
  refine wpList_nil ?_
  refine zAh hK ?_; clear hK; clear K
  refine wp_block ?_
  refine wp_seq_k ?_; intro K hK
  refine zAc ?_
  refine zp E (by first | exact zCg E rfl rfl rfl | exact zAv E rfl rfl rfl rfl | exact zBc E rfl rfl rfl rfl | exact zAw E rfl rfl rfl) ?_; clear E a; intro a E
  refine zp E (zAf E rfl rfl) ?_; clear E a; intro a E
  refine wpList_nil ?_
  refine zAh hK ?_; clear hK; clear K
  refine zDb E rfl (rfl) ?_
  refine wp_seq_k ?_; intro K hK
  refine zAc ?_
  refine zAs E rfl rfl (by decide) rfl Tryz.func103 rfl (by kernel_rfl) rfl (sumnew_ret _) ?_
  rintro v10 w ⟨p, rfl, hT⟩; clear E a; intro a E
  have S := S.fresh hT
  refine zp E (zAf E rfl rfl) ?_; clear E a; intro a E
  refine wpList_nil ?_
  refine zAh hK ?_; clear hK; clear K
  refine wp_seq_k ?_; intro K hK
  refine zAc ?_
  iterate 2 (refine zp E (zAe E rfl rfl) ?_; clear E a; intro a E)
  refine zAs E rfl rfl (by decide) rfl Tryz.func104 rfl (by kernel_rfl) rfl (sumadd_ret O v b hO hbl p _ (S.hp.sel (zAd (by repeat (first | exact pk1 | apply zAa)) (zAd (by repeat (first | exact pk1 | apply zAa)) (zAk _))))) ?_
  rintro v13 w ⟨s, x0, x1, x2, x3, k, hR, hT⟩; clear E a; intro a E
  have S := S.call2 (zAd (by repeat (first | exact pk1 | apply zAa)) (zAd (by repeat (first | exact pk1 | apply zAa)) (zAk _))) hT
  refine wpList_nil ?_
  refine zAh hK ?_; clear hK; clear K
  refine wp_seq_k ?_; intro K hK
  refine zAc ?_
  refine zp E (zAe E rfl rfl) ?_; clear E a; intro a E
  refine zAs E rfl rfl (by decide) rfl Tryz.func105 rfl (by kernel_rfl) rfl (sumvalue_ret b s x0 x1 x2 x3 k hR p _ (S.hp.sel (zAd (by repeat (first | exact pk1 | apply zAa)) (zAk _)))) ?_
  rintro v15 w ⟨rfl, hT⟩; clear E a; intro a E
  have S := S.call1 (zAd (by repeat (first | exact pk1 | apply zAa)) (zAk _)) hT
  refine zAo rfl (zCf E S rfl rfl rfl rfl (by simp [Value.oneCell']) rfl (by repeat (first | exact pk1 | apply zAa)) (by simp) ?_); clear E S a; intro a w E S; simp only [List.take_succ_cons, List.take_zero, List.drop_succ_cons, List.drop_zero, List.cons_append, List.nil_append, List.append_nil, List.length_cons, List.length_nil, Nat.zero_add, Nat.add_zero] at S
  refine zp E (zAf E rfl rfl) ?_; clear E a; intro a E
  refine wpList_nil ?_
  refine zAh hK ?_; clear hK; clear K
  refine wp_ret ?_
  refine zDy ?_
  refine zBi ?_; clear hK; clear K
  refine zKg E rfl rfl rfl (S.get (by repeat (first | exact pk1 | apply zAa))) rfl ?_
  exact ⟨_, rfl, rfl, (S.only (Bs := [O]) (zAd (by repeat (first | exact pk1 | apply zAa)) (zAk _))).tr⟩
theorem zGn (O : zAu) (v : Value) (b : List UInt8) (hO : Rd O 1 v b.length (byt b)) (hbl : b.length ≤ 140737488355328) (w0 : World) (H : Hp w0 [O]) :
    Ret Tryz.prog 18 #[v] w0 fun u w' => u = (zFj b).agg ∧ Trs w0 w' [O] [O] := by
  have S := St.begin H
  obtain ⟨ad, c, rfl⟩ := hO.slice
  refine zDc 59 Tryz.func18 rfl rfl (by decide) ?_; intro a E
  refine wp_seq_k ?_; intro K hK
  refine zAc ?_
  refine zAo rfl (zCe E S rfl rfl (by decide) rfl rfl rfl ?_); clear E S a; intro a w g2 E S
  refine wpList_nil ?_
  refine zAh hK ?_; clear hK; clear K
  refine wp_seq_k ?_; intro K hK
  refine zAc ?_
  refine zp E (zCn (cells := [_, _, _, _]) E rfl rfl rfl) ?_; clear E a; intro a E
  refine zAo rfl (zCe E S rfl rfl (by decide) rfl rfl rfl ?_); clear E S a; intro a w g3 E S
  refine zAo rfl (zCf E S rfl rfl rfl rfl (by simp [Value.oneCell']) rfl (by repeat (first | exact pk1 | apply zAa)) (by simp) ?_); clear E S a; intro a w E S; simp only [List.take_succ_cons, List.take_zero, List.drop_succ_cons, List.drop_zero, List.cons_append, List.nil_append, List.append_nil, List.length_cons, List.length_nil, Nat.zero_add, Nat.add_zero] at S
  refine wpList_nil ?_
  refine zAh hK ?_; clear hK; clear K
  iterate 2 (refine wp_seq_k ?_; intro K hK)
  refine zAc ?_
  refine zp E (zAf E rfl rfl) ?_; clear E a; intro a E
  refine wpList_nil ?_
  refine zAh hK ?_; clear hK; clear K
  refine wp_block ?_
  refine wp_loop_ghost (fun (m : Nat) (a : Act) (w' : World) => ∃ i : Nat, m = b.length + 4 - 4 * i ∧ 4 * i ≤ b.length + 3 ∧ St w0 [O] w' [[(g3, cel [.int .u64 (fsN b i).a, .int .u64 (fsN b i).b, .int .u64 (fsN b i).c, .int .u64 (fsN b i).d] 31)], [(g2, cel [.int .u64 0, .int .u64 0, .int .u64 0, .int .u64 0] 31)], O] ∧ Fr a 59 [(0, .slice ad b.length c), (2, ptr g2), (3, ptr g3), (4, .int .i64 (4 * i : Nat))]) (b.length + 4 - 4 * 0) ?_ ?_
  · exact ⟨0, rfl, by omega, S, E.keep (zAb rfl (zAb rfl (zAb rfl (zAb rfl zAq))))⟩
  clear E; clear a; (try clear S); rintro m a w ⟨i, rfl, hi, S, E⟩
  iterate 2 (refine wp_seq_k ?_; intro K hK)
  refine zAc ?_
  iterate 2 (refine zp E (zAe E rfl rfl) ?_; clear E a; intro a E)
  refine zp E (by first | exact zBz E rfl rfl rfl | exact zAy E rfl rfl rfl | exact zAt E rfl rfl rfl) ?_; clear E a; intro a E
  refine zp E (zCd E rfl rfl rfl) ?_; clear E a; intro a E
  refine wpList_nil ?_
  refine zAh hK ?_; clear hK; clear K
  refine zBl E rfl (fun hb => ?_) (fun hb => ?_)
  · replace hb := Nrm.nrm hb
    refine wp_skip ?_
    refine zAh hK ?_; clear hK; clear K
    refine wp_seq_k ?_; intro K hK
    refine wp_block ?_
    refine wp_seq_k ?_; intro K hK
    refine zAc ?_
    refine zp E (zAf E rfl rfl) ?_; clear E a; intro a E
    refine wpList_nil ?_
    refine zAh hK ?_; clear hK; clear K
    iterate 2 (refine wp_seq_k ?_; intro K hK)
    refine zAc ?_
    refine zp E (zAf E rfl rfl) ?_; clear E a; intro a E
    refine wpList_nil ?_
    refine zAh hK ?_; clear hK; clear K
    refine wp_block ?_
    refine wp_loop_ghost (fun (m : Nat) (a : Act) (w' : World) => ∃ j : Nat, m = j + 0 ∧ j ≤ 4 ∧ St w0 [O] w' [[(g3, cel [.int .u64 (fsN b i).a, .int .u64 (fsN b i).b, .int .u64 (fsN b i).c, .int .u64 (fsN b i).d] 31)], [(g2, cel [.int .u64 0, .int .u64 0, .int .u64 0, .int .u64 0] 31)], O] ∧ Fr a 59 [(0, .slice ad b.length c), (2, ptr g2), (3, ptr g3), (4, .int .i64 (4 * i : Nat)), (5, .int .u64 (zEh ((b.drop (4 * i + j)).take (4 - j)) : Nat)), (6, .int .i64 ((j : Int) - 1))]) (4) ?_ ?_
    · exact ⟨4, rfl, by omega, S, by rw [show zEh ((b.drop (4 * i + 4)).take (4 - 4)) = 0 by rw [Nat.sub_self, List.take_zero]; rfl]; exact E.keep (zAb rfl (zAb rfl (zAb rfl (zAb rfl (zAb rfl (zAb rfl zAq))))))⟩
    clear E; clear a; (try clear S); rintro m a w ⟨j, hmj, hj, S, E⟩
    iterate 2 (refine wp_seq_k ?_; intro K hK)
    refine zAc ?_
    refine zp E (zAe E rfl rfl) ?_; clear E a; intro a E
    refine zp E (zDs E rfl rfl rfl) ?_; clear E a; intro a E
    refine wpList_nil ?_
    refine zAh hK ?_; clear hK; clear K
    refine zBl E rfl (fun hb => ?_) (fun hb => ?_)
    · replace hb := Nrm.nrm hb
      refine wp_skip ?_
      refine zAh hK ?_; clear hK; clear K
      refine wp_seq_k ?_; intro K hK
      refine wp_block ?_
      refine wp_seq_k ?_; intro K hK
      obtain ⟨l, rfl⟩ : ∃ l, j = l + 1 := ⟨j - 1, by omega⟩
      rw [show ((l + 1 : Nat) : Int) - 1 = (l : Int) by omega] at E
      have hst := num_down b (4 * i) (j := l) (by omega)
      have hlt := numOf_lt ((b.drop (4 * i + (l + 1))).take (4 - (l + 1)))
      have hp := Nat.pow_le_pow_right (n := 256) (by omega) (show ((b.drop (4 * i + (l + 1))).take (4 - (l + 1))).length ≤ 3 by rw [List.length_take]; omega)
      refine zAc ?_
      refine zp E (zAe E rfl rfl) ?_; clear E a; intro a E
      refine zp E (zEf E rfl rfl rfl (by first | exact zGv (x := 256) (by omega) | exact zFn (x := 256) (by omega) | exact w_in (by omega) | exact rfl)) ?_; clear E a; intro a E
      refine zp E (zAf E rfl rfl) ?_; clear E a; intro a E
      refine wpList_nil ?_
      refine zAh hK ?_; clear hK; clear K
      refine wp_seq_k ?_; intro K hK
      refine zAc ?_
      iterate 2 (refine zp E (zAe E rfl rfl) ?_; clear E a; intro a E)
      refine zp E (zBu E rfl rfl rfl (by first | exact wa1 (by omega) | exact w_in (by omega) | exact zCc (by omega) | exact rfl)) ?_; clear E a; intro a E
      refine zp E (zAe E rfl rfl) ?_; clear E a; intro a E
      refine zp E (by first | exact zBz E rfl rfl rfl | exact zAy E rfl rfl rfl | exact zAt E rfl rfl rfl) ?_; clear E a; intro a E
      refine zp E (zCd E rfl rfl rfl) ?_; clear E a; intro a E
      refine wpList_nil ?_
      refine zAh hK ?_; clear hK; clear K
      refine zBl E rfl (fun hb => ?_) (fun hb => ?_)
      · replace hb := Nrm.nrm hb
        have hfi : 4 * i + l < b.length := (by omega)
        obtain ⟨g, off, rfl⟩ := hO.addr (by omega)
        have hx := (b[4 * i + l]'hfi).toNat_lt
        rw [zLc b hfi] at hst
        refine zAc ?_
        iterate 4 (refine zp E (zAe E rfl rfl) ?_; clear E a; intro a E)
        refine zp E (zBu E rfl rfl rfl (by first | exact wa1 (by omega) | exact w_in (by omega) | exact zCc (by omega) | exact rfl)) ?_; clear E a; intro a E
        refine zp E (by first | exact zBh E rfl rfl rfl rfl rfl rfl (by omega) | exact zBo E rfl rfl rfl rfl rfl rfl (by omega) | exact zBa E rfl rfl rfl rfl rfl rfl (by omega)) ?_; clear E a; intro a E
        refine zp E (zAj E rfl rfl rfl (hO.byte (S.stab.at (by repeat (first | exact mm1 | assumption | apply List.Mem.tail))) hfi)) ?_; clear E a; intro a E
        refine zp E (by first | exact zBv E rfl rfl rfl rfl (by first | exact wu8 _ | exact zHt (by omega) | exact zFc (by omega) | exact w_in (by omega) | exact zCc (by omega) | exact rfl) | exact zCz E rfl rfl rfl rfl rfl (by assumption) (S.stab.at (by simp))) ?_; clear E a; intro a E
        refine zp E (zBu E rfl rfl rfl (by first | exact wa1 (by omega) | exact w_in (by omega) | exact zCc (by omega) | exact rfl)) ?_; clear E a; intro a E
        refine zp E (zAf E rfl rfl) ?_; clear E a; intro a E
        refine wpList_nil ?_
        rw [show ((256 * zEh ((b.drop (4 * i + (l + 1))).take (4 - (l + 1))) : Nat) : Int) + (((b[4 * i + l]'hfi).toNat : Nat) : Int) = ((zEh ((b.drop (4 * i + l)).take (4 - l)) : Nat) : Int) by omega] at E
        refine zBf ?_
        refine zAh hK ?_; clear hK; clear K
        refine zAc ?_
        refine zp E (zAe E rfl rfl) ?_; clear E a; intro a E
        refine zp E (zDg E rfl rfl rfl (w_in (by omega))) ?_; clear E a; intro a E
        refine zp E (zAf E rfl rfl) ?_; clear E a; intro a E
        refine wpList_nil ?_
        refine zBe ?_
        skip
        first
          | exact ⟨l, by omega, l, rfl, by omega, S, E.keep (zAb rfl (zAb rfl (zAb rfl (zAb rfl (zAb rfl (zAb rfl zAq))))))⟩
          | (rw [gb_out b (by omega)] at hst; rw [show ((256 * zEh ((b.drop (4 * i + (l + 1))).take (4 - (l + 1))) : Nat) : Int) = ((zEh ((b.drop (4 * i + l)).take (4 - l)) : Nat) : Int) by rw [show (0 : UInt8).toNat = 0 from rfl] at hst; omega] at E; exact ⟨l, by omega, l, rfl, by omega, S, E.keep (zAb rfl (zAb rfl (zAb rfl (zAb rfl (zAb rfl (zAb rfl zAq))))))⟩)
      · replace hb := Nrm.nrm hb
        have hfi : b.length ≤ 4 * i + l := (by omega)
        refine wp_skip ?_
        refine zBf ?_
        refine zAh hK ?_; clear hK; clear K
        refine zAc ?_
        refine zp E (zAe E rfl rfl) ?_; clear E a; intro a E
        refine zp E (zDg E rfl rfl rfl (w_in (by omega))) ?_; clear E a; intro a E
        refine zp E (zAf E rfl rfl) ?_; clear E a; intro a E
        refine wpList_nil ?_
        refine zBe ?_
        skip
        first
          | exact ⟨l, by omega, l, rfl, by omega, S, E.keep (zAb rfl (zAb rfl (zAb rfl (zAb rfl (zAb rfl (zAb rfl zAq))))))⟩
          | (rw [gb_out b (by omega)] at hst; rw [show ((256 * zEh ((b.drop (4 * i + (l + 1))).take (4 - (l + 1))) : Nat) : Int) = ((zEh ((b.drop (4 * i + l)).take (4 - l)) : Nat) : Int) by rw [show (0 : UInt8).toNat = 0 from rfl] at hst; omega] at E; exact ⟨l, by omega, l, rfl, by omega, S, E.keep (zAb rfl (zAb rfl (zAb rfl (zAb rfl (zAb rfl (zAb rfl zAq))))))⟩)
    · replace hb := Nrm.nrm hb
      refine wp_exit ?_
      refine zBd ?_; clear hK; clear K
      refine zBd ?_
      refine zCl ?_
      refine zAh hK ?_; clear hK; clear K
      refine wp_seq_k ?_; intro K hK
      obtain rfl : j = 0 := by omega
      rw [show zEh ((b.drop (4 * i + 0)).take (4 - 0)) = nm b (4 * i) 4 from rfl] at E
      refine zAc ?_
      refine zp E (by first | exact zAg (q := 0) E rfl rfl rfl | exact zAi (q := 0) E rfl rfl rfl) ?_; clear E a; intro a E
      refine zp E (by first | exact zAn E rfl rfl rfl (S.get (by repeat (first | exact pk1 | apply zAa))) rfl | exact zAj E rfl rfl rfl (by assumption)) ?_; clear E a; intro a E
      refine zp E (zAe E rfl rfl) ?_; clear E a; intro a E
      refine zp E (zBu E rfl rfl rfl (wa_m _ _)) ?_; clear E a; intro a E
      refine zp E (by first | exact zAg (q := 0) E rfl rfl rfl | exact zAi (q := 0) E rfl rfl rfl) ?_; clear E a; intro a E
      refine zAo rfl (zBk E S rfl rfl rfl rfl rfl rfl (by repeat (first | exact pk1 | apply zAa)) (by first | exact Nat.le_of_ble_eq_true rfl | (simp; done) | (simp; omega)) ?_); clear E S a; intro a w E S; try dsimp only [List.set] at S
      refine wpList_nil ?_
      refine zAh hK ?_; clear hK; clear K
      refine wp_seq_k ?_; intro K hK
      refine zAc ?_
      refine zp E (by first | exact zAg (q := 1) E rfl rfl rfl | exact zAi (q := 1) E rfl rfl rfl) ?_; clear E a; intro a E
      refine zp E (by first | exact zAn E rfl rfl rfl (S.get (by repeat (first | exact pk1 | apply zAa))) rfl | exact zAj E rfl rfl rfl (by assumption)) ?_; clear E a; intro a E
      refine zp E (by first | exact zAg (q := 0) E rfl rfl rfl | exact zAi (q := 0) E rfl rfl rfl) ?_; clear E a; intro a E
      refine zp E (by first | exact zAn E rfl rfl rfl (S.get (by repeat (first | exact pk1 | apply zAa))) rfl | exact zAj E rfl rfl rfl (by assumption)) ?_; clear E a; intro a E
      refine zp E (zBu E rfl rfl rfl (wa_m _ _)) ?_; clear E a; intro a E
      refine zp E (by first | exact zAg (q := 1) E rfl rfl rfl | exact zAi (q := 1) E rfl rfl rfl) ?_; clear E a; intro a E
      refine zAo rfl (zBk E S rfl rfl rfl rfl rfl rfl (by repeat (first | exact pk1 | apply zAa)) (by first | exact Nat.le_of_ble_eq_true rfl | (simp; done) | (simp; omega)) ?_); clear E S a; intro a w E S; try dsimp only [List.set] at S
      refine wpList_nil ?_
      refine zAh hK ?_; clear hK; clear K
      refine wp_seq_k ?_; intro K hK
      refine zAc ?_
      refine zp E (by first | exact zAg (q := 2) E rfl rfl rfl | exact zAi (q := 2) E rfl rfl rfl) ?_; clear E a; intro a E
      refine zp E (by first | exact zAn E rfl rfl rfl (S.get (by repeat (first | exact pk1 | apply zAa))) rfl | exact zAj E rfl rfl rfl (by assumption)) ?_; clear E a; intro a E
      refine zp E (by first | exact zAg (q := 1) E rfl rfl rfl | exact zAi (q := 1) E rfl rfl rfl) ?_; clear E a; intro a E
      refine zp E (by first | exact zAn E rfl rfl rfl (S.get (by repeat (first | exact pk1 | apply zAa))) rfl | exact zAj E rfl rfl rfl (by assumption)) ?_; clear E a; intro a E
      refine zp E (zBu E rfl rfl rfl (wa_m _ _)) ?_; clear E a; intro a E
      refine zp E (by first | exact zAg (q := 2) E rfl rfl rfl | exact zAi (q := 2) E rfl rfl rfl) ?_; clear E a; intro a E
      refine zAo rfl (zBk E S rfl rfl rfl rfl rfl rfl (by repeat (first | exact pk1 | apply zAa)) (by first | exact Nat.le_of_ble_eq_true rfl | (simp; done) | (simp; omega)) ?_); clear E S a; intro a w E S; try dsimp only [List.set] at S
      refine wpList_nil ?_
      refine zAh hK ?_; clear hK; clear K
      refine zAc ?_
      refine zp E (by first | exact zAg (q := 3) E rfl rfl rfl | exact zAi (q := 3) E rfl rfl rfl) ?_; clear E a; intro a E
      refine zp E (by first | exact zAn E rfl rfl rfl (S.get (by repeat (first | exact pk1 | apply zAa))) rfl | exact zAj E rfl rfl rfl (by assumption)) ?_; clear E a; intro a E
      refine zp E (by first | exact zAg (q := 2) E rfl rfl rfl | exact zAi (q := 2) E rfl rfl rfl) ?_; clear E a; intro a E
      refine zp E (by first | exact zAn E rfl rfl rfl (S.get (by repeat (first | exact pk1 | apply zAa))) rfl | exact zAj E rfl rfl rfl (by assumption)) ?_; clear E a; intro a E
      refine zp E (zBu E rfl rfl rfl (wa_m _ _)) ?_; clear E a; intro a E
      refine zp E (by first | exact zAg (q := 3) E rfl rfl rfl | exact zAi (q := 3) E rfl rfl rfl) ?_; clear E a; intro a E
      refine zAo rfl (zBk E S rfl rfl rfl rfl rfl rfl (by repeat (first | exact pk1 | apply zAa)) (by first | exact Nat.le_of_ble_eq_true rfl | (simp; done) | (simp; omega)) ?_); clear E S a; intro a w E S; try dsimp only [List.set] at S
      refine wpList_nil ?_
      refine zBf ?_
      refine zAh hK ?_; clear hK; clear K
      refine zAc ?_
      refine zp E (zAe E rfl rfl) ?_; clear E a; intro a E
      refine zp E (zBu E rfl rfl rfl (by first | exact zCm (y := 4) (by omega) | exact w_in (by omega) | exact zCc (by omega) | exact rfl)) ?_; clear E a; intro a E
      refine zp E (zAf E rfl rfl) ?_; clear E a; intro a E
      refine wpList_nil ?_
      refine zBe ?_
      rw [show 4 * i + 4 = 4 * (i + 1) by omega] at E
      exact ⟨_, by omega, i + 1, rfl, by omega, S, E.keep (zAb rfl (zAb rfl (zAb rfl (zAb rfl zAq))))⟩
  · replace hb := Nrm.nrm hb
    refine wp_exit ?_
    refine zBd ?_; clear hK; clear K
    refine zBd ?_
    refine zCl ?_
    refine zAh hK ?_; clear hK; clear K
    refine wp_seq_k ?_; intro K hK
    refine zAc ?_
    refine zp E (zBx (vs := [_, _, _, _]) E rfl rfl rfl (S.get (by repeat (first | exact pk1 | apply zAa))) rfl rfl) ?_; clear E a; intro a E
    refine zAo rfl (zCf E S rfl rfl rfl rfl (by simp [Value.oneCell']) rfl (by repeat (first | exact pk1 | apply zAa)) (by simp) ?_); clear E S a; intro a w E S; simp only [List.take_succ_cons, List.take_zero, List.drop_succ_cons, List.drop_zero, List.cons_append, List.nil_append, List.append_nil, List.length_cons, List.length_nil, Nat.zero_add, Nat.add_zero] at S
    refine wpList_nil ?_
    refine zAh hK ?_; clear hK; clear K
    refine wp_ret ?_
    refine zKf E rfl rfl (S.get (by repeat (first | exact pk1 | apply zAa))) rfl ?_
    have hfin : (b.length + 3) / 4 = i := by omega
    rw [zFj, hfin]
    exact ⟨_, rfl, rfl, (S.only (Bs := [O]) (zAd (by repeat (first | exact pk1 | apply zAa)) (zAk _))).tr⟩
end Go.Proofs.YtidhehcjafoneaaGreatDoor
namespace Go.Sl
def fsB (s : Fs) : List UInt8 := zCu s.a 8 ++ zCu s.b 8 ++ zCu s.c 8 ++ zCu s.d 8
theorem fsB_length (s : Fs) : (fsB s).length = 32 := by simp [fsB, zCb]
def zGo (x : List UInt8) : List UInt8 := x ++ List.replicate (96 - x.length) 0
theorem zFz {x : List UInt8} (h : x.length ≤ 96) : (zGo x).length = 96 := by simp [zGo]; omega
def whole (x : List UInt8) : List UInt8 := zGo x ++ fsB (zFj (zGo x))
theorem zJf {x : List UInt8} (h : x.length ≤ 96) : (whole x).length = 128 := by rw [whole, List.length_append, zFz h, fsB_length]
end Go.Sl
namespace Go.Sl
structure Tp where
  kind : Int
  leaves : Int
  sectors : Int
deriving DecidableEq
def Tp.lay (t : Tp) : List Value := [.int .i64 t.kind, .int .i64 t.leaves, .int .i64 t.sectors]
abbrev Tp.agg (t : Tp) : Value := .agg #[.int .i64 t.kind, .int .i64 t.leaves, .int .i64 t.sectors]
theorem Tp.lay_len (t : Tp) : t.lay.length = 3 := rfl
theorem Tp.lay_one (t : Tp) : ∀ u ∈ t.lay, u.oneCell' = true := fun u hu => by
  simp only [Tp.lay, List.mem_cons, List.not_mem_nil, or_false] at hu
  rcases hu with rfl | rfl | rfl <;> rfl
structure Tp.Ok (t : Tp) : Prop where
  kind : -9223372036854775808 ≤ t.kind ∧ t.kind ≤ 9223372036854775807
  leaves : -9223372036854775808 ≤ t.leaves ∧ t.leaves ≤ 9223372036854775807
  sectors : -9223372036854775808 ≤ t.sectors ∧ t.sectors ≤ 9223372036854775807
def zIj : Tp := ⟨0, 0, 0⟩
def Tp.made (t : Tp) : Prop := 324 ≤ t.sectors ∧ t.sectors ≤ 8192 ∧ (t.kind = 1 ∧ t.leaves = 1 ∨ t.kind = 2 ∧ 2 ≤ t.leaves ∧ t.leaves ≤ 5 ∨ t.kind = 3 ∧ 3 ≤ t.leaves ∧ t.leaves ≤ 5)
instance (t : Tp) : Decidable t.made := by unfold Tp.made; infer_instance
def tpB (t : Tp) : List UInt8 := zCu t.kind.toNat 1 ++ (zCu t.leaves.toNat 1 ++ zCu t.sectors.toNat 4)
theorem tpB_length (t : Tp) : (tpB t).length = 6 := by simp [tpB, zCb]
structure Lbl where
  pool : Nat
  tops : List Tp
  top : Int
  place : Int
deriving DecidableEq
structure Lbl.Ok (l : Lbl) : Prop where
  pool : l.pool < 18446744073709551616
  top : -9223372036854775808 ≤ l.top ∧ l.top ≤ 9223372036854775807
  place : -9223372036854775808 ≤ l.place ∧ l.place ≤ 9223372036854775807
  tops : ∀ t ∈ l.tops, t.Ok
def Lbl.may (l : Lbl) : Prop := 1 ≤ l.tops.length ∧ l.tops.length ≤ 4 ∧ 0 ≤ l.top ∧ l.top < l.tops.length ∧ 0 ≤ l.place ∧ l.place < (l.tops.getD l.top.toNat zIj).leaves ∧ ∀ t ∈ l.tops, t.made
instance (l : Lbl) : Decidable l.may := by unfold Lbl.may; infer_instance
def lbE (l : Lbl) : Int := if l.may then 0 else 42
def lLet : List UInt8 := [85, 67, 76, 66]
def lbH (l : Lbl) : List UInt8 := lLet ++ (zCu l.pool 8 ++ (zCu l.top.toNat 1 ++ (zCu l.place.toNat 1 ++ zCu l.tops.length 1)))
theorem zHk (l : Lbl) : (lbH l).length = 15 := by simp [lbH, lLet, zCb]
def lbB (l : Lbl) : List UInt8 := lbH l ++ l.tops.flatMap tpB
theorem zJq : ∀ l : List Tp, (l.flatMap tpB).length = 6 * l.length
  | [] => rfl
  | t :: r => by rw [List.flatMap_cons, List.length_append, tpB_length, zJq r, List.length_cons]; omega
theorem lbB_length (l : Lbl) : (lbB l).length = 15 + 6 * l.tops.length := by rw [lbB, List.length_append, zHk, zJq]
def lbO (l : Lbl) : List UInt8 := if lbE l = 0 then whole (lbB l) else []
structure Ub where
  pool : Nat
  txg : Nat
  note : Nat
  root : Pt
deriving DecidableEq
def Ub.lay (u : Ub) : List Value := [.int .u64 u.pool, .int .u64 u.txg, .int .u64 u.note, .int .i64 u.root.top, .int .i64 u.root.at_, .int .i64 u.root.bytes, .int .u64 u.root.birth, .int .i64 u.root.kind, .int .u64 u.root.a, .int .u64 u.root.b, .int .u64 u.root.c, .int .u64 u.root.d]
abbrev Ub.agg (u : Ub) : Value := .agg #[.int .u64 u.pool, .int .u64 u.txg, .int .u64 u.note, .int .i64 u.root.top, .int .i64 u.root.at_, .int .i64 u.root.bytes, .int .u64 u.root.birth, .int .i64 u.root.kind, .int .u64 u.root.a, .int .u64 u.root.b, .int .u64 u.root.c, .int .u64 u.root.d]
structure Ub.Ok (u : Ub) : Prop where
  pool : u.pool < 18446744073709551616
  txg : u.txg < 18446744073709551616
  note : u.note < 18446744073709551616
  root : u.root.Ok
end Go.Sl
namespace Go.Sl
theorem four_fs (s : Fs) : four [s.a, s.b, s.c, s.d] = fsB s := by simp [four, fsB]
theorem sl_of (O : zAu) {v : Value} {b : List UInt8} (h : Rd O 1 v b.length (byt b)) {m : Nat} {c : List UInt8} (hc : c = b) (hm : m = c.length) : Rd O 1 v m (byt c) := by subst hc hm; exact h
end Go.Sl
namespace Go.Proofs.YtidhehcjafoneaaGreatDoor
open Go.Sl
set_option maxRecDepth 10000
theorem wholeno_ret (v : Value) (e : Int) (he : e ≠ 0) (w0 : World) :
    Ret Tryz.prog 76 #[v, .int .i64 e] w0 fun u w' => u = .tuple #[.slice none 0 0, .int .i64 e] ∧ Trs w0 w' [] [] := by
  have S := St.begin (zEs w0)
  refine zCy 30 Tryz.func76 rfl rfl (by decide) ?_; intro a E
  refine wp_seq_k ?_; intro K hK
  refine zAc ?_
  iterate 2 (refine zp E (zAf E rfl rfl) ?_; clear E a; intro a E)
  refine wpList_nil ?_
  refine zAh hK ?_; clear hK; clear K
  iterate 2 (refine wp_seq_k ?_; intro K hK)
  refine zAc ?_
  refine zp E (zAe E rfl rfl) ?_; clear E a; intro a E
  refine zp E (by first | exact zCq E rfl rfl rfl | exact zAx E rfl rfl rfl rfl | exact zBg E rfl rfl rfl rfl | exact zBb E rfl rfl rfl) ?_; clear E a; intro a E
  refine wpList_nil ?_
  refine zAh hK ?_; clear hK; clear K
  refine zDb E rfl ((by simp [he])) ?_
  refine wp_seq_k ?_; intro K hK
  refine zAc ?_
  refine zp E (zAe E rfl rfl) ?_; clear E a; intro a E
  iterate 2 (refine zp E (zAf E rfl rfl) ?_; clear E a; intro a E)
  refine wpList_nil ?_
  refine zAh hK ?_; clear hK; clear K
  refine wp_ret ?_
  refine zBi ?_; clear hK; clear K
  refine ret2 E rfl rfl rfl ?_
  exact ⟨_, rfl, rfl, (S.only (Bs := []) (zAk _)).tr⟩
theorem whole_ret (O : zAu) (v : Value) (b : List UInt8) (hO : Rd O 1 v b.length (byt b)) (hl : b.length = 96) (w0 : World) (H : Hp w0 [O]) :
    Ret Tryz.prog 76 #[v, .int .i64 0] w0 fun u w' => ∃ g, u = .tuple #[.slice (some ⟨g, 0, none⟩) 128 128, .int .i64 0] ∧ Trs w0 w' [O] [[(g, cel (byt (b ++ fsB (zFj b))) 5)], O] := by
  have S := St.begin H
  have hfl : (b ++ fsB (zFj b)).length = 128 := by rw [List.length_append, fsB_length, hl]
  refine zCy 30 Tryz.func76 rfl rfl (by decide) ?_; intro a E
  refine wp_seq_k ?_; intro K hK
  refine zAc ?_
  iterate 2 (refine zp E (zAf E rfl rfl) ?_; clear E a; intro a E)
  refine wpList_nil ?_
  refine zAh hK ?_; clear hK; clear K
  iterate 2 (refine wp_seq_k ?_; intro K hK)
  refine zAc ?_
  refine zp E (zAe E rfl rfl) ?_; clear E a; intro a E
  refine zp E (by first | exact zCq E rfl rfl rfl | exact zAx E rfl rfl rfl rfl | exact zBg E rfl rfl rfl rfl | exact zBb E rfl rfl rfl) ?_; clear E a; intro a E
  refine wpList_nil ?_
  refine zAh hK ?_; clear hK; clear K
  refine zBs E rfl (rfl) ?_
  refine wp_skip ?_
  refine zAh hK ?_; clear hK; clear K
  refine wp_seq_k ?_; intro K hK
  refine zAc ?_
  refine zp E (zAe E rfl rfl) ?_; clear E a; intro a E
  refine zAs E rfl rfl (by decide) rfl Tryz.func89 rfl (by kernel_rfl) rfl (sumof_ret O v b hO (by omega) _ (S.hp.sel (zAd (by repeat (first | exact pk1 | apply zAa)) (zAk _)))) ?_
  rintro v13 w ⟨rfl, hT⟩; clear E a; intro a E
  have S := S.call1 (zAd (by repeat (first | exact pk1 | apply zAa)) (zAk _)) hT
  refine zp E (zAe E rfl rfl) ?_; clear E a; intro a E
  iterate 2 (refine zp E (zBw E rfl rfl rfl) ?_; clear E a; intro a E)
  refine zAo rfl (zCe E S rfl rfl (by decide) rfl rfl rfl ?_); clear E S a; intro a w b6 E S
  refine zAo rfl (zCf E S rfl rfl rfl rfl (by simp [Value.oneCell']) rfl (by repeat (first | exact pk1 | apply zAa)) (by simp) ?_); clear E S a; intro a w E S; simp only [List.take_succ_cons, List.take_zero, List.drop_succ_cons, List.drop_zero, List.cons_append, List.nil_append, List.append_nil, List.length_cons, List.length_nil, Nat.zero_add, Nat.add_zero] at S
  refine zp E (zAf E rfl rfl) ?_; clear E a; intro a E
  refine wpList_nil ?_
  refine zAh hK ?_; clear hK; clear K
  iterate 2 (refine wp_seq_k ?_; intro K hK)
  refine zAc ?_
  refine zp E (zAe E rfl rfl) ?_; clear E a; intro a E
  refine zp E (by first | exact zCq E rfl rfl rfl | exact zAx E rfl rfl rfl rfl | exact zBg E rfl rfl rfl rfl | exact zBb E rfl rfl rfl) ?_; clear E a; intro a E
  refine wpList_nil ?_
  refine zAh hK ?_; clear hK; clear K
  refine zBs E rfl (rfl) ?_
  refine wp_skip ?_
  refine zAh hK ?_; clear hK; clear K
  refine wp_seq_k ?_; intro K hK
  refine zAc ?_
  refine zAs E rfl rfl (by decide) rfl Tryz.func90 rfl (by kernel_rfl) rfl (writer_ret 128 _) ?_
  rintro v19 w ⟨p, A, rfl, hA, hT⟩; clear E a; intro a E
  have S := S.fresh hT; have hA : WrC 186 p ⟨128, [], 0⟩ A := hA
  refine zp E (zAf E rfl rfl) ?_; clear E a; intro a E
  refine wpList_nil ?_
  refine zAh hK ?_; clear hK; clear K
  refine wp_seq_k ?_; intro K hK
  refine zAc ?_
  iterate 2 (refine zp E (zAe E rfl rfl) ?_; clear E a; intro a E)
  refine zAs E rfl rfl (by decide) rfl Tryz.func91 rfl (by kernel_rfl) rfl (bytes_fit p 128 [] A O _ hA v b hO (S.hp.sel (zAd (by repeat (first | exact pk1 | apply zAa)) (zAd (by repeat (first | exact pk1 | apply zAa)) (zAk _)))) (by omega) (by simp only [List.length_nil]; omega)) ?_
  rintro v22 w ⟨A1, hA1, hT⟩; clear E a; intro a E
  have S := S.call2 (zAd (by repeat (first | exact pk1 | apply zAa)) (zAd (by repeat (first | exact pk1 | apply zAa)) (zAk _))) hT
  refine wpList_nil ?_
  refine zAh hK ?_; clear hK; clear K
  refine wp_seq_k ?_; intro K hK
  refine zAc ?_
  refine zp E (zAe E rfl rfl) ?_; clear E a; intro a E
  refine zp E (zBx (vs := [_, _, _, _]) E rfl rfl rfl (S.get (by repeat (first | exact pk1 | apply zAa))) rfl rfl) ?_; clear E a; intro a E
  refine zAs E rfl rfl (by decide) rfl Tryz.func92 rfl (by kernel_rfl) rfl (laysum_ret p 128 _ A1 _ _ _ _ ⟨(zFf b).a, (zFf b).b, (zFf b).c, (zFf b).d⟩ _ hA1 (S.hp.sel (zAd (by repeat (first | exact pk1 | apply zAa)) (zAk _))) (by omega) (by simp only [List.nil_append]; omega)) ?_
  rintro v25 w ⟨A2, hA2, hT⟩; clear E a; intro a E
  have S := S.call1 (zAd (by repeat (first | exact pk1 | apply zAa)) (zAk _)) hT; rw [four_fs, List.nil_append] at hA2
  refine wpList_nil ?_
  refine zAh hK ?_; clear hK; clear K
  refine wp_seq_k ?_; intro K hK
  refine zAc ?_
  refine zp E (zAe E rfl rfl) ?_; clear E a; intro a E
  refine zAs E rfl rfl (by decide) rfl Tryz.func93 rfl (by kernel_rfl) rfl (done_fit p 128 _ A2 _ hA2 (S.hp.sel (zAd (by repeat (first | exact pk1 | apply zAa)) (zAk _))) (by omega)) ?_
  rintro v27 w ⟨g, rfl, hT⟩; clear E a; intro a E
  have S := S.call2 (zAd (by repeat (first | exact pk1 | apply zAa)) (zAk _)) hT; rw [hfl] at E
  iterate 2 (refine zp E (zBw E rfl rfl rfl) ?_; clear E a; intro a E)
  iterate 2 (refine zp E (zAf E rfl rfl) ?_; clear E a; intro a E)
  refine wpList_nil ?_
  refine zAh hK ?_; clear hK; clear K
  refine wp_ret ?_
  refine ret2 E rfl rfl rfl ?_
  exact ⟨_, rfl, g, rfl, (S.only (Bs := [[(g, _)], O]) (zAd (by repeat (first | exact pk1 | apply zAa)) (zAd (by repeat (first | exact pk1 | apply zAa)) (zAk _)))).tr⟩
end Go.Proofs.YtidhehcjafoneaaGreatDoor
namespace Go.Sl
end Go.Sl
namespace Go.Proofs.YtidhehcjafoneaaGreatDoor
open Go.Sl
set_option maxRecDepth 10000
theorem dsummed_ret (v : Value) (bs : List UInt8) (C : zAu) (hC : Buf C 5 1 v bs.length (byt bs)) (hl : bs.length ≤ 96) (w0 : World) (H : Hp w0 [C]) :
    Ret Tryz.prog 82 #[v] w0 fun u w' => ∃ C', Buf C' 5 1 u (whole bs).length (byt (whole bs)) ∧ Trs w0 w' [C] [C'] := by
  have S := St.begin H
  have hpl := zFz hl
  refine zDc 9 Tryz.func82 rfl rfl (by decide) ?_; intro a E
  refine wp_seq_k ?_; intro K hK
  refine zAc ?_
  refine zp E (zAf E rfl rfl) ?_; clear E a; intro a E
  refine wpList_nil ?_
  refine zAh hK ?_; clear hK; clear K
  refine wp_seq_k ?_; intro K hK
  refine zAc ?_
  refine zp E (zAe E rfl rfl) ?_; clear E a; intro a E
  refine zAs E rfl rfl (by decide) rfl Tryz.func101 rfl (by kernel_rfl) rfl (dpadded_ret v bs C 96 hC (by omega) hl _ (S.hp.sel (zAd (by repeat (first | exact pk1 | apply zAa)) (zAk _)))) ?_
  rintro v4 w ⟨C1, hC1, hT⟩; clear E a; intro a E
  have S := S.call1 (zAd (by repeat (first | exact pk1 | apply zAa)) (zAk _)) hT; have hC1 : Buf C1 5 1 _ (zGo bs).length (byt (zGo bs)) := hC1
  refine zp E (zAf E rfl rfl) ?_; clear E a; intro a E
  refine wpList_nil ?_
  refine zAh hK ?_; clear hK; clear K
  refine wp_seq_k ?_; intro K hK
  refine zAc ?_
  iterate 2 (refine zp E (zAe E rfl rfl) ?_; clear E a; intro a E)
  refine zAs E rfl rfl (by decide) rfl Tryz.func18 rfl (by kernel_rfl) rfl (zGn C1 _ (zGo bs) hC1.rd (by omega) _ (S.hp.sel (zAd (by repeat (first | exact pk1 | apply zAa)) (zAk _)))) ?_
  rintro v7 w ⟨rfl, hT⟩; clear E a; intro a E
  have S := S.call1 (zAd (by repeat (first | exact pk1 | apply zAa)) (zAk _)) hT
  refine zAs E rfl rfl (by decide) rfl Tryz.func102 rfl (by kernel_rfl) rfl (dsums_ret _ (zGo bs) C1 _ _ _ _ ⟨(zFf (zGo bs)).a, (zFf (zGo bs)).b, (zFf (zGo bs)).c, (zFf (zGo bs)).d⟩ hC1 (by omega) _ (S.hp.sel (zAd (by repeat (first | exact pk1 | apply zAa)) (zAk _)))) ?_
  rintro v8 w ⟨C2, hC2, hT⟩; clear E a; intro a E
  have S := S.call1 (zAd (by repeat (first | exact pk1 | apply zAa)) (zAk _)) hT; rw [four_fs] at hC2
  refine zp E (zAf E rfl rfl) ?_; clear E a; intro a E
  refine wpList_nil ?_
  refine zAh hK ?_; clear hK; clear K
  refine wp_ret ?_
  refine ret1 E rfl rfl ?_
  exact ⟨_, rfl, C2, hC2, (S.only (Bs := [C2]) (zAd (by repeat (first | exact pk1 | apply zAa)) (zAk _))).tr⟩
theorem dnumf_ret (g : Nat) (bs : List UInt8) (C : zAu) (n k : Nat) (hC : Rd C 1 (.slice (some ⟨g, 0, none⟩) bs.length bs.length) bs.length (byt bs)) (hl : bs.length ≤ 1000000) (hn : n < 18446744073709551616) (h1 : 1 ≤ k) (hk : k ≤ 8) (w0 : World) (H : Hp w0 [C]) :
    Ret Tryz.prog 81 #[.slice (some ⟨g, 0, none⟩) bs.length bs.length, .int .u64 n, .int .i64 k] w0 fun u w' => ∃ C', Buf C' 5 1 u (bs ++ zCu n k).length (byt (bs ++ zCu n k)) ∧ Trs w0 w' [C] [C'] := by
  have S := St.begin H
  refine zEk 18 Tryz.func81 rfl rfl (by decide) ?_; intro a E
  refine wp_seq_k ?_; intro K hK
  refine zAc ?_
  refine zp E (zAf E rfl rfl) ?_; clear E a; intro a E
  refine wpList_nil ?_
  refine zAh hK ?_; clear hK; clear K
  refine wp_seq_k ?_; intro K hK
  refine zAc ?_
  iterate 2 (refine zp E (zAe E rfl rfl) ?_; clear E a; intro a E)
  refine zAs E rfl rfl (by decide) rfl Tryz.func100 rfl (by kernel_rfl) rfl (vform_ret n hn k _ hk) ?_
  rintro v12 w ⟨ad, c, D, rfl, hD, hT⟩; clear E a; intro a E
  have S := S.fresh hT
  refine zp E (zAe E rfl rfl) ?_; clear E a; intro a E
  iterate 2 (refine zp E (zBw E rfl rfl rfl) ?_; clear E a; intro a E)
  iterate 2 (refine zp E (zAf E rfl rfl) ?_; clear E a; intro a E)
  refine wpList_nil ?_
  refine zAh hK ?_; clear hK; clear K
  refine wp_seq_k ?_; intro K hK
  refine zAc ?_
  iterate 2 (refine zp E (zAe E rfl rfl) ?_; clear E a; intro a E)
  refine zAo rfl (wp_appendf (by' := 1) E S rfl rfl (by decide) rfl rfl hC (by repeat (first | exact mm1 | assumption | apply List.Mem.tail)) (hD.rd.src (S.stab.at (by repeat (first | exact mm1 | assumption | apply List.Mem.tail))) rfl) rfl rfl rfl rfl rfl rfl (by simp only [maxLen]; omega) (by omega) (by omega) ?_); clear E S a; intro a w v17 C17 E S hB17
  refine zp E (zAf E rfl rfl) ?_; clear E a; intro a E
  refine wpList_nil ?_
  refine zAh hK ?_; clear hK; clear K
  refine wp_ret ?_
  refine ret1 E rfl rfl ?_
  exact ⟨_, rfl, C17, by rw [zCw, List.length_append, zCb]; exact hB17, (S.only (Bs := [C17]) (zAd (by repeat (first | exact pk1 | apply zAa)) (zAk _))).tr⟩
end Go.Proofs.YtidhehcjafoneaaGreatDoor
