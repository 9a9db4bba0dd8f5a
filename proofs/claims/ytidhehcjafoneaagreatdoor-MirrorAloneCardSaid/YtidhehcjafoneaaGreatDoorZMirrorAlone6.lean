/-
  Texts put together (6).
-/
import Derived.Test.YtidhehcjafoneaaGreatDoorZMirrorAlone5
namespace Go.Sl
theorem len4 (a b c d : Nat) : [a, b, c, d].length = 4 := rfl
def four (L : List Nat) : List UInt8 := L.flatMap fun n => zCv n 8
theorem zKt (L : List Nat) {i : Nat} (hi : i < L.length) : four (L.take (i + 1)) = four (L.take i) ++ zCv L[i] 8 := by
  rw [← List.take_append_getElem hi, four, List.flatMap_append]; simp only [List.flatMap_cons, List.flatMap_nil, List.append_nil]; rfl
theorem four_length (L : List Nat) : (four L).length = 8 * L.length := by
  induction L with
  | nil => rfl
  | cons a r ih => simp only [four, List.flatMap_cons, List.length_append, zBz, List.length_cons] at *; omega
end Go.Sl
namespace Go.Proofs.YtidhehcjafoneaaGreatDoor
open Go.Sl
set_option maxRecDepth 10000
theorem laysum_ret (p room : Nat) (bs : List UInt8) (A : zAs) (s1 s2 s3 s4 : Nat) (hn : s1 < 18446744073709551616 ∧ s2 < 18446744073709551616 ∧ s3 < 18446744073709551616 ∧ s4 < 18446744073709551616) (w0 : World) (hA : WrC 186 p ⟨room, bs, 0⟩ A) (H : Hp w0 [A]) (hr : room ≤ 140737488355328) (hl : bs.length + 32 ≤ room) :
    Ret Tryz.prog 92 #[ptr p, .agg #[.int .u64 s1, .int .u64 s2, .int .u64 s3, .int .u64 s4]] w0 fun _ w' => ∃ A', WrC 186 p ⟨room, bs ++ four [s1, s2, s3, s4], 0⟩ A' ∧ Trs w0 w' [A] [A'] := by
  have S := St.begin H
  have e8 := p8
  have hlt : ∀ n ∈ [s1, s2, s3, s4], n < 18446744073709551616 := by
    intro n hm
    simp only [List.mem_cons, List.not_mem_nil, or_false] at hm
    rcases hm with rfl | rfl | rfl | rfl <;> omega
  refine zCy 22 Tryz.func92 rfl rfl (by decide) ?_; intro a E
  refine wp_seq_k ?_; intro K hK
  refine zAc ?_
  refine zAo rfl (zCs E S rfl rfl (by decide) rfl rfl ?_); clear E S a; intro a w b3 E S
  refine wpList_nil ?_
  refine zAh hK ?_; clear hK; clear K
  refine wp_seq_k ?_; intro K hK
  refine zAc ?_
  refine zp E (by first | exact zAf (q := 0) E rfl rfl rfl | exact zAi (q := 0) E rfl rfl rfl) ?_; clear E a; intro a E
  refine zp E (by first | exact zAn E rfl rfl rfl (S.get (by repeat (first | exact pk1 | apply zAa))) rfl | exact zAj E rfl rfl rfl (by assumption)) ?_; clear E a; intro a E
  refine zp E (by first | exact zAf (q := 1) E rfl rfl rfl | exact zAi (q := 1) E rfl rfl rfl) ?_; clear E a; intro a E
  refine zp E (by first | exact zAn E rfl rfl rfl (S.get (by repeat (first | exact pk1 | apply zAa))) rfl | exact zAj E rfl rfl rfl (by assumption)) ?_; clear E a; intro a E
  refine zp E (by first | exact zAf (q := 2) E rfl rfl rfl | exact zAi (q := 2) E rfl rfl rfl) ?_; clear E a; intro a E
  refine zp E (by first | exact zAn E rfl rfl rfl (S.get (by repeat (first | exact pk1 | apply zAa))) rfl | exact zAj E rfl rfl rfl (by assumption)) ?_; clear E a; intro a E
  refine zp E (by first | exact zAf (q := 3) E rfl rfl rfl | exact zAi (q := 3) E rfl rfl rfl) ?_; clear E a; intro a E
  refine zp E (by first | exact zAn E rfl rfl rfl (S.get (by repeat (first | exact pk1 | apply zAa))) rfl | exact zAj E rfl rfl rfl (by assumption)) ?_; clear E a; intro a E
  refine zp E (zCo (cells := [_, _, _, _]) E rfl rfl rfl) ?_; clear E a; intro a E
  refine zp E (zAe E rfl rfl) ?_; clear E a; intro a E
  refine wpList_nil ?_
  refine zAh hK ?_; clear hK; clear K
  refine wp_block ?_
  refine wp_loop_ghost (fun (m : Nat) (a : Act) (w' : World) => ∃ (i : Nat) (A' : zAs), m = 4 - i ∧ i ≤ 4 ∧ WrC 186 p ⟨room, bs ++ four ([s1, s2, s3, s4].take i), 0⟩ A' ∧ (∃ Ls, St w0 [A] w' (A' :: Ls)) ∧ Fr a 22 [(0, ptr p), (14, .agg ([s1, s2, s3, s4].map fun n : Nat => Value.int .u64 n).toArray), (15, .int .i64 i)]) (4 - 0) ?_ ?_
  · exact ⟨0, A, rfl, by omega, by simpa [four] using hA, ⟨_, S.front1 (by repeat (first | exact pk1 | apply zAa))⟩, E.keep (zAb rfl (zAb rfl (zAb rfl zAp)))⟩
  clear E; clear a; (try clear S); rintro m a w ⟨i, A', rfl, hi, hA', ⟨Ls, S⟩, E⟩
  refine wp_seq_k ?_; intro K hK
  refine zAc ?_
  refine zp E (zCb E rfl rfl rfl) ?_; clear E a; intro a E
  refine wpList_nil ?_
  refine zAh hK ?_; clear hK; clear K
  refine wp_seq_k ?_; intro K hK
  refine zBl E rfl (fun hb => ?_) (fun hb => ?_)
  · replace hb := Nrm.nrm hb
    refine wp_skip ?_
    refine zAh hK ?_; clear hK; clear K
    refine wp_seq_k ?_; intro K hK
    refine wp_block ?_
    refine wp_seq_k ?_; intro K hK
    have hi4 : i < [s1, s2, s3, s4].length := by rw [len4]; omega
    have hst := zKt [s1, s2, s3, s4] hi4
    have hfl := four_length ([s1, s2, s3, s4].take i)
    rw [List.length_take, len4, Nat.min_eq_left (by omega)] at hfl
    have hx := hlt _ (List.getElem_mem hi4)
    refine zAc ?_
    refine zp E (zFw E rfl rfl rfl rfl rfl rfl rfl (by omega) (v := .int .u64 ([s1, s2, s3, s4][i]'hi4)) (by simp only [List.getElem?_toArray, List.getElem?_map, List.getElem?_eq_getElem hi4, Option.map_some])) ?_; clear E a; intro a E
    refine zp E (zAg E rfl rfl) ?_; clear E a; intro a E
    refine wpList_nil ?_
    refine zAh hK ?_; clear hK; clear K
    refine zAc ?_
    iterate 2 (refine zp E (zAe E rfl rfl) ?_; clear E a; intro a E)
    refine zAr E rfl rfl (by decide) rfl Tryz.func98 rfl (by kernel_rfl) rfl (zHc p room _ A' _ hA' ([s1, s2, s3, s4][i]'hi4) 8 (S.hp.sel (zAd (by repeat (first | exact pk1 | apply zAa)) (zAk _))) hr (by omega) (by omega) (by omega) (by rw [List.length_append]; omega)) ?_
    rintro v20 w ⟨A2, hA2, hT⟩; clear E a; intro a E
    have S := S.call1 (zAd (by repeat (first | exact pk1 | apply zAa)) (zAk _)) hT
    refine wpList_nil ?_
    refine zBf ?_
    refine zAh hK ?_; clear hK; clear K
    refine zAc ?_
    refine zp E (zBu E rfl rfl rfl (by first | exact zCj (y := 1) (by omega) | exact w_in (by omega) | exact zBy (by omega) | exact rfl)) ?_; clear E a; intro a E
    refine zp E (zAe E rfl rfl) ?_; clear E a; intro a E
    refine wpList_nil ?_
    refine zBe ?_
    exact ⟨_, by omega, i + 1, A2, rfl, by omega, by rw [hst, ← List.append_assoc]; exact hA2, ⟨_, S⟩, E.keep (zAb rfl (zAb rfl (zAb rfl zAp)))⟩
  · replace hb := Nrm.nrm hb
    refine wp_exit ?_
    refine zBb ?_; clear hK; clear K
    refine zBb ?_
    refine zCm ?_
    refine end0 E rfl ?_
    obtain rfl : i = 4 := by omega
    exact ⟨_, rfl, A', hA', (S.only (Bs := [A']) (zAd (by repeat (first | exact pk1 | apply zAa)) (zAk _))).tr⟩
end Go.Proofs.YtidhehcjafoneaaGreatDoor
namespace Go.Sl
end Go.Sl
namespace Go.Proofs.YtidhehcjafoneaaGreatDoor
open Go.Sl
set_option maxRecDepth 10000
end Go.Proofs.YtidhehcjafoneaaGreatDoor
namespace Go.Sl
theorem ofNat_mod (x : Nat) : UInt8.ofNat (x % 256) = UInt8.ofNat x := by
  apply UInt8.toNat_inj.1
  simp
theorem formOf_succ (n j : Nat) : zCv n (j + 1) = zCv n j ++ [UInt8.ofNat (n / 256 ^ j % 256)] := by
  rw [ofNat_mod, zCv, Nat.pow_mul]
end Go.Sl
namespace Go.Proofs.YtidhehcjafoneaaGreatDoor
open Go.Sl
set_option maxRecDepth 10000
theorem vform_ret (n : Nat) (hn : n < 18446744073709551616) (k : Nat) (w0 : World) (hk : k ≤ 8) :
    Ret Tryz.prog 100 #[.int .u64 n, .int .i64 k] w0 fun u w' => ∃ ad c C, u = .tuple #[.slice ad k c, .bool (((n / 256 ^ k : Nat) : Int) == 0)] ∧ Buf C 5 1 (.slice ad k c) k (byt (zCv n k)) ∧ Trs w0 w' [] [C] := by
  have S := St.begin (zEt w0)
  refine zCy 24 Tryz.func100 rfl rfl (by decide) ?_; intro a E
  refine wp_seq_k ?_; intro K hK
  refine zAc ?_
  iterate 2 (refine zp E (zAg E rfl rfl) ?_; clear E a; intro a E)
  refine wpList_nil ?_
  refine zAh hK ?_; clear hK; clear K
  refine wp_seq_k ?_; intro K hK
  refine zAc ?_
  refine zp E (zAg E rfl rfl) ?_; clear E a; intro a E
  refine wpList_nil ?_
  refine zAh hK ?_; clear hK; clear K
  iterate 2 (refine wp_seq_k ?_; intro K hK)
  refine zAc ?_
  refine zp E (zAg E rfl rfl) ?_; clear E a; intro a E
  refine wpList_nil ?_
  refine zAh hK ?_; clear hK; clear K
  refine wp_block ?_
  refine wp_loop_ghost (fun (m : Nat) (a : Act) (w' : World) => ∃ (j : Nat) (C : zAs) (ad : Option Addr) (c : Nat), j ≤ k ∧ m = k - j ∧ Buf C 5 1 (.slice ad j c) j (byt (zCv n j)) ∧ St w0 [] w' [C] ∧ Fr a 24 [(0, .int .u64 (n / 256 ^ j : Nat)), (1, .int .i64 k), (6, .slice ad j c), (7, .int .i64 j)]) (k - 0) ?_ ?_
  · exact ⟨0, [], none, 0, by omega, rfl, Buf.nil _ _, S.addNil, by rw [Nat.pow_zero, Nat.div_one]; exact E.keep (zAb rfl (zAb rfl (zAb rfl (zAb rfl zAp))))⟩
  clear E; clear a; (try clear S); rintro m a w ⟨j, C, ad, c, hj, rfl, hB, S, E⟩
  iterate 2 (refine wp_seq_k ?_; intro K hK)
  refine zAc ?_
  iterate 2 (refine zp E (zAe E rfl rfl) ?_; clear E a; intro a E)
  refine zp E (zCb E rfl rfl rfl) ?_; clear E a; intro a E
  refine wpList_nil ?_
  refine zAh hK ?_; clear hK; clear K
  refine zBl E rfl (fun hb => ?_) (fun hb => ?_)
  · replace hb := Nrm.nrm hb
    refine wp_skip ?_
    refine zAh hK ?_; clear hK; clear K
    refine wp_seq_k ?_; intro K hK
    refine wp_block ?_
    refine wp_seq_k ?_; intro K hK
    refine zAc ?_
    iterate 2 (refine zp E (zAe E rfl rfl) ?_; clear E a; intro a E)
    refine zp E (zKy E rfl rfl rfl (by decide) (by first | exact zLb (y := 256) | exact rfl)) ?_; clear E a; intro a E
    refine zp E (zBv E rfl rfl rfl rfl (w8 _)) ?_; clear E a; intro a E
    refine zAo rfl (zCk (cells := [_]) E S rfl rfl (by decide) rfl rfl rfl rfl rfl (by decide) rfl ?_); clear E S a; intro a w b17 E S
    refine zAo rfl (zCi (by' := 1) E S rfl rfl (by decide) rfl rfl hB (by repeat (first | exact pk1 | apply zAa)) ((zCr (g := b17) (T := 5) (xs := [.int .u8 (UInt8.ofNat (n / 256 ^ j % 256)).toNat]) (s := 1) (m := 1) rfl (by simp [Value.oneCell']) (by omega) 1).src (S.stab.at (by repeat (first | exact mm1 | assumption | apply List.Mem.tail))) rfl) rfl rfl rfl rfl rfl rfl (by simp only [maxLen]; omega) (by omega) ?_); clear E S a; intro a w v18 C18 E S hB18
    obtain ⟨ad2, c2, rfl⟩ := hB18.slice
    refine zp E (zAg E rfl rfl) ?_; clear E a; intro a E
    refine wpList_nil ?_
    refine zAh hK ?_; clear hK; clear K
    have hdl := Nat.div_le_self n (256 ^ j)
    refine zAc ?_
    refine zp E (zAe E rfl rfl) ?_; clear E a; intro a E
    refine zp E (zGt E rfl rfl rfl (by decide) (by first | exact zJt (y := 256) (by omega) | exact zHr (y := 256) (by omega) | exact rfl)) ?_; clear E a; intro a E
    refine zp E (zAg E rfl rfl) ?_; clear E a; intro a E
    refine wpList_nil ?_
    refine zBf ?_
    refine zAh hK ?_; clear hK; clear K
    refine zAc ?_
    refine zp E (zAe E rfl rfl) ?_; clear E a; intro a E
    refine zp E (zBu E rfl rfl rfl (by first | exact zCj (y := 1) (by omega) | exact w_in (by omega) | exact zBy (by omega) | exact rfl)) ?_; clear E a; intro a E
    refine zp E (zAg E rfl rfl) ?_; clear E a; intro a E
    refine wpList_nil ?_
    refine zBe ?_
    exact ⟨_, by omega, j + 1, C18, ad2, c2, by omega, rfl, by rw [formOf_succ, zCx]; exact hB18, S.only (Bs := [C18]) (zAd (by repeat (first | exact pk1 | apply zAa)) (zAk _)), by rw [Nat.pow_succ, ← Nat.div_div_eq_div_mul]; exact E.keep (zAb rfl (zAb rfl (zAb rfl (zAb rfl zAp))))⟩
  · replace hb := Nrm.nrm hb
    refine wp_exit ?_
    refine zBb ?_; clear hK; clear K
    refine zBb ?_
    refine zCm ?_
    refine zAh hK ?_; clear hK; clear K
    refine wp_seq_k ?_; intro K hK
    refine zAc ?_
    iterate 2 (refine zp E (zAe E rfl rfl) ?_; clear E a; intro a E)
    refine zp E (by first | exact zCf E rfl rfl rfl | exact zAu E rfl rfl rfl rfl | exact zBc E rfl rfl rfl rfl | exact zAw E rfl rfl rfl) ?_; clear E a; intro a E
    iterate 2 (refine zp E (zAg E rfl rfl) ?_; clear E a; intro a E)
    refine wpList_nil ?_
    refine zAh hK ?_; clear hK; clear K
    refine wp_ret ?_
    refine ret2 E rfl rfl rfl ?_
    obtain rfl : j = k := by omega
    exact ⟨_, rfl, ad, c, C, rfl, hB, S.tr⟩
end Go.Proofs.YtidhehcjafoneaaGreatDoor
namespace Go.Sl
theorem form1 (n : Nat) : zCv n 1 = [UInt8.ofNat n] := by simp [zCv]
end Go.Sl
namespace Go.Proofs.YtidhehcjafoneaaGreatDoor
open Go.Sl
set_option maxRecDepth 10000
theorem zIe (v : Value) (bs : List UInt8) (C : zAs) (n k : Nat) (hC : Buf C 5 1 v bs.length (byt bs)) (hl : bs.length ≤ 1000000) (hn : n < 18446744073709551616) (hk : k ≤ 8) (w0 : World) (H : Hp w0 [C]) :
    Ret Tryz.prog 81 #[v, .int .u64 n, .int .i64 k] w0 fun u w' => ∃ C', Buf C' 5 1 u (bs ++ zCv n k).length (byt (bs ++ zCv n k)) ∧ Trs w0 w' [C] [C'] := by
  have S := St.begin H
  refine zEs 18 Tryz.func81 rfl rfl (by decide) ?_; intro a E
  refine wp_seq_k ?_; intro K hK
  refine zAc ?_
  refine zp E (zAg E rfl rfl) ?_; clear E a; intro a E
  refine wpList_nil ?_
  refine zAh hK ?_; clear hK; clear K
  refine wp_seq_k ?_; intro K hK
  refine zAc ?_
  iterate 2 (refine zp E (zAe E rfl rfl) ?_; clear E a; intro a E)
  refine zAr E rfl rfl (by decide) rfl Tryz.func100 rfl (by kernel_rfl) rfl (vform_ret n hn k _ hk) ?_
  rintro v12 w ⟨ad, c, D, rfl, hD, hT⟩; clear E a; intro a E
  have S := S.fresh hT
  refine zp E (zAe E rfl rfl) ?_; clear E a; intro a E
  iterate 2 (refine zp E (zBx E rfl rfl rfl) ?_; clear E a; intro a E)
  iterate 2 (refine zp E (zAg E rfl rfl) ?_; clear E a; intro a E)
  refine wpList_nil ?_
  refine zAh hK ?_; clear hK; clear K
  refine wp_seq_k ?_; intro K hK
  refine zAc ?_
  iterate 2 (refine zp E (zAe E rfl rfl) ?_; clear E a; intro a E)
  refine zAo rfl (zCi (by' := 1) E S rfl rfl (by decide) rfl rfl hC (by repeat (first | exact pk1 | apply zAa)) (hD.rd.src (S.stab.at (by repeat (first | exact mm1 | assumption | apply List.Mem.tail))) rfl) rfl rfl rfl rfl rfl rfl (by simp only [maxLen]; omega) (by omega) ?_); clear E S a; intro a w v17 C17 E S hB17
  refine zp E (zAg E rfl rfl) ?_; clear E a; intro a E
  refine wpList_nil ?_
  refine zAh hK ?_; clear hK; clear K
  refine wp_ret ?_
  refine ret1 E rfl rfl ?_
  exact ⟨_, rfl, C17, by rw [zCx, List.length_append, zBz]; exact hB17, (S.only (Bs := [C17]) (zAd (by repeat (first | exact pk1 | apply zAa)) (zAk _))).tr⟩
theorem dsums_ret (v : Value) (bs : List UInt8) (C : zAs) (s1 s2 s3 s4 : Nat) (hn : s1 < 18446744073709551616 ∧ s2 < 18446744073709551616 ∧ s3 < 18446744073709551616 ∧ s4 < 18446744073709551616) (hC : Buf C 5 1 v bs.length (byt bs)) (hl : bs.length ≤ 100000) (w0 : World) (H : Hp w0 [C]) :
    Ret Tryz.prog 102 #[v, .agg #[.int .u64 s1, .int .u64 s2, .int .u64 s3, .int .u64 s4]] w0 fun u w' => ∃ C', Buf C' 5 1 u (bs ++ four [s1, s2, s3, s4]).length (byt (bs ++ four [s1, s2, s3, s4])) ∧ Trs w0 w' [C] [C'] := by
  have S := St.begin H
  obtain ⟨h1, h2, h3, h4⟩ := hn
  refine zCy 21 Tryz.func102 rfl rfl (by decide) ?_; intro a E
  refine wp_seq_k ?_; intro K hK
  refine zAc ?_
  refine zAo rfl (zCs E S rfl rfl (by decide) rfl rfl ?_); clear E S a; intro a w b3 E S
  refine zp E (zAg E rfl rfl) ?_; clear E a; intro a E
  refine wpList_nil ?_
  refine zAh hK ?_; clear hK; clear K
  refine wp_seq_k ?_; intro K hK
  refine zAc ?_
  refine zp E (zAe E rfl rfl) ?_; clear E a; intro a E
  refine zp E (by first | exact zAf (q := 0) E rfl rfl rfl | exact zAi (q := 0) E rfl rfl rfl) ?_; clear E a; intro a E
  refine zp E (by first | exact zAn E rfl rfl rfl (S.get (by repeat (first | exact pk1 | apply zAa))) rfl | exact zAj E rfl rfl rfl (by assumption)) ?_; clear E a; intro a E
  refine zAr E rfl rfl (by decide) rfl Tryz.func81 rfl (by kernel_rfl) rfl (zIe v bs C s1 8 hC (by omega) h1 (by omega) _ (S.hp.sel (zAd (by repeat (first | exact pk1 | apply zAa)) (zAk _)))) ?_
  rintro v8 w ⟨C1, hC1, hT⟩; clear E a; intro a E
  have S := S.call1 (zAd (by repeat (first | exact pk1 | apply zAa)) (zAk _)) hT
  refine zp E (zAg E rfl rfl) ?_; clear E a; intro a E
  refine wpList_nil ?_
  refine zAh hK ?_; clear hK; clear K
  refine wp_seq_k ?_; intro K hK
  refine zAc ?_
  refine zp E (zAe E rfl rfl) ?_; clear E a; intro a E
  refine zp E (by first | exact zAf (q := 1) E rfl rfl rfl | exact zAi (q := 1) E rfl rfl rfl) ?_; clear E a; intro a E
  refine zp E (by first | exact zAn E rfl rfl rfl (S.get (by repeat (first | exact pk1 | apply zAa))) rfl | exact zAj E rfl rfl rfl (by assumption)) ?_; clear E a; intro a E
  refine zAr E rfl rfl (by decide) rfl Tryz.func81 rfl (by kernel_rfl) rfl (zIe _ _ C1 s2 8 hC1 (by simp only [List.length_append, zBz]; omega) h2 (by omega) _ (S.hp.sel (zAd (by repeat (first | exact pk1 | apply zAa)) (zAk _)))) ?_
  rintro v12 w ⟨C2, hC2, hT⟩; clear E a; intro a E
  have S := S.call1 (zAd (by repeat (first | exact pk1 | apply zAa)) (zAk _)) hT
  refine zp E (zAg E rfl rfl) ?_; clear E a; intro a E
  refine wpList_nil ?_
  refine zAh hK ?_; clear hK; clear K
  refine wp_seq_k ?_; intro K hK
  refine zAc ?_
  refine zp E (zAe E rfl rfl) ?_; clear E a; intro a E
  refine zp E (by first | exact zAf (q := 2) E rfl rfl rfl | exact zAi (q := 2) E rfl rfl rfl) ?_; clear E a; intro a E
  refine zp E (by first | exact zAn E rfl rfl rfl (S.get (by repeat (first | exact pk1 | apply zAa))) rfl | exact zAj E rfl rfl rfl (by assumption)) ?_; clear E a; intro a E
  refine zAr E rfl rfl (by decide) rfl Tryz.func81 rfl (by kernel_rfl) rfl (zIe _ _ C2 s3 8 hC2 (by simp only [List.length_append, zBz]; omega) h3 (by omega) _ (S.hp.sel (zAd (by repeat (first | exact pk1 | apply zAa)) (zAk _)))) ?_
  rintro v16 w ⟨C3, hC3, hT⟩; clear E a; intro a E
  have S := S.call1 (zAd (by repeat (first | exact pk1 | apply zAa)) (zAk _)) hT
  refine zp E (zAg E rfl rfl) ?_; clear E a; intro a E
  refine wpList_nil ?_
  refine zAh hK ?_; clear hK; clear K
  refine wp_seq_k ?_; intro K hK
  refine zAc ?_
  refine zp E (zAe E rfl rfl) ?_; clear E a; intro a E
  refine zp E (by first | exact zAf (q := 3) E rfl rfl rfl | exact zAi (q := 3) E rfl rfl rfl) ?_; clear E a; intro a E
  refine zp E (by first | exact zAn E rfl rfl rfl (S.get (by repeat (first | exact pk1 | apply zAa))) rfl | exact zAj E rfl rfl rfl (by assumption)) ?_; clear E a; intro a E
  refine zAr E rfl rfl (by decide) rfl Tryz.func81 rfl (by kernel_rfl) rfl (zIe _ _ C3 s4 8 hC3 (by simp only [List.length_append, zBz]; omega) h4 (by omega) _ (S.hp.sel (zAd (by repeat (first | exact pk1 | apply zAa)) (zAk _)))) ?_
  rintro v20 w ⟨C4, hC4, hT⟩; clear E a; intro a E
  have S := S.call1 (zAd (by repeat (first | exact pk1 | apply zAa)) (zAk _)) hT
  refine zp E (zAg E rfl rfl) ?_; clear E a; intro a E
  refine wpList_nil ?_
  refine zAh hK ?_; clear hK; clear K
  refine wp_ret ?_
  refine ret1 E rfl rfl ?_
  exact ⟨_, rfl, C4, by simpa [four] using hC4, (S.only (Bs := [C4]) (zAd (by repeat (first | exact pk1 | apply zAa)) (zAk _))).tr⟩
theorem dpadded_ret (v : Value) (bs : List UInt8) (C : zAs) (to : Nat) (hC : Buf C 5 1 v bs.length (byt bs)) (hto : to ≤ 1000000) (hl : bs.length ≤ to) (w0 : World) (H : Hp w0 [C]) :
    Ret Tryz.prog 101 #[v, .int .i64 to] w0 fun u w' => ∃ C', Buf C' 5 1 u (bs ++ List.replicate (to - bs.length) 0).length (byt (bs ++ List.replicate (to - bs.length) 0)) ∧ Trs w0 w' [C] [C'] := by
  have S := St.begin H
  refine zCy 13 Tryz.func101 rfl rfl (by decide) ?_; intro a E
  refine wp_seq_k ?_; intro K hK
  refine zAc ?_
  refine zp E (zAg E rfl rfl) ?_; clear E a; intro a E
  refine wpList_nil ?_
  refine zAh hK ?_; clear hK; clear K
  refine wp_seq_k ?_; intro K hK
  refine wp_block ?_
  refine wp_loop_ghost (fun (m : Nat) (a : Act) (w' : World) => ∃ (i : Nat) (v : Value) (C' : zAs), m = to - bs.length - i ∧ bs.length + i ≤ to ∧ Buf C' 5 1 v (bs ++ List.replicate i 0).length (byt (bs ++ List.replicate i 0)) ∧ (∃ Ls, St w0 [C] w' (C' :: Ls)) ∧ Fr a 13 [(0, v), (1, .int .i64 to)]) (to - bs.length - 0) ?_ ?_
  · exact ⟨0, v, C, rfl, by omega, by simpa using hC, ⟨_, S⟩, E.keep (zAb rfl (zAb rfl zAp))⟩
  clear E; clear a; (try clear S); rintro m a w ⟨i, v, C', rfl, hi, hC', ⟨Ls, S⟩, E⟩
  iterate 2 (refine wp_seq_k ?_; intro K hK)
  obtain ⟨ad, c, rfl⟩ := hC'.slice
  have hli : (bs ++ List.replicate i (0 : UInt8)).length = bs.length + i := by simp
  refine zAc ?_
  refine zp E (zAe E rfl rfl) ?_; clear E a; intro a E
  refine zp E (by first | exact zCa E rfl rfl rfl | exact zBa E rfl rfl rfl | exact zAt E rfl rfl rfl) ?_; clear E a; intro a E
  refine zp E (zAe E rfl rfl) ?_; clear E a; intro a E
  refine zp E (zCb E rfl rfl rfl) ?_; clear E a; intro a E
  refine wpList_nil ?_
  refine zAh hK ?_; clear hK; clear K
  refine zBl E rfl (fun hb => ?_) (fun hb => ?_)
  · replace hb := Nrm.nrm hb
    refine wp_skip ?_
    refine zAh hK ?_; clear hK; clear K
    refine wp_block ?_
    refine zAc ?_
    refine zp E (zAe E rfl rfl) ?_; clear E a; intro a E
    refine zAo rfl (zCk (cells := [_]) E S rfl rfl (by decide) rfl rfl rfl rfl rfl (by decide) rfl ?_); clear E S a; intro a w b10 E S
    refine zAo rfl (zCi (by' := 1) E S rfl rfl (by decide) rfl rfl hC' (by repeat (first | exact pk1 | apply zAa)) ((zCr (g := b10) (T := 5) (xs := [.int .u8 0]) (s := 1) (m := 1) rfl (by simp [Value.oneCell']) (by omega) 1).src (S.stab.at (by repeat (first | exact mm1 | assumption | apply List.Mem.tail))) rfl) rfl rfl rfl rfl rfl rfl (by simp only [maxLen]; omega) (by omega) ?_); clear E S a; intro a w v11 C11 E S hB11
    refine zp E (zAg E rfl rfl) ?_; clear E a; intro a E
    refine wpList_nil ?_
    refine zBf ?_
    refine zBe ?_
    have hB11 : Buf C11 5 1 v11 (bs ++ List.replicate (i + 1) 0).length (byt (bs ++ List.replicate (i + 1) 0)) := by
      rw [List.replicate_succ', ← List.append_assoc, zCx, List.length_append]; exact hB11
    exact ⟨_, by omega, i + 1, v11, C11, rfl, by omega, hB11, ⟨_, S⟩, E.keep (zAb rfl (zAb rfl zAp))⟩
  · replace hb := Nrm.nrm hb
    refine wp_exit ?_
    refine zBb ?_; clear hK; clear K
    refine zBb ?_
    refine zCm ?_
    refine zAh hK ?_; clear hK; clear K
    refine wp_seq_k ?_; intro K hK
    refine zAc ?_
    refine zp E (zAe E rfl rfl) ?_; clear E a; intro a E
    refine zp E (zAg E rfl rfl) ?_; clear E a; intro a E
    refine wpList_nil ?_
    refine zAh hK ?_; clear hK; clear K
    refine wp_ret ?_
    refine ret1 E rfl rfl ?_
    obtain rfl : i = to - bs.length := by omega
    exact ⟨_, rfl, C', hC', (S.only (Bs := [C']) (zAd (by repeat (first | exact pk1 | apply zAa)) (zAk _))).tr⟩
end Go.Proofs.YtidhehcjafoneaaGreatDoor
namespace Go.Proofs.YtidhehcjafoneaaGreatDoor
open Go.Sl
set_option maxRecDepth 10000
theorem plus_ret (s : Fs) (hs : s.Ok) (x0 x1 x2 x3 : UInt8) (w0 : World) :
    Ret Tryz.prog 116 #[s.agg, .agg #[.int .u8 x0.toNat, .int .u8 x1.toNat, .int .u8 x2.toNat, .int .u8 x3.toNat]] w0 fun u w' => u = (fstep s (word4 x0 x1 x2 x3)).agg ∧ Trs w0 w' [] [] := by
  have S := St.begin (zEt w0)
  refine zCy 46 Tryz.func116 rfl rfl (by decide) ?_; intro a E
  refine wp_seq_k ?_; intro K hK
  refine zAc ?_
  refine zAo rfl (zCs E S rfl rfl (by decide) rfl rfl ?_); clear E S a; intro a w b2 E S
  refine zAo rfl (zCs E S rfl rfl (by decide) rfl rfl ?_); clear E S a; intro a w b3 E S
  refine zAo rfl (zCc E S rfl rfl (by decide) rfl rfl rfl ?_); clear E S a; intro a w b4 E S
  refine wpList_nil ?_
  refine zAh hK ?_; clear hK; clear K
  refine wp_seq_k ?_; intro K hK
  refine zAc ?_
  refine zp E (by first | exact zAf (q := 0) E rfl rfl rfl | exact zAi (q := 0) E rfl rfl rfl) ?_; clear E a; intro a E
  refine zp E (by first | exact zAn E rfl rfl rfl (S.get (by repeat (first | exact pk1 | apply zAa))) rfl | exact zAj E rfl rfl rfl (by assumption)) ?_; clear E a; intro a E
  refine zp E (zAx (i := 0) E rfl rfl rfl rfl rfl rfl (by omega)) ?_; clear E a; intro a E
  refine zp E (by first | exact zAn E rfl rfl rfl (S.get (by repeat (first | exact pk1 | apply zAa))) rfl | exact zAj E rfl rfl rfl (by assumption)) ?_; clear E a; intro a E
  refine zp E (by first | exact zBv E rfl rfl rfl rfl (by first | exact wu8 _ | exact zHs (by omega) | exact zFa (by omega) | exact w_in (by omega) | exact zBy (by omega) | exact rfl) | exact zDe E rfl rfl rfl rfl rfl (by assumption) (S.stab.at (by simp))) ?_; clear E a; intro a E
  refine zp E (zAx (i := 1) E rfl rfl rfl rfl rfl rfl (by omega)) ?_; clear E a; intro a E
  refine zp E (by first | exact zAn E rfl rfl rfl (S.get (by repeat (first | exact pk1 | apply zAa))) rfl | exact zAj E rfl rfl rfl (by assumption)) ?_; clear E a; intro a E
  refine zp E (by first | exact zBv E rfl rfl rfl rfl (by first | exact wu8 _ | exact zHs (by omega) | exact zFa (by omega) | exact w_in (by omega) | exact zBy (by omega) | exact rfl) | exact zDe E rfl rfl rfl rfl rfl (by assumption) (S.stab.at (by simp))) ?_; clear E a; intro a E
  refine zp E (zEz E rfl rfl rfl (by omega) (by simp only [IntKind.bits]; omega) (word_sh 8 (by omega))) ?_; clear E a; intro a E
  refine zp E (zGv E rfl rfl rfl (word_or1 x0 x1)) ?_; clear E a; intro a E
  refine zp E (zAx (i := 2) E rfl rfl rfl rfl rfl rfl (by omega)) ?_; clear E a; intro a E
  refine zp E (by first | exact zAn E rfl rfl rfl (S.get (by repeat (first | exact pk1 | apply zAa))) rfl | exact zAj E rfl rfl rfl (by assumption)) ?_; clear E a; intro a E
  refine zp E (by first | exact zBv E rfl rfl rfl rfl (by first | exact wu8 _ | exact zHs (by omega) | exact zFa (by omega) | exact w_in (by omega) | exact zBy (by omega) | exact rfl) | exact zDe E rfl rfl rfl rfl rfl (by assumption) (S.stab.at (by simp))) ?_; clear E a; intro a E
  refine zp E (zEz E rfl rfl rfl (by omega) (by simp only [IntKind.bits]; omega) (word_sh 16 (by omega))) ?_; clear E a; intro a E
  refine zp E (zGv E rfl rfl rfl (word_or2 x0 x1 x2)) ?_; clear E a; intro a E
  refine zp E (zAx (i := 3) E rfl rfl rfl rfl rfl rfl (by omega)) ?_; clear E a; intro a E
  refine zp E (by first | exact zAn E rfl rfl rfl (S.get (by repeat (first | exact pk1 | apply zAa))) rfl | exact zAj E rfl rfl rfl (by assumption)) ?_; clear E a; intro a E
  refine zp E (by first | exact zBv E rfl rfl rfl rfl (by first | exact wu8 _ | exact zHs (by omega) | exact zFa (by omega) | exact w_in (by omega) | exact zBy (by omega) | exact rfl) | exact zDe E rfl rfl rfl rfl rfl (by assumption) (S.stab.at (by simp))) ?_; clear E a; intro a E
  refine zp E (zEz E rfl rfl rfl (by omega) (by simp only [IntKind.bits]; omega) (word_sh 24 (by omega))) ?_; clear E a; intro a E
  refine zp E (zGv E rfl rfl rfl (word_or3 x0 x1 x2 x3)) ?_; clear E a; intro a E
  refine zp E (zBu E rfl rfl rfl (wa_m _ _)) ?_; clear E a; intro a E
  refine zp E (by first | exact zAf (q := 0) E rfl rfl rfl | exact zAi (q := 0) E rfl rfl rfl) ?_; clear E a; intro a E
  refine zAo rfl (zBg E S rfl rfl rfl rfl rfl rfl (by repeat (first | exact pk1 | apply zAa)) (by first | exact Nat.le_of_ble_eq_true rfl | (simp; done) | (simp; omega)) ?_); clear E S a; intro a w E S; try dsimp only [List.set] at S
  refine wpList_nil ?_
  refine zAh hK ?_; clear hK; clear K
  refine wp_seq_k ?_; intro K hK
  replace E := E.keep (e' := [(2, _), (4, _)]) (zAb rfl (zAb rfl (zAp)))
  refine zAc ?_
  refine zp E (by first | exact zAf (q := 1) E rfl rfl rfl | exact zAi (q := 1) E rfl rfl rfl) ?_; clear E a; intro a E
  refine zp E (by first | exact zAn E rfl rfl rfl (S.get (by repeat (first | exact pk1 | apply zAa))) rfl | exact zAj E rfl rfl rfl (by assumption)) ?_; clear E a; intro a E
  refine zp E (by first | exact zAf (q := 0) E rfl rfl rfl | exact zAi (q := 0) E rfl rfl rfl) ?_; clear E a; intro a E
  refine zp E (by first | exact zAn E rfl rfl rfl (S.get (by repeat (first | exact pk1 | apply zAa))) rfl | exact zAj E rfl rfl rfl (by assumption)) ?_; clear E a; intro a E
  refine zp E (zBu E rfl rfl rfl (wa_m _ _)) ?_; clear E a; intro a E
  refine zp E (by first | exact zAf (q := 1) E rfl rfl rfl | exact zAi (q := 1) E rfl rfl rfl) ?_; clear E a; intro a E
  refine zAo rfl (zBg E S rfl rfl rfl rfl rfl rfl (by repeat (first | exact pk1 | apply zAa)) (by first | exact Nat.le_of_ble_eq_true rfl | (simp; done) | (simp; omega)) ?_); clear E S a; intro a w E S; try dsimp only [List.set] at S
  refine wpList_nil ?_
  refine zAh hK ?_; clear hK; clear K
  refine wp_seq_k ?_; intro K hK
  refine zAc ?_
  refine zp E (by first | exact zAf (q := 2) E rfl rfl rfl | exact zAi (q := 2) E rfl rfl rfl) ?_; clear E a; intro a E
  refine zp E (by first | exact zAn E rfl rfl rfl (S.get (by repeat (first | exact pk1 | apply zAa))) rfl | exact zAj E rfl rfl rfl (by assumption)) ?_; clear E a; intro a E
  refine zp E (by first | exact zAf (q := 1) E rfl rfl rfl | exact zAi (q := 1) E rfl rfl rfl) ?_; clear E a; intro a E
  refine zp E (by first | exact zAn E rfl rfl rfl (S.get (by repeat (first | exact pk1 | apply zAa))) rfl | exact zAj E rfl rfl rfl (by assumption)) ?_; clear E a; intro a E
  refine zp E (zBu E rfl rfl rfl (wa_m _ _)) ?_; clear E a; intro a E
  refine zp E (by first | exact zAf (q := 2) E rfl rfl rfl | exact zAi (q := 2) E rfl rfl rfl) ?_; clear E a; intro a E
  refine zAo rfl (zBg E S rfl rfl rfl rfl rfl rfl (by repeat (first | exact pk1 | apply zAa)) (by first | exact Nat.le_of_ble_eq_true rfl | (simp; done) | (simp; omega)) ?_); clear E S a; intro a w E S; try dsimp only [List.set] at S
  refine wpList_nil ?_
  refine zAh hK ?_; clear hK; clear K
  refine wp_seq_k ?_; intro K hK
  refine zAc ?_
  refine zp E (by first | exact zAf (q := 3) E rfl rfl rfl | exact zAi (q := 3) E rfl rfl rfl) ?_; clear E a; intro a E
  refine zp E (by first | exact zAn E rfl rfl rfl (S.get (by repeat (first | exact pk1 | apply zAa))) rfl | exact zAj E rfl rfl rfl (by assumption)) ?_; clear E a; intro a E
  refine zp E (by first | exact zAf (q := 2) E rfl rfl rfl | exact zAi (q := 2) E rfl rfl rfl) ?_; clear E a; intro a E
  refine zp E (by first | exact zAn E rfl rfl rfl (S.get (by repeat (first | exact pk1 | apply zAa))) rfl | exact zAj E rfl rfl rfl (by assumption)) ?_; clear E a; intro a E
  refine zp E (zBu E rfl rfl rfl (wa_m _ _)) ?_; clear E a; intro a E
  refine zp E (by first | exact zAf (q := 3) E rfl rfl rfl | exact zAi (q := 3) E rfl rfl rfl) ?_; clear E a; intro a E
  refine zAo rfl (zBg E S rfl rfl rfl rfl rfl rfl (by repeat (first | exact pk1 | apply zAa)) (by first | exact Nat.le_of_ble_eq_true rfl | (simp; done) | (simp; omega)) ?_); clear E S a; intro a w E S; try dsimp only [List.set] at S
  refine wpList_nil ?_
  refine zAh hK ?_; clear hK; clear K
  refine wp_seq_k ?_; intro K hK
  refine zAc ?_
  refine zp E (zBw (vs := [_, _, _, _]) E rfl rfl rfl (S.get (by repeat (first | exact pk1 | apply zAa))) rfl rfl) ?_; clear E a; intro a E
  refine zAo rfl (zCg E S rfl rfl rfl rfl (by simp [Value.oneCell']) rfl (by repeat (first | exact pk1 | apply zAa)) (by simp) ?_); clear E S a; intro a w E S; simp only [List.take_succ_cons, List.take_zero, List.drop_succ_cons, List.drop_zero, List.cons_append, List.nil_append, List.append_nil, List.length_cons, List.length_nil, Nat.zero_add, Nat.add_zero] at S
  refine wpList_nil ?_
  refine zAh hK ?_; clear hK; clear K
  refine wp_ret ?_
  refine zKa E rfl rfl (S.get (by repeat (first | exact pk1 | apply zAa))) rfl ?_
  exact ⟨_, rfl, rfl, (S.only (Bs := []) (zAk _)).tr⟩
def runO (s : Fs) (x0 x1 x2 x3 : UInt8) (k : Nat) : Obj := cel [.int .u64 s.a, .int .u64 s.b, .int .u64 s.c, .int .u64 s.d, .int .u8 x0.toNat, .int .u8 x1.toNat, .int .u8 x2.toNat, .int .u8 x3.toNat, .int .i64 k] 195
theorem sumnew_ret (w0 : World) : Ret Tryz.prog 103 #[] w0 fun u w' => ∃ p, u = ptr p ∧ Trs w0 w' [] [[(p, runO zLk 0 0 0 0 0)]] := by
  have S := St.begin (zEt w0)
  refine zKx 3 Tryz.func103 rfl rfl ?_; intro a E
  refine wp_seq_k ?_; intro K hK
  refine zAc ?_
  refine zp E (zAg E rfl rfl) ?_; clear E a; intro a E
  refine wpList_nil ?_
  refine zAh hK ?_; clear hK; clear K
  refine wp_seq_k ?_; intro K hK
  refine zAc ?_
  refine zp E (zCo (cells := [_, _, _, _, _, _, _, _, _]) E rfl rfl rfl) ?_; clear E a; intro a E
  refine zAo rfl (zCs E S rfl rfl (by decide) rfl rfl ?_); clear E S a; intro a w b2 E S
  refine zp E (zAg E rfl rfl) ?_; clear E a; intro a E
  refine wpList_nil ?_
  refine zAh hK ?_; clear hK; clear K
  refine wp_ret ?_
  refine ret1 E rfl rfl ?_
  exact ⟨_, rfl, _, rfl, (S.only (Bs := [_]) (zAd pk1 (zAk _))).tr⟩
theorem sumadd_ret (O : zAs) (v : Value) (b : List UInt8) (hO : Rd O 1 v b.length (byt b)) (hbl : b.length ≤ 140737488355328) (p : Nat) (w0 : World) (H : Hp w0 [[(p, runO zLk 0 0 0 0 0)], O]) :
    Ret Tryz.prog 104 #[ptr p, v] w0 fun _ w' => ∃ s x0 x1 x2 x3 k, Run b b.length s x0 x1 x2 x3 k ∧ Trs w0 w' [[(p, runO zLk 0 0 0 0 0)], O] [[(p, runO s x0 x1 x2 x3 k)], O] := by
  have S := St.begin H
  obtain ⟨ad, c, rfl⟩ := hO.slice
  refine zCy 53 Tryz.func104 rfl rfl (by decide) ?_; intro a E
  refine wp_seq_k ?_; intro K hK
  refine zAc ?_
  refine zp E (zAe E rfl rfl) ?_; clear E a; intro a E
  refine zp E (by first | exact zCa E rfl rfl rfl | exact zBa E rfl rfl rfl | exact zAt E rfl rfl rfl) ?_; clear E a; intro a E
  refine zp E (zAe E rfl rfl) ?_; clear E a; intro a E
  refine wpList_nil ?_
  refine zAh hK ?_; clear hK; clear K
  refine wp_block ?_
  refine wp_loop_ghost (fun (m : Nat) (a : Act) (w' : World) => ∃ (i : Nat) (s : Fs) (x0 x1 x2 x3 : UInt8) (k : Nat), m = b.length - i ∧ Run b i s x0 x1 x2 x3 k ∧ (St w0 [[(p, runO zLk 0 0 0 0 0)], O] w' [[(p, runO s x0 x1 x2 x3 k)], O]) ∧ Fr a 53 [(0, ptr p), (6, .slice ad b.length c), (7, .int .i64 b.length), (8, .int .i64 i)]) (b.length - 0) ?_ ?_
  · exact ⟨0, _, _, _, _, _, 0, rfl, Run.start b, S, E.keep (zAb rfl (zAb rfl (zAb rfl (zAb rfl zAp))))⟩
  clear E; clear a; (try clear S); rintro m a w ⟨i, s, x0, x1, x2, x3, k, rfl, hR, S, E⟩
  refine wp_seq_k ?_; intro K hK
  refine zAc ?_
  refine zp E (zCb E rfl rfl rfl) ?_; clear E a; intro a E
  refine wpList_nil ?_
  refine zAh hK ?_; clear hK; clear K
  refine wp_seq_k ?_; intro K hK
  refine zBl E rfl (fun hb => ?_) (fun hb => ?_)
  · replace hb := Nrm.nrm hb
    refine wp_skip ?_
    refine zAh hK ?_; clear hK; clear K
    refine wp_seq_k ?_; intro K hK
    refine wp_block ?_
    refine wp_seq_k ?_; intro K hK
    have hib : i < b.length := by omega
    obtain ⟨g, off, rfl⟩ := hO.addr (by omega)
    have hsok := hR.ok
    refine zAc ?_
    refine zp E (by first | exact zBk E rfl rfl rfl rfl rfl rfl (by omega) | exact zBn E rfl rfl rfl rfl rfl rfl (by omega) | exact zAx E rfl rfl rfl rfl rfl rfl (by omega)) ?_; clear E a; intro a E
    refine zp E (zAj E rfl rfl rfl (hO.byte (S.stab.at (by repeat (first | exact mm1 | assumption | apply List.Mem.tail))) hib)) ?_; clear E a; intro a E
    refine zp E (zAg E rfl rfl) ?_; clear E a; intro a E
    dsimp only [runO] at S
    have hk4 : k = 0 ∨ k = 1 ∨ k = 2 ∨ k = 3 := by have := hR.hk; omega
    rcases hk4 with rfl | rfl | rfl | rfl
    · skip
      refine wpList_nil ?_
      refine zAh hK ?_; clear hK; clear K
      refine wp_seq_k ?_; intro K hK
      refine zBo S (.ofL [(0, 0), (1, 0), (2, 0), (3, 0), (4, 0), (5, 0), (6, 0), (7, 0), (8, 0), (9, 3)]) (by kernel_rfl) (by kernel_rfl) ?_
      clear S; intro w S
      iterate 2 (refine zm E rfl (fun w h => zAe E rfl rfl) ?_; clear E a; intro a E)
      refine zm E rfl (fun w h => zAl E rfl rfl) ?_; clear E a; intro a E
      refine zm E rfl (fun w h => by first | exact zAf (q := 8) E rfl rfl rfl | exact zAi (q := 8) E rfl rfl rfl) ?_; clear E a; intro a E
      refine zm E rfl (fun w h => by first | exact zAn E rfl rfl rfl (h.one (by repeat (first | exact mm1 | assumption | apply List.Mem.tail))) rfl | exact zAj E rfl rfl rfl (by assumption)) ?_; clear E a; intro a E
      refine zm E rfl (fun w h => zAe E rfl rfl) ?_; clear E a; intro a E
      refine zm E rfl (fun w h => zAl E rfl rfl) ?_; clear E a; intro a E
      refine zm E rfl (fun w h => by first | exact zAf (q := 4) E rfl rfl rfl | exact zAi (q := 4) E rfl rfl rfl) ?_; clear E a; intro a E
      refine zm E rfl (fun w h => zAx (i := 0) E rfl rfl rfl rfl rfl rfl (by omega)) ?_; clear E a; intro a E
      refine zCq rfl rfl (zBg E S rfl rfl rfl rfl rfl rfl (by repeat (first | exact pk1 | apply zAa)) (by first | exact Nat.le_of_ble_eq_true rfl | (simp; done) | (simp; omega)) ?_); clear E S a; intro a w E S; try dsimp only [List.set] at S
      refine zBs ?_
      refine zAh hK ?_; clear hK; clear K
      refine wp_seq_k ?_; intro K hK
      refine zAc ?_
      refine zp E (zAe E rfl rfl) ?_; clear E a; intro a E
      refine zp E (zAl E rfl rfl) ?_; clear E a; intro a E
      refine zp E (by first | exact zAf (q := 8) E rfl rfl rfl | exact zAi (q := 8) E rfl rfl rfl) ?_; clear E a; intro a E
      refine zp E (by first | exact zAn E rfl rfl rfl (S.get (by repeat (first | exact pk1 | apply zAa))) rfl | exact zAj E rfl rfl rfl (by assumption)) ?_; clear E a; intro a E
      refine zp E (zBu E rfl rfl rfl (by first | exact zCj (y := 1) (by omega) | exact w_in (by omega) | exact zBy (by omega) | exact rfl)) ?_; clear E a; intro a E
      refine zp E (zAl E rfl rfl) ?_; clear E a; intro a E
      refine zp E (by first | exact zAf (q := 8) E rfl rfl rfl | exact zAi (q := 8) E rfl rfl rfl) ?_; clear E a; intro a E
      refine zAo rfl (zBg E S rfl rfl rfl rfl rfl rfl (by repeat (first | exact pk1 | apply zAa)) (by first | exact Nat.le_of_ble_eq_true rfl | (simp; done) | (simp; omega)) ?_); clear E S a; intro a w E S; try dsimp only [List.set] at S
      refine wpList_nil ?_
      refine zAh hK ?_; clear hK; clear K
      refine wp_seq_k ?_; intro K hK
      refine zAc ?_
      refine zp E (zAe E rfl rfl) ?_; clear E a; intro a E
      refine zp E (zAl E rfl rfl) ?_; clear E a; intro a E
      refine zp E (by first | exact zAf (q := 8) E rfl rfl rfl | exact zAi (q := 8) E rfl rfl rfl) ?_; clear E a; intro a E
      refine zp E (by first | exact zAn E rfl rfl rfl (S.get (by repeat (first | exact pk1 | apply zAa))) rfl | exact zAj E rfl rfl rfl (by assumption)) ?_; clear E a; intro a E
      refine zp E (by first | exact zCf E rfl rfl rfl | exact zAu E rfl rfl rfl rfl | exact zBc E rfl rfl rfl rfl | exact zAw E rfl rfl rfl) ?_; clear E a; intro a E
      refine wpList_nil ?_
      refine zAh hK ?_; clear hK; clear K
      refine zBt E rfl ((by decide)) ?_
      refine wp_skip ?_
      refine zBf ?_
      refine zAh hK ?_; clear hK; clear K
      refine zAc ?_
      refine zp E (zBu E rfl rfl rfl (by first | exact zCj (y := 1) (by omega) | exact w_in (by omega) | exact zBy (by omega) | exact rfl)) ?_; clear E a; intro a E
      refine zp E (zAe E rfl rfl) ?_; clear E a; intro a E
      refine wpList_nil ?_
      refine zBe ?_
      exact ⟨_, by omega, i + 1, _, _, _, _, _, _, rfl, hR.s0 hib, S, E.keep (zAb rfl (zAb rfl (zAb rfl (zAb rfl zAp))))⟩
    · skip
      refine wpList_nil ?_
      refine zAh hK ?_; clear hK; clear K
      refine wp_seq_k ?_; intro K hK
      refine zBo S (.ofL [(0, 0), (1, 0), (2, 0), (3, 0), (4, 0), (5, 0), (6, 0), (7, 0), (8, 0), (9, 3)]) (by kernel_rfl) (by kernel_rfl) ?_
      clear S; intro w S
      iterate 2 (refine zm E rfl (fun w h => zAe E rfl rfl) ?_; clear E a; intro a E)
      refine zm E rfl (fun w h => zAl E rfl rfl) ?_; clear E a; intro a E
      refine zm E rfl (fun w h => by first | exact zAf (q := 8) E rfl rfl rfl | exact zAi (q := 8) E rfl rfl rfl) ?_; clear E a; intro a E
      refine zm E rfl (fun w h => by first | exact zAn E rfl rfl rfl (h.one (by repeat (first | exact mm1 | assumption | apply List.Mem.tail))) rfl | exact zAj E rfl rfl rfl (by assumption)) ?_; clear E a; intro a E
      refine zm E rfl (fun w h => zAe E rfl rfl) ?_; clear E a; intro a E
      refine zm E rfl (fun w h => zAl E rfl rfl) ?_; clear E a; intro a E
      refine zm E rfl (fun w h => by first | exact zAf (q := 4) E rfl rfl rfl | exact zAi (q := 4) E rfl rfl rfl) ?_; clear E a; intro a E
      refine zm E rfl (fun w h => zAx (i := 1) E rfl rfl rfl rfl rfl rfl (by omega)) ?_; clear E a; intro a E
      refine zCq rfl rfl (zBg E S rfl rfl rfl rfl rfl rfl (by repeat (first | exact pk1 | apply zAa)) (by first | exact Nat.le_of_ble_eq_true rfl | (simp; done) | (simp; omega)) ?_); clear E S a; intro a w E S; try dsimp only [List.set] at S
      refine zBs ?_
      refine zAh hK ?_; clear hK; clear K
      refine wp_seq_k ?_; intro K hK
      refine zAc ?_
      refine zp E (zAe E rfl rfl) ?_; clear E a; intro a E
      refine zp E (zAl E rfl rfl) ?_; clear E a; intro a E
      refine zp E (by first | exact zAf (q := 8) E rfl rfl rfl | exact zAi (q := 8) E rfl rfl rfl) ?_; clear E a; intro a E
      refine zp E (by first | exact zAn E rfl rfl rfl (S.get (by repeat (first | exact pk1 | apply zAa))) rfl | exact zAj E rfl rfl rfl (by assumption)) ?_; clear E a; intro a E
      refine zp E (zBu E rfl rfl rfl (by first | exact zCj (y := 1) (by omega) | exact w_in (by omega) | exact zBy (by omega) | exact rfl)) ?_; clear E a; intro a E
      refine zp E (zAl E rfl rfl) ?_; clear E a; intro a E
      refine zp E (by first | exact zAf (q := 8) E rfl rfl rfl | exact zAi (q := 8) E rfl rfl rfl) ?_; clear E a; intro a E
      refine zAo rfl (zBg E S rfl rfl rfl rfl rfl rfl (by repeat (first | exact pk1 | apply zAa)) (by first | exact Nat.le_of_ble_eq_true rfl | (simp; done) | (simp; omega)) ?_); clear E S a; intro a w E S; try dsimp only [List.set] at S
      refine wpList_nil ?_
      refine zAh hK ?_; clear hK; clear K
      refine wp_seq_k ?_; intro K hK
      refine zAc ?_
      refine zp E (zAe E rfl rfl) ?_; clear E a; intro a E
      refine zp E (zAl E rfl rfl) ?_; clear E a; intro a E
      refine zp E (by first | exact zAf (q := 8) E rfl rfl rfl | exact zAi (q := 8) E rfl rfl rfl) ?_; clear E a; intro a E
      refine zp E (by first | exact zAn E rfl rfl rfl (S.get (by repeat (first | exact pk1 | apply zAa))) rfl | exact zAj E rfl rfl rfl (by assumption)) ?_; clear E a; intro a E
      refine zp E (by first | exact zCf E rfl rfl rfl | exact zAu E rfl rfl rfl rfl | exact zBc E rfl rfl rfl rfl | exact zAw E rfl rfl rfl) ?_; clear E a; intro a E
      refine wpList_nil ?_
      refine zAh hK ?_; clear hK; clear K
      refine zBt E rfl ((by decide)) ?_
      refine wp_skip ?_
      refine zBf ?_
      refine zAh hK ?_; clear hK; clear K
      refine zAc ?_
      refine zp E (zBu E rfl rfl rfl (by first | exact zCj (y := 1) (by omega) | exact w_in (by omega) | exact zBy (by omega) | exact rfl)) ?_; clear E a; intro a E
      refine zp E (zAe E rfl rfl) ?_; clear E a; intro a E
      refine wpList_nil ?_
      refine zBe ?_
      exact ⟨_, by omega, i + 1, _, _, _, _, _, _, rfl, hR.s1 hib, S, E.keep (zAb rfl (zAb rfl (zAb rfl (zAb rfl zAp))))⟩
    · skip
      refine wpList_nil ?_
      refine zAh hK ?_; clear hK; clear K
      refine wp_seq_k ?_; intro K hK
      refine zBo S (.ofL [(0, 0), (1, 0), (2, 0), (3, 0), (4, 0), (5, 0), (6, 0), (7, 0), (8, 0), (9, 3)]) (by kernel_rfl) (by kernel_rfl) ?_
      clear S; intro w S
      iterate 2 (refine zm E rfl (fun w h => zAe E rfl rfl) ?_; clear E a; intro a E)
      refine zm E rfl (fun w h => zAl E rfl rfl) ?_; clear E a; intro a E
      refine zm E rfl (fun w h => by first | exact zAf (q := 8) E rfl rfl rfl | exact zAi (q := 8) E rfl rfl rfl) ?_; clear E a; intro a E
      refine zm E rfl (fun w h => by first | exact zAn E rfl rfl rfl (h.one (by repeat (first | exact mm1 | assumption | apply List.Mem.tail))) rfl | exact zAj E rfl rfl rfl (by assumption)) ?_; clear E a; intro a E
      refine zm E rfl (fun w h => zAe E rfl rfl) ?_; clear E a; intro a E
      refine zm E rfl (fun w h => zAl E rfl rfl) ?_; clear E a; intro a E
      refine zm E rfl (fun w h => by first | exact zAf (q := 4) E rfl rfl rfl | exact zAi (q := 4) E rfl rfl rfl) ?_; clear E a; intro a E
      refine zm E rfl (fun w h => zAx (i := 2) E rfl rfl rfl rfl rfl rfl (by omega)) ?_; clear E a; intro a E
      refine zCq rfl rfl (zBg E S rfl rfl rfl rfl rfl rfl (by repeat (first | exact pk1 | apply zAa)) (by first | exact Nat.le_of_ble_eq_true rfl | (simp; done) | (simp; omega)) ?_); clear E S a; intro a w E S; try dsimp only [List.set] at S
      refine zBs ?_
      refine zAh hK ?_; clear hK; clear K
      refine wp_seq_k ?_; intro K hK
      refine zAc ?_
      refine zp E (zAe E rfl rfl) ?_; clear E a; intro a E
      refine zp E (zAl E rfl rfl) ?_; clear E a; intro a E
      refine zp E (by first | exact zAf (q := 8) E rfl rfl rfl | exact zAi (q := 8) E rfl rfl rfl) ?_; clear E a; intro a E
      refine zp E (by first | exact zAn E rfl rfl rfl (S.get (by repeat (first | exact pk1 | apply zAa))) rfl | exact zAj E rfl rfl rfl (by assumption)) ?_; clear E a; intro a E
      refine zp E (zBu E rfl rfl rfl (by first | exact zCj (y := 1) (by omega) | exact w_in (by omega) | exact zBy (by omega) | exact rfl)) ?_; clear E a; intro a E
      refine zp E (zAl E rfl rfl) ?_; clear E a; intro a E
      refine zp E (by first | exact zAf (q := 8) E rfl rfl rfl | exact zAi (q := 8) E rfl rfl rfl) ?_; clear E a; intro a E
      refine zAo rfl (zBg E S rfl rfl rfl rfl rfl rfl (by repeat (first | exact pk1 | apply zAa)) (by first | exact Nat.le_of_ble_eq_true rfl | (simp; done) | (simp; omega)) ?_); clear E S a; intro a w E S; try dsimp only [List.set] at S
      refine wpList_nil ?_
      refine zAh hK ?_; clear hK; clear K
      refine wp_seq_k ?_; intro K hK
      refine zAc ?_
      refine zp E (zAe E rfl rfl) ?_; clear E a; intro a E
      refine zp E (zAl E rfl rfl) ?_; clear E a; intro a E
      refine zp E (by first | exact zAf (q := 8) E rfl rfl rfl | exact zAi (q := 8) E rfl rfl rfl) ?_; clear E a; intro a E
      refine zp E (by first | exact zAn E rfl rfl rfl (S.get (by repeat (first | exact pk1 | apply zAa))) rfl | exact zAj E rfl rfl rfl (by assumption)) ?_; clear E a; intro a E
      refine zp E (by first | exact zCf E rfl rfl rfl | exact zAu E rfl rfl rfl rfl | exact zBc E rfl rfl rfl rfl | exact zAw E rfl rfl rfl) ?_; clear E a; intro a E
      refine wpList_nil ?_
      refine zAh hK ?_; clear hK; clear K
      refine zBt E rfl ((by decide)) ?_
      refine wp_skip ?_
      refine zBf ?_
      refine zAh hK ?_; clear hK; clear K
      refine zAc ?_
      refine zp E (zBu E rfl rfl rfl (by first | exact zCj (y := 1) (by omega) | exact w_in (by omega) | exact zBy (by omega) | exact rfl)) ?_; clear E a; intro a E
      refine zp E (zAe E rfl rfl) ?_; clear E a; intro a E
      refine wpList_nil ?_
      refine zBe ?_
      exact ⟨_, by omega, i + 1, _, _, _, _, _, _, rfl, hR.s2 hib, S, E.keep (zAb rfl (zAb rfl (zAb rfl (zAb rfl zAp))))⟩
    · skip
      refine wpList_nil ?_
      refine zAh hK ?_; clear hK; clear K
      refine wp_seq_k ?_; intro K hK
      refine zBo S (.ofL [(0, 0), (1, 0), (2, 0), (3, 0), (4, 0), (5, 0), (6, 0), (7, 0), (8, 0), (9, 3)]) (by kernel_rfl) (by kernel_rfl) ?_
      clear S; intro w S
      iterate 2 (refine zm E rfl (fun w h => zAe E rfl rfl) ?_; clear E a; intro a E)
      refine zm E rfl (fun w h => zAl E rfl rfl) ?_; clear E a; intro a E
      refine zm E rfl (fun w h => by first | exact zAf (q := 8) E rfl rfl rfl | exact zAi (q := 8) E rfl rfl rfl) ?_; clear E a; intro a E
      refine zm E rfl (fun w h => by first | exact zAn E rfl rfl rfl (h.one (by repeat (first | exact mm1 | assumption | apply List.Mem.tail))) rfl | exact zAj E rfl rfl rfl (by assumption)) ?_; clear E a; intro a E
      refine zm E rfl (fun w h => zAe E rfl rfl) ?_; clear E a; intro a E
      refine zm E rfl (fun w h => zAl E rfl rfl) ?_; clear E a; intro a E
      refine zm E rfl (fun w h => by first | exact zAf (q := 4) E rfl rfl rfl | exact zAi (q := 4) E rfl rfl rfl) ?_; clear E a; intro a E
      refine zm E rfl (fun w h => zAx (i := 3) E rfl rfl rfl rfl rfl rfl (by omega)) ?_; clear E a; intro a E
      refine zCq rfl rfl (zBg E S rfl rfl rfl rfl rfl rfl (by repeat (first | exact pk1 | apply zAa)) (by first | exact Nat.le_of_ble_eq_true rfl | (simp; done) | (simp; omega)) ?_); clear E S a; intro a w E S; try dsimp only [List.set] at S
      refine zBs ?_
      refine zAh hK ?_; clear hK; clear K
      refine wp_seq_k ?_; intro K hK
      refine zAc ?_
      refine zp E (zAe E rfl rfl) ?_; clear E a; intro a E
      refine zp E (zAl E rfl rfl) ?_; clear E a; intro a E
      refine zp E (by first | exact zAf (q := 8) E rfl rfl rfl | exact zAi (q := 8) E rfl rfl rfl) ?_; clear E a; intro a E
      refine zp E (by first | exact zAn E rfl rfl rfl (S.get (by repeat (first | exact pk1 | apply zAa))) rfl | exact zAj E rfl rfl rfl (by assumption)) ?_; clear E a; intro a E
      refine zp E (zBu E rfl rfl rfl (by first | exact zCj (y := 1) (by omega) | exact w_in (by omega) | exact zBy (by omega) | exact rfl)) ?_; clear E a; intro a E
      refine zp E (zAl E rfl rfl) ?_; clear E a; intro a E
      refine zp E (by first | exact zAf (q := 8) E rfl rfl rfl | exact zAi (q := 8) E rfl rfl rfl) ?_; clear E a; intro a E
      refine zAo rfl (zBg E S rfl rfl rfl rfl rfl rfl (by repeat (first | exact pk1 | apply zAa)) (by first | exact Nat.le_of_ble_eq_true rfl | (simp; done) | (simp; omega)) ?_); clear E S a; intro a w E S; try dsimp only [List.set] at S
      refine wpList_nil ?_
      refine zAh hK ?_; clear hK; clear K
      refine wp_seq_k ?_; intro K hK
      refine zAc ?_
      refine zp E (zAe E rfl rfl) ?_; clear E a; intro a E
      refine zp E (zAl E rfl rfl) ?_; clear E a; intro a E
      refine zp E (by first | exact zAf (q := 8) E rfl rfl rfl | exact zAi (q := 8) E rfl rfl rfl) ?_; clear E a; intro a E
      refine zp E (by first | exact zAn E rfl rfl rfl (S.get (by repeat (first | exact pk1 | apply zAa))) rfl | exact zAj E rfl rfl rfl (by assumption)) ?_; clear E a; intro a E
      refine zp E (by first | exact zCf E rfl rfl rfl | exact zAu E rfl rfl rfl rfl | exact zBc E rfl rfl rfl rfl | exact zAw E rfl rfl rfl) ?_; clear E a; intro a E
      refine wpList_nil ?_
      refine zAh hK ?_; clear hK; clear K
      refine zDa E rfl ((by decide)) ?_
      refine wp_seq_k ?_; intro K hK
      refine zBo S (.ofL [(0, 0), (1, 0), (2, 0), (3, 0), (4, 0), (5, 0), (6, 0), (7, 0), (8, 0), (9, 1), (10, 0), (11, 0), (12, 3)]) (by kernel_rfl) (by kernel_rfl) ?_
      clear S; intro w S
      iterate 2 (refine zm E rfl (fun w h => zAe E rfl rfl) ?_; clear E a; intro a E)
      refine zm E rfl (fun w h => zAl E rfl rfl) ?_; clear E a; intro a E
      refine zm E rfl (fun w h => by first | exact zAf (q := 0) E rfl rfl rfl | exact zAi (q := 0) E rfl rfl rfl) ?_; clear E a; intro a E
      refine zm E rfl (fun w h => zBw (vs := [_, _, _, _]) E rfl rfl rfl (h.one (by repeat (first | exact mm1 | assumption | apply List.Mem.tail))) rfl rfl) ?_; clear E a; intro a E
      refine zm E rfl (fun w h => zAe E rfl rfl) ?_; clear E a; intro a E
      refine zm E rfl (fun w h => zAl E rfl rfl) ?_; clear E a; intro a E
      refine zm E rfl (fun w h => by first | exact zAf (q := 4) E rfl rfl rfl | exact zAi (q := 4) E rfl rfl rfl) ?_; clear E a; intro a E
      refine zm E rfl (fun w h => zBw (vs := [_, _, _, _]) E rfl rfl rfl (h.one (by repeat (first | exact mm1 | assumption | apply List.Mem.tail))) rfl rfl) ?_; clear E a; intro a E
      refine zCn E rfl rfl rfl (by decide) rfl Tryz.func116 rfl (by kernel_rfl) rfl (plus_ret s hsok _ _ _ _ _) ?_
      rintro v42 w ⟨rfl, hT⟩; clear E a; intro a E
      have S := S.quiet hT
      refine ⟨S.stab.sub (by first | (simp; done) | (simp +contextual; done) | (simp [*]; done)), ?_⟩
      refine zm E rfl (fun w h => zAl E rfl rfl) ?_; clear E a; intro a E
      refine zm E rfl (fun w h => by first | exact zAf (q := 0) E rfl rfl rfl | exact zAi (q := 0) E rfl rfl rfl) ?_; clear E a; intro a E
      refine zCq rfl rfl (zCg E S rfl rfl rfl rfl (by simp [Value.oneCell']) rfl (by repeat (first | exact pk1 | apply zAa)) (by simp) ?_); clear E S a; intro a w E S; simp only [List.take_succ_cons, List.take_zero, List.drop_succ_cons, List.drop_zero, List.cons_append, List.nil_append, List.append_nil, List.length_cons, List.length_nil, Nat.zero_add, Nat.add_zero] at S
      refine zBs ?_
      refine zAh hK ?_; clear hK; clear K
      refine zAc ?_
      iterate 2 (refine zp E (zAe E rfl rfl) ?_; clear E a; intro a E)
      refine zp E (zCo (cells := [_, _, _, _]) E rfl rfl rfl) ?_; clear E a; intro a E
      refine zp E (zAl E rfl rfl) ?_; clear E a; intro a E
      refine zp E (by first | exact zAf (q := 4) E rfl rfl rfl | exact zAi (q := 4) E rfl rfl rfl) ?_; clear E a; intro a E
      refine zAo rfl (zCg E S rfl rfl rfl rfl (by simp [Value.oneCell']) rfl (by repeat (first | exact pk1 | apply zAa)) (by simp) ?_); clear E S a; intro a w E S; simp only [List.take_succ_cons, List.take_zero, List.drop_succ_cons, List.drop_zero, List.cons_append, List.nil_append, List.append_nil, List.length_cons, List.length_nil, Nat.zero_add, Nat.add_zero] at S
      refine zp E (zAl E rfl rfl) ?_; clear E a; intro a E
      refine zp E (by first | exact zAf (q := 8) E rfl rfl rfl | exact zAi (q := 8) E rfl rfl rfl) ?_; clear E a; intro a E
      refine zAo rfl (zBg E S rfl rfl rfl rfl rfl rfl (by repeat (first | exact pk1 | apply zAa)) (by first | exact Nat.le_of_ble_eq_true rfl | (simp; done) | (simp; omega)) ?_); clear E S a; intro a w E S; try dsimp only [List.set] at S
      refine wpList_nil ?_
      refine zBf ?_
      refine zAh hK ?_; clear hK; clear K
      refine zAc ?_
      refine zp E (zBu E rfl rfl rfl (by first | exact zCj (y := 1) (by omega) | exact w_in (by omega) | exact zBy (by omega) | exact rfl)) ?_; clear E a; intro a E
      refine zp E (zAe E rfl rfl) ?_; clear E a; intro a E
      refine wpList_nil ?_
      refine zBe ?_
      exact ⟨_, by omega, i + 1, _, _, _, _, _, _, rfl, hR.s3 hib, S, E.keep (zAb rfl (zAb rfl (zAb rfl (zAb rfl zAp))))⟩
  · replace hb := Nrm.nrm hb
    refine wp_exit ?_
    refine zBb ?_; clear hK; clear K
    refine zBb ?_
    refine zCm ?_
    refine end0 E rfl ?_
    obtain rfl : i = b.length := by have := hR.le; omega
    exact ⟨_, rfl, s, x0, x1, x2, x3, k, hR, S.tr⟩
theorem sumvalue_ret (b : List UInt8) (s : Fs) (x0 x1 x2 x3 : UInt8) (k : Nat) (hR : Run b b.length s x0 x1 x2 x3 k) (p : Nat) (w0 : World) (H : Hp w0 [[(p, runO s x0 x1 x2 x3 k)]]) :
    Ret Tryz.prog 105 #[ptr p] w0 fun u w' => u = (zFh b).agg ∧ Trs w0 w' [[(p, runO s x0 x1 x2 x3 k)]] [[(p, runO s x0 x1 x2 x3 k)]] := by
  have S := St.begin H
  have hsok := hR.ok
  dsimp only [runO] at S
  refine zDc 21 Tryz.func105 rfl rfl (by decide) ?_; intro a E
  refine wp_seq_k ?_; intro K hK
  refine zAc ?_
  refine zAo rfl (zCc E S rfl rfl (by decide) rfl rfl rfl ?_); clear E S a; intro a w b2 E S
  refine wpList_nil ?_
  refine zAh hK ?_; clear hK; clear K
  iterate 2 (refine wp_seq_k ?_; intro K hK)
  refine zAc ?_
  refine zp E (zAe E rfl rfl) ?_; clear E a; intro a E
  refine zp E (zAl E rfl rfl) ?_; clear E a; intro a E
  refine zp E (by first | exact zAf (q := 8) E rfl rfl rfl | exact zAi (q := 8) E rfl rfl rfl) ?_; clear E a; intro a E
  refine zp E (by first | exact zAn E rfl rfl rfl (S.get (by repeat (first | exact pk1 | apply zAa))) rfl | exact zAj E rfl rfl rfl (by assumption)) ?_; clear E a; intro a E
  refine zp E (by first | exact zCf E rfl rfl rfl | exact zAu E rfl rfl rfl rfl | exact zBc E rfl rfl rfl rfl | exact zAw E rfl rfl rfl) ?_; clear E a; intro a E
  refine wpList_nil ?_
  refine zAh hK ?_; clear hK; clear K
  refine zBl E rfl (fun hb => ?_) (fun hb => ?_)
  · replace hb := Nrm.nrm hb
    obtain rfl : k = 0 := (by omega)
    refine wp_seq_k ?_; intro K hK
    refine zAc ?_
    refine zp E (zAe E rfl rfl) ?_; clear E a; intro a E
    refine zp E (zAl E rfl rfl) ?_; clear E a; intro a E
    refine zp E (by first | exact zAf (q := 0) E rfl rfl rfl | exact zAi (q := 0) E rfl rfl rfl) ?_; clear E a; intro a E
    refine zp E (zBw (vs := [_, _, _, _]) E rfl rfl rfl (S.get (by repeat (first | exact pk1 | apply zAa))) rfl rfl) ?_; clear E a; intro a E
    refine zAo rfl (zCg E S rfl rfl rfl rfl (by simp [Value.oneCell']) rfl (by repeat (first | exact pk1 | apply zAa)) (by simp) ?_); clear E S a; intro a w E S; simp only [List.take_succ_cons, List.take_zero, List.drop_succ_cons, List.drop_zero, List.cons_append, List.nil_append, List.append_nil, List.length_cons, List.length_nil, Nat.zero_add, Nat.add_zero] at S
    refine wpList_nil ?_
    refine zAh hK ?_; clear hK; clear K
    refine wp_ret ?_
    refine zBi ?_; clear hK; clear K
    refine zKa E rfl rfl (S.get (by repeat (first | exact pk1 | apply zAa))) rfl ?_
    rw [← hR.done0]
    exact ⟨_, rfl, rfl, (S.only (Bs := [_]) (zAd (by repeat (first | exact pk1 | apply zAa)) (zAk _))).tr⟩
  · replace hb := Nrm.nrm hb
    skip
    refine wp_skip ?_
    refine zAh hK ?_; clear hK; clear K
    refine wp_seq_k ?_; intro K hK
    refine zBo S (.ofL [(0, 0), (1, 0), (2, 0), (3, 0), (4, 0), (5, 0), (6, 0), (7, 0), (8, 1), (9, 3)]) (by kernel_rfl) (by kernel_rfl) ?_
    clear S; intro w S
    refine zm E rfl (fun w h => zAe E rfl rfl) ?_; clear E a; intro a E
    refine zm E rfl (fun w h => zAl E rfl rfl) ?_; clear E a; intro a E
    refine zm E rfl (fun w h => by first | exact zAf (q := 0) E rfl rfl rfl | exact zAi (q := 0) E rfl rfl rfl) ?_; clear E a; intro a E
    refine zm E rfl (fun w h => zBw (vs := [_, _, _, _]) E rfl rfl rfl (h.one (by repeat (first | exact mm1 | assumption | apply List.Mem.tail))) rfl rfl) ?_; clear E a; intro a E
    refine zm E rfl (fun w h => zAe E rfl rfl) ?_; clear E a; intro a E
    refine zm E rfl (fun w h => zAl E rfl rfl) ?_; clear E a; intro a E
    refine zm E rfl (fun w h => by first | exact zAf (q := 4) E rfl rfl rfl | exact zAi (q := 4) E rfl rfl rfl) ?_; clear E a; intro a E
    refine zm E rfl (fun w h => zBw (vs := [_, _, _, _]) E rfl rfl rfl (h.one (by repeat (first | exact mm1 | assumption | apply List.Mem.tail))) rfl rfl) ?_; clear E a; intro a E
    refine zCn E rfl rfl rfl (by decide) rfl Tryz.func116 rfl (by kernel_rfl) rfl (plus_ret s hsok _ _ _ _ _) ?_
    rintro v20 w ⟨rfl, hT⟩; clear E a; intro a E
    have S := S.quiet hT
    refine ⟨S.stab.sub (by first | (simp; done) | (simp +contextual; done) | (simp [*]; done)), ?_⟩
    refine zCq rfl rfl (zCg E S rfl rfl rfl rfl (by simp [Value.oneCell']) rfl (by repeat (first | exact pk1 | apply zAa)) (by simp) ?_); clear E S a; intro a w E S; simp only [List.take_succ_cons, List.take_zero, List.drop_succ_cons, List.drop_zero, List.cons_append, List.nil_append, List.append_nil, List.length_cons, List.length_nil, Nat.zero_add, Nat.add_zero] at S
    refine zBs ?_
    refine zAh hK ?_; clear hK; clear K
    refine wp_ret ?_
    refine zKa E rfl rfl (S.get (by repeat (first | exact pk1 | apply zAa))) rfl ?_
    rw [← hR.done (by omega)]
    exact ⟨_, rfl, rfl, (S.only (Bs := [_]) (zAd (by repeat (first | exact pk1 | apply zAa)) (zAk _))).tr⟩
theorem sumof_ret (O : zAs) (v : Value) (b : List UInt8) (hO : Rd O 1 v b.length (byt b)) (hbl : b.length ≤ 140737488355328) (w0 : World) (H : Hp w0 [O]) :
    Ret Tryz.prog 89 #[.int .i64 1, v] w0 fun u w' => u = .tuple #[(zFh b).agg, .int .i64 0] ∧ Trs w0 w' [O] [O] := by
  have S := St.begin H
  refine zCy 21 Tryz.func89 rfl rfl (by decide) ?_; intro a E
  refine wp_seq_k ?_; intro K hK
  refine zAc ?_
  refine zAo rfl (zCc E S rfl rfl (by decide) rfl rfl rfl ?_); clear E S a; intro a w b4 E S
  refine zp E (zAg E rfl rfl) ?_; clear E a; intro a E
  refine wpList_nil ?_
  refine zAh hK ?_; clear hK; clear K
  iterate 2 (refine wp_seq_k ?_; intro K hK)
  refine zAc ?_
  refine zp E (zAe E rfl rfl) ?_; clear E a; intro a E
  refine wpList_nil ?_
  refine zAh hK ?_; clear hK; clear K
  refine wp_block ?_
  refine wp_seq_k ?_; intro K hK
  refine zAc ?_
  refine zp E (by first | exact zCf E rfl rfl rfl | exact zAu E rfl rfl rfl rfl | exact zBc E rfl rfl rfl rfl | exact zAw E rfl rfl rfl) ?_; clear E a; intro a E
  refine zp E (zAg E rfl rfl) ?_; clear E a; intro a E
  refine wpList_nil ?_
  refine zAh hK ?_; clear hK; clear K
  refine zDa E rfl (rfl) ?_
  refine wp_seq_k ?_; intro K hK
  refine zAc ?_
  refine zAr E rfl rfl (by decide) rfl Tryz.func103 rfl (by kernel_rfl) rfl (sumnew_ret _) ?_
  rintro v10 w ⟨p, rfl, hT⟩; clear E a; intro a E
  have S := S.fresh hT
  refine zp E (zAg E rfl rfl) ?_; clear E a; intro a E
  refine wpList_nil ?_
  refine zAh hK ?_; clear hK; clear K
  refine wp_seq_k ?_; intro K hK
  refine zAc ?_
  iterate 2 (refine zp E (zAe E rfl rfl) ?_; clear E a; intro a E)
  refine zAr E rfl rfl (by decide) rfl Tryz.func104 rfl (by kernel_rfl) rfl (sumadd_ret O v b hO hbl p _ (S.hp.sel (zAd (by repeat (first | exact pk1 | apply zAa)) (zAd (by repeat (first | exact pk1 | apply zAa)) (zAk _))))) ?_
  rintro v13 w ⟨s, x0, x1, x2, x3, k, hR, hT⟩; clear E a; intro a E
  have S := S.call2 (zAd (by repeat (first | exact pk1 | apply zAa)) (zAd (by repeat (first | exact pk1 | apply zAa)) (zAk _))) hT
  refine wpList_nil ?_
  refine zAh hK ?_; clear hK; clear K
  refine wp_seq_k ?_; intro K hK
  refine zAc ?_
  refine zp E (zAe E rfl rfl) ?_; clear E a; intro a E
  refine zAr E rfl rfl (by decide) rfl Tryz.func105 rfl (by kernel_rfl) rfl (sumvalue_ret b s x0 x1 x2 x3 k hR p _ (S.hp.sel (zAd (by repeat (first | exact pk1 | apply zAa)) (zAk _)))) ?_
  rintro v15 w ⟨rfl, hT⟩; clear E a; intro a E
  have S := S.call1 (zAd (by repeat (first | exact pk1 | apply zAa)) (zAk _)) hT
  refine zAo rfl (zCg E S rfl rfl rfl rfl (by simp [Value.oneCell']) rfl (by repeat (first | exact pk1 | apply zAa)) (by simp) ?_); clear E S a; intro a w E S; simp only [List.take_succ_cons, List.take_zero, List.drop_succ_cons, List.drop_zero, List.cons_append, List.nil_append, List.append_nil, List.length_cons, List.length_nil, Nat.zero_add, Nat.add_zero] at S
  refine zp E (zAg E rfl rfl) ?_; clear E a; intro a E
  refine wpList_nil ?_
  refine zAh hK ?_; clear hK; clear K
  refine wp_ret ?_
  refine zEc ?_
  refine zBi ?_; clear hK; clear K
  refine zKb E rfl rfl rfl (S.get (by repeat (first | exact pk1 | apply zAa))) rfl ?_
  exact ⟨_, rfl, rfl, (S.only (Bs := [O]) (zAd (by repeat (first | exact pk1 | apply zAa)) (zAk _))).tr⟩
theorem zGn (O : zAs) (v : Value) (b : List UInt8) (hO : Rd O 1 v b.length (byt b)) (hbl : b.length ≤ 140737488355328) (w0 : World) (H : Hp w0 [O]) :
    Ret Tryz.prog 18 #[v] w0 fun u w' => u = (zFh b).agg ∧ Trs w0 w' [O] [O] := by
  have S := St.begin H
  obtain ⟨ad, c, rfl⟩ := hO.slice
  refine zDc 59 Tryz.func18 rfl rfl (by decide) ?_; intro a E
  refine wp_seq_k ?_; intro K hK
  refine zAc ?_
  refine zAo rfl (zCc E S rfl rfl (by decide) rfl rfl rfl ?_); clear E S a; intro a w g2 E S
  refine wpList_nil ?_
  refine zAh hK ?_; clear hK; clear K
  refine wp_seq_k ?_; intro K hK
  refine zAc ?_
  refine zp E (zCo (cells := [_, _, _, _]) E rfl rfl rfl) ?_; clear E a; intro a E
  refine zAo rfl (zCc E S rfl rfl (by decide) rfl rfl rfl ?_); clear E S a; intro a w g3 E S
  refine zAo rfl (zCg E S rfl rfl rfl rfl (by simp [Value.oneCell']) rfl (by repeat (first | exact pk1 | apply zAa)) (by simp) ?_); clear E S a; intro a w E S; simp only [List.take_succ_cons, List.take_zero, List.drop_succ_cons, List.drop_zero, List.cons_append, List.nil_append, List.append_nil, List.length_cons, List.length_nil, Nat.zero_add, Nat.add_zero] at S
  refine wpList_nil ?_
  refine zAh hK ?_; clear hK; clear K
  iterate 2 (refine wp_seq_k ?_; intro K hK)
  refine zAc ?_
  refine zp E (zAg E rfl rfl) ?_; clear E a; intro a E
  refine wpList_nil ?_
  refine zAh hK ?_; clear hK; clear K
  refine wp_block ?_
  refine wp_loop_ghost (fun (m : Nat) (a : Act) (w' : World) => ∃ i : Nat, m = b.length + 4 - 4 * i ∧ 4 * i ≤ b.length + 3 ∧ St w0 [O] w' [[(g3, cel [.int .u64 (fsN b i).a, .int .u64 (fsN b i).b, .int .u64 (fsN b i).c, .int .u64 (fsN b i).d] 31)], [(g2, cel [.int .u64 0, .int .u64 0, .int .u64 0, .int .u64 0] 31)], O] ∧ Fr a 59 [(0, .slice ad b.length c), (2, ptr g2), (3, ptr g3), (4, .int .i64 (4 * i : Nat))]) (b.length + 4 - 4 * 0) ?_ ?_
  · exact ⟨0, rfl, by omega, S, E.keep (zAb rfl (zAb rfl (zAb rfl (zAb rfl zAp))))⟩
  clear E; clear a; (try clear S); rintro m a w ⟨i, rfl, hi, S, E⟩
  iterate 2 (refine wp_seq_k ?_; intro K hK)
  refine zAc ?_
  iterate 2 (refine zp E (zAe E rfl rfl) ?_; clear E a; intro a E)
  refine zp E (by first | exact zCa E rfl rfl rfl | exact zBa E rfl rfl rfl | exact zAt E rfl rfl rfl) ?_; clear E a; intro a E
  refine zp E (zCb E rfl rfl rfl) ?_; clear E a; intro a E
  refine wpList_nil ?_
  refine zAh hK ?_; clear hK; clear K
  refine zBl E rfl (fun hb => ?_) (fun hb => ?_)
  · replace hb := Nrm.nrm hb
    refine wp_skip ?_
    refine zAh hK ?_; clear hK; clear K
    refine wp_seq_k ?_; intro K hK
    refine wp_block ?_
    refine wp_seq_k ?_; intro K hK
    refine zAc ?_
    refine zp E (zAg E rfl rfl) ?_; clear E a; intro a E
    refine wpList_nil ?_
    refine zAh hK ?_; clear hK; clear K
    iterate 2 (refine wp_seq_k ?_; intro K hK)
    refine zAc ?_
    refine zp E (zAg E rfl rfl) ?_; clear E a; intro a E
    refine wpList_nil ?_
    refine zAh hK ?_; clear hK; clear K
    refine wp_block ?_
    refine wp_loop_ghost (fun (m : Nat) (a : Act) (w' : World) => ∃ j : Nat, m = j + 0 ∧ j ≤ 4 ∧ St w0 [O] w' [[(g3, cel [.int .u64 (fsN b i).a, .int .u64 (fsN b i).b, .int .u64 (fsN b i).c, .int .u64 (fsN b i).d] 31)], [(g2, cel [.int .u64 0, .int .u64 0, .int .u64 0, .int .u64 0] 31)], O] ∧ Fr a 59 [(0, .slice ad b.length c), (2, ptr g2), (3, ptr g3), (4, .int .i64 (4 * i : Nat)), (5, .int .u64 (zEf ((b.drop (4 * i + j)).take (4 - j)) : Nat)), (6, .int .i64 ((j : Int) - 1))]) (4) ?_ ?_
    · exact ⟨4, rfl, by omega, S, by rw [show zEf ((b.drop (4 * i + 4)).take (4 - 4)) = 0 by rw [Nat.sub_self, List.take_zero]; rfl]; exact E.keep (zAb rfl (zAb rfl (zAb rfl (zAb rfl (zAb rfl (zAb rfl zAp))))))⟩
    clear E; clear a; (try clear S); rintro m a w ⟨j, hmj, hj, S, E⟩
    iterate 2 (refine wp_seq_k ?_; intro K hK)
    refine zAc ?_
    refine zp E (zAe E rfl rfl) ?_; clear E a; intro a E
    refine zp E (zDs E rfl rfl rfl) ?_; clear E a; intro a E
    refine wpList_nil ?_
    refine zAh hK ?_; clear hK; clear K
    refine zBl E rfl (fun hb => ?_) (fun hb => ?_)
    · replace hb := Nrm.nrm hb
      refine wp_skip ?_
      refine zAh hK ?_; clear hK; clear K
      refine wp_seq_k ?_; intro K hK
      refine wp_block ?_
      refine wp_seq_k ?_; intro K hK
      obtain ⟨l, rfl⟩ : ∃ l, j = l + 1 := ⟨j - 1, by omega⟩
      rw [show ((l + 1 : Nat) : Int) - 1 = (l : Int) by omega] at E
      have hst := num_down b (4 * i) (j := l) (by omega)
      have hlt := numOf_lt ((b.drop (4 * i + (l + 1))).take (4 - (l + 1)))
      have hp := Nat.pow_le_pow_right (n := 256) (by omega) (show ((b.drop (4 * i + (l + 1))).take (4 - (l + 1))).length ≤ 3 by rw [List.length_take]; omega)
      refine zAc ?_
      refine zp E (zAe E rfl rfl) ?_; clear E a; intro a E
      refine zp E (zEd E rfl rfl rfl (by first | exact zGx (x := 256) (by omega) | exact zFn (x := 256) (by omega) | exact w_in (by omega) | exact rfl)) ?_; clear E a; intro a E
      refine zp E (zAg E rfl rfl) ?_; clear E a; intro a E
      refine wpList_nil ?_
      refine zAh hK ?_; clear hK; clear K
      refine wp_seq_k ?_; intro K hK
      refine zAc ?_
      iterate 2 (refine zp E (zAe E rfl rfl) ?_; clear E a; intro a E)
      refine zp E (zBu E rfl rfl rfl (by first | exact wa1 (by omega) | exact w_in (by omega) | exact zBy (by omega) | exact rfl)) ?_; clear E a; intro a E
      refine zp E (zAe E rfl rfl) ?_; clear E a; intro a E
      refine zp E (by first | exact zCa E rfl rfl rfl | exact zBa E rfl rfl rfl | exact zAt E rfl rfl rfl) ?_; clear E a; intro a E
      refine zp E (zCb E rfl rfl rfl) ?_; clear E a; intro a E
      refine wpList_nil ?_
      refine zAh hK ?_; clear hK; clear K
      refine zBl E rfl (fun hb => ?_) (fun hb => ?_)
      · replace hb := Nrm.nrm hb
        have hfi : 4 * i + l < b.length := (by omega)
        obtain ⟨g, off, rfl⟩ := hO.addr (by omega)
        have hx := (b[4 * i + l]'hfi).toNat_lt
        rw [zKs b hfi] at hst
        refine zAc ?_
        iterate 4 (refine zp E (zAe E rfl rfl) ?_; clear E a; intro a E)
        refine zp E (zBu E rfl rfl rfl (by first | exact wa1 (by omega) | exact w_in (by omega) | exact zBy (by omega) | exact rfl)) ?_; clear E a; intro a E
        refine zp E (by first | exact zBk E rfl rfl rfl rfl rfl rfl (by omega) | exact zBn E rfl rfl rfl rfl rfl rfl (by omega) | exact zAx E rfl rfl rfl rfl rfl rfl (by omega)) ?_; clear E a; intro a E
        refine zp E (zAj E rfl rfl rfl (hO.byte (S.stab.at (by repeat (first | exact mm1 | assumption | apply List.Mem.tail))) hfi)) ?_; clear E a; intro a E
        refine zp E (by first | exact zBv E rfl rfl rfl rfl (by first | exact wu8 _ | exact zHs (by omega) | exact zFa (by omega) | exact w_in (by omega) | exact zBy (by omega) | exact rfl) | exact zDe E rfl rfl rfl rfl rfl (by assumption) (S.stab.at (by simp))) ?_; clear E a; intro a E
        refine zp E (zBu E rfl rfl rfl (by first | exact wa1 (by omega) | exact w_in (by omega) | exact zBy (by omega) | exact rfl)) ?_; clear E a; intro a E
        refine zp E (zAg E rfl rfl) ?_; clear E a; intro a E
        refine wpList_nil ?_
        rw [show ((256 * zEf ((b.drop (4 * i + (l + 1))).take (4 - (l + 1))) : Nat) : Int) + (((b[4 * i + l]'hfi).toNat : Nat) : Int) = ((zEf ((b.drop (4 * i + l)).take (4 - l)) : Nat) : Int) by omega] at E
        refine zBf ?_
        refine zAh hK ?_; clear hK; clear K
        refine zAc ?_
        refine zp E (zAe E rfl rfl) ?_; clear E a; intro a E
        refine zp E (zDf E rfl rfl rfl (w_in (by omega))) ?_; clear E a; intro a E
        refine zp E (zAg E rfl rfl) ?_; clear E a; intro a E
        refine wpList_nil ?_
        refine zBe ?_
        skip
        first
          | exact ⟨l, by omega, l, rfl, by omega, S, E.keep (zAb rfl (zAb rfl (zAb rfl (zAb rfl (zAb rfl (zAb rfl zAp))))))⟩
          | (rw [gb_out b (by omega)] at hst; rw [show ((256 * zEf ((b.drop (4 * i + (l + 1))).take (4 - (l + 1))) : Nat) : Int) = ((zEf ((b.drop (4 * i + l)).take (4 - l)) : Nat) : Int) by rw [show (0 : UInt8).toNat = 0 from rfl] at hst; omega] at E; exact ⟨l, by omega, l, rfl, by omega, S, E.keep (zAb rfl (zAb rfl (zAb rfl (zAb rfl (zAb rfl (zAb rfl zAp))))))⟩)
      · replace hb := Nrm.nrm hb
        have hfi : b.length ≤ 4 * i + l := (by omega)
        refine wp_skip ?_
        refine zBf ?_
        refine zAh hK ?_; clear hK; clear K
        refine zAc ?_
        refine zp E (zAe E rfl rfl) ?_; clear E a; intro a E
        refine zp E (zDf E rfl rfl rfl (w_in (by omega))) ?_; clear E a; intro a E
        refine zp E (zAg E rfl rfl) ?_; clear E a; intro a E
        refine wpList_nil ?_
        refine zBe ?_
        skip
        first
          | exact ⟨l, by omega, l, rfl, by omega, S, E.keep (zAb rfl (zAb rfl (zAb rfl (zAb rfl (zAb rfl (zAb rfl zAp))))))⟩
          | (rw [gb_out b (by omega)] at hst; rw [show ((256 * zEf ((b.drop (4 * i + (l + 1))).take (4 - (l + 1))) : Nat) : Int) = ((zEf ((b.drop (4 * i + l)).take (4 - l)) : Nat) : Int) by rw [show (0 : UInt8).toNat = 0 from rfl] at hst; omega] at E; exact ⟨l, by omega, l, rfl, by omega, S, E.keep (zAb rfl (zAb rfl (zAb rfl (zAb rfl (zAb rfl (zAb rfl zAp))))))⟩)
    · replace hb := Nrm.nrm hb
      refine wp_exit ?_
      refine zBb ?_; clear hK; clear K
      refine zBb ?_
      refine zCm ?_
      refine zAh hK ?_; clear hK; clear K
      refine wp_seq_k ?_; intro K hK
      obtain rfl : j = 0 := by omega
      rw [show zEf ((b.drop (4 * i + 0)).take (4 - 0)) = nm b (4 * i) 4 from rfl] at E
      refine zAc ?_
      refine zp E (by first | exact zAf (q := 0) E rfl rfl rfl | exact zAi (q := 0) E rfl rfl rfl) ?_; clear E a; intro a E
      refine zp E (by first | exact zAn E rfl rfl rfl (S.get (by repeat (first | exact pk1 | apply zAa))) rfl | exact zAj E rfl rfl rfl (by assumption)) ?_; clear E a; intro a E
      refine zp E (zAe E rfl rfl) ?_; clear E a; intro a E
      refine zp E (zBu E rfl rfl rfl (wa_m _ _)) ?_; clear E a; intro a E
      refine zp E (by first | exact zAf (q := 0) E rfl rfl rfl | exact zAi (q := 0) E rfl rfl rfl) ?_; clear E a; intro a E
      refine zAo rfl (zBg E S rfl rfl rfl rfl rfl rfl (by repeat (first | exact pk1 | apply zAa)) (by first | exact Nat.le_of_ble_eq_true rfl | (simp; done) | (simp; omega)) ?_); clear E S a; intro a w E S; try dsimp only [List.set] at S
      refine wpList_nil ?_
      refine zAh hK ?_; clear hK; clear K
      refine wp_seq_k ?_; intro K hK
      refine zAc ?_
      refine zp E (by first | exact zAf (q := 1) E rfl rfl rfl | exact zAi (q := 1) E rfl rfl rfl) ?_; clear E a; intro a E
      refine zp E (by first | exact zAn E rfl rfl rfl (S.get (by repeat (first | exact pk1 | apply zAa))) rfl | exact zAj E rfl rfl rfl (by assumption)) ?_; clear E a; intro a E
      refine zp E (by first | exact zAf (q := 0) E rfl rfl rfl | exact zAi (q := 0) E rfl rfl rfl) ?_; clear E a; intro a E
      refine zp E (by first | exact zAn E rfl rfl rfl (S.get (by repeat (first | exact pk1 | apply zAa))) rfl | exact zAj E rfl rfl rfl (by assumption)) ?_; clear E a; intro a E
      refine zp E (zBu E rfl rfl rfl (wa_m _ _)) ?_; clear E a; intro a E
      refine zp E (by first | exact zAf (q := 1) E rfl rfl rfl | exact zAi (q := 1) E rfl rfl rfl) ?_; clear E a; intro a E
      refine zAo rfl (zBg E S rfl rfl rfl rfl rfl rfl (by repeat (first | exact pk1 | apply zAa)) (by first | exact Nat.le_of_ble_eq_true rfl | (simp; done) | (simp; omega)) ?_); clear E S a; intro a w E S; try dsimp only [List.set] at S
      refine wpList_nil ?_
      refine zAh hK ?_; clear hK; clear K
      refine wp_seq_k ?_; intro K hK
      refine zAc ?_
      refine zp E (by first | exact zAf (q := 2) E rfl rfl rfl | exact zAi (q := 2) E rfl rfl rfl) ?_; clear E a; intro a E
      refine zp E (by first | exact zAn E rfl rfl rfl (S.get (by repeat (first | exact pk1 | apply zAa))) rfl | exact zAj E rfl rfl rfl (by assumption)) ?_; clear E a; intro a E
      refine zp E (by first | exact zAf (q := 1) E rfl rfl rfl | exact zAi (q := 1) E rfl rfl rfl) ?_; clear E a; intro a E
      refine zp E (by first | exact zAn E rfl rfl rfl (S.get (by repeat (first | exact pk1 | apply zAa))) rfl | exact zAj E rfl rfl rfl (by assumption)) ?_; clear E a; intro a E
      refine zp E (zBu E rfl rfl rfl (wa_m _ _)) ?_; clear E a; intro a E
      refine zp E (by first | exact zAf (q := 2) E rfl rfl rfl | exact zAi (q := 2) E rfl rfl rfl) ?_; clear E a; intro a E
      refine zAo rfl (zBg E S rfl rfl rfl rfl rfl rfl (by repeat (first | exact pk1 | apply zAa)) (by first | exact Nat.le_of_ble_eq_true rfl | (simp; done) | (simp; omega)) ?_); clear E S a; intro a w E S; try dsimp only [List.set] at S
      refine wpList_nil ?_
      refine zAh hK ?_; clear hK; clear K
      refine zAc ?_
      refine zp E (by first | exact zAf (q := 3) E rfl rfl rfl | exact zAi (q := 3) E rfl rfl rfl) ?_; clear E a; intro a E
      refine zp E (by first | exact zAn E rfl rfl rfl (S.get (by repeat (first | exact pk1 | apply zAa))) rfl | exact zAj E rfl rfl rfl (by assumption)) ?_; clear E a; intro a E
      refine zp E (by first | exact zAf (q := 2) E rfl rfl rfl | exact zAi (q := 2) E rfl rfl rfl) ?_; clear E a; intro a E
      refine zp E (by first | exact zAn E rfl rfl rfl (S.get (by repeat (first | exact pk1 | apply zAa))) rfl | exact zAj E rfl rfl rfl (by assumption)) ?_; clear E a; intro a E
      refine zp E (zBu E rfl rfl rfl (wa_m _ _)) ?_; clear E a; intro a E
      refine zp E (by first | exact zAf (q := 3) E rfl rfl rfl | exact zAi (q := 3) E rfl rfl rfl) ?_; clear E a; intro a E
      refine zAo rfl (zBg E S rfl rfl rfl rfl rfl rfl (by repeat (first | exact pk1 | apply zAa)) (by first | exact Nat.le_of_ble_eq_true rfl | (simp; done) | (simp; omega)) ?_); clear E S a; intro a w E S; try dsimp only [List.set] at S
      refine wpList_nil ?_
      refine zBf ?_
      refine zAh hK ?_; clear hK; clear K
      refine zAc ?_
      refine zp E (zAe E rfl rfl) ?_; clear E a; intro a E
      refine zp E (zBu E rfl rfl rfl (by first | exact zCj (y := 4) (by omega) | exact w_in (by omega) | exact zBy (by omega) | exact rfl)) ?_; clear E a; intro a E
      refine zp E (zAg E rfl rfl) ?_; clear E a; intro a E
      refine wpList_nil ?_
      refine zBe ?_
      rw [show 4 * i + 4 = 4 * (i + 1) by omega] at E
      exact ⟨_, by omega, i + 1, rfl, by omega, S, E.keep (zAb rfl (zAb rfl (zAb rfl (zAb rfl zAp))))⟩
  · replace hb := Nrm.nrm hb
    refine wp_exit ?_
    refine zBb ?_; clear hK; clear K
    refine zBb ?_
    refine zCm ?_
    refine zAh hK ?_; clear hK; clear K
    refine wp_seq_k ?_; intro K hK
    refine zAc ?_
    refine zp E (zBw (vs := [_, _, _, _]) E rfl rfl rfl (S.get (by repeat (first | exact pk1 | apply zAa))) rfl rfl) ?_; clear E a; intro a E
    refine zAo rfl (zCg E S rfl rfl rfl rfl (by simp [Value.oneCell']) rfl (by repeat (first | exact pk1 | apply zAa)) (by simp) ?_); clear E S a; intro a w E S; simp only [List.take_succ_cons, List.take_zero, List.drop_succ_cons, List.drop_zero, List.cons_append, List.nil_append, List.append_nil, List.length_cons, List.length_nil, Nat.zero_add, Nat.add_zero] at S
    refine wpList_nil ?_
    refine zAh hK ?_; clear hK; clear K
    refine wp_ret ?_
    refine zKa E rfl rfl (S.get (by repeat (first | exact pk1 | apply zAa))) rfl ?_
    have hfin : (b.length + 3) / 4 = i := by omega
    rw [zFh, hfin]
    exact ⟨_, rfl, rfl, (S.only (Bs := [O]) (zAd (by repeat (first | exact pk1 | apply zAa)) (zAk _))).tr⟩
end Go.Proofs.YtidhehcjafoneaaGreatDoor
namespace Go.Sl
def fsB (s : Fs) : List UInt8 := zCv s.a 8 ++ zCv s.b 8 ++ zCv s.c 8 ++ zCv s.d 8
theorem zLl (s : Fs) : (fsB s).length = 32 := by simp [fsB, zBz]
def zGo (x : List UInt8) : List UInt8 := x ++ List.replicate (96 - x.length) 0
theorem zFz {x : List UInt8} (h : x.length ≤ 96) : (zGo x).length = 96 := by simp [zGo]; omega
def whole (x : List UInt8) : List UInt8 := zGo x ++ fsB (zFh (zGo x))
theorem zIz {x : List UInt8} (h : x.length ≤ 96) : (whole x).length = 128 := by rw [whole, List.length_append, zFz h, zLl]
end Go.Sl
namespace Go.Sl
structure Tp where
  kind : Int
  leaves : Int
  sectors : Int
deriving DecidableEq
def Tp.lay (t : Tp) : List Value := [.int .i64 t.kind, .int .i64 t.leaves, .int .i64 t.sectors]
abbrev Tp.agg (t : Tp) : Value := .agg #[.int .i64 t.kind, .int .i64 t.leaves, .int .i64 t.sectors]
theorem Tp.lay_len (t : Tp) : t.lay.length = 3 := rfl
theorem Tp.lay_one (t : Tp) : ∀ u ∈ t.lay, u.oneCell' = true := fun u hu => by
  simp only [Tp.lay, List.mem_cons, List.not_mem_nil, or_false] at hu
  rcases hu with rfl | rfl | rfl <;> rfl
structure Tp.Ok (t : Tp) : Prop where
  kind : -9223372036854775808 ≤ t.kind ∧ t.kind ≤ 9223372036854775807
  leaves : -9223372036854775808 ≤ t.leaves ∧ t.leaves ≤ 9223372036854775807
  sectors : -9223372036854775808 ≤ t.sectors ∧ t.sectors ≤ 9223372036854775807
def zIf : Tp := ⟨0, 0, 0⟩
def Tp.made (t : Tp) : Prop := 324 ≤ t.sectors ∧ t.sectors ≤ 8192 ∧ (t.kind = 1 ∧ t.leaves = 1 ∨ t.kind = 2 ∧ 2 ≤ t.leaves ∧ t.leaves ≤ 5 ∨ t.kind = 3 ∧ 3 ≤ t.leaves ∧ t.leaves ≤ 5)
instance (t : Tp) : Decidable t.made := by unfold Tp.made; infer_instance
def tpB (t : Tp) : List UInt8 := zCv t.kind.toNat 1 ++ (zCv t.leaves.toNat 1 ++ zCv t.sectors.toNat 4)
theorem tpB_length (t : Tp) : (tpB t).length = 6 := by simp [tpB, zBz]
structure Lbl where
  pool : Nat
  tops : List Tp
  top : Int
  place : Int
deriving DecidableEq
structure Lbl.Ok (l : Lbl) : Prop where
  pool : l.pool < 18446744073709551616
  top : -9223372036854775808 ≤ l.top ∧ l.top ≤ 9223372036854775807
  place : -9223372036854775808 ≤ l.place ∧ l.place ≤ 9223372036854775807
  tops : ∀ t ∈ l.tops, t.Ok
def Lbl.may (l : Lbl) : Prop := 1 ≤ l.tops.length ∧ l.tops.length ≤ 4 ∧ 0 ≤ l.top ∧ l.top < l.tops.length ∧ 0 ≤ l.place ∧ l.place < (l.tops.getD l.top.toNat zIf).leaves ∧ ∀ t ∈ l.tops, t.made
instance (l : Lbl) : Decidable l.may := by unfold Lbl.may; infer_instance
def lbE (l : Lbl) : Int := if l.may then 0 else 42
def lLet : List UInt8 := [85, 67, 76, 66]
def lbH (l : Lbl) : List UInt8 := lLet ++ (zCv l.pool 8 ++ (zCv l.top.toNat 1 ++ (zCv l.place.toNat 1 ++ zCv l.tops.length 1)))
theorem zHk (l : Lbl) : (lbH l).length = 15 := by simp [lbH, lLet, zBz]
def lbB (l : Lbl) : List UInt8 := lbH l ++ l.tops.flatMap tpB
theorem zJk : ∀ l : List Tp, (l.flatMap tpB).length = 6 * l.length
  | [] => rfl
  | t :: r => by rw [List.flatMap_cons, List.length_append, tpB_length, zJk r, List.length_cons]; omega
theorem lbB_length (l : Lbl) : (lbB l).length = 15 + 6 * l.tops.length := by rw [lbB, List.length_append, zHk, zJk]
def lbO (l : Lbl) : List UInt8 := if lbE l = 0 then whole (lbB l) else []
structure Ub where
  pool : Nat
  txg : Nat
  note : Nat
  root : Pt
deriving DecidableEq
def Ub.lay (u : Ub) : List Value := [.int .u64 u.pool, .int .u64 u.txg, .int .u64 u.note, .int .i64 u.root.top, .int .i64 u.root.at_, .int .i64 u.root.bytes, .int .u64 u.root.birth, .int .i64 u.root.kind, .int .u64 u.root.a, .int .u64 u.root.b, .int .u64 u.root.c, .int .u64 u.root.d]
abbrev Ub.agg (u : Ub) : Value := .agg #[.int .u64 u.pool, .int .u64 u.txg, .int .u64 u.note, .int .i64 u.root.top, .int .i64 u.root.at_, .int .i64 u.root.bytes, .int .u64 u.root.birth, .int .i64 u.root.kind, .int .u64 u.root.a, .int .u64 u.root.b, .int .u64 u.root.c, .int .u64 u.root.d]
structure Ub.Ok (u : Ub) : Prop where
  pool : u.pool < 18446744073709551616
  txg : u.txg < 18446744073709551616
  note : u.note < 18446744073709551616
  root : u.root.Ok
end Go.Sl
namespace Go.Sl
theorem four_fs (s : Fs) : four [s.a, s.b, s.c, s.d] = fsB s := by simp [four, fsB]
theorem sl_of (O : zAs) {v : Value} {b : List UInt8} (h : Rd O 1 v b.length (byt b)) {m : Nat} {c : List UInt8} (hc : c = b) (hm : m = c.length) : Rd O 1 v m (byt c) := by subst hc hm; exact h
end Go.Sl
namespace Go.Proofs.YtidhehcjafoneaaGreatDoor
open Go.Sl
set_option maxRecDepth 10000
theorem wholeno_ret (v : Value) (e : Int) (he : e ≠ 0) (w0 : World) :
    Ret Tryz.prog 76 #[v, .int .i64 e] w0 fun u w' => u = .tuple #[.slice none 0 0, .int .i64 e] ∧ Trs w0 w' [] [] := by
  have S := St.begin (zEt w0)
  refine zCy 30 Tryz.func76 rfl rfl (by decide) ?_; intro a E
  refine wp_seq_k ?_; intro K hK
  refine zAc ?_
  iterate 2 (refine zp E (zAg E rfl rfl) ?_; clear E a; intro a E)
  refine wpList_nil ?_
  refine zAh hK ?_; clear hK; clear K
  iterate 2 (refine wp_seq_k ?_; intro K hK)
  refine zAc ?_
  refine zp E (zAe E rfl rfl) ?_; clear E a; intro a E
  refine zp E (by first | exact zCu E rfl rfl rfl | exact zAz E rfl rfl rfl rfl | exact zBj E rfl rfl rfl rfl | exact zBd E rfl rfl rfl) ?_; clear E a; intro a E
  refine wpList_nil ?_
  refine zAh hK ?_; clear hK; clear K
  refine zDa E rfl ((by simp [he])) ?_
  refine wp_seq_k ?_; intro K hK
  refine zAc ?_
  refine zp E (zAe E rfl rfl) ?_; clear E a; intro a E
  iterate 2 (refine zp E (zAg E rfl rfl) ?_; clear E a; intro a E)
  refine wpList_nil ?_
  refine zAh hK ?_; clear hK; clear K
  refine wp_ret ?_
  refine zBi ?_; clear hK; clear K
  refine ret2 E rfl rfl rfl ?_
  exact ⟨_, rfl, rfl, (S.only (Bs := []) (zAk _)).tr⟩
theorem whole_ret (O : zAs) (v : Value) (b : List UInt8) (hO : Rd O 1 v b.length (byt b)) (hl : b.length = 96) (w0 : World) (H : Hp w0 [O]) :
    Ret Tryz.prog 76 #[v, .int .i64 0] w0 fun u w' => ∃ g, u = .tuple #[.slice (some ⟨g, 0, none⟩) 128 128, .int .i64 0] ∧ Trs w0 w' [O] [[(g, cel (byt (b ++ fsB (zFh b))) 5)], O] := by
  have S := St.begin H
  have hfl : (b ++ fsB (zFh b)).length = 128 := by rw [List.length_append, zLl, hl]
  refine zCy 30 Tryz.func76 rfl rfl (by decide) ?_; intro a E
  refine wp_seq_k ?_; intro K hK
  refine zAc ?_
  iterate 2 (refine zp E (zAg E rfl rfl) ?_; clear E a; intro a E)
  refine wpList_nil ?_
  refine zAh hK ?_; clear hK; clear K
  iterate 2 (refine wp_seq_k ?_; intro K hK)
  refine zAc ?_
  refine zp E (zAe E rfl rfl) ?_; clear E a; intro a E
  refine zp E (by first | exact zCu E rfl rfl rfl | exact zAz E rfl rfl rfl rfl | exact zBj E rfl rfl rfl rfl | exact zBd E rfl rfl rfl) ?_; clear E a; intro a E
  refine wpList_nil ?_
  refine zAh hK ?_; clear hK; clear K
  refine zBt E rfl (rfl) ?_
  refine wp_skip ?_
  refine zAh hK ?_; clear hK; clear K
  refine wp_seq_k ?_; intro K hK
  refine zAc ?_
  refine zp E (zAe E rfl rfl) ?_; clear E a; intro a E
  refine zAr E rfl rfl (by decide) rfl Tryz.func89 rfl (by kernel_rfl) rfl (sumof_ret O v b hO (by omega) _ (S.hp.sel (zAd (by repeat (first | exact pk1 | apply zAa)) (zAk _)))) ?_
  rintro v13 w ⟨rfl, hT⟩; clear E a; intro a E
  have S := S.call1 (zAd (by repeat (first | exact pk1 | apply zAa)) (zAk _)) hT
  refine zp E (zAe E rfl rfl) ?_; clear E a; intro a E
  iterate 2 (refine zp E (zBx E rfl rfl rfl) ?_; clear E a; intro a E)
  refine zAo rfl (zCc E S rfl rfl (by decide) rfl rfl rfl ?_); clear E S a; intro a w b6 E S
  refine zAo rfl (zCg E S rfl rfl rfl rfl (by simp [Value.oneCell']) rfl (by repeat (first | exact pk1 | apply zAa)) (by simp) ?_); clear E S a; intro a w E S; simp only [List.take_succ_cons, List.take_zero, List.drop_succ_cons, List.drop_zero, List.cons_append, List.nil_append, List.append_nil, List.length_cons, List.length_nil, Nat.zero_add, Nat.add_zero] at S
  refine zp E (zAg E rfl rfl) ?_; clear E a; intro a E
  refine wpList_nil ?_
  refine zAh hK ?_; clear hK; clear K
  iterate 2 (refine wp_seq_k ?_; intro K hK)
  refine zAc ?_
  refine zp E (zAe E rfl rfl) ?_; clear E a; intro a E
  refine zp E (by first | exact zCu E rfl rfl rfl | exact zAz E rfl rfl rfl rfl | exact zBj E rfl rfl rfl rfl | exact zBd E rfl rfl rfl) ?_; clear E a; intro a E
  refine wpList_nil ?_
  refine zAh hK ?_; clear hK; clear K
  refine zBt E rfl (rfl) ?_
  refine wp_skip ?_
  refine zAh hK ?_; clear hK; clear K
  refine wp_seq_k ?_; intro K hK
  refine zAc ?_
  refine zAr E rfl rfl (by decide) rfl Tryz.func90 rfl (by kernel_rfl) rfl (zLj 128 _) ?_
  rintro v19 w ⟨p, A, rfl, hA, hT⟩; clear E a; intro a E
  have S := S.fresh hT; have hA : WrC 186 p ⟨128, [], 0⟩ A := hA
  refine zp E (zAg E rfl rfl) ?_; clear E a; intro a E
  refine wpList_nil ?_
  refine zAh hK ?_; clear hK; clear K
  refine wp_seq_k ?_; intro K hK
  refine zAc ?_
  iterate 2 (refine zp E (zAe E rfl rfl) ?_; clear E a; intro a E)
  refine zAr E rfl rfl (by decide) rfl Tryz.func91 rfl (by kernel_rfl) rfl (bytes_fit p 128 [] A O _ hA v b hO (S.hp.sel (zAd (by repeat (first | exact pk1 | apply zAa)) (zAd (by repeat (first | exact pk1 | apply zAa)) (zAk _)))) (by omega) (by simp only [List.length_nil]; omega)) ?_
  rintro v22 w ⟨A1, hA1, hT⟩; clear E a; intro a E
  have S := S.call2 (zAd (by repeat (first | exact pk1 | apply zAa)) (zAd (by repeat (first | exact pk1 | apply zAa)) (zAk _))) hT
  refine wpList_nil ?_
  refine zAh hK ?_; clear hK; clear K
  refine wp_seq_k ?_; intro K hK
  refine zAc ?_
  refine zp E (zAe E rfl rfl) ?_; clear E a; intro a E
  refine zp E (zBw (vs := [_, _, _, _]) E rfl rfl rfl (S.get (by repeat (first | exact pk1 | apply zAa))) rfl rfl) ?_; clear E a; intro a E
  refine zAr E rfl rfl (by decide) rfl Tryz.func92 rfl (by kernel_rfl) rfl (laysum_ret p 128 _ A1 _ _ _ _ ⟨(zFc b).a, (zFc b).b, (zFc b).c, (zFc b).d⟩ _ hA1 (S.hp.sel (zAd (by repeat (first | exact pk1 | apply zAa)) (zAk _))) (by omega) (by simp only [List.nil_append]; omega)) ?_
  rintro v25 w ⟨A2, hA2, hT⟩; clear E a; intro a E
  have S := S.call1 (zAd (by repeat (first | exact pk1 | apply zAa)) (zAk _)) hT; rw [four_fs, List.nil_append] at hA2
  refine wpList_nil ?_
  refine zAh hK ?_; clear hK; clear K
  refine wp_seq_k ?_; intro K hK
  refine zAc ?_
  refine zp E (zAe E rfl rfl) ?_; clear E a; intro a E
  refine zAr E rfl rfl (by decide) rfl Tryz.func93 rfl (by kernel_rfl) rfl (done_fit p 128 _ A2 _ hA2 (S.hp.sel (zAd (by repeat (first | exact pk1 | apply zAa)) (zAk _))) (by omega)) ?_
  rintro v27 w ⟨g, rfl, hT⟩; clear E a; intro a E
  have S := S.call2 (zAd (by repeat (first | exact pk1 | apply zAa)) (zAk _)) hT; rw [hfl] at E
  iterate 2 (refine zp E (zBx E rfl rfl rfl) ?_; clear E a; intro a E)
  iterate 2 (refine zp E (zAg E rfl rfl) ?_; clear E a; intro a E)
  refine wpList_nil ?_
  refine zAh hK ?_; clear hK; clear K
  refine wp_ret ?_
  refine ret2 E rfl rfl rfl ?_
  exact ⟨_, rfl, g, rfl, (S.only (Bs := [[(g, _)], O]) (zAd (by repeat (first | exact pk1 | apply zAa)) (zAd (by repeat (first | exact pk1 | apply zAa)) (zAk _)))).tr⟩
end Go.Proofs.YtidhehcjafoneaaGreatDoor
namespace Go.Sl
end Go.Sl
namespace Go.Proofs.YtidhehcjafoneaaGreatDoor
open Go.Sl
set_option maxRecDepth 10000
theorem dsummed_ret (v : Value) (bs : List UInt8) (C : zAs) (hC : Buf C 5 1 v bs.length (byt bs)) (hl : bs.length ≤ 96) (w0 : World) (H : Hp w0 [C]) :
    Ret Tryz.prog 82 #[v] w0 fun u w' => ∃ C', Buf C' 5 1 u (whole bs).length (byt (whole bs)) ∧ Trs w0 w' [C] [C'] := by
  have S := St.begin H
  have hpl := zFz hl
  refine zDc 9 Tryz.func82 rfl rfl (by decide) ?_; intro a E
  refine wp_seq_k ?_; intro K hK
  refine zAc ?_
  refine zp E (zAg E rfl rfl) ?_; clear E a; intro a E
  refine wpList_nil ?_
  refine zAh hK ?_; clear hK; clear K
  refine wp_seq_k ?_; intro K hK
  refine zAc ?_
  refine zp E (zAe E rfl rfl) ?_; clear E a; intro a E
  refine zAr E rfl rfl (by decide) rfl Tryz.func101 rfl (by kernel_rfl) rfl (dpadded_ret v bs C 96 hC (by omega) hl _ (S.hp.sel (zAd (by repeat (first | exact pk1 | apply zAa)) (zAk _)))) ?_
  rintro v4 w ⟨C1, hC1, hT⟩; clear E a; intro a E
  have S := S.call1 (zAd (by repeat (first | exact pk1 | apply zAa)) (zAk _)) hT; have hC1 : Buf C1 5 1 _ (zGo bs).length (byt (zGo bs)) := hC1
  refine zp E (zAg E rfl rfl) ?_; clear E a; intro a E
  refine wpList_nil ?_
  refine zAh hK ?_; clear hK; clear K
  refine wp_seq_k ?_; intro K hK
  refine zAc ?_
  iterate 2 (refine zp E (zAe E rfl rfl) ?_; clear E a; intro a E)
  refine zAr E rfl rfl (by decide) rfl Tryz.func18 rfl (by kernel_rfl) rfl (zGn C1 _ (zGo bs) hC1.rd (by omega) _ (S.hp.sel (zAd (by repeat (first | exact pk1 | apply zAa)) (zAk _)))) ?_
  rintro v7 w ⟨rfl, hT⟩; clear E a; intro a E
  have S := S.call1 (zAd (by repeat (first | exact pk1 | apply zAa)) (zAk _)) hT
  refine zAr E rfl rfl (by decide) rfl Tryz.func102 rfl (by kernel_rfl) rfl (dsums_ret _ (zGo bs) C1 _ _ _ _ ⟨(zFc (zGo bs)).a, (zFc (zGo bs)).b, (zFc (zGo bs)).c, (zFc (zGo bs)).d⟩ hC1 (by omega) _ (S.hp.sel (zAd (by repeat (first | exact pk1 | apply zAa)) (zAk _)))) ?_
  rintro v8 w ⟨C2, hC2, hT⟩; clear E a; intro a E
  have S := S.call1 (zAd (by repeat (first | exact pk1 | apply zAa)) (zAk _)) hT; rw [four_fs] at hC2
  refine zp E (zAg E rfl rfl) ?_; clear E a; intro a E
  refine wpList_nil ?_
  refine zAh hK ?_; clear hK; clear K
  refine wp_ret ?_
  refine ret1 E rfl rfl ?_
  exact ⟨_, rfl, C2, hC2, (S.only (Bs := [C2]) (zAd (by repeat (first | exact pk1 | apply zAa)) (zAk _))).tr⟩
theorem dnumf_ret (g : Nat) (bs : List UInt8) (C : zAs) (n k : Nat) (hC : Rd C 1 (.slice (some ⟨g, 0, none⟩) bs.length bs.length) bs.length (byt bs)) (hl : bs.length ≤ 1000000) (hn : n < 18446744073709551616) (h1 : 1 ≤ k) (hk : k ≤ 8) (w0 : World) (H : Hp w0 [C]) :
    Ret Tryz.prog 81 #[.slice (some ⟨g, 0, none⟩) bs.length bs.length, .int .u64 n, .int .i64 k] w0 fun u w' => ∃ C', Buf C' 5 1 u (bs ++ zCv n k).length (byt (bs ++ zCv n k)) ∧ Trs w0 w' [C] [C'] := by
  have S := St.begin H
  refine zEs 18 Tryz.func81 rfl rfl (by decide) ?_; intro a E
  refine wp_seq_k ?_; intro K hK
  refine zAc ?_
  refine zp E (zAg E rfl rfl) ?_; clear E a; intro a E
  refine wpList_nil ?_
  refine zAh hK ?_; clear hK; clear K
  refine wp_seq_k ?_; intro K hK
  refine zAc ?_
  iterate 2 (refine zp E (zAe E rfl rfl) ?_; clear E a; intro a E)
  refine zAr E rfl rfl (by decide) rfl Tryz.func100 rfl (by kernel_rfl) rfl (vform_ret n hn k _ hk) ?_
  rintro v12 w ⟨ad, c, D, rfl, hD, hT⟩; clear E a; intro a E
  have S := S.fresh hT
  refine zp E (zAe E rfl rfl) ?_; clear E a; intro a E
  iterate 2 (refine zp E (zBx E rfl rfl rfl) ?_; clear E a; intro a E)
  iterate 2 (refine zp E (zAg E rfl rfl) ?_; clear E a; intro a E)
  refine wpList_nil ?_
  refine zAh hK ?_; clear hK; clear K
  refine wp_seq_k ?_; intro K hK
  refine zAc ?_
  iterate 2 (refine zp E (zAe E rfl rfl) ?_; clear E a; intro a E)
  refine zAo rfl (wp_appendf (by' := 1) E S rfl rfl (by decide) rfl rfl hC (by repeat (first | exact mm1 | assumption | apply List.Mem.tail)) (hD.rd.src (S.stab.at (by repeat (first | exact mm1 | assumption | apply List.Mem.tail))) rfl) rfl rfl rfl rfl rfl rfl (by simp only [maxLen]; omega) (by omega) (by omega) ?_); clear E S a; intro a w v17 C17 E S hB17
  refine zp E (zAg E rfl rfl) ?_; clear E a; intro a E
  refine wpList_nil ?_
  refine zAh hK ?_; clear hK; clear K
  refine wp_ret ?_
  refine ret1 E rfl rfl ?_
  exact ⟨_, rfl, C17, by rw [zCx, List.length_append, zBz]; exact hB17, (S.only (Bs := [C17]) (zAd (by repeat (first | exact pk1 | apply zAa)) (zAk _))).tr⟩
end Go.Proofs.YtidhehcjafoneaaGreatDoor
