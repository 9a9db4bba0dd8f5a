/-
  Texts put together (9).
-/
import Derived.Test.YtpjidiaekifmbaaGreatDoorZParityRows8
set_option maxHeartbeats 1000000
namespace Go.Sl
section
variable {P : Program} {a : Act} {o : Oper} {n : Nat} {e : List (Nat × Value)} {x y : Operand} {w : World}
theorem zKr (E : Fr a n e) {t el : TypeId} {b l c i : Nat} {k : IntKind} {q : Int} (ho : o.op = .indexAddr t x y) (hx : ev e x = some (.slice (some ⟨b, 0, none⟩) l c)) (hy : ev e y = some (.int k q))
  (ht : P.underlying t = some (.slice el)) (hs : (P.info? el).map (·.size) = some 1) (hq : q = (i : Int)) (hi : i < l) : zAu P o a w (.pointer (some ⟨b, i, none⟩)) w := by
 have h := zAz (P := P) (w := w) E ho hx hy ht hs hq hi
 rwa [Nat.zero_add, Nat.mul_one] at h
end
theorem Tab.cells {As : List zAj} {g : Nat} {l : List Int} {w : World} (h : Tab As g l) (S : Stab As w) : ∀ i u, (u32s l)[i]? = some u → w.cell? ⟨g, 0 + i, none⟩ = some u := fun i u hu => by
 obtain ⟨G, hG, T, fr, hm⟩ := h
 rw [Nat.zero_add]
 exact zBv (S G hG _ hm) hu
theorem Tab.sub {As Bs : List zAj} {g : Nat} {l : List Int} (h : Tab As g l) (k : ∀ C ∈ As, C ∈ Bs) : Tab Bs g l := by
 obtain ⟨G, hG, r⟩ := h; exact ⟨G, k G hG, r⟩
theorem one8 {a b c d e f g h : Int} : ∀ u ∈ [Value.int .u32 a, .int .u32 b, .int .u32 c, .int .u32 d, .int .u32 e, .int .u32 f, .int .u32 g, .int .u32 h], u.oneCell' = true := fun u hu => by
 simp only [List.mem_cons, List.not_mem_nil, or_false] at hu
 rcases hu with rfl | rfl | rfl | rfl | rfl | rfl | rfl | rfl <;> rfl
theorem shs2 {n k : Nat} (hk : k ≤ 7) : ((n : Int) * 8) / 2 ^ (8 * (7 - (k : Int))).toNat = ((n * 8 / 2 ^ (56 - 8 * k) : Nat) : Int) := by
 rw [show (8 * (7 - (k : Int))).toNat = 56 - 8 * k by omega]; simp
end Go.Sl
namespace Go.Proofs.YtpjidiaekifmbaaGreatDoor
open Go.Sl
set_option maxRecDepth 10000
theorem zDf (x k : Int) (hk : 1 ≤ k ∧ k ≤ 31) (w0 : World) : Ret Tryz.prog 51 #[.int .u32 x, .int .u64 k] w0 fun u w' => u = .int .u32 (rot x k) ∧ Trs w0 w' [] [] := by
 have S := St.begin (zDz w0)
 refine zBx 13 Tryz.func51 rfl rfl dZ ?_; intro a E
 refine wp_seq_k ?_; intro K hK
 refine zAa ?_
 refine zd E ?_; clear E a; intro a E
 refine wpList_nil ?_
 refine zAb hK ?_; clear hK K
 refine wp_seq_k ?_; intro K hK
 refine zAa ?_
 iterate 2 (refine zd E ?_; clear E a; intro a E)
 refine zp E (zHv E rfl rfl rfl oZ (by simp only [IntKind.bits]; omega) rfl) ?_; clear E a; intro a E
 iterate 2 (refine zd E ?_; clear E a; intro a E)
 refine zp E (zCo E rfl rfl rfl (zBj oZ)) ?_; clear E a; intro a E
 refine zp E (zEn E rfl rfl rfl oZ (by simp only [IntKind.bits]; omega) rfl) ?_; clear E a; intro a E
 refine zp E (zGk E rfl rfl rfl rfl) ?_; clear E a; intro a E
 refine zd E ?_; clear E a; intro a E
 refine wpList_nil ?_
 refine zAb hK ?_; clear hK K
 refine wp_ret ?_
 refine ret1 E rfl rfl ?_
 exact ⟨_, rfl, rfl, (S.only (Bs := []) sZ).tr⟩
theorem dpad_ret (D : zAj) (v : Value) (b : List UInt8) (hD : Rd D 1 v b.length (byt b)) (hbl : b.length ≤ 140737488352000) (As : List zAj) (hDA : D ∈ As) (w0 : World) (H : Hp w0 As) :
  Ret Tryz.prog 49 #[v] w0 fun u w' => ∃ C, Buf C 5 1 u (padL b).length (byt (padL b)) ∧ Trs w0 w' As (C :: As) := by
 have S := (St.begin H).addNil
 have hps := zKp hbl
 have hHl := zKq b
 have hLl := zGe b
 obtain ⟨ad0, c0, rfl⟩ := hD.slice
 refine zCh 36 Tryz.func49 rfl rfl dZ ?_; intro a E
 refine wp_seq_k ?_; intro K hK
 refine zAa ?_
 refine zd E ?_; clear E a; intro a E
 refine wpList_nil ?_
 refine zAb hK ?_; clear hK K
 refine wp_seq_k ?_; intro K hK
 refine zAa ?_
 refine zd E ?_; clear E a; intro a E
 refine zAf rfl (zBl (by' := 1) E S rfl rfl dZ rfl rfl (Buf.nil _ _) pZ (hD.src (S.stab.at mZ) rfl) rfl rfl rfl rfl rfl rfl (by simp only [maxLen]; omega) oZ ?_); clear E S a; intro a w v7 C7 E S hB7
 simp only [Nat.zero_add, List.nil_append] at hB7
 refine zd E ?_; clear E a; intro a E
 refine wpList_nil ?_
 refine zAb hK ?_; clear hK K
 refine wp_seq_k ?_; intro K hK
 refine zAa ?_
 refine zd E ?_; clear E a; intro a E
 refine zAf rfl (zBm (cells := [_]) E S rfl rfl dZ rfl rfl rfl rfl rfl dZ rfl ?_); clear E S a; intro a w b9 E S
 refine zAf rfl (zBl (by' := 1) E S rfl rfl dZ rfl rfl hB7 pZ ((zBn (g := b9) (T := 5) (xs := [.int .u8 128]) (s := 1) (m := 1) rfl (by simp [Value.oneCell']) oZ 1).src (S.stab.at mZ) rfl) rfl rfl rfl rfl rfl rfl (by simp only [maxLen]; omega) oZ ?_); clear E S a; intro a w v10 C10 E S hB10
 refine zd E ?_; clear E a; intro a E
 refine wpList_nil ?_
 have S := (S.del (A := [(b9, _)]) pZ).front1 (A := C10) pZ
 refine zAb hK ?_; clear hK K
 refine wp_seq_k ?_; intro K hK
 refine wp_block ?_
 refine wp_loop_ghost (fun (m : Nat) (a : Act) (w' : World) => ∃ (z : Nat) (v : Value) (C : zAj), m = padZ b.length - z ∧ z ≤ padZ b.length ∧ Buf C 5 1 v (b.length + 1 + z) (byt (b ++ [128] ++ List.replicate z 0)) ∧ St w0 As w' (C :: As) ∧ Fr a 36 [(0, .slice ad0 b.length c0), (3, v)]) (padZ b.length - 0) ?_ ?_
 ·exact ⟨0, v10, C10, rfl, by omega, by rw [List.replicate_zero, List.append_nil, zBw]; exact hB10, S, E.keep (kE2 rfl rfl)⟩
 clear E; clear a; (try clear S); rintro m a w ⟨z, v, C, rfl, hz, hC, S, E⟩
 iterate 2 (refine wp_seq_k ?_; intro K hK)
 obtain ⟨adv, cv, rfl⟩ := hC.slice
 refine zAa ?_
 iterate 2 (refine zd E ?_; clear E a; intro a E)
 refine zp E (zGh E rfl rfl rfl dZ (by first | exact zLn (y := 64) | exact rfl)) ?_; clear E a; intro a E
 refine zd E ?_; clear E a; intro a E
 refine wpList_nil ?_
 refine zAb hK ?_; clear hK K
 refine zAs E rfl (fun hb => ?_) (fun hb => ?_)
 ·replace hb := Nrm.nrm hb
  refine wp_skip ?_
  refine zAb hK ?_; clear hK K
  refine wp_block ?_
  refine zAa ?_
  refine zd E ?_; clear E a; intro a E
  refine zAf rfl (zBm (cells := [_]) E S rfl rfl dZ rfl rfl rfl rfl rfl dZ rfl ?_); clear E S a; intro a w b16 E S
  refine zAf rfl (zBl (by' := 1) E S rfl rfl dZ rfl rfl hC pZ ((zBn (g := b16) (T := 5) (xs := [.int .u8 0]) (s := 1) (m := 1) rfl (by simp [Value.oneCell']) oZ 1).src (S.stab.at mZ) rfl) rfl rfl rfl rfl rfl rfl (by simp only [maxLen]; omega) oZ ?_); clear E S a; intro a w v17 C17 E S hB17
  refine zd E ?_; clear E a; intro a E
  refine wpList_nil ?_
  refine zAq ?_
  refine zAn ?_
  rw [← pad_zero] at hB17
  exact ⟨_, by unfold padZ at *; omega, z + 1, v17, C17, rfl, by unfold padZ at *; omega, hB17, (S.del (A := [(b16, _)]) pZ).front1 (A := C17) pZ, E.keep (kE2 rfl rfl)⟩
 ·replace hb := Nrm.nrm hb
  refine wp_exit ?_
  refine zAl ?_; clear hK K
  refine zAl ?_
  refine zBi ?_
  refine zAb hK ?_; clear hK K
  refine wp_seq_k ?_; intro K hK
  have hzz : z = padZ b.length := by unfold padZ at *; omega
  subst hzz
  have hC : Buf C 5 1 (.slice adv (b.length + 1 + padZ b.length) cv) (b.length + 1 + padZ b.length) (byt (padH b)) := hC
  refine zAa ?_
  iterate 2 (refine zd E ?_; clear E a; intro a E)
  refine zp E (by first | exact zBe E rfl rfl rfl rfl (by first | exact wu8 _ | exact zHm oZ | exact zEo oZ | exact w_in oZ | exact zBj oZ | exact rfl) | exact zCc E rfl rfl rfl rfl rfl (by assumption) (S.stab.at (by simp))) ?_; clear E a; intro a E
  refine zp E (zCx E rfl rfl rfl (zBj oZ)) ?_; clear E a; intro a E
  refine zd E ?_; clear E a; intro a E
  refine wpList_nil ?_
  refine zAb hK ?_; clear hK K
  iterate 2 (refine wp_seq_k ?_; intro K hK)
  refine zAa ?_
  refine zd E ?_; clear E a; intro a E
  refine wpList_nil ?_
  refine zAb hK ?_; clear hK K
  refine wp_block ?_
  refine wp_loop_ghost (fun (m : Nat) (a : Act) (w' : World) => ∃ (k : Nat) (v : Value) (C : zAj), m = 8 - k ∧ k ≤ 8 ∧ Buf C 5 1 v (b.length + 1 + padZ b.length + k) (byt (padH b ++ lenB (b.length * 8) k)) ∧ St w0 As w' (C :: As) ∧ Fr a 36 [(3, v), (4, .int .u64 ((b.length : Int) * 8)), (5, .int .i64 (7 - (k : Int)))]) (8 - 0) ?_ ?_
  ·exact ⟨0, _, C, rfl, by omega, by rw [lenB, List.append_nil, Nat.add_zero]; exact hC, S, E.keep (kE3 rfl rfl rfl)⟩
  clear E; clear a; (try clear S); rintro m a w ⟨k, v, C, rfl, hk, hC, S, E⟩
  iterate 2 (refine wp_seq_k ?_; intro K hK)
  refine zAa ?_
  iterate 2 (refine zd E ?_; clear E a; intro a E)
  refine wpList_nil ?_
  refine zAb hK ?_; clear hK K
  refine zAs E rfl (fun hb => ?_) (fun hb => ?_)
  ·replace hb := Nrm.nrm hb
   refine wp_skip ?_
   refine zAb hK ?_; clear hK K
   refine wp_seq_k ?_; intro K hK
   refine wp_block ?_
   obtain ⟨adv, cv, rfl⟩ := hC.slice
   have hq1 : [UInt8.ofNat (b.length * 8 / 2 ^ (56 - 8 * k))].length = 1 := rfl
   refine zAa ?_
   iterate 3 (refine zd E ?_; clear E a; intro a E)
   refine zp E (zBe E rfl rfl rfl rfl (zBj oZ)) ?_; clear E a; intro a E
   refine zp E (zCx E rfl rfl rfl (zBj oZ)) ?_; clear E a; intro a E
   refine zp E (zHv E rfl rfl rfl oZ (by simp only [IntKind.bits]; omega) rfl) ?_; clear E a; intro a E
   rw [shs2 oZ] at E
   refine zp E (zBe E rfl rfl rfl rfl (w8 _)) ?_; clear E a; intro a E
   refine zAf rfl (zBm (cells := [_]) E S rfl rfl dZ rfl rfl rfl rfl rfl dZ rfl ?_); clear E S a; intro a w b33 E S
   refine zAf rfl (zBl (by' := 1) E S rfl rfl dZ rfl rfl hC pZ ((zFv b33 [UInt8.ofNat (b.length * 8 / 2 ^ (56 - 8 * k))] 5 (by simp)).rd.src (S.stab.at mZ) rfl) rfl rfl rfl rfl rfl rfl (by simp only [maxLen]; omega) oZ ?_); clear E S a; intro a w v34 C34 E S hB34
   refine zd E ?_; clear E a; intro a E
   refine wpList_nil ?_
   refine zAq ?_
   refine zAb hK ?_; clear hK K
   refine zAa ?_
   refine zd E ?_; clear E a; intro a E
   refine zp E (zCo E rfl rfl rfl (w_in oZ)) ?_; clear E a; intro a E
   refine zd E ?_; clear E a; intro a E
   refine wpList_nil ?_
   refine zAn ?_
   rw [show (7 - (k : Int)) - 1 = 7 - ((k + 1 : Nat) : Int) by omega] at E
   rw [← zBw, List.append_assoc, ← lenB_succ] at hB34
   exact ⟨_, by omega, k + 1, v34, C34, rfl, by omega, hB34, (S.del (A := [(b33, _)]) pZ).front1 (A := C34) pZ, E.keep (kE3 rfl rfl rfl)⟩
  ·replace hb := Nrm.nrm hb
   refine wp_exit ?_
   refine zAl ?_; clear hK K
   refine zAl ?_
   refine zBi ?_
   refine zAb hK ?_; clear hK K
   refine wp_seq_k ?_; intro K hK
   refine zAa ?_
   iterate 2 (refine zd E ?_; clear E a; intro a E)
   refine wpList_nil ?_
   refine zAb hK ?_; clear hK K
   refine wp_ret ?_
   refine ret1 E rfl rfl ?_
   obtain rfl : k = 8 := by omega
   rw [padH_len] at hC
   exact ⟨_, rfl, C, by rw [show (padL b).length = b.length + 1 + padZ b.length + 8 by omega]; exact hC, S.tr⟩
theorem words_ret (C : zAj) (v : Value) (b : List UInt8) (hC : Rd C 1 v b.length (byt b)) (hl : b.length = 64) (As : List zAj) (hCA : C ∈ As) (w0 : World) (H : Hp w0 As) :
  Ret Tryz.prog 50 #[v] w0 fun u w' => ∃ g, u = .slice (some ⟨g, 0, none⟩) 64 64 ∧ Trs w0 w' As ([(g, cel (u32s (wsN b 64)) 112)] :: As) := by
 have S := St.begin H
 obtain ⟨ad0, c0, rfl⟩ := hC.slice
 obtain ⟨gc, oc, rfl⟩ := hC.addr oZ
 refine zCh 96 Tryz.func50 rfl rfl dZ ?_; intro a E
 refine wp_seq_k ?_; intro K hK
 refine zAa ?_
 refine zd E ?_; clear E a; intro a E
 refine wpList_nil ?_
 refine zAb hK ?_; clear hK K
 refine wp_seq_k ?_; intro K hK
 refine zAa ?_
 refine zAf rfl (zCn (by' := 4) E S rfl rfl dZ rfl rfl rfl rfl rfl rfl rfl rfl rfl rfl rfl dZ dZ ?_); clear E S a; intro a w g8 E S
 refine zd E ?_; clear E a; intro a E
 refine wpList_nil ?_
 refine zAb hK ?_; clear hK K
 iterate 2 (refine wp_seq_k ?_; intro K hK)
 refine zAa ?_
 refine zd E ?_; clear E a; intro a E
 refine wpList_nil ?_
 refine zAb hK ?_; clear hK K
 refine wp_block ?_
 refine wp_loop_ghost (fun (m : Nat) (a : Act) (w' : World) => ∃ i, m = 16 - i ∧ i ≤ 16 ∧ St w0 As w' ([(g8, cel (u32s (wsN b i) ++ List.replicate (64 - i) (.int .u32 0)) 112)] :: As) ∧ Fr a 96 [(0, .slice (some ⟨gc, oc, none⟩) b.length c0), (3, .slice (some ⟨g8, 0, none⟩) 64 64), (4, .int .i64 i)]) (16 - 0) ?_ ?_
 ·exact ⟨0, rfl, by omega, S, E.keep (kE3 rfl rfl rfl)⟩
 clear E; clear a; (try clear S); rintro m a w ⟨i, rfl, hi, S, E⟩
 iterate 2 (refine wp_seq_k ?_; intro K hK)
 refine zAa ?_
 iterate 2 (refine zd E ?_; clear E a; intro a E)
 refine wpList_nil ?_
 refine zAb hK ?_; clear hK K
 refine zAs E rfl (fun hb => ?_) (fun hb => ?_)
 ·replace hb := Nrm.nrm hb
  refine wp_skip ?_
  refine zAb hK ?_; clear hK K
  refine wp_seq_k ?_; intro K hK
  refine wp_block ?_
  have hwl := zDn b i
  have hst := ws_step b i
  rw [if_pos oZ, word_lit b oZ] at hst
  refine zAw S (.ofL [(0, 0), (1, 0), (2, 0), (3, 0), (4, 0), (5, 0), (6, 0), (7, 0), (8, 0), (9, 0), (10, 0), (11, 0), (12, 0), (13, 0), (14, 0), (15, 0), (16, 0), (17, 0), (18, 0), (19, 0), (20, 0), (21, 0), (22, 0), (23, 0), (24, 0), (25, 0), (26, 0), (27, 0), (28, 0), (29, 0), (30, 0), (31, 0), (32, 0), (33, 0), (34, 0), (35, 0), (36, 3)]) yZ yZ ?_
  clear S; intro w S
  iterate 4 (refine zmd E ?_; clear E a; intro a E)
  refine zm E rfl (fun w h => zCx E rfl rfl rfl (by first | exact zGn (x := 4) oZ | exact zFb (x := 4) oZ | exact w_in oZ | exact rfl)) ?_; clear E a; intro a E
  refine zm E rfl (fun w h => zAp (i := 4 * i) E rfl rfl rfl rfl rfl rfl oZ) ?_; clear E a; intro a E
  refine zm E rfl (fun w h => zAo E rfl rfl rfl (hC.byte (h.at mZ) (i := 4 * i) oZ)) ?_; clear E a; intro a E
  refine zm E rfl (fun w h => zBe E rfl rfl rfl rfl (w8_32 _)) ?_; clear E a; intro a E
  refine zm E rfl (fun w h => zEn E rfl rfl rfl oZ (by simp only [IntKind.bits]; omega) rfl) ?_; clear E a; intro a E
  iterate 2 (refine zmd E ?_; clear E a; intro a E)
  refine zm E rfl (fun w h => zCx E rfl rfl rfl (by first | exact zGn (x := 4) oZ | exact zFb (x := 4) oZ | exact w_in oZ | exact rfl)) ?_; clear E a; intro a E
  refine zm E rfl (fun w h => zAy E rfl rfl rfl (by first | exact zBq (y := 1) oZ | exact w_in oZ | exact zBj oZ | exact rfl)) ?_; clear E a; intro a E
  refine zm E rfl (fun w h => zAp (i := 4 * i + 1) E rfl rfl rfl rfl rfl rfl oZ) ?_; clear E a; intro a E
  refine zm E rfl (fun w h => zAo E rfl rfl rfl (hC.byte (h.at mZ) (i := 4 * i + 1) oZ)) ?_; clear E a; intro a E
  refine zm E rfl (fun w h => zBe E rfl rfl rfl rfl (w8_32 _)) ?_; clear E a; intro a E
  refine zm E rfl (fun w h => zEn E rfl rfl rfl oZ (by simp only [IntKind.bits]; omega) rfl) ?_; clear E a; intro a E
  refine zm E rfl (fun w h => zGk E rfl rfl rfl rfl) ?_; clear E a; intro a E
  iterate 2 (refine zmd E ?_; clear E a; intro a E)
  refine zm E rfl (fun w h => zCx E rfl rfl rfl (by first | exact zGn (x := 4) oZ | exact zFb (x := 4) oZ | exact w_in oZ | exact rfl)) ?_; clear E a; intro a E
  refine zm E rfl (fun w h => zAy E rfl rfl rfl (by first | exact zBq (y := 2) oZ | exact w_in oZ | exact zBj oZ | exact rfl)) ?_; clear E a; intro a E
  refine zm E rfl (fun w h => zAp (i := 4 * i + 2) E rfl rfl rfl rfl rfl rfl oZ) ?_; clear E a; intro a E
  refine zm E rfl (fun w h => zAo E rfl rfl rfl (hC.byte (h.at mZ) (i := 4 * i + 2) oZ)) ?_; clear E a; intro a E
  refine zm E rfl (fun w h => zBe E rfl rfl rfl rfl (w8_32 _)) ?_; clear E a; intro a E
  refine zm E rfl (fun w h => zEn E rfl rfl rfl oZ (by simp only [IntKind.bits]; omega) rfl) ?_; clear E a; intro a E
  refine zm E rfl (fun w h => zGk E rfl rfl rfl rfl) ?_; clear E a; intro a E
  iterate 2 (refine zmd E ?_; clear E a; intro a E)
  refine zm E rfl (fun w h => zCx E rfl rfl rfl (by first | exact zGn (x := 4) oZ | exact zFb (x := 4) oZ | exact w_in oZ | exact rfl)) ?_; clear E a; intro a E
  refine zm E rfl (fun w h => zAy E rfl rfl rfl (by first | exact zBq (y := 3) oZ | exact w_in oZ | exact zBj oZ | exact rfl)) ?_; clear E a; intro a E
  refine zm E rfl (fun w h => zAp (i := 4 * i + 3) E rfl rfl rfl rfl rfl rfl oZ) ?_; clear E a; intro a E
  refine zm E rfl (fun w h => zAo E rfl rfl rfl (hC.byte (h.at mZ) (i := 4 * i + 3) oZ)) ?_; clear E a; intro a E
  refine zm E rfl (fun w h => zBe E rfl rfl rfl rfl (w8_32 _)) ?_; clear E a; intro a E
  refine zm E rfl (fun w h => zGk E rfl rfl rfl rfl) ?_; clear E a; intro a E
  refine zm E rfl (fun w h => zKr (i := i) E rfl rfl rfl rfl rfl rfl oZ) ?_; clear E a; intro a E
  refine zCd rfl rfl (zBa E S rfl rfl rfl rfl rfl rfl pZ (by rw [List.length_append, List.length_map, List.length_replicate]; omega) ?_); clear E S a; intro a w E S; try dsimp only [List.set] at S
  rw [zGp (u32s (wsN b i)) 64 (.int .u32 0) _ i (by rw [List.length_map, hwl]) oZ] at S
  refine zBd ?_
  refine zAq ?_
  refine zAb hK ?_; clear hK K
  refine zAa ?_
  refine zd E ?_; clear E a; intro a E
  refine zp E (zAy E rfl rfl rfl (by first | exact zBq (y := 1) oZ | exact w_in oZ | exact zBj oZ | exact rfl)) ?_; clear E a; intro a E
  refine zd E ?_; clear E a; intro a E
  refine wpList_nil ?_
  refine zAn ?_
  exact ⟨_, by omega, i + 1, rfl, by omega, by rw [hst]; exact S, E.keep (kE3 rfl rfl rfl)⟩
 ·replace hb := Nrm.nrm hb
  refine wp_exit ?_
  refine zAl ?_; clear hK K
  refine zAl ?_
  refine zBi ?_
  refine zAb hK ?_; clear hK K
  iterate 2 (refine wp_seq_k ?_; intro K hK)
  refine zAa ?_
  refine zd E ?_; clear E a; intro a E
  refine wpList_nil ?_
  refine zAb hK ?_; clear hK K
  refine wp_block ?_
  refine wp_loop_ghost (fun (m : Nat) (a : Act) (w' : World) => ∃ i, m = 64 - i ∧ 16 ≤ i ∧ i ≤ 64 ∧ St w0 As w' ([(g8, cel (u32s (wsN b i) ++ List.replicate (64 - i) (.int .u32 0)) 112)] :: As) ∧ Fr a 96 [(3, .slice (some ⟨g8, 0, none⟩) 64 64), (5, .int .i64 i)]) (64 - 16) ?_ ?_
  ·exact ⟨16, rfl, by omega, by omega, by obtain rfl : i = 16 := oZ; exact S, E.keep (kE2 rfl rfl)⟩
  clear E; clear a; (try clear S); rintro m a w ⟨i, rfl, h16, hi, S, E⟩
  iterate 2 (refine wp_seq_k ?_; intro K hK)
  refine zAa ?_
  iterate 2 (refine zd E ?_; clear E a; intro a E)
  refine wpList_nil ?_
  refine zAb hK ?_; clear hK K
  refine zAs E rfl (fun hb => ?_) (fun hb => ?_)
  ·replace hb := Nrm.nrm hb
   refine wp_skip ?_
   refine zAb hK ?_; clear hK K
   refine wp_seq_k ?_; intro K hK
   refine wp_block ?_
   refine wp_seq_k ?_; intro K hK
   have hwl := zDn b i
   have hst := ws_step b i
   rw [if_neg oZ] at hst
   refine zAa ?_
   iterate 2 (refine zd E ?_; clear E a; intro a E)
   refine zp E (zCo E rfl rfl rfl (by first | exact zEc (y := 15) oZ oZ | exact w_in oZ | exact zBj oZ | exact rfl)) ?_; clear E a; intro a E
   refine zp E (zKr (i := i - 15) E rfl rfl rfl rfl rfl rfl oZ) ?_; clear E a; intro a E
   refine zp E (zAo E rfl rfl rfl (zBv (S.get pZ) (ws_at b i (i - 15) _ oZ))) ?_; clear E a; intro a E
   refine zd E ?_; clear E a; intro a E
   refine wpList_nil ?_
   refine zAb hK ?_; clear hK K
   refine wp_seq_k ?_; intro K hK
   refine zAa ?_
   iterate 2 (refine zd E ?_; clear E a; intro a E)
   refine zp E (zCo E rfl rfl rfl (by first | exact zEc (y := 2) oZ oZ | exact w_in oZ | exact zBj oZ | exact rfl)) ?_; clear E a; intro a E
   refine zp E (zKr (i := i - 2) E rfl rfl rfl rfl rfl rfl oZ) ?_; clear E a; intro a E
   refine zp E (zAo E rfl rfl rfl (zBv (S.get pZ) (ws_at b i (i - 2) _ oZ))) ?_; clear E a; intro a E
   refine zd E ?_; clear E a; intro a E
   refine wpList_nil ?_
   refine zAb hK ?_; clear hK K
   refine zAw S (.ofL [(0, 0), (1, 0), (2, 0), (3, 0), (4, 0), (5, 0), (6, 0), (7, 0), (9, 0), (12, 0), (13, 0), (16, 0), (17, 0), (18, 0), (19, 0), (20, 0), (22, 0), (24, 0), (27, 0), (28, 0), (8, 1), (10, 1), (11, 0), (14, 0), (15, 0), (21, 0), (23, 1), (25, 1), (26, 0), (29, 0), (30, 0), (31, 0), (32, 3)]) yZ yZ ?_
   clear S; intro w S
   iterate 4 (refine zmd E ?_; clear E a; intro a E)
   refine zm E rfl (fun w h => zCo E rfl rfl rfl (by first | exact zEc (y := 16) oZ oZ | exact w_in oZ | exact zBj oZ | exact rfl)) ?_; clear E a; intro a E
   refine zm E rfl (fun w h => zKr (i := i - 16) E rfl rfl rfl rfl rfl rfl oZ) ?_; clear E a; intro a E
   refine zm E rfl (fun w h => zAo E rfl rfl rfl (zBv (h.one mZ) (ws_at b i (i - 16) _ oZ))) ?_; clear E a; intro a E
   iterate 3 (refine zmd E ?_; clear E a; intro a E)
   refine zm E rfl (fun w h => zHv E rfl rfl rfl oZ (by simp only [IntKind.bits]; omega) rfl) ?_; clear E a; intro a E
   iterate 2 (refine zmd E ?_; clear E a; intro a E)
   refine zm E rfl (fun w h => zCo E rfl rfl rfl (by first | exact zEc (y := 7) oZ oZ | exact w_in oZ | exact zBj oZ | exact rfl)) ?_; clear E a; intro a E
   refine zm E rfl (fun w h => zKr (i := i - 7) E rfl rfl rfl rfl rfl rfl oZ) ?_; clear E a; intro a E
   refine zm E rfl (fun w h => zAo E rfl rfl rfl (zBv (h.one mZ) (ws_at b i (i - 7) _ oZ))) ?_; clear E a; intro a E
   iterate 3 (refine zmd E ?_; clear E a; intro a E)
   refine zm E rfl (fun w h => zHv E rfl rfl rfl oZ (by simp only [IntKind.bits]; omega) rfl) ?_; clear E a; intro a E
   refine zBo E rfl rfl rfl dZ rfl Tryz.func51 rfl yZ rfl (zDf _ 7 oZ _) ?_
   rintro v71 w ⟨rfl, hT⟩; clear E a; intro a E
   have S := S.quiet hT
   refine ⟨S.stab.sub (by first | (simp; done) | (simp +contextual; done) | (simp [*]; done)), ?_⟩
   refine zBo E rfl rfl rfl dZ rfl Tryz.func51 rfl yZ rfl (zDf _ 18 oZ _) ?_
   rintro v73 w ⟨rfl, hT⟩; clear E a; intro a E
   have S := S.quiet hT
   refine ⟨S.stab.sub (by first | (simp; done) | (simp +contextual; done) | (simp [*]; done)), ?_⟩
   iterate 2 (refine zm E rfl (fun w h => zDs E rfl rfl rfl rfl) ?_; clear E a; intro a E)
   iterate 2 (refine zm E rfl (fun w h => zAy E rfl rfl rfl (by first | exact wa1 oZ | exact w_in oZ | exact zBj oZ | exact rfl)) ?_; clear E a; intro a E)
   refine zBo E rfl rfl rfl dZ rfl Tryz.func51 rfl yZ rfl (zDf _ 17 oZ _) ?_
   rintro v86 w ⟨rfl, hT⟩; clear E a; intro a E
   have S := S.quiet hT
   refine ⟨S.stab.sub (by first | (simp; done) | (simp +contextual; done) | (simp [*]; done)), ?_⟩
   refine zBo E rfl rfl rfl dZ rfl Tryz.func51 rfl yZ rfl (zDf _ 19 oZ _) ?_
   rintro v88 w ⟨rfl, hT⟩; clear E a; intro a E
   have S := S.quiet hT
   refine ⟨S.stab.sub (by first | (simp; done) | (simp +contextual; done) | (simp [*]; done)), ?_⟩
   iterate 2 (refine zm E rfl (fun w h => zDs E rfl rfl rfl rfl) ?_; clear E a; intro a E)
   refine zm E rfl (fun w h => zAy E rfl rfl rfl (by first | exact wa1 oZ | exact w_in oZ | exact zBj oZ | exact rfl)) ?_; clear E a; intro a E
   refine zm E rfl (fun w h => zKr (i := i) E rfl rfl rfl rfl rfl rfl oZ) ?_; clear E a; intro a E
   refine zCd rfl rfl (zBa E S rfl rfl rfl rfl rfl rfl pZ (by rw [List.length_append, List.length_map, List.length_replicate]; omega) ?_); clear E S a; intro a w E S; try dsimp only [List.set] at S
   rw [zGp (u32s (wsN b i)) 64 (.int .u32 0) _ i (by rw [List.length_map, hwl]) oZ] at S
   refine zBd ?_
   refine zAq ?_
   refine zAb hK ?_; clear hK K
   refine zAa ?_
   refine zd E ?_; clear E a; intro a E
   refine zp E (zAy E rfl rfl rfl (by first | exact zBq (y := 1) oZ | exact w_in oZ | exact zBj oZ | exact rfl)) ?_; clear E a; intro a E
   refine zd E ?_; clear E a; intro a E
   refine wpList_nil ?_
   refine zAn ?_
   exact ⟨_, by omega, i + 1, rfl, by omega, by omega, by rw [hst]; exact S, E.keep (kE2 rfl rfl)⟩
  ·replace hb := Nrm.nrm hb
   refine wp_exit ?_
   refine zAl ?_; clear hK K
   refine zAl ?_
   refine zBi ?_
   refine zAb hK ?_; clear hK K
   refine wp_seq_k ?_; intro K hK
   refine zAa ?_
   iterate 2 (refine zd E ?_; clear E a; intro a E)
   refine wpList_nil ?_
   refine zAb hK ?_; clear hK K
   refine wp_ret ?_
   refine ret1 E rfl rfl ?_
   obtain rfl : i = 64 := by omega
   rw [Nat.sub_self, List.replicate_zero, List.append_nil] at S
   exact ⟨_, rfl, g8, rfl, S.tr⟩
end Go.Proofs.YtpjidiaekifmbaaGreatDoor
namespace Go.Proofs.YtpjidiaekifmbaaGreatDoor
open Go.Sl
set_option maxRecDepth 10000
set_option maxHeartbeats 2000000 in
theorem dsha_ret (D : zAj) (v : Value) (b : List UInt8) (hD : Rd D 1 v b.length (byt b)) (hbl : b.length ≤ 140737488352000) (As : List zAj) (hDA : D ∈ As) (hG0 : Tab As 0 sha0.l) (hG1 : Tab As 1 shaK) (w0 : World) (H : Hp w0 As) :
  Ret Tryz.prog 16 #[v] w0 fun u w' => u = (shaF b).agg ∧ Trs w0 w' As As := by
 have S := St.begin H
 have hps := zKp hbl
 have hLl := zGe b
 have hL64 := padL_64 b
 obtain ⟨all, hall⟩ : ∃ all, all = padL b := ⟨_, rfl⟩
 refine zCh 157 Tryz.func16 rfl rfl dZ ?_; intro a E
 refine wp_seq_k ?_; intro K hK
 refine zAa ?_
 refine zAf rfl (zBs E S rfl rfl dZ rfl rfl rfl ?_); clear E S a; intro a w b2 E S
 refine wpList_nil ?_
 refine zAb hK ?_; clear hK K
 refine wp_seq_k ?_; intro K hK
 refine zAa ?_
 refine zp E (zDx (vs := u32s sha0.l) E rfl rfl rfl rfl (hG0.tail.cells S.stab)) ?_; clear E a; intro a E
 refine zAf rfl (zBs E S rfl rfl dZ rfl rfl rfl ?_); clear E S a; intro a w b3 E S
 refine zAf rfl (zEq E S rfl rfl rfl rfl (zHz _) rfl rfl pZ (by rfl) ?_); clear E S a; intro a w E S
 refine wpList_nil ?_
 refine zAb hK ?_; clear hK K
 refine wp_seq_k ?_; intro K hK
 refine zAa ?_
 refine zd E ?_; clear E a; intro a E
 refine zAg E rfl rfl dZ rfl Tryz.func49 rfl yZ rfl (dpad_ret D v b hD hbl As hDA _ S.tail2.hp) ?_
 rintro v16 w ⟨C, hC, hT⟩; clear E a; intro a E
 have S := St.under [_, _] S hT; rw [← hall] at hC hLl hL64; obtain ⟨adv, cv, rfl, hcv⟩ := buf_hcap hC
 refine zd E ?_; clear E a; intro a E
 refine wpList_nil ?_
 refine zAb hK ?_; clear hK K
 iterate 2 (refine wp_seq_k ?_; intro K hK)
 refine zAa ?_
 refine zd E ?_; clear E a; intro a E
 refine wpList_nil ?_
 refine zAb hK ?_; clear hK K
 refine wp_block ?_
 refine wp_loop_ghost (fun (m : Nat) (a : Act) (w' : World) => ∃ j, m = all.length / 64 - j ∧ j ≤ all.length / 64 ∧ St w0 As w' ([(b3, cel (u32s (shaH all j).l) 113)] :: C :: [(b2, cel [.int .u64 0, .int .u64 0, .int .u64 0, .int .u64 0] 29)] :: As) ∧ Fr a 157 [(2, ptr b2), (3, ptr b3), (4, .slice adv all.length cv), (5, .int .i64 (64 * j : Nat))]) (all.length / 64 - 0) ?_ ?_
 ·exact ⟨0, rfl, by omega, S.front3 pZ (B := C) pZ (C := [(b2, _)]) pZ, E.keep (kE4 rfl rfl rfl rfl)⟩
 clear E; clear a; (try clear S); rintro m a w ⟨j, rfl, hj, S, E⟩
 iterate 2 (refine wp_seq_k ?_; intro K hK)
 refine zAa ?_
 iterate 4 (refine zd E ?_; clear E a; intro a E)
 refine wpList_nil ?_
 refine zAb hK ?_; clear hK K
 refine zAs E rfl (fun hb => ?_) (fun hb => ?_)
 ·replace hb := Nrm.nrm hb
  refine wp_skip ?_
  refine zAb hK ?_; clear hK K
  refine wp_seq_k ?_; intro K hK
  refine wp_block ?_
  refine wp_seq_k ?_; intro K hK
  have hjl : 64 * j + 64 ≤ all.length := by omega
  obtain ⟨ad2, hs2, hR2⟩ := hC.rd.cutc (lo := 64 * j) (hi := 64 * j + 64) oZ oZ oZ
  have hbk := blk_length all hjl
  rw [show ((byt all).drop (64 * j * 1)).take ((64 * j + 64 - 64 * j) * 1) = byt (blk all j) by simp [blk, zEl, zEx]] at hR2
  have hR2 : Rd C 1 (.slice ad2 (64 * j + 64 - 64 * j) (cv - 64 * j)) (blk all j).length (byt (blk all j)) := by rw [hbk]; rw [show 64 * j + 64 - 64 * j = 64 by omega] at *; exact hR2
  refine zAa ?_
  iterate 3 (refine zd E ?_; clear E a; intro a E)
  refine zp E (zAy E rfl rfl rfl (by first | exact zBq (y := 64) oZ | exact w_in oZ | exact zBj oZ | exact rfl)) ?_; clear E a; intro a E
  refine zp E (zGb (s := 1) (lo := 64 * j) (hi := 64 * j + 64) E rfl rfl rfl rfl rfl rfl rfl rfl oZ oZ) ?_; clear E a; intro a E
  rw [hs2] at E
  refine zAg E rfl rfl dZ rfl Tryz.func50 rfl yZ rfl (words_ret C _ (blk all j) hR2 hbk _ (show C ∈ _ from mZ) _ S.hp) ?_
  rintro v28 w ⟨g6, rfl, hT⟩; clear E a; intro a E
  have S := S.all hT; obtain ⟨ws, hws⟩ : ∃ ws, ws = wsN (blk all j) 64 := ⟨_, rfl⟩; have hwl : ws.length = 64 := (by rw [hws]; exact zDn _ _); rw [← hws] at S
  refine zd E ?_; clear E a; intro a E
  refine wpList_nil ?_
  refine zAb hK ?_; clear hK K
  refine wp_seq_k ?_; intro K hK
  obtain ⟨h0, hh0⟩ : ∃ h0, h0 = shaH all j := ⟨_, rfl⟩
  rw [← hh0] at S
  refine zAa ?_
  refine zp E (zDu E rfl rfl rfl (S.get pZ) rfl) ?_; clear E a; intro a E
  refine zAf rfl (zBs E S rfl rfl dZ rfl rfl rfl ?_); clear E S a; intro a w b7 E S
  refine zAf rfl (zEq E S rfl rfl rfl rfl (zHz _) rfl rfl pZ (by rfl) ?_); clear E S a; intro a w E S
  refine wpList_nil ?_
  refine zAb hK ?_; clear hK K
  iterate 2 (refine wp_seq_k ?_; intro K hK)
  refine zAa ?_
  refine zd E ?_; clear E a; intro a E
  refine wpList_nil ?_
  refine zAb hK ?_; clear hK K
  refine wp_block ?_
  refine wp_loop_ghost (fun (m : Nat) (a : Act) (w' : World) => ∃ (i : Nat) (s : S8), m = 64 - i ∧ i ≤ 64 ∧ s = S8.mix h0 shaK ws i ∧ St w0 As w' ([(b7, cel (u32s s.l) 113)] :: [(g6, cel (u32s ws) 112)] :: [(b3, cel (u32s h0.l) 113)] :: C :: [(b2, cel [.int .u64 0, .int .u64 0, .int .u64 0, .int .u64 0] 29)] :: As) ∧ Fr a 157 [(2, ptr b2), (3, ptr b3), (4, .slice adv all.length cv), (5, .int .i64 (64 * j : Nat)), (6, .slice (some ⟨g6, 0, none⟩) 64 64), (7, ptr b7), (8, .int .i64 i)]) (64 - 0) ?_ ?_
  ·exact ⟨0, h0, rfl, by omega, rfl, S, E.keep (kE7 rfl rfl rfl rfl rfl rfl rfl)⟩
  clear E; clear a; (try clear S); rintro m a w ⟨i, s, rfl, hi, hs, S, E⟩
  iterate 2 (refine wp_seq_k ?_; intro K hK)
  refine zAa ?_
  iterate 2 (refine zd E ?_; clear E a; intro a E)
  refine wpList_nil ?_
  refine zAb hK ?_; clear hK K
  refine zAs E rfl (fun hb => ?_) (fun hb => ?_)
  ·replace hb := Nrm.nrm hb
   refine wp_skip ?_
   refine zAb hK ?_; clear hK K
   refine wp_seq_k ?_; intro K hK
   refine wp_block ?_
   refine wp_seq_k ?_; intro K hK
   refine zAa ?_
   refine zp E (zCa (i := 0) E rfl rfl rfl rfl rfl rfl oZ) ?_; clear E a; intro a E
   iterate 2 (refine zd E ?_; clear E a; intro a E)
   refine wpList_nil ?_
   refine zAb hK ?_; clear hK K
   refine wp_seq_k ?_; intro K hK
   refine zAa ?_
   refine zp E (zCa (i := 4) E rfl rfl rfl rfl rfl rfl oZ) ?_; clear E a; intro a E
   iterate 2 (refine zd E ?_; clear E a; intro a E)
   refine wpList_nil ?_
   refine zAb hK ?_; clear hK K
   refine wp_seq_k ?_; intro K hK
   refine zAw S (.ofL [(0, 0), (1, 0), (2, 0), (4, 0), (7, 0), (11, 0), (12, 0), (13, 0), (14, 0), (15, 0), (16, 0), (17, 0), (18, 0), (19, 0), (20, 0), (22, 0), (23, 0), (24, 0), (26, 0), (27, 0), (28, 0), (29, 0), (3, 1), (5, 1), (6, 0), (8, 1), (9, 0), (10, 0), (21, 0), (25, 0), (30, 0), (31, 0)]) yZ yZ ?_
   clear S; intro w S
   refine zm E rfl (fun w h => zCa (i := 7) E rfl rfl rfl rfl rfl rfl oZ) ?_; clear E a; intro a E
   iterate 5 (refine zmd E ?_; clear E a; intro a E)
   refine zm E rfl (fun w h => zCa (i := 5) E rfl rfl rfl rfl rfl rfl oZ) ?_; clear E a; intro a E
   refine zmd E ?_; clear E a; intro a E
   refine zm E rfl (fun w h => zGj E rfl rfl rfl rfl) ?_; clear E a; intro a E
   refine zmd E ?_; clear E a; intro a E
   refine zm E rfl (fun w h => rn_com E rfl rfl rfl) ?_; clear E a; intro a E
   refine zm E rfl (fun w h => zCa (i := 6) E rfl rfl rfl rfl rfl rfl oZ) ?_; clear E a; intro a E
   refine zmd E ?_; clear E a; intro a E
   refine zm E rfl (fun w h => zGj E rfl rfl rfl rfl) ?_; clear E a; intro a E
   refine zm E rfl (fun w h => zDs E rfl rfl rfl rfl) ?_; clear E a; intro a E
   refine zmd E ?_; clear E a; intro a E
   refine zm E rfl (fun w h => zCa (i := i) E rfl rfl rfl rfl rfl rfl oZ) ?_; clear E a; intro a E
   refine zm E rfl (fun w h => zAo E rfl rfl rfl (hG1.tail.tail.tail.tail.tail.cell h (j := i) (by rw [shaK_len]; omega))) ?_; clear E a; intro a E
   iterate 2 (refine zmd E ?_; clear E a; intro a E)
   refine zm E rfl (fun w h => zKr (i := i) E rfl rfl rfl rfl rfl rfl oZ) ?_; clear E a; intro a E
   refine zm E rfl (fun w h => zAo E rfl rfl rfl (zBv (h.one (show [(g6, cel (u32s ws) 112)] ∈ _ from mZ)) (u32_at ws (j := i) oZ))) ?_; clear E a; intro a E
   refine zBo E rfl rfl rfl dZ rfl Tryz.func51 rfl yZ rfl (zDf s.e 6 oZ _) ?_
   rintro v41 w ⟨rfl, hT⟩; clear E a; intro a E
   have S := S.quiet hT
   refine ⟨S.stab.sub (by first | (simp; done) | (simp +contextual; done) | (simp [*]; done)), ?_⟩
   refine zBo E rfl rfl rfl dZ rfl Tryz.func51 rfl yZ rfl (zDf s.e 11 oZ _) ?_
   rintro v43 w ⟨rfl, hT⟩; clear E a; intro a E
   have S := S.quiet hT
   refine ⟨S.stab.sub (by first | (simp; done) | (simp +contextual; done) | (simp [*]; done)), ?_⟩
   refine zm E rfl (fun w h => zDs E rfl rfl rfl rfl) ?_; clear E a; intro a E
   refine zBo E rfl rfl rfl dZ rfl Tryz.func51 rfl yZ rfl (zDf s.e 25 oZ _) ?_
   rintro v46 w ⟨rfl, hT⟩; clear E a; intro a E
   have S := S.quiet hT
   refine ⟨S.stab.sub (by first | (simp; done) | (simp +contextual; done) | (simp [*]; done)), ?_⟩
   refine zm E rfl (fun w h => zDs E rfl rfl rfl rfl) ?_; clear E a; intro a E
   iterate 4 (refine zm E rfl (fun w h => zAy E rfl rfl rfl (by first | exact wa1 oZ | exact w_in oZ | exact zBj oZ | exact rfl)) ?_; clear E a; intro a E)
   refine zmd E ?_; clear E a; intro a E
   refine zBd ?_
   refine zAb hK ?_; clear hK K
   refine wp_seq_k ?_; intro K hK
   refine zAw S (.ofL [(0, 0), (2, 0), (5, 0), (8, 0), (9, 0), (10, 0), (11, 0), (12, 0), (13, 0), (14, 0), (15, 0), (16, 0), (17, 0), (18, 0), (19, 0), (20, 0), (21, 0), (22, 0), (1, 1), (3, 1), (4, 0), (6, 1), (7, 0), (23, 0), (24, 0)]) yZ yZ ?_
   clear S; intro w S
   iterate 4 (refine zmd E ?_; clear E a; intro a E)
   refine zm E rfl (fun w h => zCa (i := 1) E rfl rfl rfl rfl rfl rfl oZ) ?_; clear E a; intro a E
   refine zmd E ?_; clear E a; intro a E
   refine zm E rfl (fun w h => zGj E rfl rfl rfl rfl) ?_; clear E a; intro a E
   refine zmd E ?_; clear E a; intro a E
   refine zm E rfl (fun w h => zCa (i := 2) E rfl rfl rfl rfl rfl rfl oZ) ?_; clear E a; intro a E
   refine zmd E ?_; clear E a; intro a E
   refine zm E rfl (fun w h => zGj E rfl rfl rfl rfl) ?_; clear E a; intro a E
   refine zm E rfl (fun w h => zDs E rfl rfl rfl rfl) ?_; clear E a; intro a E
   refine zm E rfl (fun w h => zCa (i := 1) E rfl rfl rfl rfl rfl rfl oZ) ?_; clear E a; intro a E
   refine zmd E ?_; clear E a; intro a E
   refine zm E rfl (fun w h => zCa (i := 2) E rfl rfl rfl rfl rfl rfl oZ) ?_; clear E a; intro a E
   refine zmd E ?_; clear E a; intro a E
   refine zm E rfl (fun w h => zGj E rfl rfl rfl rfl) ?_; clear E a; intro a E
   refine zm E rfl (fun w h => zDs E rfl rfl rfl rfl) ?_; clear E a; intro a E
   refine zBo E rfl rfl rfl dZ rfl Tryz.func51 rfl yZ rfl (zDf s.a 2 oZ _) ?_
   rintro v70 w ⟨rfl, hT⟩; clear E a; intro a E
   have S := S.quiet hT
   refine ⟨S.stab.sub (by first | (simp; done) | (simp +contextual; done) | (simp [*]; done)), ?_⟩
   refine zBo E rfl rfl rfl dZ rfl Tryz.func51 rfl yZ rfl (zDf s.a 13 oZ _) ?_
   rintro v72 w ⟨rfl, hT⟩; clear E a; intro a E
   have S := S.quiet hT
   refine ⟨S.stab.sub (by first | (simp; done) | (simp +contextual; done) | (simp [*]; done)), ?_⟩
   refine zm E rfl (fun w h => zDs E rfl rfl rfl rfl) ?_; clear E a; intro a E
   refine zBo E rfl rfl rfl dZ rfl Tryz.func51 rfl yZ rfl (zDf s.a 22 oZ _) ?_
   rintro v75 w ⟨rfl, hT⟩; clear E a; intro a E
   have S := S.quiet hT
   refine ⟨S.stab.sub (by first | (simp; done) | (simp +contextual; done) | (simp [*]; done)), ?_⟩
   refine zm E rfl (fun w h => zDs E rfl rfl rfl rfl) ?_; clear E a; intro a E
   refine zm E rfl (fun w h => zAy E rfl rfl rfl (by first | exact wa1 oZ | exact w_in oZ | exact zBj oZ | exact rfl)) ?_; clear E a; intro a E
   refine zmd E ?_; clear E a; intro a E
   refine zBd ?_
   refine zAb hK ?_; clear hK K
   refine zAa ?_
   iterate 2 (refine zd E ?_; clear E a; intro a E)
   refine zp E (zAy E rfl rfl rfl (by first | exact wa1 oZ | exact w_in oZ | exact zBj oZ | exact rfl)) ?_; clear E a; intro a E
   refine zd E ?_; clear E a; intro a E
   refine zp E (zCa (i := 1) E rfl rfl rfl rfl rfl rfl oZ) ?_; clear E a; intro a E
   refine zd E ?_; clear E a; intro a E
   refine zp E (zCa (i := 2) E rfl rfl rfl rfl rfl rfl oZ) ?_; clear E a; intro a E
   refine zd E ?_; clear E a; intro a E
   refine zp E (zCa (i := 3) E rfl rfl rfl rfl rfl rfl oZ) ?_; clear E a; intro a E
   iterate 2 (refine zd E ?_; clear E a; intro a E)
   refine zp E (zAy E rfl rfl rfl (by first | exact wa1 oZ | exact w_in oZ | exact zBj oZ | exact rfl)) ?_; clear E a; intro a E
   refine zd E ?_; clear E a; intro a E
   refine zp E (zCa (i := 5) E rfl rfl rfl rfl rfl rfl oZ) ?_; clear E a; intro a E
   refine zd E ?_; clear E a; intro a E
   refine zp E (zCa (i := 6) E rfl rfl rfl rfl rfl rfl oZ) ?_; clear E a; intro a E
   refine zd E ?_; clear E a; intro a E
   refine zp E (zBt (cells := [_, _, _, _, _, _, _, _]) E rfl rfl rfl) ?_; clear E a; intro a E
   refine zAf rfl (zEq E S rfl rfl rfl rfl one8 rfl rfl pZ (by rfl) ?_); clear E S a; intro a w E S
   refine wpList_nil ?_
   refine zAq ?_
   refine zAb hK ?_; clear hK K
   refine zAa ?_
   refine zd E ?_; clear E a; intro a E
   refine zp E (zAy E rfl rfl rfl (by first | exact zBq (y := 1) oZ | exact w_in oZ | exact zBj oZ | exact rfl)) ?_; clear E a; intro a E
   refine zd E ?_; clear E a; intro a E
   refine wpList_nil ?_
   refine zAn ?_
   exact ⟨_, by omega, i + 1, s.step (shaK.getD i 0) (ws.getD i 0), rfl, by omega, by rw [hs]; rfl, S, E.keep (kE7 rfl rfl rfl rfl rfl rfl rfl)⟩
  ·replace hb := Nrm.nrm hb
   refine wp_exit ?_
   refine zAl ?_; clear hK K
   refine zAl ?_
   refine zBi ?_
   refine zAb hK ?_; clear hK K
   refine wp_seq_k ?_; intro K hK
   obtain rfl : i = 64 := by omega
   refine zAa ?_
   refine zd E ?_; clear E a; intro a E
   refine wpList_nil ?_
   refine zAb hK ?_; clear hK K
   refine wp_block ?_
   refine wp_loop_ghost (fun (m : Nat) (a : Act) (w' : World) => ∃ i, m = 8 - i ∧ i ≤ 8 ∧ St w0 As w' ([(b3, cel (u32s (addL h0 s i)) 113)] :: [(b7, cel (u32s s.l) 113)] :: C :: [(b2, cel [.int .u64 0, .int .u64 0, .int .u64 0, .int .u64 0] 29)] :: As) ∧ Fr a 157 [(2, ptr b2), (3, ptr b3), (4, .slice adv all.length cv), (5, .int .i64 (64 * j : Nat)), (7, ptr b7), (13, .int .i64 i)]) (8 - 0) ?_ ?_
   ·exact ⟨0, rfl, by omega, by rw [addL_zero]; exact (S.del (A := [(g6, _)]) pZ).front2 (A := [(b3, _)]) pZ (B := [(b7, _)]) pZ, E.keep (kE6 rfl rfl rfl rfl rfl rfl)⟩
   clear E; clear a; (try clear S); rintro m a w ⟨i, rfl, hi, S, E⟩
   iterate 2 (refine wp_seq_k ?_; intro K hK)
   refine zAa ?_
   iterate 2 (refine zd E ?_; clear E a; intro a E)
   refine wpList_nil ?_
   refine zAb hK ?_; clear hK K
   refine zAs E rfl (fun hb => ?_) (fun hb => ?_)
   ·replace hb := Nrm.nrm hb
    refine wp_skip ?_
    refine zAb hK ?_; clear hK K
    refine wp_seq_k ?_; intro K hK
    refine wp_block ?_
    refine zAw S (.ofL [(0, 0), (1, 0), (2, 0), (3, 0), (4, 0), (5, 0), (6, 0), (7, 0), (8, 0), (9, 3)]) yZ yZ ?_
    clear S; intro w S
    iterate 2 (refine zmd E ?_; clear E a; intro a E)
    refine zm E rfl (fun w h => zCa (i := i) E rfl rfl rfl rfl rfl rfl oZ) ?_; clear E a; intro a E
    refine zm E rfl (fun w h => zAo E rfl rfl rfl (zBv (h.one (show [(b3, cel (u32s (addL h0 s i)) 113)] ∈ _ from mZ)) (v := .int .u32 (h0.l.getD i 0)) (by rw [u32_at _ (by rw [zHb]; omega), addL_at h0 s oZ]))) ?_; clear E a; intro a E
    refine zmd E ?_; clear E a; intro a E
    refine zm E rfl (fun w h => zCa (i := i) E rfl rfl rfl rfl rfl rfl oZ) ?_; clear E a; intro a E
    refine zm E rfl (fun w h => zAo E rfl rfl rfl (zBv (h.one (show [(b7, cel (u32s s.l) 113)] ∈ _ from mZ)) (s8_at s (i := i) oZ))) ?_; clear E a; intro a E
    refine zm E rfl (fun w h => zAy E rfl rfl rfl (by first | exact wa1 oZ | exact w_in oZ | exact zBj oZ | exact rfl)) ?_; clear E a; intro a E
    refine zm E rfl (fun w h => zCa (i := i) E rfl rfl rfl rfl rfl rfl oZ) ?_; clear E a; intro a E
    refine zCd rfl rfl (zBa E S rfl rfl rfl rfl rfl rfl pZ (by rw [List.length_map, zHb]; omega) ?_); clear E S a; intro a w E S; try dsimp only [List.set] at S
    refine zBd ?_
    refine zAq ?_
    refine zAb hK ?_; clear hK K
    refine zAa ?_
    refine zd E ?_; clear E a; intro a E
    refine zp E (zAy E rfl rfl rfl (by first | exact zBq (y := 1) oZ | exact w_in oZ | exact zBj oZ | exact rfl)) ?_; clear E a; intro a E
    refine zd E ?_; clear E a; intro a E
    refine wpList_nil ?_
    refine zAn ?_
    exact ⟨_, by omega, i + 1, rfl, by omega, by rw [← addL_set h0 s oZ]; exact S, E.keep (kE6 rfl rfl rfl rfl rfl rfl)⟩
   ·replace hb := Nrm.nrm hb
    refine wp_exit ?_
    refine zAl ?_; clear hK K
    refine zAl ?_
    refine zBi ?_
    refine zAq ?_
    refine zAb hK ?_; clear hK K
    obtain rfl : i = 8 := by omega
    rw [addL_end, hs, hh0, hws] at S
    refine zAa ?_
    refine zd E ?_; clear E a; intro a E
    refine zp E (zAy E rfl rfl rfl (by first | exact zBq (y := 64) oZ | exact w_in oZ | exact zBj oZ | exact rfl)) ?_; clear E a; intro a E
    refine zd E ?_; clear E a; intro a E
    refine wpList_nil ?_
    refine zAn ?_
    rw [show 64 * j + 64 = 64 * (j + 1) by omega] at E
    exact ⟨_, by omega, j + 1, rfl, by omega, (S.del (A := [(b7, _)]) pZ).front1 (A := [(b3, _)]) pZ, E.keep (kE4 rfl rfl rfl rfl)⟩
 ·replace hb := Nrm.nrm hb
  refine wp_exit ?_
  refine zAl ?_; clear hK K
  refine zAl ?_
  refine zBi ?_
  refine zAb hK ?_; clear hK K
  refine wp_seq_k ?_; intro K hK
  obtain ⟨hh, hhe⟩ : ∃ hh, hh = shaH all (all.length / 64) := ⟨_, rfl⟩
  obtain rfl : j = all.length / 64 := by omega
  rw [← hhe] at S
  refine zAa ?_
  refine zp E (zCa (i := 0) E rfl rfl rfl rfl rfl rfl oZ) ?_; clear E a; intro a E
  refine zd E ?_; clear E a; intro a E
  refine zp E (zBe E rfl rfl rfl rfl rfl) ?_; clear E a; intro a E
  refine zp E (zEn E rfl rfl rfl oZ (by simp only [IntKind.bits]; omega) rfl) ?_; clear E a; intro a E
  refine zp E (zCa (i := 1) E rfl rfl rfl rfl rfl rfl oZ) ?_; clear E a; intro a E
  refine zd E ?_; clear E a; intro a E
  refine zp E (zBe E rfl rfl rfl rfl rfl) ?_; clear E a; intro a E
  refine zp E (zGk E rfl rfl rfl rfl) ?_; clear E a; intro a E
  refine zp E (zCa (i := 2) E rfl rfl rfl rfl rfl rfl oZ) ?_; clear E a; intro a E
  refine zd E ?_; clear E a; intro a E
  refine zp E (zBe E rfl rfl rfl rfl rfl) ?_; clear E a; intro a E
  refine zp E (zEn E rfl rfl rfl oZ (by simp only [IntKind.bits]; omega) rfl) ?_; clear E a; intro a E
  refine zp E (zCa (i := 3) E rfl rfl rfl rfl rfl rfl oZ) ?_; clear E a; intro a E
  refine zd E ?_; clear E a; intro a E
  refine zp E (zBe E rfl rfl rfl rfl rfl) ?_; clear E a; intro a E
  refine zp E (zGk E rfl rfl rfl rfl) ?_; clear E a; intro a E
  refine zp E (zCa (i := 4) E rfl rfl rfl rfl rfl rfl oZ) ?_; clear E a; intro a E
  refine zd E ?_; clear E a; intro a E
  refine zp E (zBe E rfl rfl rfl rfl rfl) ?_; clear E a; intro a E
  refine zp E (zEn E rfl rfl rfl oZ (by simp only [IntKind.bits]; omega) rfl) ?_; clear E a; intro a E
  refine zp E (zCa (i := 5) E rfl rfl rfl rfl rfl rfl oZ) ?_; clear E a; intro a E
  refine zd E ?_; clear E a; intro a E
  refine zp E (zBe E rfl rfl rfl rfl rfl) ?_; clear E a; intro a E
  refine zp E (zGk E rfl rfl rfl rfl) ?_; clear E a; intro a E
  refine zp E (zCa (i := 6) E rfl rfl rfl rfl rfl rfl oZ) ?_; clear E a; intro a E
  refine zd E ?_; clear E a; intro a E
  refine zp E (zBe E rfl rfl rfl rfl rfl) ?_; clear E a; intro a E
  refine zp E (zEn E rfl rfl rfl oZ (by simp only [IntKind.bits]; omega) rfl) ?_; clear E a; intro a E
  refine zp E (zCa (i := 7) E rfl rfl rfl rfl rfl rfl oZ) ?_; clear E a; intro a E
  refine zd E ?_; clear E a; intro a E
  refine zp E (zBe E rfl rfl rfl rfl rfl) ?_; clear E a; intro a E
  refine zp E (zGk E rfl rfl rfl rfl) ?_; clear E a; intro a E
  refine zp E (zBt (cells := [_, _, _, _]) E rfl rfl rfl) ?_; clear E a; intro a E
  refine zAf rfl (zBr E S rfl rfl rfl rfl (by simp [Value.oneCell']) rfl pZ (by simp) ?_); clear E S a; intro a w E S; simp only [List.take_succ_cons, List.take_zero, List.drop_succ_cons, List.drop_zero, List.cons_append, List.nil_append, List.append_nil, List.length_cons, List.length_nil, Nat.zero_add, Nat.add_zero] at S
  refine wpList_nil ?_
  refine zAb hK ?_; clear hK K
  refine wp_ret ?_
  refine zKj E rfl rfl (S.get pZ) rfl ?_
  exact ⟨_, rfl, by rw [shaF, ← hall, ← hhe]; simp only [S8.fs, Fs.agg, pairN_eq]; rfl, S.tail3.tr⟩
theorem sumof2_ret (D : zAj) (v : Value) (b : List UInt8) (hD : Rd D 1 v b.length (byt b)) (hbl : b.length ≤ 140737488352000) (As : List zAj) (hDA : D ∈ As) (hG : Tab As 2 shaK) (w0 : World) (H : Hp w0 As) :
  Ret Tryz.prog 96 #[.int .i64 2, v] w0 fun u w' => u = .tuple #[(shaF b).agg, .int .i64 0] ∧ Trs w0 w' As As := by
 have S := St.begin H
 refine zBx 21 Tryz.func96 rfl rfl dZ ?_; intro a E
 refine wp_seq_k ?_; intro K hK
 refine zAa ?_
 refine zAf rfl (zBs E S rfl rfl dZ rfl rfl rfl ?_); clear E S a; intro a w b4 E S
 refine zd E ?_; clear E a; intro a E
 refine wpList_nil ?_
 refine zAb hK ?_; clear hK K
 iterate 2 (refine wp_seq_k ?_; intro K hK)
 refine zAa ?_
 refine zd E ?_; clear E a; intro a E
 refine wpList_nil ?_
 refine zAb hK ?_; clear hK K
 refine wp_block ?_
 refine wp_seq_k ?_; intro K hK
 refine zAa ?_
 iterate 2 (refine zd E ?_; clear E a; intro a E)
 refine wpList_nil ?_
 refine zAb hK ?_; clear hK K
 refine zAt E rfl (rfl) ?_
 refine wp_seq_k ?_; intro K hK
 refine zAa ?_
 iterate 2 (refine zd E ?_; clear E a; intro a E)
 refine wpList_nil ?_
 refine zAb hK ?_; clear hK K
 refine zCk E rfl (rfl) ?_
 refine wp_seq_k ?_; intro K hK
 refine zAa ?_
 refine zd E ?_; clear E a; intro a E
 refine zAg E rfl rfl dZ rfl Tryz.func113 rfl yZ rfl (sha_ret D v b hD hbl As hDA hG _ S.tail.hp) ?_
 rintro v19 w ⟨rfl, hT⟩; clear E a; intro a E
 have S := St.under [_] S hT
 refine zAf rfl (zBr E S rfl rfl rfl rfl (by simp [Value.oneCell']) rfl pZ (by simp) ?_); clear E S a; intro a w E S; simp only [List.take_succ_cons, List.take_zero, List.drop_succ_cons, List.drop_zero, List.cons_append, List.nil_append, List.append_nil, List.length_cons, List.length_nil, Nat.zero_add, Nat.add_zero] at S
 refine zd E ?_; clear E a; intro a E
 refine wpList_nil ?_
 refine zAb hK ?_; clear hK K
 refine wp_ret ?_
 refine zDr ?_
 refine zBc ?_; clear hK K
 refine ret_ct E rfl rfl rfl (S.get pZ) rfl ?_
 exact ⟨_, rfl, rfl, S.tail.tr⟩
end Go.Proofs.YtpjidiaekifmbaaGreatDoor
namespace Go.Sl
def sumK (kind : Int) (b : List UInt8) : Fs × Int := if kind = 1 then (zEt b, 0) else if kind = 2 then (shaF b, 0) else (⟨0, 0, 0, 0⟩, 20)
theorem sumK_err {kind : Int} {b : List UInt8} : (sumK kind b).2 = 0 ↔ (kind = 1 ∨ kind = 2) := by
 unfold sumK
 split
 ·simp [*]
 ·split
  ·simp [*]
  ·simp [*]
def chkK (kind : Int) (s : Fs) (b : List UInt8) : Bool := decide ((sumK kind b).2 = 0) && s.eqB (sumK kind b).1
end Go.Sl
namespace Go.Proofs.YtpjidiaekifmbaaGreatDoor
open Go.Sl
set_option maxRecDepth 10000
section
variable (D : zAj) (v : Value) (b : List UInt8) (hD : Rd D 1 v b.length (byt b)) (hbl : b.length ≤ 140737488352000) (As : List zAj) (hDA : D ∈ As)
include hD hbl hDA
theorem sumK_ret (hG : Tab As 2 shaK) (kind : Int) (w0 : World) (H : Hp w0 As) :
  Ret Tryz.prog 96 #[.int .i64 kind, v] w0 fun u w' => u = .tuple #[(sumK kind b).1.agg, .int .i64 (sumK kind b).2] ∧ Trs w0 w' As As := by
 have S := St.begin H
 by_cases h1 : kind = 1
 ·subst h1
  obtain ⟨L1, L2, rfl⟩ := List.append_of_mem hDA
  have hp : (L1 ++ D :: L2).Perm (D :: (L1 ++ L2)) := List.perm_middle
  refine (sumof_ret D v b hD oZ w0 ((S.perm hp).hp.sel sZ)).mono fun u w' ⟨hu, hT⟩ => ?_
  exact ⟨hu, (((S.perm hp).call1 sZ hT).perm hp.symm).tr⟩
 by_cases h2 : kind = 2
 ·subst h2
  exact sumof2_ret D v b hD hbl As hDA hG w0 H
 refine zBx 21 Tryz.func96 rfl rfl dZ ?_; intro a E
 refine wp_seq_k ?_; intro K hK
 refine zAa ?_
 refine zAf rfl (zBs E S rfl rfl dZ rfl rfl rfl ?_); clear E S a; intro a w b4 E S
 refine zd E ?_; clear E a; intro a E
 refine wpList_nil ?_
 refine zAb hK ?_; clear hK K
 iterate 2 (refine wp_seq_k ?_; intro K hK)
 refine zAa ?_
 refine zd E ?_; clear E a; intro a E
 refine wpList_nil ?_
 refine zAb hK ?_; clear hK K
 refine wp_block ?_
 refine wp_seq_k ?_; intro K hK
 refine zAa ?_
 iterate 2 (refine zd E ?_; clear E a; intro a E)
 refine wpList_nil ?_
 refine zAb hK ?_; clear hK K
 refine zAt E rfl ((by simpa using h1)) ?_
 refine wp_seq_k ?_; intro K hK
 refine zAa ?_
 iterate 2 (refine zd E ?_; clear E a; intro a E)
 refine wpList_nil ?_
 refine zAb hK ?_; clear hK K
 refine zAt E rfl ((by simpa using h2)) ?_
 refine wp_skip ?_
 refine zAq ?_
 refine zAb hK ?_; clear hK K
 refine wp_seq_k ?_; intro K hK
 refine zAa ?_
 refine zp E (zBt (cells := [_, _, _, _]) E rfl rfl rfl) ?_; clear E a; intro a E
 refine zAf rfl (zBr E S rfl rfl rfl rfl (by simp [Value.oneCell']) rfl pZ (by simp) ?_); clear E S a; intro a w E S; simp only [List.take_succ_cons, List.take_zero, List.drop_succ_cons, List.drop_zero, List.cons_append, List.nil_append, List.append_nil, List.length_cons, List.length_nil, Nat.zero_add, Nat.add_zero] at S
 refine zd E ?_; clear E a; intro a E
 refine wpList_nil ?_
 refine zAb hK ?_; clear hK K
 refine wp_ret ?_
 refine ret_ct E rfl rfl rfl (S.get pZ) rfl ?_
 exact ⟨_, rfl, by unfold sumK; rw [if_neg h1, if_neg h2]; rfl, S.tail.tr⟩
theorem chkK_ret (hG : Tab As 2 shaK) (kind : Int) (s : Fs) (w0 : World) (H : Hp w0 As) :
  Ret Tryz.prog 93 #[.int .i64 kind, s.agg, v] w0 fun u w' => u = .bool (chkK kind s b) ∧ Trs w0 w' As As := by
 have S := St.begin H
 obtain ⟨z, hz⟩ : ∃ z, z = sumK kind b := ⟨_, rfl⟩
 by_cases h0 : z.2 = 0
 ·have hs : chkK kind s b = s.eqB z.1 := by unfold chkK; rw [← hz, h0]; rfl
  rw [hs]
  refine zDi 22 Tryz.func93 rfl rfl dZ ?_; intro a E
  refine wp_seq_k ?_; intro K hK
  refine zAa ?_
  refine zAf rfl (zBz E S rfl rfl dZ rfl rfl ?_); clear E S a; intro a w b4 E S
  refine zd E ?_; clear E a; intro a E
  refine wpList_nil ?_
  refine zAb hK ?_; clear hK K
  refine wp_seq_k ?_; intro K hK
  refine zAa ?_
  iterate 2 (refine zd E ?_; clear E a; intro a E)
  refine zAg E rfl rfl dZ rfl Tryz.func96 rfl yZ rfl (sumK_ret D v b hD hbl As hDA hG kind _ S.tail.hp) ?_
  rintro v12 w ⟨rfl, hT⟩; clear E a; intro a E
  have S := St.under [_] S hT; rw [← hz, h0] at E
  iterate 3 (refine zd E ?_; clear E a; intro a E)
  refine zAf rfl (zBs E S rfl rfl dZ rfl rfl rfl ?_); clear E S a; intro a w b7 E S
  refine zAf rfl (zBr E S rfl rfl rfl rfl (by simp [Value.oneCell']) rfl pZ (by simp) ?_); clear E S a; intro a w E S; simp only [List.take_succ_cons, List.take_zero, List.drop_succ_cons, List.drop_zero, List.cons_append, List.nil_append, List.append_nil, List.length_cons, List.length_nil, Nat.zero_add, Nat.add_zero] at S
  refine zd E ?_; clear E a; intro a E
  refine wpList_nil ?_
  refine zAb hK ?_; clear hK K
  refine wp_seq_k ?_; intro K hK
  refine zAa ?_
  iterate 3 (refine zd E ?_; clear E a; intro a E)
  refine zCb E (t := 17) rfl (rfl) (fun hb17 => ?_)
  iterate 2 (refine zy E hb17 (zBf (vs := [_, _, _, _]) E rfl rfl rfl (S.get pZ) rfl rfl) ?_; clear E a; intro a E)
  refine zy E hb17 (by first | exact zKh E rfl rfl rfl rfl yZ yZ rfl rfl rfl | exact zIz E rfl rfl rfl rfl yZ yZ rfl) ?_; clear E a; intro a E
  refine zp E (zAi E rfl rfl hb17 rfl) ?_; clear E a; intro a E
  refine zd E ?_; clear E a; intro a E
  refine wpList_nil ?_
  refine zAb hK ?_; clear hK K
  refine wp_ret ?_
  refine ret1 E rfl rfl ?_
  exact ⟨_, rfl, rfl, S.tail.tail.tr⟩
 ·have hs : chkK kind s b = false := by unfold chkK; rw [← hz, decide_eq_false h0]; rfl
  rw [hs]
  refine zDi 22 Tryz.func93 rfl rfl dZ ?_; intro a E
  refine wp_seq_k ?_; intro K hK
  refine zAa ?_
  refine zAf rfl (zBz E S rfl rfl dZ rfl rfl ?_); clear E S a; intro a w b4 E S
  refine zd E ?_; clear E a; intro a E
  refine wpList_nil ?_
  refine zAb hK ?_; clear hK K
  refine wp_seq_k ?_; intro K hK
  refine zAa ?_
  iterate 2 (refine zd E ?_; clear E a; intro a E)
  refine zAg E rfl rfl dZ rfl Tryz.func96 rfl yZ rfl (sumK_ret D v b hD hbl As hDA hG kind _ S.tail.hp) ?_
  rintro v12 w ⟨rfl, hT⟩; clear E a; intro a E
  have S := St.under [_] S hT; rw [← hz] at E
  iterate 3 (refine zd E ?_; clear E a; intro a E)
  refine zAf rfl (zBs E S rfl rfl dZ rfl rfl rfl ?_); clear E S a; intro a w b7 E S
  refine zAf rfl (zBr E S rfl rfl rfl rfl (by simp [Value.oneCell']) rfl pZ (by simp) ?_); clear E S a; intro a w E S; simp only [List.take_succ_cons, List.take_zero, List.drop_succ_cons, List.drop_zero, List.cons_append, List.nil_append, List.append_nil, List.length_cons, List.length_nil, Nat.zero_add, Nat.add_zero] at S
  refine zd E ?_; clear E a; intro a E
  refine wpList_nil ?_
  refine zAb hK ?_; clear hK K
  refine wp_seq_k ?_; intro K hK
  refine zAa ?_
  iterate 3 (refine zd E ?_; clear E a; intro a E)
  refine zBg E (t := 17) rfl ((by simpa using h0)) (fun hb17 => ?_)
  iterate 3 (refine zn E hb17 ?_; clear E a; intro a E)
  refine zp E (zAk E rfl rfl hb17 rfl) ?_; clear E a; intro a E
  refine zd E ?_; clear E a; intro a E
  refine wpList_nil ?_
  refine zAb hK ?_; clear hK K
  refine wp_ret ?_
  refine ret1 E rfl rfl ?_
  exact ⟨_, rfl, rfl, S.tail.tail.tr⟩
end
end Go.Proofs.YtpjidiaekifmbaaGreatDoor
namespace Go.Sl
def patS (D : List Nat) (a : Nat) (b : List UInt8) (ds : List Dk) : List Dk := ds.map fun y => if y.d ∈ D then { y with now := zHd y.now a b } else y
theorem patS_d (D : List Nat) (a : Nat) (b : List UInt8) (ds : List Dk) : (patS D a b ds).map Dk.d = ds.map Dk.d := by
 rw [patS, List.map_map]
 refine List.map_congr_left fun y _ => ?_
 simp only [Function.comp]; split <;> rfl
theorem patS_has {D : List Nat} {a : Nat} {b : List UInt8} {ds : List Dk} {x : Dk} (hx : x ∈ ds) : (if x.d ∈ D then { x with now := zHd x.now a b } else x) ∈ patS D a b ds := List.mem_map.2 ⟨x, hx, rfl⟩
structure LaidOn (R : Rk) (D : List Nat) (a : Nat) (b : List UInt8) (R' : Rk) : Prop where
 on : On R'
 ds : R'.ds = patS D a b R.ds
 ws : R'.ws.length ≤ R.ws.length + 8 * D.length
 wr : R'.pw.wr ≤ R.pw.wr + 8 * D.length
theorem LaidOn.nil {R : Rk} (hO : On R) (a : Nat) (b : List UInt8) : LaidOn R [] a b R :=
 ⟨hO, by simp [patS], by simp, by simp⟩
theorem LaidOn.has {R R' : Rk} {D : List Nat} {a : Nat} {b : List UInt8} (h : LaidOn R D a b R') {d : Nat} (hd : R.has d) : R'.has d := by
 obtain ⟨x, h1, h2⟩ := hd
 have := patS_has (D := D) (a := a) (b := b) h1
 rw [← h.ds] at this
 exact ⟨_, this, by split <;> exact h2⟩
theorem LaidOn.nodup {R R' : Rk} {D : List Nat} {a : Nat} {b : List UInt8} (h : LaidOn R D a b R') (hnd : (R.ds.map Dk.d).Nodup) : (R'.ds.map Dk.d).Nodup := by
 rw [h.ds, patS_d]; exact hnd
theorem LaidOn.at {R R' : Rk} {D : List Nat} {a : Nat} {b : List UInt8} (h : LaidOn R D a b R') (hnd : (R.ds.map Dk.d).Nodup) {d : Nat} (hd : R.has d) :
  dkOf R' d = if d ∈ D then { dkOf R d with now := zHd (dkOf R d).now a b } else dkOf R d := by
 obtain ⟨h1, h2⟩ := zCw hd
 have h3 := patS_has (D := D) (a := a) (b := b) h1
 rw [← h.ds, h2] at h3
 have h4 := dkOf_eq (h.nodup hnd) h3
 split at h4
 ·rename_i q; rw [if_pos q]
  rw [h4]
  generalize dkOf R d = z at h2
  cases z; simp only at h2; subst h2; rfl
 ·rename_i q; rw [if_neg q]
  rw [h2] at h4; exact h4
theorem LaidOn.more {R R' : Rk} {D : List Nat} {a : Nat} {b : List UInt8} (h : LaidOn R D a b R') (hnd : (R.ds.map Dk.d).Nodup) (hok : ∀ x ∈ R.ds, x.now.length = x.pl.length) {d : Nat} (hd : R.has d) (hD : d ∉ D)
  (hf : (dkOf R d).failed = false) {at_ : Int} (ha : a = (274 + at_).toNat) (hb : b.length % 128 = 0) (hb8 : b.length / 128 ≤ 8) (hfit : zIb (dkOf R d) at_ (b.length / 128 : Nat)) :
  (zDg R' (dkOf R' d) at_ b).2 = 0 ∧ LaidOn R (D ++ [d]) a b (zDg R' (dkOf R' d) at_ b).1 := by
 have he : dkOf R' d = dkOf R d := by rw [h.at hnd hd, if_neg hD]
 obtain ⟨h1, h2⟩ := zCw hd
 have g1 := hok _ h1
 have hask : zJi R' (dkOf R d) = 0 := by unfold zJi; rw [h.on.off, hf]; rfl
 obtain ⟨f1, f2, f3, f4⟩ := hfit
 have hl : zEa (dkOf R d) = (((dkOf R d).pl.length / 128 : Nat) : Int) - 292 := rfl
 have hm : zDy (dkOf R d).pl.length (274 + at_) b := by
  unfold zDy; refine ⟨hb, by omega, by omega, by omega⟩
 obtain ⟨e1, t, e2, e3, e4⟩ := write_on h.on hf g1 hm
 have hw : zDg R' (dkOf R' d) at_ b = (R'.write (dkOf R d) (274 + at_) b, R'.writeE (dkOf R d) (274 + at_) b) := by
  rw [he]; unfold zDg; rw [if_neg (fun q => q hask), if_neg (fun q => q.elim (fun q => q hb) (fun q => q ⟨f1, f2, f3, f4⟩))]
 rw [hw]
 refine ⟨e1, ?_⟩
 rw [e2]
 refine ⟨⟨rfl, rfl⟩, ?_, ?_, ?_⟩
 ·show setD R'.ds _ _ = _
  rw [h.ds, h2, setD, patS, patS, List.map_map]
  refine List.map_congr_left fun y hy => ?_
  simp only [Function.comp, List.mem_append, List.mem_singleton]
  by_cases hyd : y.d = d
  ·have : y = dkOf R d := zGx hnd hy h1 (hyd.trans h2.symm)
   rw [if_neg (show y.d ∉ D by rw [hyd]; exact hD), if_pos hyd, if_pos (Or.inr hyd), ha, this]
  ·by_cases hyD : y.d ∈ D
   ·rw [if_pos hyD, if_neg hyd, if_pos (Or.inl hyD)]
   ·rw [if_neg hyD, if_neg hyd, if_neg (fun q => q.elim hyD hyd)]
 ·show (R'.ws ++ t).length ≤ _
  rw [List.length_append, List.length_append]
  have := h.ws
  simp only [List.length_singleton]; omega
 ·show R'.pw.wr + b.length / 128 ≤ _
  have := h.wr
  rw [List.length_append]
  simp only [List.length_singleton]; omega
abbrev lvs (xs : List (Nat × Nat)) : List Lf := xs.map some
theorem zKs {xs : List (Nat × Nat)} {i : Nat} (hi : i < xs.length) : (lvs xs)[i]? = some (some xs[i]) := by simp [lvs, hi]
theorem rk_shape {P : Nat} {R : Rk} {C : zAj} (hC : Go.Proofs.YtpjidiaekifmbaaGreatDoor.RkC P R C) : (R.ds.map Dk.d).Nodup ∧ ∀ x ∈ R.ds, x.now.length = x.pl.length :=
 ⟨hC.ok.1.1, fun x hx => (hC.ok.1.2 x hx).1⟩
end Go.Sl
namespace Go.Proofs.YtpjidiaekifmbaaGreatDoor
open Go.Sl
set_option maxRecDepth 10000
section
variable (P : Nat) (R : Rk) (C : zAj) (hC : RkC P R C) (hO : On R) (xs : List (Nat × Nat)) (hx5 : xs.length ≤ 5) (hnd : (xs.map Prod.snd).Nodup) (Lv : zAj) (hLv : LvC (lvs xs) Lv) (hds : ∀ x ∈ xs, R.has x.2) (hnf : ∀ x ∈ xs, (dkOf R x.2).failed = false)
 (z : Int) (hz : ∀ x ∈ xs, zEa (dkOf R x.2) = z) (hz0 : 0 ≤ z ∧ z ≤ 8192) (hws : R.ws.length + 10000 ≤ 244335861110) (hwr : R.pw.wr + 10000 ≤ 1000000000000000000)
 (t : Nat) (vl vk : Value) (CL : zAj) (hCL : Buf CL 53 1 vl xs.length ((lvs xs).map lv)) (at_ : Int) (ha : -9223372036854775808 ≤ at_ ∧ at_ ≤ 9223372036854775807) (b : List UInt8) (v : Value) (D : zAj) (hD : Rd D 1 v b.length (byt b))
include hC hO hx5 hnd hLv hds hnf hz hz0 hws hwr hCL ha hD
end
end Go.Proofs.YtpjidiaekifmbaaGreatDoor
namespace Go.Sl
def secC (y : Dk) (a n k : Nat) : List UInt8 := ((y.now.drop (a * 128)).take (n * 128)).take k
theorem lfRead_on {R : Rk} (hoff : R.pw.off = false) {y : Dk} (hnw : y.now.length = y.pl.length) {at_ : Int} {n : Nat} (hfit : zIb y at_ n) :
  zFl R y at_ n = if y.failed then (30, []) else (0, (y.now.drop ((274 + at_).toNat * 128)).take (n * 128)) := by
 obtain ⟨f1, f2, f3, f4⟩ := id hfit
 have hl : zEa y = ((y.pl.length / 128 : Nat) : Int) - 292 := rfl
 unfold zFl zJi
 rw [hoff]
 cases hf : y.failed with
 | true => simp
 | false =>
  rw [if_neg (by simp), if_neg (fun q => q hfit)]
  unfold rdS
  rw [hoff, if_neg (by simp), if_neg (by simp), if_neg]
  ·simp
  ·intro q; exact q ⟨by omega, by omega, by omega, by omega⟩
def rdC (R : Rk) (a n k : Nat) (x : Nat × Nat) : Option (List UInt8) := if (dkOf R x.2).failed then none else some (secC (dkOf R x.2) a n k)
end Go.Sl
namespace Go.Proofs.YtpjidiaekifmbaaGreatDoor
open Go.Sl
set_option maxRecDepth 10000
def GdB (v : Value) (C : zAj) : Option (List UInt8) → Prop
 | none => v = .slice none 0 0 ∧ C = []
 | some c => 0 < c.length ∧ Buf C 5 1 v c.length (byt c)
theorem GdB.slice {v : Value} {C : zAj} {o : Option (List UInt8)} (h : GdB v C o) : ∃ ad k c, v = .slice ad k c := by
 cases o with
 | none => exact ⟨_, _, _, h.1⟩
 | some b => obtain ⟨ad, c, e⟩ := h.2.slice; exact ⟨ad, _, c, e⟩
theorem Buf.pre {C : zAj} {T : TypeId} {k n c : Nat} {g : Nat} {b : List UInt8} (h : Buf C T 1 (.slice (some ⟨g, 0, none⟩) n c) n (byt b)) (hk : k ≤ n) : Buf C T 1 (.slice (some ⟨g, 0, none⟩) k c) k (byt (b.take k)) := by
 obtain ⟨h1, h2, h3⟩ := h
 rw [zAv] at h1
 refine ⟨by rw [zAv, List.length_take]; omega, zCq _, ?_⟩
 rcases h3 with ⟨e1, e2, e3⟩ | ⟨g', c', r, e1, e2, e3, e4, e5⟩
 ·cases e1
 ·cases e1
  rw [zAv] at e5
  refine .inr ⟨g, c, byt (b.drop k) ++ r, rfl, ?_, by omega, e4, ?_⟩
  ·rw [e2, ← List.append_assoc, ← zBw, List.take_append_drop]
  ·rw [List.length_append, zAv, zAv, List.length_drop, List.length_take]; omega
theorem sliced_pre (g k c : Nat) : sliced (some ⟨g, 0, none⟩) 0 k c 1 = .slice (some ⟨g, 0, none⟩) k c := by
 simp [sliced, Addr.add_lit]
end Go.Proofs.YtpjidiaekifmbaaGreatDoor
namespace Go.Sl
end Go.Sl
namespace Go.Proofs.YtpjidiaekifmbaaGreatDoor
open Go.Sl
set_option maxRecDepth 10000
def GdR (v : Value) (C : zAj) : Option (List UInt8) → Prop
 | none => v = .slice none 0 0
 | some c => 0 < c.length ∧ Rd C 1 v c.length (byt c) ∧ ∃ ad k, v = .slice ad c.length k ∧ c.length ≤ k
theorem GdR.slice {v : Value} {C : zAj} {o : Option (List UInt8)} (h : GdR v C o) : ∃ ad k c, v = .slice ad k c ∧ k ≤ c := by
 cases o with
 | none => exact ⟨_, _, _, h, Nat.le_refl _⟩
 | some b => obtain ⟨ad, c, e, h1⟩ := h.2.2; exact ⟨ad, _, c, e, h1⟩
section
variable (P : Nat) (R : Rk) (C : zAj) (hC : RkC P R C) (hO : On R) (xs : List (Nat × Nat)) (hx5 : xs.length ≤ 5) (hnd : (xs.map Prod.snd).Nodup) (Lv : zAj) (hLv : LvC (lvs xs) Lv) (hds : ∀ x ∈ xs, R.has x.2)
  (z : Int) (hz : ∀ x ∈ xs, zEa (dkOf R x.2) = z) (hz0 : 0 ≤ z ∧ z ≤ 8192) (hws : R.ws.length + 10000 ≤ 244335861110) (hwr : R.pw.wr + 10000 ≤ 1000000000000000000)
  (t : Nat) (vl vk : Value) (CL : zAj) (hCL : Buf CL 53 1 vl xs.length ((lvs xs).map lv)) (G : zAj) (hG : Tab [G] 2 shaK)
  (at_ : Int) (ha : -9223372036854775808 ≤ at_ ∧ at_ ≤ 9223372036854775807) (bl : Nat) (hfit : fitsM z at_ bl) (kind : Int) (hk : kind = 1 ∨ kind = 2) (s : Fs)
include hC hO hx5 hnd hLv hds hz hz0 hws hwr hCL hG ha hfit hk
end
end Go.Proofs.YtpjidiaekifmbaaGreatDoor
namespace Go.Sl
def All2 {α β : Type} (P : α → β → Prop) (al : List α) (bl : List β) : Prop := al.length = bl.length ∧ ∀ (i : Nat) (a : α) (b : β), al[i]? = some a → bl[i]? = some b → P a b
section
variable {α β : Type} {P Q : α → β → Prop} {al al2 : List α} {bl bl2 : List β} {a : α} {b : β}
theorem All2.nil : All2 P [] [] := ⟨rfl, fun i a b h => by simp at h⟩
theorem All2.imp (h : All2 P al bl) (k : ∀ a b, P a b → Q a b) : All2 Q al bl := ⟨h.1, fun i a b h1 h2 => k a b (h.2 i a b h1 h2)⟩
theorem All2.snoc (h : All2 P al bl) (k : P a b) : All2 P (al ++ [a]) (bl ++ [b]) := by
 refine ⟨by simp [h.1], fun i x y h1 h2 => ?_⟩
 have hl := h.1
 by_cases hi : i < al.length
 ·rw [List.getElem?_append_left hi] at h1
  rw [List.getElem?_append_left oZ] at h2
  exact h.2 i x y h1 h2
 ·rw [List.getElem?_append_right oZ] at h1
  rw [List.getElem?_append_right oZ] at h2
  have hi2 : i - al.length = 0 := by have := (List.getElem?_eq_some_iff.1 h1).1; simp at this; omega
  rw [hi2] at h1
  rw [show i - bl.length = 0 by omega] at h2
  simp at h1 h2
  rw [← h1, ← h2]; exact k
theorem All2.set (h : All2 P al bl) (i : Nat) (k : P a b) : All2 P (al.set i a) (bl.set i b) := by
 refine ⟨by simp [h.1], fun j x y h1 h2 => ?_⟩
 rw [List.getElem?_set] at h1 h2
 have hl := h.1
 split at h1
 ·split at h1
  ·rename_i q1 q2
   rw [if_pos q1, if_pos oZ] at h2
   cases h1; cases h2; exact k
  ·cases h1
 ·rename_i q1
  rw [if_neg q1] at h2
  exact h.2 j x y h1 h2
theorem All2.get (h : All2 P al bl) {i : Nat} (hi : i < al.length) : ∃ a b, al[i]? = some a ∧ bl[i]? = some b ∧ P a b := by
 have hl := h.1
 have h1 := List.getElem?_eq_getElem hi
 have h2 := List.getElem?_eq_getElem (show i < bl.length by omega)
 exact ⟨_, _, h1, h2, h.2 i _ _ h1 h2⟩
theorem All2.at (h : All2 P al bl) {i : Nat} (hi : al[i]? = some a) : ∃ b, bl[i]? = some b ∧ P a b := by
 have hl := h.1
 have h0 := (List.getElem?_eq_some_iff.1 hi).1
 have h2 := List.getElem?_eq_getElem (show i < bl.length by omega)
 exact ⟨_, h2, h.2 i _ _ hi h2⟩
end
structure Dd where
 b : Nat
 vp : Value
 C : zAj
 vs : List Value
 f : Bool
structure Dw where
 k : Nat
 at_ : Nat
 v : Value
def Dw.lay (x : Dw) : List Value := [.int .i64 x.k, .int .i64 x.at_, x.v]
theorem Dw.lay_len (x : Dw) : x.lay.length = 3 := rfl
theorem zGs {α : Type} {l : List α} {i : Nat} {a : α} (h : l[i]? = some a) : ∃ A B, l = A ++ a :: B ∧ A.length = i := by
 obtain ⟨hi, rfl⟩ := List.getElem?_eq_some_iff.1 h
 refine ⟨l.take i, l.drop (i + 1), ?_, by rw [List.length_take]; omega⟩
 rw [← List.drop_eq_getElem_cons hi, List.take_append_drop]
theorem set_mid {α : Type} {A B : List α} {a b : α} : (A ++ a :: B).set A.length b = A ++ b :: B := by simp
end Go.Sl
namespace Go.Proofs.YtpjidiaekifmbaaGreatDoor
open Go.Sl
set_option maxRecDepth 10000
abbrev qcl (s : Pw) (vd vw : Value) : Obj := cel [vd, vw, .int .i64 s.left, .bool s.off, .int .i64 s.wr] 137
abbrev dd1 (y : Dd) : zAj := [(y.b, cel [y.vp, .bool y.f] 140)]
def dch (ys : List Dd) : List zAj := ys.flatMap fun y => [dd1 y, y.C]
theorem dch_open (X Y Z V : zAj) (A B : List Dd) (y : Dd) (As : List zAj) : (X :: Y :: Z :: V :: (dch (A ++ y :: B) ++ As)).Perm (dd1 y :: y.C :: X :: Y :: Z :: V :: (dch (A ++ B) ++ As)) := by
 have e1 : dch (A ++ y :: B) ++ As = dch A ++ (dd1 y :: y.C :: (dch B ++ As)) := by simp [dch]
 have e2 : dch (A ++ B) ++ As = dch A ++ (dch B ++ As) := by simp [dch]
 rw [e1, e2]
 have h : ∀ (l : List zAj) (a : zAj) (r : List zAj), (X :: Y :: Z :: V :: (l ++ a :: r)).Perm (a :: X :: Y :: Z :: V :: (l ++ r)) := fun l a r =>
  (List.perm_middle (l₁ := X :: Y :: Z :: V :: l) (a := a) (l₂ := r))
 exact (h _ _ _).trans ((h _ _ _).cons _)
def DdOk (J : zAj) (x : Dk) (y : Dd) : Prop := y.f = x.failed ∧ Buf y.C 22 1 y.vp y.vs.length y.vs ∧ 128 * y.vs.length = x.pl.length ∧ ∀ i v, y.vs[i]? = some v → Rd J 1 v 128 (byt (secB x.pl i))
def DwOk (J : zAj) (ds : List Dk) (w : Wt) (u : Dw) : Prop := (∃ x, ds[u.k]? = some x ∧ x.d = w.d) ∧ u.at_ = w.at_ ∧ Rd J 1 u.v 128 (byt w.b)
theorem DdOk.sub {J J' : zAj} {x : Dk} {y : Dd} (h : DdOk J x y) (k : ∀ c ∈ J, c ∈ J') : DdOk J' x y := ⟨h.1, h.2.1, h.2.2.1, fun i v hv => (h.2.2.2 i v hv).sub k⟩
theorem DwOk.sub {J J' : zAj} {ds : List Dk} {w : Wt} {u : Dw} (h : DwOk J ds w u) (k : ∀ c ∈ J, c ∈ J') : DwOk J' ds w u := ⟨h.1, h.2.1, h.2.2.sub k⟩
abbrev RfL (q : Nat) (s : Pw) (vd vw : Value) (Cd Cw J : zAj) (ys : List Dd) : List zAj := [(q, qcl s vd vw)] :: Cd :: Cw :: J :: dch ys
def RfC (q : Nat) (R : Rk) (C : zAj) : Prop :=
 ∃ vd vw Cd Cw J ys us, Buf Cd 138 1 vd ys.length (ys.map fun y => ptr y.b) ∧ Buf Cw 177 3 vw us.length (us.flatMap Dw.lay) ∧ All2 (DdOk J) R.ds ys ∧ All2 (DwOk J R.ds) R.ws us ∧ C = (RfL q R.pw vd vw Cd Cw J ys).flatten
section
variable {w0 w : World} {As Ls : List zAj} {q : Nat} {s : Pw} {vd vw : Value} {Cd Cw J : zAj} {A B ys : List Dd} {y : Dd}
theorem rf_open (S : St w0 As w ((RfL q s vd vw Cd Cw J ys).flatten :: Ls)) : St w0 As w ([(q, qcl s vd vw)] :: Cd :: Cw :: J :: (dch ys ++ Ls)) := S.openF
theorem zGf (S : St w0 As w ([(q, qcl s vd vw)] :: Cd :: Cw :: J :: (dch ys ++ Ls))) : St w0 As w ((RfL q s vd vw Cd Cw J ys).flatten :: Ls) := St.closeF (Ms := RfL q s vd vw Cd Cw J ys) S
theorem rf_out (S : St w0 As w ([(q, qcl s vd vw)] :: Cd :: Cw :: J :: (dch (A ++ y :: B) ++ Ls))) : St w0 As w ([(q, qcl s vd vw)] :: Cd :: Cw :: J :: dd1 y :: y.C :: (dch (A ++ B) ++ Ls)) := by
 have S := S.perm (dch_open _ _ _ _ A B y Ls)
 exact S.front6 (A := [(q, qcl s vd vw)]) pZ (B := Cd) pZ (C := Cw) pZ (D := J) pZ (F := dd1 y) pZ (G := y.C) pZ
theorem rf_in (S : St w0 As w ([(q, qcl s vd vw)] :: Cd :: Cw :: J :: dd1 y :: y.C :: (dch (A ++ B) ++ Ls))) : St w0 As w ([(q, qcl s vd vw)] :: Cd :: Cw :: J :: (dch (A ++ y :: B) ++ Ls)) := by
 have S := S.front6 (A := dd1 y) pZ (B := y.C) pZ (C := [(q, qcl s vd vw)]) pZ (D := Cd) pZ (F := Cw) pZ (G := J) pZ
 exact S.perm (dch_open _ _ _ _ A B y Ls).symm
end
theorem qnew_ret (w0 : World) : Ret Tryz.prog 25 #[] w0 fun u w' => ∃ q C, u = ptr q ∧ RfC q ⟨⟨-1, false, 0⟩, [], []⟩ C ∧ Trs w0 w' [] [C] := by
 have S := St.begin (zDz w0)
 refine zLj 3 Tryz.func25 rfl rfl ?_; intro a E
 refine wp_seq_k ?_; intro K hK
 refine zAa ?_
 refine zd E ?_; clear E a; intro a E
 refine wpList_nil ?_
 refine zAb hK ?_; clear hK K
 refine wp_seq_k ?_; intro K hK
 refine zAa ?_
 refine zp E (zBt (cells := [_, _, _, _, _]) E rfl rfl rfl) ?_; clear E a; intro a E
 refine zAf rfl (zBz E S rfl rfl dZ rfl rfl ?_); clear E S a; intro a w b2 E S
 refine zd E ?_; clear E a; intro a E
 refine wpList_nil ?_
 refine zAb hK ?_; clear hK K
 refine wp_ret ?_
 refine ret1 E rfl rfl ?_
 exact ⟨_, rfl, b2, _, rfl, ⟨.slice none 0 0, .slice none 0 0, [], [], [], [], [], Buf.nil _ _, Buf.nil _ _, All2.nil, All2.nil, rfl⟩, by have h := S.tr; simp only [dch, List.flatMap_nil, List.flatten_cons, List.flatten_nil, List.append_nil]; exact h⟩
theorem noughts_ret (w0 : World) : Ret Tryz.prog 58 #[] w0 fun u w' => ∃ v C, u = v ∧ Buf C 5 1 v 128 (byt (List.replicate 128 0)) ∧ Trs w0 w' [] [C] := by
 have S := St.begin (zDz w0)
 refine zLj 2 Tryz.func58 rfl rfl ?_; intro a E
 refine wp_seq_k ?_; intro K hK
 refine zAa ?_
 refine zd E ?_; clear E a; intro a E
 refine wpList_nil ?_
 refine zAb hK ?_; clear hK K
 refine wp_seq_k ?_; intro K hK
 refine zAa ?_
 refine zAf rfl (zCn (by' := 1) E S rfl rfl dZ rfl rfl rfl rfl rfl rfl rfl rfl rfl rfl rfl dZ dZ ?_); clear E S a; intro a w g1 E S
 rw [show List.replicate 128 (Value.int .u8 0) = byt (List.replicate 128 0) from (zFd 128).symm] at S
 refine zd E ?_; clear E a; intro a E
 refine wpList_nil ?_
 refine zAb hK ?_; clear hK K
 refine wp_ret ?_
 refine ret1 E rfl rfl ?_
 have hB := zHf (g := g1) (c := 128) (s := 1) (m := 128) (T := 5) (xs := byt (List.replicate 128 0)) (r := []) (by rw [zAv, List.length_replicate]) (zCq _) (Nat.le_refl _) dZ (by rw [zAv, List.length_replicate]; rfl)
 rw [List.append_nil] at hB
 exact ⟨_, rfl, _, _, rfl, hB, S.tr⟩
theorem qdown_ret (q : Nat) (s : Pw) (vd vw : Value) (Cd : zAj) (ys : List Dd) (hCd : Buf Cd 138 1 vd ys.length (ys.map fun y => ptr y.b)) (n : Nat) (y : Dd) (hy : ys[n]? = some y) (w0 : World) (H : Hp w0 [[(q, qcl s vd vw)], Cd, dd1 y]) :
  Ret Tryz.prog 90 #[ptr q, .int .i64 n] w0 fun u w' => u = .int .i64 (flE s y.f) ∧ Trs w0 w' [[(q, qcl s vd vw)], Cd, dd1 y] [[(q, qcl s vd vw)], Cd, dd1 y] := by
 have S := St.begin H
 obtain ⟨add, cd, rfl⟩ := hCd.slice
 have hn : n < ys.length := (List.getElem?_eq_some_iff.1 hy).1
 obtain ⟨gd, rfl⟩ := hCd.addr oZ
 refine zBx 19 Tryz.func90 rfl rfl dZ ?_; intro a E
 refine wp_seq_k ?_; intro K hK
 refine zAa ?_
 refine zd E ?_; clear E a; intro a E
 refine wpList_nil ?_
 refine zAb hK ?_; clear hK K
 iterate 2 (refine wp_seq_k ?_; intro K hK)
 refine zAa ?_
 iterate 2 (refine zd E ?_; clear E a; intro a E)
 refine zp E (by first | exact zAc (q := 3) E rfl rfl rfl | exact zAd (q := 3) E rfl rfl rfl) ?_; clear E a; intro a E
 refine zd E ?_; clear E a; intro a E
 refine wpList_nil ?_
 refine zAb hK ?_; clear hK K
 refine zAs E rfl (fun hb => ?_) (fun hb => ?_)
 ·replace hb := Nrm.nrm hb
  refine wp_seq_k ?_; intro K hK
  refine zAa ?_
  refine zd E ?_; clear E a; intro a E
  refine wpList_nil ?_
  refine zAb hK ?_; clear hK K
  refine wp_ret ?_
  refine zBc ?_; clear hK K
  refine ret1 E rfl rfl ?_
  exact ⟨_, rfl, by unfold flE; simp [*], S.tr⟩
 ·replace hb := Nrm.nrm hb
  refine wp_skip ?_
  refine zAb hK ?_; clear hK K
  iterate 2 (refine wp_seq_k ?_; intro K hK)
  refine zAa ?_
  iterate 2 (refine zd E ?_; clear E a; intro a E)
  refine zp E (by first | exact zAc (q := 0) E rfl rfl rfl | exact zAd (q := 0) E rfl rfl rfl) ?_; clear E a; intro a E
  iterate 2 (refine zd E ?_; clear E a; intro a E)
  refine zp E (zAp (i := n) E rfl rfl rfl rfl rfl rfl oZ) ?_; clear E a; intro a E
  refine zp E (zAo E rfl rfl rfl (hCd.rd.cells (S.stab.at mZ) rfl n (ptr y.b) (by rw [List.getElem?_map, hy]; rfl))) ?_; clear E a; intro a E
  refine zd E ?_; clear E a; intro a E
  refine zp E (by first | exact zAc (q := 1) E rfl rfl rfl | exact zAd (q := 1) E rfl rfl rfl) ?_; clear E a; intro a E
  refine zd E ?_; clear E a; intro a E
  refine wpList_nil ?_
  refine zAb hK ?_; clear hK K
  refine zAs E rfl (fun hb => ?_) (fun hb => ?_)
  ·replace hb := Nrm.nrm hb
   refine wp_seq_k ?_; intro K hK
   refine zAa ?_
   refine zd E ?_; clear E a; intro a E
   refine wpList_nil ?_
   refine zAb hK ?_; clear hK K
   refine wp_ret ?_
   refine zBc ?_; clear hK K
   refine ret1 E rfl rfl ?_
   exact ⟨_, rfl, by unfold flE; simp [*], S.tr⟩
  ·replace hb := Nrm.nrm hb
   refine wp_skip ?_
   refine zAb hK ?_; clear hK K
   refine wp_seq_k ?_; intro K hK
   refine zAa ?_
   refine zd E ?_; clear E a; intro a E
   refine wpList_nil ?_
   refine zAb hK ?_; clear hK K
   refine wp_ret ?_
   refine ret1 E rfl rfl ?_
   exact ⟨_, rfl, by unfold flE; simp [*], S.tr⟩
end Go.Proofs.YtpjidiaekifmbaaGreatDoor
namespace Go.Sl
def nowW (d : Nat) (ws : List Wt) (pl : List UInt8) : List UInt8 := (ws.filter fun w => decide (w.d = d)).foldl putS pl
theorem nowW_snoc (d : Nat) (ws : List Wt) (w : Wt) (pl : List UInt8) : nowW d (ws ++ [w]) pl = if w.d = d then putS (nowW d ws pl) w else nowW d ws pl := by
 rw [nowW, nowW, List.filter_append, List.foldl_append]
 by_cases h : w.d = d <;> simp [h]
theorem nowW_take (d : Nat) (ws : List Wt) (pl : List UInt8) {i : Nat} {w : Wt} (hw : ws[i]? = some w) : nowW d (ws.take (i + 1)) pl = if w.d = d then putS (nowW d (ws.take i) pl) w else nowW d (ws.take i) pl := by
 obtain ⟨hi, rfl⟩ := List.getElem?_eq_some_iff.1 hw
 rw [← List.take_append_getElem hi, nowW_snoc]
theorem zHs {d n : Nat} : ∀ (ws : List Wt) (pl : List UInt8), pl.length = n → (∀ w ∈ ws, w.d = d → 128 * w.at_ + 128 ≤ n) → (nowW d ws pl).length = n
 | [], pl, h, _ => h
 | w :: ws, pl, h, hw => by
  rw [nowW, List.filter_cons]
  by_cases hd : w.d = d
  ·rw [if_pos (by simpa using hd), List.foldl_cons]
   exact zHs ws (putS pl w) (by rw [putS, zEf (by rw [h]; exact hw w (List.mem_cons_self ..) hd) w.hb]; exact h) fun x hx => hw x (List.mem_cons_of_mem _ hx)
  ·rw [if_neg (by simpa using hd)]
   exact zHs ws pl h fun x hx => hw x (List.mem_cons_of_mem _ hx)
theorem idx_one {ds : List Dk} (h : (ds.map Dk.d).Nodup) {i j : Nat} {a b : Dk} (ha : ds[i]? = some a) (hb : ds[j]? = some b) (hd : a.d = b.d) : i = j := by
 have h2 := List.pairwise_iff_getElem.1 h
 obtain ⟨hi, rfl⟩ := List.getElem?_eq_some_iff.1 ha
 obtain ⟨hj, rfl⟩ := List.getElem?_eq_some_iff.1 hb
 rcases Nat.lt_trichotomy i j with c | c | c
 ·exact absurd (by rw [List.getElem_map, List.getElem_map]; exact hd) (h2 i j (by simpa using hi) (by simpa using hj) c)
 ·exact c
 ·exact absurd (by rw [List.getElem_map, List.getElem_map]; exact hd.symm) (h2 j i (by simpa using hj) (by simpa using hi) c)
end Go.Sl
namespace Go.Proofs.YtpjidiaekifmbaaGreatDoor
open Go.Sl
set_option maxRecDepth 10000
def zLg (R : Rk) : Prop := ∀ x ∈ R.ds, x.now = nowW x.d R.ws x.pl ∧ x.pl.length % 128 = 0
end Go.Proofs.YtpjidiaekifmbaaGreatDoor
