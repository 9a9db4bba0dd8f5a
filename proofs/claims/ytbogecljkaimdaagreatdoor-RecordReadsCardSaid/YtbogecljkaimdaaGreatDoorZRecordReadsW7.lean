/-
  Texts put together (7).
-/
import Derived.Test.YtbogecljkaimdaaGreatDoorZRecordReadsW6
set_option maxHeartbeats 1000000
namespace Go.Sl
section
variable {P : Program} {a : Act} {o : Oper} {n : Nat} {e : List (Nat × Value)} {x y : Operand} {w : World}
theorem zKd (E : Fr a n e) {t el : TypeId} {b l c i : Nat} {k : IntKind} {q : Int} (ho : o.op = .indexAddr t x y) (hx : ev e x = some (.slice (some ⟨b, 0, none⟩) l c)) (hy : ev e y = some (.int k q))
  (ht : P.underlying t = some (.slice el)) (hs : (P.info? el).map (·.size) = some 1) (hq : q = (i : Int)) (hi : i < l) : zAt P o a w (.pointer (some ⟨b, i, none⟩)) w := by
 have h := zBe (P := P) (w := w) E ho hx hy ht hs hq hi
 rwa [Nat.zero_add, Nat.mul_one] at h
end
theorem Tab.cells {As : List zAl} {g : Nat} {l : List Int} {w : World} (h : Tab As g l) (S : Stab As w) : ∀ i u, (u32s l)[i]? = some u → w.cell? ⟨g, 0 + i, none⟩ = some u := fun i u hu => by
 obtain ⟨G, hG, T, fr, hm⟩ := h
 rw [Nat.zero_add]
 exact zCf (S G hG _ hm) hu
theorem Tab.sub {As Bs : List zAl} {g : Nat} {l : List Int} (h : Tab As g l) (k : ∀ C ∈ As, C ∈ Bs) : Tab Bs g l := by
 obtain ⟨G, hG, r⟩ := h; exact ⟨G, k G hG, r⟩
theorem one8 {a b c d e f g h : Int} : ∀ u ∈ [Value.int .u32 a, .int .u32 b, .int .u32 c, .int .u32 d, .int .u32 e, .int .u32 f, .int .u32 g, .int .u32 h], u.oneCell' = true := fun u hu => by
 simp only [List.mem_cons, List.not_mem_nil, or_false] at hu
 rcases hu with rfl | rfl | rfl | rfl | rfl | rfl | rfl | rfl <;> rfl
theorem shs2 {n k : Nat} (hk : k ≤ 7) : ((n : Int) * 8) / 2 ^ (8 * (7 - (k : Int))).toNat = ((n * 8 / 2 ^ (56 - 8 * k) : Nat) : Int) := by
 rw [show (8 * (7 - (k : Int))).toNat = 56 - 8 * k by omega]; simp
end Go.Sl
namespace Go.Proofs.YtbogecljkaimdaaGreatDoor
open Go.Sl
set_option maxRecDepth 10000
theorem zDj (x k : Int) (hk : 1 ≤ k ∧ k ≤ 31) (w0 : World) : Ret Tryz.prog 113 #[.int .u32 x, .int .u64 k] w0 fun u w' => u = .int .u32 (rot x k) ∧ Trs w0 w' [] [] := by
 have S := St.begin (hp_nil w0)
 refine zBt 13 Tryz.func113 rfl rfl dZ ?_; intro a E
 refine wp_seq_k ?_; intro K hK
 refine zAa ?_
 refine zd E ?_; clear E a; intro a E
 refine wpList_nil ?_
 refine zAb hK ?_; clear hK K
 refine wp_seq_k ?_; intro K hK
 refine zAa ?_
 iterate 2 (refine zd E ?_; clear E a; intro a E)
 refine zp E (zHi E rfl rfl rfl oZ (by simp only [IntKind.bits]; omega) rfl) ?_; clear E a; intro a E
 iterate 2 (refine zd E ?_; clear E a; intro a E)
 refine zp E (zCv E rfl rfl rfl (zBb oZ)) ?_; clear E a; intro a E
 refine zp E (zFl E rfl rfl rfl oZ (by simp only [IntKind.bits]; omega) rfl) ?_; clear E a; intro a E
 refine zp E (zHm E rfl rfl rfl rfl) ?_; clear E a; intro a E
 refine zd E ?_; clear E a; intro a E
 refine wpList_nil ?_
 refine zAb hK ?_; clear hK K
 refine wp_ret ?_
 refine ret1 E rfl rfl ?_
 exact ⟨_, rfl, rfl, (S.only (Bs := []) sZ).tr⟩
theorem dpad_ret (D : zAl) (v : Value) (b : List UInt8) (hD : Rd D 1 v b.length (byt b)) (hbl : b.length ≤ 140737488352000) (As : List zAl) (hDA : D ∈ As) (w0 : World) (H : Hp w0 As) :
  Ret Tryz.prog 111 #[v] w0 fun u w' => ∃ C, Buf C 5 1 u (padL b).length (byt (padL b)) ∧ Trs w0 w' As (C :: As) := by
 have S := (St.begin H).addNil
 have hps := zKb hbl
 have hHl := zKc b
 have hLl := zGi b
 obtain ⟨ad0, c0, rfl⟩ := hD.slice
 refine zCd 36 Tryz.func111 rfl rfl dZ ?_; intro a E
 refine wp_seq_k ?_; intro K hK
 refine zAa ?_
 refine zd E ?_; clear E a; intro a E
 refine wpList_nil ?_
 refine zAb hK ?_; clear hK K
 refine wp_seq_k ?_; intro K hK
 refine zAa ?_
 refine zd E ?_; clear E a; intro a E
 refine zAg rfl (zBu (by' := 1) E S rfl rfl dZ rfl rfl (Buf.nil _ _) pZ (hD.src (S.stab.at mZ) rfl) rfl rfl rfl rfl rfl rfl (by simp only [maxLen]; omega) oZ ?_); clear E S a; intro a w v7 C7 E S hB7
 simp only [Nat.zero_add, List.nil_append] at hB7
 refine zd E ?_; clear E a; intro a E
 refine wpList_nil ?_
 refine zAb hK ?_; clear hK K
 refine wp_seq_k ?_; intro K hK
 refine zAa ?_
 refine zd E ?_; clear E a; intro a E
 refine zAg rfl (zCm (cells := [_]) E S rfl rfl dZ rfl rfl rfl rfl rfl dZ rfl ?_); clear E S a; intro a w b9 E S
 refine zAg rfl (zBu (by' := 1) E S rfl rfl dZ rfl rfl hB7 pZ ((zEa (g := b9) (T := 5) (xs := [.int .u8 128]) (s := 1) (m := 1) rfl (by simp [Value.oneCell']) oZ 1).src (S.stab.at mZ) rfl) rfl rfl rfl rfl rfl rfl (by simp only [maxLen]; omega) oZ ?_); clear E S a; intro a w v10 C10 E S hB10
 refine zd E ?_; clear E a; intro a E
 refine wpList_nil ?_
 have S := (S.del (A := [(b9, _)]) pZ).front1 (A := C10) pZ
 refine zAb hK ?_; clear hK K
 refine wp_seq_k ?_; intro K hK
 refine wp_block ?_
 refine wp_loop_ghost (fun (m : Nat) (a : Act) (w' : World) => ∃ (z : Nat) (v : Value) (C : zAl), m = padZ b.length - z ∧ z ≤ padZ b.length ∧ Buf C 5 1 v (b.length + 1 + z) (byt (b ++ [128] ++ List.replicate z 0)) ∧ St w0 As w' (C :: As) ∧ Fr a 36 [(0, .slice ad0 b.length c0), (3, v)]) (padZ b.length - 0) ?_ ?_
 ·exact ⟨0, v10, C10, rfl, by omega, by rw [List.replicate_zero, List.append_nil, zDa]; exact hB10, S, E.keep (kE2 rfl rfl)⟩
 clear E; clear a; (try clear S); rintro m a w ⟨z, v, C, rfl, hz, hC, S, E⟩
 iterate 2 (refine wp_seq_k ?_; intro K hK)
 obtain ⟨adv, cv, rfl⟩ := hC.slice
 refine zAa ?_
 iterate 2 (refine zd E ?_; clear E a; intro a E)
 refine zp E (rn_rem E rfl rfl rfl dZ (by first | exact wr_lit (y := 64) | exact rfl)) ?_; clear E a; intro a E
 refine zd E ?_; clear E a; intro a E
 refine wpList_nil ?_
 refine zAb hK ?_; clear hK K
 refine zAs E rfl (fun hb => ?_) (fun hb => ?_)
 ·replace hb := Nrm.nrm hb
  refine wp_skip ?_
  refine zAb hK ?_; clear hK K
  refine wp_block ?_
  refine zAa ?_
  refine zd E ?_; clear E a; intro a E
  refine zAg rfl (zCm (cells := [_]) E S rfl rfl dZ rfl rfl rfl rfl rfl dZ rfl ?_); clear E S a; intro a w b16 E S
  refine zAg rfl (zBu (by' := 1) E S rfl rfl dZ rfl rfl hC pZ ((zEa (g := b16) (T := 5) (xs := [.int .u8 0]) (s := 1) (m := 1) rfl (by simp [Value.oneCell']) oZ 1).src (S.stab.at mZ) rfl) rfl rfl rfl rfl rfl rfl (by simp only [maxLen]; omega) oZ ?_); clear E S a; intro a w v17 C17 E S hB17
  refine zd E ?_; clear E a; intro a E
  refine wpList_nil ?_
  refine zAr ?_
  refine zAy ?_
  rw [← pad_zero] at hB17
  exact ⟨_, by unfold padZ at *; omega, z + 1, v17, C17, rfl, by unfold padZ at *; omega, hB17, (S.del (A := [(b16, _)]) pZ).front1 (A := C17) pZ, E.keep (kE2 rfl rfl)⟩
 ·replace hb := Nrm.nrm hb
  refine wp_exit ?_
  refine zAp ?_; clear hK K
  refine zAp ?_
  refine zBr ?_
  refine zAb hK ?_; clear hK K
  refine wp_seq_k ?_; intro K hK
  have hzz : z = padZ b.length := by unfold padZ at *; omega
  subst hzz
  have hC : Buf C 5 1 (.slice adv (b.length + 1 + padZ b.length) cv) (b.length + 1 + padZ b.length) (byt (padH b)) := hC
  refine zAa ?_
  iterate 2 (refine zd E ?_; clear E a; intro a E)
  refine zp E (by first | exact zAo E rfl rfl rfl rfl (by first | exact wu8 _ | exact zCz oZ | exact zCe oZ | exact w_in oZ | exact zBb oZ | exact rfl) | exact zBh E rfl rfl rfl rfl rfl (by assumption) (S.stab.at (by simp))) ?_; clear E a; intro a E
  refine zp E (zEg E rfl rfl rfl (zBb oZ)) ?_; clear E a; intro a E
  refine zd E ?_; clear E a; intro a E
  refine wpList_nil ?_
  refine zAb hK ?_; clear hK K
  iterate 2 (refine wp_seq_k ?_; intro K hK)
  refine zAa ?_
  refine zd E ?_; clear E a; intro a E
  refine wpList_nil ?_
  refine zAb hK ?_; clear hK K
  refine wp_block ?_
  refine wp_loop_ghost (fun (m : Nat) (a : Act) (w' : World) => ∃ (k : Nat) (v : Value) (C : zAl), m = 8 - k ∧ k ≤ 8 ∧ Buf C 5 1 v (b.length + 1 + padZ b.length + k) (byt (padH b ++ lenB (b.length * 8) k)) ∧ St w0 As w' (C :: As) ∧ Fr a 36 [(3, v), (4, .int .u64 ((b.length : Int) * 8)), (5, .int .i64 (7 - (k : Int)))]) (8 - 0) ?_ ?_
  ·exact ⟨0, _, C, rfl, by omega, by rw [lenB, List.append_nil, Nat.add_zero]; exact hC, S, E.keep (kE3 rfl rfl rfl)⟩
  clear E; clear a; (try clear S); rintro m a w ⟨k, v, C, rfl, hk, hC, S, E⟩
  iterate 2 (refine wp_seq_k ?_; intro K hK)
  refine zAa ?_
  iterate 2 (refine zd E ?_; clear E a; intro a E)
  refine wpList_nil ?_
  refine zAb hK ?_; clear hK K
  refine zAs E rfl (fun hb => ?_) (fun hb => ?_)
  ·replace hb := Nrm.nrm hb
   refine wp_skip ?_
   refine zAb hK ?_; clear hK K
   refine wp_seq_k ?_; intro K hK
   refine wp_block ?_
   obtain ⟨adv, cv, rfl⟩ := hC.slice
   have hq1 : [UInt8.ofNat (b.length * 8 / 2 ^ (56 - 8 * k))].length = 1 := rfl
   refine zAa ?_
   iterate 3 (refine zd E ?_; clear E a; intro a E)
   refine zp E (zAo E rfl rfl rfl rfl (zBb oZ)) ?_; clear E a; intro a E
   refine zp E (zEg E rfl rfl rfl (zBb oZ)) ?_; clear E a; intro a E
   refine zp E (zHi E rfl rfl rfl oZ (by simp only [IntKind.bits]; omega) rfl) ?_; clear E a; intro a E
   rw [shs2 oZ] at E
   refine zp E (zAo E rfl rfl rfl rfl (w8 _)) ?_; clear E a; intro a E
   refine zAg rfl (zCm (cells := [_]) E S rfl rfl dZ rfl rfl rfl rfl rfl dZ rfl ?_); clear E S a; intro a w b33 E S
   refine zAg rfl (zBu (by' := 1) E S rfl rfl dZ rfl rfl hC pZ ((zIa b33 [UInt8.ofNat (b.length * 8 / 2 ^ (56 - 8 * k))] 5 (by simp)).rd.src (S.stab.at mZ) rfl) rfl rfl rfl rfl rfl rfl (by simp only [maxLen]; omega) oZ ?_); clear E S a; intro a w v34 C34 E S hB34
   refine zd E ?_; clear E a; intro a E
   refine wpList_nil ?_
   refine zAr ?_
   refine zAb hK ?_; clear hK K
   refine zAa ?_
   refine zd E ?_; clear E a; intro a E
   refine zp E (zCv E rfl rfl rfl (w_in oZ)) ?_; clear E a; intro a E
   refine zd E ?_; clear E a; intro a E
   refine wpList_nil ?_
   refine zAy ?_
   rw [show (7 - (k : Int)) - 1 = 7 - ((k + 1 : Nat) : Int) by omega] at E
   rw [← zDa, List.append_assoc, ← lenB_succ] at hB34
   exact ⟨_, by omega, k + 1, v34, C34, rfl, by omega, hB34, (S.del (A := [(b33, _)]) pZ).front1 (A := C34) pZ, E.keep (kE3 rfl rfl rfl)⟩
  ·replace hb := Nrm.nrm hb
   refine wp_exit ?_
   refine zAp ?_; clear hK K
   refine zAp ?_
   refine zBr ?_
   refine zAb hK ?_; clear hK K
   refine wp_seq_k ?_; intro K hK
   refine zAa ?_
   iterate 2 (refine zd E ?_; clear E a; intro a E)
   refine wpList_nil ?_
   refine zAb hK ?_; clear hK K
   refine wp_ret ?_
   refine ret1 E rfl rfl ?_
   obtain rfl : k = 8 := by omega
   rw [padH_len] at hC
   exact ⟨_, rfl, C, by rw [show (padL b).length = b.length + 1 + padZ b.length + 8 by omega]; exact hC, S.tr⟩
theorem words_ret (C : zAl) (v : Value) (b : List UInt8) (hC : Rd C 1 v b.length (byt b)) (hl : b.length = 64) (As : List zAl) (hCA : C ∈ As) (w0 : World) (H : Hp w0 As) :
  Ret Tryz.prog 112 #[v] w0 fun u w' => ∃ g, u = .slice (some ⟨g, 0, none⟩) 64 64 ∧ Trs w0 w' As ([(g, cel (u32s (wsN b 64)) 121)] :: As) := by
 have S := St.begin H
 obtain ⟨ad0, c0, rfl⟩ := hC.slice
 obtain ⟨gc, oc, rfl⟩ := hC.addr oZ
 refine zCd 96 Tryz.func112 rfl rfl dZ ?_; intro a E
 refine wp_seq_k ?_; intro K hK
 refine zAa ?_
 refine zd E ?_; clear E a; intro a E
 refine wpList_nil ?_
 refine zAb hK ?_; clear hK K
 refine wp_seq_k ?_; intro K hK
 refine zAa ?_
 refine zAg rfl (zJa (by' := 4) E S rfl rfl dZ rfl rfl rfl rfl rfl rfl rfl rfl rfl rfl rfl dZ dZ ?_); clear E S a; intro a w g8 E S
 refine zd E ?_; clear E a; intro a E
 refine wpList_nil ?_
 refine zAb hK ?_; clear hK K
 iterate 2 (refine wp_seq_k ?_; intro K hK)
 refine zAa ?_
 refine zd E ?_; clear E a; intro a E
 refine wpList_nil ?_
 refine zAb hK ?_; clear hK K
 refine wp_block ?_
 refine wp_loop_ghost (fun (m : Nat) (a : Act) (w' : World) => ∃ i, m = 16 - i ∧ i ≤ 16 ∧ St w0 As w' ([(g8, cel (u32s (wsN b i) ++ List.replicate (64 - i) (.int .u32 0)) 121)] :: As) ∧ Fr a 96 [(0, .slice (some ⟨gc, oc, none⟩) b.length c0), (3, .slice (some ⟨g8, 0, none⟩) 64 64), (4, .int .i64 i)]) (16 - 0) ?_ ?_
 ·exact ⟨0, rfl, by omega, S, E.keep (kE3 rfl rfl rfl)⟩
 clear E; clear a; (try clear S); rintro m a w ⟨i, rfl, hi, S, E⟩
 iterate 2 (refine wp_seq_k ?_; intro K hK)
 refine zAa ?_
 iterate 2 (refine zd E ?_; clear E a; intro a E)
 refine wpList_nil ?_
 refine zAb hK ?_; clear hK K
 refine zAs E rfl (fun hb => ?_) (fun hb => ?_)
 ·replace hb := Nrm.nrm hb
  refine wp_skip ?_
  refine zAb hK ?_; clear hK K
  refine wp_seq_k ?_; intro K hK
  refine wp_block ?_
  have hwl := zDv b i
  have hst := ws_step b i
  rw [if_pos oZ, word_lit b oZ] at hst
  refine zBg S (.ofL [(0, 0), (1, 0), (2, 0), (3, 0), (4, 0), (5, 0), (6, 0), (7, 0), (8, 0), (9, 0), (10, 0), (11, 0), (12, 0), (13, 0), (14, 0), (15, 0), (16, 0), (17, 0), (18, 0), (19, 0), (20, 0), (21, 0), (22, 0), (23, 0), (24, 0), (25, 0), (26, 0), (27, 0), (28, 0), (29, 0), (30, 0), (31, 0), (32, 0), (33, 0), (34, 0), (35, 0), (36, 3)]) yZ yZ ?_
  clear S; intro w S
  iterate 4 (refine zmd E ?_; clear E a; intro a E)
  refine zm E rfl (fun w h => zEg E rfl rfl rfl (by first | exact zEq (x := 4) oZ | exact zDx (x := 4) oZ | exact w_in oZ | exact rfl)) ?_; clear E a; intro a E
  refine zm E rfl (fun w h => zAw (i := 4 * i) E rfl rfl rfl rfl rfl rfl oZ) ?_; clear E a; intro a E
  refine zm E rfl (fun w h => zBd E rfl rfl rfl (hC.byte (h.at mZ) (i := 4 * i) oZ)) ?_; clear E a; intro a E
  refine zm E rfl (fun w h => zAo E rfl rfl rfl rfl (w8_32 _)) ?_; clear E a; intro a E
  refine zm E rfl (fun w h => zFl E rfl rfl rfl oZ (by simp only [IntKind.bits]; omega) rfl) ?_; clear E a; intro a E
  iterate 2 (refine zmd E ?_; clear E a; intro a E)
  refine zm E rfl (fun w h => zEg E rfl rfl rfl (by first | exact zEq (x := 4) oZ | exact zDx (x := 4) oZ | exact w_in oZ | exact rfl)) ?_; clear E a; intro a E
  refine zm E rfl (fun w h => zBc E rfl rfl rfl (by first | exact zBq (y := 1) oZ | exact w_in oZ | exact zBb oZ | exact rfl)) ?_; clear E a; intro a E
  refine zm E rfl (fun w h => zAw (i := 4 * i + 1) E rfl rfl rfl rfl rfl rfl oZ) ?_; clear E a; intro a E
  refine zm E rfl (fun w h => zBd E rfl rfl rfl (hC.byte (h.at mZ) (i := 4 * i + 1) oZ)) ?_; clear E a; intro a E
  refine zm E rfl (fun w h => zAo E rfl rfl rfl rfl (w8_32 _)) ?_; clear E a; intro a E
  refine zm E rfl (fun w h => zFl E rfl rfl rfl oZ (by simp only [IntKind.bits]; omega) rfl) ?_; clear E a; intro a E
  refine zm E rfl (fun w h => zHm E rfl rfl rfl rfl) ?_; clear E a; intro a E
  iterate 2 (refine zmd E ?_; clear E a; intro a E)
  refine zm E rfl (fun w h => zEg E rfl rfl rfl (by first | exact zEq (x := 4) oZ | exact zDx (x := 4) oZ | exact w_in oZ | exact rfl)) ?_; clear E a; intro a E
  refine zm E rfl (fun w h => zBc E rfl rfl rfl (by first | exact zBq (y := 2) oZ | exact w_in oZ | exact zBb oZ | exact rfl)) ?_; clear E a; intro a E
  refine zm E rfl (fun w h => zAw (i := 4 * i + 2) E rfl rfl rfl rfl rfl rfl oZ) ?_; clear E a; intro a E
  refine zm E rfl (fun w h => zBd E rfl rfl rfl (hC.byte (h.at mZ) (i := 4 * i + 2) oZ)) ?_; clear E a; intro a E
  refine zm E rfl (fun w h => zAo E rfl rfl rfl rfl (w8_32 _)) ?_; clear E a; intro a E
  refine zm E rfl (fun w h => zFl E rfl rfl rfl oZ (by simp only [IntKind.bits]; omega) rfl) ?_; clear E a; intro a E
  refine zm E rfl (fun w h => zHm E rfl rfl rfl rfl) ?_; clear E a; intro a E
  iterate 2 (refine zmd E ?_; clear E a; intro a E)
  refine zm E rfl (fun w h => zEg E rfl rfl rfl (by first | exact zEq (x := 4) oZ | exact zDx (x := 4) oZ | exact w_in oZ | exact rfl)) ?_; clear E a; intro a E
  refine zm E rfl (fun w h => zBc E rfl rfl rfl (by first | exact zBq (y := 3) oZ | exact w_in oZ | exact zBb oZ | exact rfl)) ?_; clear E a; intro a E
  refine zm E rfl (fun w h => zAw (i := 4 * i + 3) E rfl rfl rfl rfl rfl rfl oZ) ?_; clear E a; intro a E
  refine zm E rfl (fun w h => zBd E rfl rfl rfl (hC.byte (h.at mZ) (i := 4 * i + 3) oZ)) ?_; clear E a; intro a E
  refine zm E rfl (fun w h => zAo E rfl rfl rfl rfl (w8_32 _)) ?_; clear E a; intro a E
  refine zm E rfl (fun w h => zHm E rfl rfl rfl rfl) ?_; clear E a; intro a E
  refine zm E rfl (fun w h => zKd (i := i) E rfl rfl rfl rfl rfl rfl oZ) ?_; clear E a; intro a E
  refine zCb rfl rfl (zAv E S rfl rfl rfl rfl rfl rfl pZ (by rw [List.length_append, List.length_map, List.length_replicate]; omega) ?_); clear E S a; intro a w E S; try dsimp only [List.set] at S
  rw [zGo (u32s (wsN b i)) 64 (.int .u32 0) _ i (by rw [List.length_map, hwl]) oZ] at S
  refine zBi ?_
  refine zAr ?_
  refine zAb hK ?_; clear hK K
  refine zAa ?_
  refine zd E ?_; clear E a; intro a E
  refine zp E (zBc E rfl rfl rfl (by first | exact zBq (y := 1) oZ | exact w_in oZ | exact zBb oZ | exact rfl)) ?_; clear E a; intro a E
  refine zd E ?_; clear E a; intro a E
  refine wpList_nil ?_
  refine zAy ?_
  exact ⟨_, by omega, i + 1, rfl, by omega, by rw [hst]; exact S, E.keep (kE3 rfl rfl rfl)⟩
 ·replace hb := Nrm.nrm hb
  refine wp_exit ?_
  refine zAp ?_; clear hK K
  refine zAp ?_
  refine zBr ?_
  refine zAb hK ?_; clear hK K
  iterate 2 (refine wp_seq_k ?_; intro K hK)
  refine zAa ?_
  refine zd E ?_; clear E a; intro a E
  refine wpList_nil ?_
  refine zAb hK ?_; clear hK K
  refine wp_block ?_
  refine wp_loop_ghost (fun (m : Nat) (a : Act) (w' : World) => ∃ i, m = 64 - i ∧ 16 ≤ i ∧ i ≤ 64 ∧ St w0 As w' ([(g8, cel (u32s (wsN b i) ++ List.replicate (64 - i) (.int .u32 0)) 121)] :: As) ∧ Fr a 96 [(3, .slice (some ⟨g8, 0, none⟩) 64 64), (5, .int .i64 i)]) (64 - 16) ?_ ?_
  ·exact ⟨16, rfl, by omega, by omega, by obtain rfl : i = 16 := oZ; exact S, E.keep (kE2 rfl rfl)⟩
  clear E; clear a; (try clear S); rintro m a w ⟨i, rfl, h16, hi, S, E⟩
  iterate 2 (refine wp_seq_k ?_; intro K hK)
  refine zAa ?_
  iterate 2 (refine zd E ?_; clear E a; intro a E)
  refine wpList_nil ?_
  refine zAb hK ?_; clear hK K
  refine zAs E rfl (fun hb => ?_) (fun hb => ?_)
  ·replace hb := Nrm.nrm hb
   refine wp_skip ?_
   refine zAb hK ?_; clear hK K
   refine wp_seq_k ?_; intro K hK
   refine wp_block ?_
   refine wp_seq_k ?_; intro K hK
   have hwl := zDv b i
   have hst := ws_step b i
   rw [if_neg oZ] at hst
   refine zAa ?_
   iterate 2 (refine zd E ?_; clear E a; intro a E)
   refine zp E (zCv E rfl rfl rfl (by first | exact zFc (y := 15) oZ oZ | exact w_in oZ | exact zBb oZ | exact rfl)) ?_; clear E a; intro a E
   refine zp E (zKd (i := i - 15) E rfl rfl rfl rfl rfl rfl oZ) ?_; clear E a; intro a E
   refine zp E (zBd E rfl rfl rfl (zCf (S.get pZ) (ws_at b i (i - 15) _ oZ))) ?_; clear E a; intro a E
   refine zd E ?_; clear E a; intro a E
   refine wpList_nil ?_
   refine zAb hK ?_; clear hK K
   refine wp_seq_k ?_; intro K hK
   refine zAa ?_
   iterate 2 (refine zd E ?_; clear E a; intro a E)
   refine zp E (zCv E rfl rfl rfl (by first | exact zFc (y := 2) oZ oZ | exact w_in oZ | exact zBb oZ | exact rfl)) ?_; clear E a; intro a E
   refine zp E (zKd (i := i - 2) E rfl rfl rfl rfl rfl rfl oZ) ?_; clear E a; intro a E
   refine zp E (zBd E rfl rfl rfl (zCf (S.get pZ) (ws_at b i (i - 2) _ oZ))) ?_; clear E a; intro a E
   refine zd E ?_; clear E a; intro a E
   refine wpList_nil ?_
   refine zAb hK ?_; clear hK K
   refine zBg S (.ofL [(0, 0), (1, 0), (2, 0), (3, 0), (4, 0), (5, 0), (6, 0), (7, 0), (9, 0), (12, 0), (13, 0), (16, 0), (17, 0), (18, 0), (19, 0), (20, 0), (22, 0), (24, 0), (27, 0), (28, 0), (8, 1), (10, 1), (11, 0), (14, 0), (15, 0), (21, 0), (23, 1), (25, 1), (26, 0), (29, 0), (30, 0), (31, 0), (32, 3)]) yZ yZ ?_
   clear S; intro w S
   iterate 4 (refine zmd E ?_; clear E a; intro a E)
   refine zm E rfl (fun w h => zCv E rfl rfl rfl (by first | exact zFc (y := 16) oZ oZ | exact w_in oZ | exact zBb oZ | exact rfl)) ?_; clear E a; intro a E
   refine zm E rfl (fun w h => zKd (i := i - 16) E rfl rfl rfl rfl rfl rfl oZ) ?_; clear E a; intro a E
   refine zm E rfl (fun w h => zBd E rfl rfl rfl (zCf (h.one mZ) (ws_at b i (i - 16) _ oZ))) ?_; clear E a; intro a E
   iterate 3 (refine zmd E ?_; clear E a; intro a E)
   refine zm E rfl (fun w h => zHi E rfl rfl rfl oZ (by simp only [IntKind.bits]; omega) rfl) ?_; clear E a; intro a E
   iterate 2 (refine zmd E ?_; clear E a; intro a E)
   refine zm E rfl (fun w h => zCv E rfl rfl rfl (by first | exact zFc (y := 7) oZ oZ | exact w_in oZ | exact zBb oZ | exact rfl)) ?_; clear E a; intro a E
   refine zm E rfl (fun w h => zKd (i := i - 7) E rfl rfl rfl rfl rfl rfl oZ) ?_; clear E a; intro a E
   refine zm E rfl (fun w h => zBd E rfl rfl rfl (zCf (h.one mZ) (ws_at b i (i - 7) _ oZ))) ?_; clear E a; intro a E
   iterate 3 (refine zmd E ?_; clear E a; intro a E)
   refine zm E rfl (fun w h => zHi E rfl rfl rfl oZ (by simp only [IntKind.bits]; omega) rfl) ?_; clear E a; intro a E
   refine zBs E rfl rfl rfl dZ rfl Tryz.func113 rfl yZ rfl (zDj _ 7 oZ _) ?_
   rintro v71 w ⟨rfl, hT⟩; clear E a; intro a E
   have S := S.quiet hT
   refine ⟨S.stab.sub (by first | (simp; done) | (simp +contextual; done) | (simp [*]; done)), ?_⟩
   refine zBs E rfl rfl rfl dZ rfl Tryz.func113 rfl yZ rfl (zDj _ 18 oZ _) ?_
   rintro v73 w ⟨rfl, hT⟩; clear E a; intro a E
   have S := S.quiet hT
   refine ⟨S.stab.sub (by first | (simp; done) | (simp +contextual; done) | (simp [*]; done)), ?_⟩
   iterate 2 (refine zm E rfl (fun w h => zEi E rfl rfl rfl rfl) ?_; clear E a; intro a E)
   iterate 2 (refine zm E rfl (fun w h => zBc E rfl rfl rfl (by first | exact wa1 oZ | exact w_in oZ | exact zBb oZ | exact rfl)) ?_; clear E a; intro a E)
   refine zBs E rfl rfl rfl dZ rfl Tryz.func113 rfl yZ rfl (zDj _ 17 oZ _) ?_
   rintro v86 w ⟨rfl, hT⟩; clear E a; intro a E
   have S := S.quiet hT
   refine ⟨S.stab.sub (by first | (simp; done) | (simp +contextual; done) | (simp [*]; done)), ?_⟩
   refine zBs E rfl rfl rfl dZ rfl Tryz.func113 rfl yZ rfl (zDj _ 19 oZ _) ?_
   rintro v88 w ⟨rfl, hT⟩; clear E a; intro a E
   have S := S.quiet hT
   refine ⟨S.stab.sub (by first | (simp; done) | (simp +contextual; done) | (simp [*]; done)), ?_⟩
   iterate 2 (refine zm E rfl (fun w h => zEi E rfl rfl rfl rfl) ?_; clear E a; intro a E)
   refine zm E rfl (fun w h => zBc E rfl rfl rfl (by first | exact wa1 oZ | exact w_in oZ | exact zBb oZ | exact rfl)) ?_; clear E a; intro a E
   refine zm E rfl (fun w h => zKd (i := i) E rfl rfl rfl rfl rfl rfl oZ) ?_; clear E a; intro a E
   refine zCb rfl rfl (zAv E S rfl rfl rfl rfl rfl rfl pZ (by rw [List.length_append, List.length_map, List.length_replicate]; omega) ?_); clear E S a; intro a w E S; try dsimp only [List.set] at S
   rw [zGo (u32s (wsN b i)) 64 (.int .u32 0) _ i (by rw [List.length_map, hwl]) oZ] at S
   refine zBi ?_
   refine zAr ?_
   refine zAb hK ?_; clear hK K
   refine zAa ?_
   refine zd E ?_; clear E a; intro a E
   refine zp E (zBc E rfl rfl rfl (by first | exact zBq (y := 1) oZ | exact w_in oZ | exact zBb oZ | exact rfl)) ?_; clear E a; intro a E
   refine zd E ?_; clear E a; intro a E
   refine wpList_nil ?_
   refine zAy ?_
   exact ⟨_, by omega, i + 1, rfl, by omega, by omega, by rw [hst]; exact S, E.keep (kE2 rfl rfl)⟩
  ·replace hb := Nrm.nrm hb
   refine wp_exit ?_
   refine zAp ?_; clear hK K
   refine zAp ?_
   refine zBr ?_
   refine zAb hK ?_; clear hK K
   refine wp_seq_k ?_; intro K hK
   refine zAa ?_
   iterate 2 (refine zd E ?_; clear E a; intro a E)
   refine wpList_nil ?_
   refine zAb hK ?_; clear hK K
   refine wp_ret ?_
   refine ret1 E rfl rfl ?_
   obtain rfl : i = 64 := by omega
   rw [Nat.sub_self, List.replicate_zero, List.append_nil] at S
   exact ⟨_, rfl, g8, rfl, S.tr⟩
end Go.Proofs.YtbogecljkaimdaaGreatDoor
namespace Go.Proofs.YtbogecljkaimdaaGreatDoor
open Go.Sl
set_option maxRecDepth 10000
set_option maxHeartbeats 2000000 in
theorem dsha_ret (D : zAl) (v : Value) (b : List UInt8) (hD : Rd D 1 v b.length (byt b)) (hbl : b.length ≤ 140737488352000) (As : List zAl) (hDA : D ∈ As) (hG0 : Tab As 0 sha0.l) (hG1 : Tab As 1 shaK) (w0 : World) (H : Hp w0 As) :
  Ret Tryz.prog 86 #[v] w0 fun u w' => u = (shaF b).agg ∧ Trs w0 w' As As := by
 have S := St.begin H
 have hps := zKb hbl
 have hLl := zGi b
 have hL64 := padL_64 b
 obtain ⟨all, hall⟩ : ∃ all, all = padL b := ⟨_, rfl⟩
 refine zCd 157 Tryz.func86 rfl rfl dZ ?_; intro a E
 refine wp_seq_k ?_; intro K hK
 refine zAa ?_
 refine zAg rfl (zBf E S rfl rfl dZ rfl rfl rfl ?_); clear E S a; intro a w b2 E S
 refine wpList_nil ?_
 refine zAb hK ?_; clear hK K
 refine wp_seq_k ?_; intro K hK
 refine zAa ?_
 refine zp E (zDp (vs := u32s sha0.l) E rfl rfl rfl rfl (hG0.tail.cells S.stab)) ?_; clear E a; intro a E
 refine zAg rfl (zBf E S rfl rfl dZ rfl rfl rfl ?_); clear E S a; intro a w b3 E S
 refine zAg rfl (zFv E S rfl rfl rfl rfl (zHy _) rfl rfl pZ (by rfl) ?_); clear E S a; intro a w E S
 refine wpList_nil ?_
 refine zAb hK ?_; clear hK K
 refine wp_seq_k ?_; intro K hK
 refine zAa ?_
 refine zd E ?_; clear E a; intro a E
 refine zAh E rfl rfl dZ rfl Tryz.func111 rfl yZ rfl (dpad_ret D v b hD hbl As hDA _ S.tail2.hp) ?_
 rintro v16 w ⟨C, hC, hT⟩; clear E a; intro a E
 have S := St.under [_, _] S hT; rw [← hall] at hC hLl hL64; obtain ⟨adv, cv, rfl, hcv⟩ := buf_hcap hC
 refine zd E ?_; clear E a; intro a E
 refine wpList_nil ?_
 refine zAb hK ?_; clear hK K
 iterate 2 (refine wp_seq_k ?_; intro K hK)
 refine zAa ?_
 refine zd E ?_; clear E a; intro a E
 refine wpList_nil ?_
 refine zAb hK ?_; clear hK K
 refine wp_block ?_
 refine wp_loop_ghost (fun (m : Nat) (a : Act) (w' : World) => ∃ j, m = all.length / 64 - j ∧ j ≤ all.length / 64 ∧ St w0 As w' ([(b3, cel (u32s (shaH all j).l) 122)] :: C :: [(b2, cel [.int .u64 0, .int .u64 0, .int .u64 0, .int .u64 0] 29)] :: As) ∧ Fr a 157 [(2, ptr b2), (3, ptr b3), (4, .slice adv all.length cv), (5, .int .i64 (64 * j : Nat))]) (all.length / 64 - 0) ?_ ?_
 ·exact ⟨0, rfl, by omega, S.front3 pZ (B := C) pZ (C := [(b2, _)]) pZ, E.keep (kE4 rfl rfl rfl rfl)⟩
 clear E; clear a; (try clear S); rintro m a w ⟨j, rfl, hj, S, E⟩
 iterate 2 (refine wp_seq_k ?_; intro K hK)
 refine zAa ?_
 iterate 4 (refine zd E ?_; clear E a; intro a E)
 refine wpList_nil ?_
 refine zAb hK ?_; clear hK K
 refine zAs E rfl (fun hb => ?_) (fun hb => ?_)
 ·replace hb := Nrm.nrm hb
  refine wp_skip ?_
  refine zAb hK ?_; clear hK K
  refine wp_seq_k ?_; intro K hK
  refine wp_block ?_
  refine wp_seq_k ?_; intro K hK
  have hjl : 64 * j + 64 ≤ all.length := by omega
  obtain ⟨ad2, hs2, hR2⟩ := hC.rd.cutc (lo := 64 * j) (hi := 64 * j + 64) oZ oZ oZ
  have hbk := zKv all hjl
  rw [show ((byt all).drop (64 * j * 1)).take ((64 * j + 64 - 64 * j) * 1) = byt (blk all j) by simp [blk, zEs, zGd]] at hR2
  have hR2 : Rd C 1 (.slice ad2 (64 * j + 64 - 64 * j) (cv - 64 * j)) (blk all j).length (byt (blk all j)) := by rw [hbk]; rw [show 64 * j + 64 - 64 * j = 64 by omega] at *; exact hR2
  refine zAa ?_
  iterate 3 (refine zd E ?_; clear E a; intro a E)
  refine zp E (zBc E rfl rfl rfl (by first | exact zBq (y := 64) oZ | exact w_in oZ | exact zBb oZ | exact rfl)) ?_; clear E a; intro a E
  refine zp E (zDi (s := 1) (lo := 64 * j) (hi := 64 * j + 64) E rfl rfl rfl rfl rfl rfl rfl rfl oZ oZ) ?_; clear E a; intro a E
  rw [hs2] at E
  refine zAh E rfl rfl dZ rfl Tryz.func112 rfl yZ rfl (words_ret C _ (blk all j) hR2 hbk _ (show C ∈ _ from mZ) _ S.hp) ?_
  rintro v28 w ⟨g6, rfl, hT⟩; clear E a; intro a E
  have S := S.all hT; obtain ⟨ws, hws⟩ : ∃ ws, ws = wsN (blk all j) 64 := ⟨_, rfl⟩; have hwl : ws.length = 64 := (by rw [hws]; exact zDv _ _); rw [← hws] at S
  refine zd E ?_; clear E a; intro a E
  refine wpList_nil ?_
  refine zAb hK ?_; clear hK K
  refine wp_seq_k ?_; intro K hK
  obtain ⟨h0, hh0⟩ : ∃ h0, h0 = shaH all j := ⟨_, rfl⟩
  rw [← hh0] at S
  refine zAa ?_
  refine zp E (zFe E rfl rfl rfl (S.get pZ) rfl) ?_; clear E a; intro a E
  refine zAg rfl (zBf E S rfl rfl dZ rfl rfl rfl ?_); clear E S a; intro a w b7 E S
  refine zAg rfl (zFv E S rfl rfl rfl rfl (zHy _) rfl rfl pZ (by rfl) ?_); clear E S a; intro a w E S
  refine wpList_nil ?_
  refine zAb hK ?_; clear hK K
  iterate 2 (refine wp_seq_k ?_; intro K hK)
  refine zAa ?_
  refine zd E ?_; clear E a; intro a E
  refine wpList_nil ?_
  refine zAb hK ?_; clear hK K
  refine wp_block ?_
  refine wp_loop_ghost (fun (m : Nat) (a : Act) (w' : World) => ∃ (i : Nat) (s : S8), m = 64 - i ∧ i ≤ 64 ∧ s = S8.mix h0 shaK ws i ∧ St w0 As w' ([(b7, cel (u32s s.l) 122)] :: [(g6, cel (u32s ws) 121)] :: [(b3, cel (u32s h0.l) 122)] :: C :: [(b2, cel [.int .u64 0, .int .u64 0, .int .u64 0, .int .u64 0] 29)] :: As) ∧ Fr a 157 [(2, ptr b2), (3, ptr b3), (4, .slice adv all.length cv), (5, .int .i64 (64 * j : Nat)), (6, .slice (some ⟨g6, 0, none⟩) 64 64), (7, ptr b7), (8, .int .i64 i)]) (64 - 0) ?_ ?_
  ·exact ⟨0, h0, rfl, by omega, rfl, S, E.keep (kE7 rfl rfl rfl rfl rfl rfl rfl)⟩
  clear E; clear a; (try clear S); rintro m a w ⟨i, s, rfl, hi, hs, S, E⟩
  iterate 2 (refine wp_seq_k ?_; intro K hK)
  refine zAa ?_
  iterate 2 (refine zd E ?_; clear E a; intro a E)
  refine wpList_nil ?_
  refine zAb hK ?_; clear hK K
  refine zAs E rfl (fun hb => ?_) (fun hb => ?_)
  ·replace hb := Nrm.nrm hb
   refine wp_skip ?_
   refine zAb hK ?_; clear hK K
   refine wp_seq_k ?_; intro K hK
   refine wp_block ?_
   refine wp_seq_k ?_; intro K hK
   refine zAa ?_
   refine zp E (zBz (i := 0) E rfl rfl rfl rfl rfl rfl oZ) ?_; clear E a; intro a E
   iterate 2 (refine zd E ?_; clear E a; intro a E)
   refine wpList_nil ?_
   refine zAb hK ?_; clear hK K
   refine wp_seq_k ?_; intro K hK
   refine zAa ?_
   refine zp E (zBz (i := 4) E rfl rfl rfl rfl rfl rfl oZ) ?_; clear E a; intro a E
   iterate 2 (refine zd E ?_; clear E a; intro a E)
   refine wpList_nil ?_
   refine zAb hK ?_; clear hK K
   refine wp_seq_k ?_; intro K hK
   refine zBg S (.ofL [(0, 0), (1, 0), (2, 0), (4, 0), (7, 0), (11, 0), (12, 0), (13, 0), (14, 0), (15, 0), (16, 0), (17, 0), (18, 0), (19, 0), (20, 0), (22, 0), (23, 0), (24, 0), (26, 0), (27, 0), (28, 0), (29, 0), (3, 1), (5, 1), (6, 0), (8, 1), (9, 0), (10, 0), (21, 0), (25, 0), (30, 0), (31, 0)]) yZ yZ ?_
   clear S; intro w S
   refine zm E rfl (fun w h => zBz (i := 7) E rfl rfl rfl rfl rfl rfl oZ) ?_; clear E a; intro a E
   iterate 5 (refine zmd E ?_; clear E a; intro a E)
   refine zm E rfl (fun w h => zBz (i := 5) E rfl rfl rfl rfl rfl rfl oZ) ?_; clear E a; intro a E
   refine zmd E ?_; clear E a; intro a E
   refine zm E rfl (fun w h => zGm E rfl rfl rfl rfl) ?_; clear E a; intro a E
   refine zmd E ?_; clear E a; intro a E
   refine zm E rfl (fun w h => rn_com E rfl rfl rfl) ?_; clear E a; intro a E
   refine zm E rfl (fun w h => zBz (i := 6) E rfl rfl rfl rfl rfl rfl oZ) ?_; clear E a; intro a E
   refine zmd E ?_; clear E a; intro a E
   refine zm E rfl (fun w h => zGm E rfl rfl rfl rfl) ?_; clear E a; intro a E
   refine zm E rfl (fun w h => zEi E rfl rfl rfl rfl) ?_; clear E a; intro a E
   refine zmd E ?_; clear E a; intro a E
   refine zm E rfl (fun w h => zBz (i := i) E rfl rfl rfl rfl rfl rfl oZ) ?_; clear E a; intro a E
   refine zm E rfl (fun w h => zBd E rfl rfl rfl (hG1.tail.tail.tail.tail.tail.cell h (j := i) (by rw [shaK_len]; omega))) ?_; clear E a; intro a E
   iterate 2 (refine zmd E ?_; clear E a; intro a E)
   refine zm E rfl (fun w h => zKd (i := i) E rfl rfl rfl rfl rfl rfl oZ) ?_; clear E a; intro a E
   refine zm E rfl (fun w h => zBd E rfl rfl rfl (zCf (h.one (show [(g6, cel (u32s ws) 121)] ∈ _ from mZ)) (zKu ws (j := i) oZ))) ?_; clear E a; intro a E
   refine zBs E rfl rfl rfl dZ rfl Tryz.func113 rfl yZ rfl (zDj s.e 6 oZ _) ?_
   rintro v41 w ⟨rfl, hT⟩; clear E a; intro a E
   have S := S.quiet hT
   refine ⟨S.stab.sub (by first | (simp; done) | (simp +contextual; done) | (simp [*]; done)), ?_⟩
   refine zBs E rfl rfl rfl dZ rfl Tryz.func113 rfl yZ rfl (zDj s.e 11 oZ _) ?_
   rintro v43 w ⟨rfl, hT⟩; clear E a; intro a E
   have S := S.quiet hT
   refine ⟨S.stab.sub (by first | (simp; done) | (simp +contextual; done) | (simp [*]; done)), ?_⟩
   refine zm E rfl (fun w h => zEi E rfl rfl rfl rfl) ?_; clear E a; intro a E
   refine zBs E rfl rfl rfl dZ rfl Tryz.func113 rfl yZ rfl (zDj s.e 25 oZ _) ?_
   rintro v46 w ⟨rfl, hT⟩; clear E a; intro a E
   have S := S.quiet hT
   refine ⟨S.stab.sub (by first | (simp; done) | (simp +contextual; done) | (simp [*]; done)), ?_⟩
   refine zm E rfl (fun w h => zEi E rfl rfl rfl rfl) ?_; clear E a; intro a E
   iterate 4 (refine zm E rfl (fun w h => zBc E rfl rfl rfl (by first | exact wa1 oZ | exact w_in oZ | exact zBb oZ | exact rfl)) ?_; clear E a; intro a E)
   refine zmd E ?_; clear E a; intro a E
   refine zBi ?_
   refine zAb hK ?_; clear hK K
   refine wp_seq_k ?_; intro K hK
   refine zBg S (.ofL [(0, 0), (2, 0), (5, 0), (8, 0), (9, 0), (10, 0), (11, 0), (12, 0), (13, 0), (14, 0), (15, 0), (16, 0), (17, 0), (18, 0), (19, 0), (20, 0), (21, 0), (22, 0), (1, 1), (3, 1), (4, 0), (6, 1), (7, 0), (23, 0), (24, 0)]) yZ yZ ?_
   clear S; intro w S
   iterate 4 (refine zmd E ?_; clear E a; intro a E)
   refine zm E rfl (fun w h => zBz (i := 1) E rfl rfl rfl rfl rfl rfl oZ) ?_; clear E a; intro a E
   refine zmd E ?_; clear E a; intro a E
   refine zm E rfl (fun w h => zGm E rfl rfl rfl rfl) ?_; clear E a; intro a E
   refine zmd E ?_; clear E a; intro a E
   refine zm E rfl (fun w h => zBz (i := 2) E rfl rfl rfl rfl rfl rfl oZ) ?_; clear E a; intro a E
   refine zmd E ?_; clear E a; intro a E
   refine zm E rfl (fun w h => zGm E rfl rfl rfl rfl) ?_; clear E a; intro a E
   refine zm E rfl (fun w h => zEi E rfl rfl rfl rfl) ?_; clear E a; intro a E
   refine zm E rfl (fun w h => zBz (i := 1) E rfl rfl rfl rfl rfl rfl oZ) ?_; clear E a; intro a E
   refine zmd E ?_; clear E a; intro a E
   refine zm E rfl (fun w h => zBz (i := 2) E rfl rfl rfl rfl rfl rfl oZ) ?_; clear E a; intro a E
   refine zmd E ?_; clear E a; intro a E
   refine zm E rfl (fun w h => zGm E rfl rfl rfl rfl) ?_; clear E a; intro a E
   refine zm E rfl (fun w h => zEi E rfl rfl rfl rfl) ?_; clear E a; intro a E
   refine zBs E rfl rfl rfl dZ rfl Tryz.func113 rfl yZ rfl (zDj s.a 2 oZ _) ?_
   rintro v70 w ⟨rfl, hT⟩; clear E a; intro a E
   have S := S.quiet hT
   refine ⟨S.stab.sub (by first | (simp; done) | (simp +contextual; done) | (simp [*]; done)), ?_⟩
   refine zBs E rfl rfl rfl dZ rfl Tryz.func113 rfl yZ rfl (zDj s.a 13 oZ _) ?_
   rintro v72 w ⟨rfl, hT⟩; clear E a; intro a E
   have S := S.quiet hT
   refine ⟨S.stab.sub (by first | (simp; done) | (simp +contextual; done) | (simp [*]; done)), ?_⟩
   refine zm E rfl (fun w h => zEi E rfl rfl rfl rfl) ?_; clear E a; intro a E
   refine zBs E rfl rfl rfl dZ rfl Tryz.func113 rfl yZ rfl (zDj s.a 22 oZ _) ?_
   rintro v75 w ⟨rfl, hT⟩; clear E a; intro a E
   have S := S.quiet hT
   refine ⟨S.stab.sub (by first | (simp; done) | (simp +contextual; done) | (simp [*]; done)), ?_⟩
   refine zm E rfl (fun w h => zEi E rfl rfl rfl rfl) ?_; clear E a; intro a E
   refine zm E rfl (fun w h => zBc E rfl rfl rfl (by first | exact wa1 oZ | exact w_in oZ | exact zBb oZ | exact rfl)) ?_; clear E a; intro a E
   refine zmd E ?_; clear E a; intro a E
   refine zBi ?_
   refine zAb hK ?_; clear hK K
   refine zAa ?_
   iterate 2 (refine zd E ?_; clear E a; intro a E)
   refine zp E (zBc E rfl rfl rfl (by first | exact wa1 oZ | exact w_in oZ | exact zBb oZ | exact rfl)) ?_; clear E a; intro a E
   refine zd E ?_; clear E a; intro a E
   refine zp E (zBz (i := 1) E rfl rfl rfl rfl rfl rfl oZ) ?_; clear E a; intro a E
   refine zd E ?_; clear E a; intro a E
   refine zp E (zBz (i := 2) E rfl rfl rfl rfl rfl rfl oZ) ?_; clear E a; intro a E
   refine zd E ?_; clear E a; intro a E
   refine zp E (zBz (i := 3) E rfl rfl rfl rfl rfl rfl oZ) ?_; clear E a; intro a E
   iterate 2 (refine zd E ?_; clear E a; intro a E)
   refine zp E (zBc E rfl rfl rfl (by first | exact wa1 oZ | exact w_in oZ | exact zBb oZ | exact rfl)) ?_; clear E a; intro a E
   refine zd E ?_; clear E a; intro a E
   refine zp E (zBz (i := 5) E rfl rfl rfl rfl rfl rfl oZ) ?_; clear E a; intro a E
   refine zd E ?_; clear E a; intro a E
   refine zp E (zBz (i := 6) E rfl rfl rfl rfl rfl rfl oZ) ?_; clear E a; intro a E
   refine zd E ?_; clear E a; intro a E
   refine zp E (zBp (cells := [_, _, _, _, _, _, _, _]) E rfl rfl rfl) ?_; clear E a; intro a E
   refine zAg rfl (zFv E S rfl rfl rfl rfl one8 rfl rfl pZ (by rfl) ?_); clear E S a; intro a w E S
   refine wpList_nil ?_
   refine zAr ?_
   refine zAb hK ?_; clear hK K
   refine zAa ?_
   refine zd E ?_; clear E a; intro a E
   refine zp E (zBc E rfl rfl rfl (by first | exact zBq (y := 1) oZ | exact w_in oZ | exact zBb oZ | exact rfl)) ?_; clear E a; intro a E
   refine zd E ?_; clear E a; intro a E
   refine wpList_nil ?_
   refine zAy ?_
   exact ⟨_, by omega, i + 1, s.step (shaK.getD i 0) (ws.getD i 0), rfl, by omega, by rw [hs]; rfl, S, E.keep (kE7 rfl rfl rfl rfl rfl rfl rfl)⟩
  ·replace hb := Nrm.nrm hb
   refine wp_exit ?_
   refine zAp ?_; clear hK K
   refine zAp ?_
   refine zBr ?_
   refine zAb hK ?_; clear hK K
   refine wp_seq_k ?_; intro K hK
   obtain rfl : i = 64 := by omega
   refine zAa ?_
   refine zd E ?_; clear E a; intro a E
   refine wpList_nil ?_
   refine zAb hK ?_; clear hK K
   refine wp_block ?_
   refine wp_loop_ghost (fun (m : Nat) (a : Act) (w' : World) => ∃ i, m = 8 - i ∧ i ≤ 8 ∧ St w0 As w' ([(b3, cel (u32s (addL h0 s i)) 122)] :: [(b7, cel (u32s s.l) 122)] :: C :: [(b2, cel [.int .u64 0, .int .u64 0, .int .u64 0, .int .u64 0] 29)] :: As) ∧ Fr a 157 [(2, ptr b2), (3, ptr b3), (4, .slice adv all.length cv), (5, .int .i64 (64 * j : Nat)), (7, ptr b7), (13, .int .i64 i)]) (8 - 0) ?_ ?_
   ·exact ⟨0, rfl, by omega, by rw [addL_zero]; exact (S.del (A := [(g6, _)]) pZ).front2 (A := [(b3, _)]) pZ (B := [(b7, _)]) pZ, E.keep (kE6 rfl rfl rfl rfl rfl rfl)⟩
   clear E; clear a; (try clear S); rintro m a w ⟨i, rfl, hi, S, E⟩
   iterate 2 (refine wp_seq_k ?_; intro K hK)
   refine zAa ?_
   iterate 2 (refine zd E ?_; clear E a; intro a E)
   refine wpList_nil ?_
   refine zAb hK ?_; clear hK K
   refine zAs E rfl (fun hb => ?_) (fun hb => ?_)
   ·replace hb := Nrm.nrm hb
    refine wp_skip ?_
    refine zAb hK ?_; clear hK K
    refine wp_seq_k ?_; intro K hK
    refine wp_block ?_
    refine zBg S (.ofL [(0, 0), (1, 0), (2, 0), (3, 0), (4, 0), (5, 0), (6, 0), (7, 0), (8, 0), (9, 3)]) yZ yZ ?_
    clear S; intro w S
    iterate 2 (refine zmd E ?_; clear E a; intro a E)
    refine zm E rfl (fun w h => zBz (i := i) E rfl rfl rfl rfl rfl rfl oZ) ?_; clear E a; intro a E
    refine zm E rfl (fun w h => zBd E rfl rfl rfl (zCf (h.one (show [(b3, cel (u32s (addL h0 s i)) 122)] ∈ _ from mZ)) (v := .int .u32 (h0.l.getD i 0)) (by rw [zKu _ (by rw [zHb]; omega), addL_at h0 s oZ]))) ?_; clear E a; intro a E
    refine zmd E ?_; clear E a; intro a E
    refine zm E rfl (fun w h => zBz (i := i) E rfl rfl rfl rfl rfl rfl oZ) ?_; clear E a; intro a E
    refine zm E rfl (fun w h => zBd E rfl rfl rfl (zCf (h.one (show [(b7, cel (u32s s.l) 122)] ∈ _ from mZ)) (s8_at s (i := i) oZ))) ?_; clear E a; intro a E
    refine zm E rfl (fun w h => zBc E rfl rfl rfl (by first | exact wa1 oZ | exact w_in oZ | exact zBb oZ | exact rfl)) ?_; clear E a; intro a E
    refine zm E rfl (fun w h => zBz (i := i) E rfl rfl rfl rfl rfl rfl oZ) ?_; clear E a; intro a E
    refine zCb rfl rfl (zAv E S rfl rfl rfl rfl rfl rfl pZ (by rw [List.length_map, zHb]; omega) ?_); clear E S a; intro a w E S; try dsimp only [List.set] at S
    refine zBi ?_
    refine zAr ?_
    refine zAb hK ?_; clear hK K
    refine zAa ?_
    refine zd E ?_; clear E a; intro a E
    refine zp E (zBc E rfl rfl rfl (by first | exact zBq (y := 1) oZ | exact w_in oZ | exact zBb oZ | exact rfl)) ?_; clear E a; intro a E
    refine zd E ?_; clear E a; intro a E
    refine wpList_nil ?_
    refine zAy ?_
    exact ⟨_, by omega, i + 1, rfl, by omega, by rw [← addL_set h0 s oZ]; exact S, E.keep (kE6 rfl rfl rfl rfl rfl rfl)⟩
   ·replace hb := Nrm.nrm hb
    refine wp_exit ?_
    refine zAp ?_; clear hK K
    refine zAp ?_
    refine zBr ?_
    refine zAr ?_
    refine zAb hK ?_; clear hK K
    obtain rfl : i = 8 := by omega
    rw [addL_end, hs, hh0, hws] at S
    refine zAa ?_
    refine zd E ?_; clear E a; intro a E
    refine zp E (zBc E rfl rfl rfl (by first | exact zBq (y := 64) oZ | exact w_in oZ | exact zBb oZ | exact rfl)) ?_; clear E a; intro a E
    refine zd E ?_; clear E a; intro a E
    refine wpList_nil ?_
    refine zAy ?_
    rw [show 64 * j + 64 = 64 * (j + 1) by omega] at E
    exact ⟨_, by omega, j + 1, rfl, by omega, (S.del (A := [(b7, _)]) pZ).front1 (A := [(b3, _)]) pZ, E.keep (kE4 rfl rfl rfl rfl)⟩
 ·replace hb := Nrm.nrm hb
  refine wp_exit ?_
  refine zAp ?_; clear hK K
  refine zAp ?_
  refine zBr ?_
  refine zAb hK ?_; clear hK K
  refine wp_seq_k ?_; intro K hK
  obtain ⟨hh, hhe⟩ : ∃ hh, hh = shaH all (all.length / 64) := ⟨_, rfl⟩
  obtain rfl : j = all.length / 64 := by omega
  rw [← hhe] at S
  refine zAa ?_
  refine zp E (zBz (i := 0) E rfl rfl rfl rfl rfl rfl oZ) ?_; clear E a; intro a E
  refine zd E ?_; clear E a; intro a E
  refine zp E (zAo E rfl rfl rfl rfl rfl) ?_; clear E a; intro a E
  refine zp E (zFl E rfl rfl rfl oZ (by simp only [IntKind.bits]; omega) rfl) ?_; clear E a; intro a E
  refine zp E (zBz (i := 1) E rfl rfl rfl rfl rfl rfl oZ) ?_; clear E a; intro a E
  refine zd E ?_; clear E a; intro a E
  refine zp E (zAo E rfl rfl rfl rfl rfl) ?_; clear E a; intro a E
  refine zp E (zHm E rfl rfl rfl rfl) ?_; clear E a; intro a E
  refine zp E (zBz (i := 2) E rfl rfl rfl rfl rfl rfl oZ) ?_; clear E a; intro a E
  refine zd E ?_; clear E a; intro a E
  refine zp E (zAo E rfl rfl rfl rfl rfl) ?_; clear E a; intro a E
  refine zp E (zFl E rfl rfl rfl oZ (by simp only [IntKind.bits]; omega) rfl) ?_; clear E a; intro a E
  refine zp E (zBz (i := 3) E rfl rfl rfl rfl rfl rfl oZ) ?_; clear E a; intro a E
  refine zd E ?_; clear E a; intro a E
  refine zp E (zAo E rfl rfl rfl rfl rfl) ?_; clear E a; intro a E
  refine zp E (zHm E rfl rfl rfl rfl) ?_; clear E a; intro a E
  refine zp E (zBz (i := 4) E rfl rfl rfl rfl rfl rfl oZ) ?_; clear E a; intro a E
  refine zd E ?_; clear E a; intro a E
  refine zp E (zAo E rfl rfl rfl rfl rfl) ?_; clear E a; intro a E
  refine zp E (zFl E rfl rfl rfl oZ (by simp only [IntKind.bits]; omega) rfl) ?_; clear E a; intro a E
  refine zp E (zBz (i := 5) E rfl rfl rfl rfl rfl rfl oZ) ?_; clear E a; intro a E
  refine zd E ?_; clear E a; intro a E
  refine zp E (zAo E rfl rfl rfl rfl rfl) ?_; clear E a; intro a E
  refine zp E (zHm E rfl rfl rfl rfl) ?_; clear E a; intro a E
  refine zp E (zBz (i := 6) E rfl rfl rfl rfl rfl rfl oZ) ?_; clear E a; intro a E
  refine zd E ?_; clear E a; intro a E
  refine zp E (zAo E rfl rfl rfl rfl rfl) ?_; clear E a; intro a E
  refine zp E (zFl E rfl rfl rfl oZ (by simp only [IntKind.bits]; omega) rfl) ?_; clear E a; intro a E
  refine zp E (zBz (i := 7) E rfl rfl rfl rfl rfl rfl oZ) ?_; clear E a; intro a E
  refine zd E ?_; clear E a; intro a E
  refine zp E (zAo E rfl rfl rfl rfl rfl) ?_; clear E a; intro a E
  refine zp E (zHm E rfl rfl rfl rfl) ?_; clear E a; intro a E
  refine zp E (zBp (cells := [_, _, _, _]) E rfl rfl rfl) ?_; clear E a; intro a E
  refine zAg rfl (zAq E S rfl rfl rfl rfl (by simp [Value.oneCell']) rfl pZ (by simp) ?_); clear E S a; intro a w E S; simp only [List.take_succ_cons, List.take_zero, List.drop_succ_cons, List.drop_zero, List.cons_append, List.nil_append, List.append_nil, List.length_cons, List.length_nil, Nat.zero_add, Nat.add_zero] at S
  refine wpList_nil ?_
  refine zAb hK ?_; clear hK K
  refine wp_ret ?_
  refine zFu E rfl rfl (S.get pZ) rfl ?_
  exact ⟨_, rfl, by rw [shaF, ← hall, ← hhe]; simp only [S8.fs, Fs.agg, pairN_eq]; rfl, S.tail3.tr⟩
theorem sumof2_ret (D : zAl) (v : Value) (b : List UInt8) (hD : Rd D 1 v b.length (byt b)) (hbl : b.length ≤ 140737488352000) (As : List zAl) (hDA : D ∈ As) (hG : Tab As 2 shaK) (w0 : World) (H : Hp w0 As) :
  Ret Tryz.prog 76 #[.int .i64 2, v] w0 fun u w' => u = .tuple #[(shaF b).agg, .int .i64 0] ∧ Trs w0 w' As As := by
 have S := St.begin H
 refine zBt 21 Tryz.func76 rfl rfl dZ ?_; intro a E
 refine wp_seq_k ?_; intro K hK
 refine zAa ?_
 refine zAg rfl (zBf E S rfl rfl dZ rfl rfl rfl ?_); clear E S a; intro a w b4 E S
 refine zd E ?_; clear E a; intro a E
 refine wpList_nil ?_
 refine zAb hK ?_; clear hK K
 iterate 2 (refine wp_seq_k ?_; intro K hK)
 refine zAa ?_
 refine zd E ?_; clear E a; intro a E
 refine wpList_nil ?_
 refine zAb hK ?_; clear hK K
 refine wp_block ?_
 refine wp_seq_k ?_; intro K hK
 refine zAa ?_
 iterate 2 (refine zd E ?_; clear E a; intro a E)
 refine wpList_nil ?_
 refine zAb hK ?_; clear hK K
 refine zCq E rfl (rfl) ?_
 refine wp_seq_k ?_; intro K hK
 refine zAa ?_
 iterate 2 (refine zd E ?_; clear E a; intro a E)
 refine wpList_nil ?_
 refine zAb hK ?_; clear hK K
 refine zBo E rfl (rfl) ?_
 refine wp_seq_k ?_; intro K hK
 refine zAa ?_
 refine zd E ?_; clear E a; intro a E
 refine zAh E rfl rfl dZ rfl Tryz.func105 rfl yZ rfl (sha_ret D v b hD hbl As hDA hG _ S.tail.hp) ?_
 rintro v19 w ⟨rfl, hT⟩; clear E a; intro a E
 have S := St.under [_] S hT
 refine zAg rfl (zAq E S rfl rfl rfl rfl (by simp [Value.oneCell']) rfl pZ (by simp) ?_); clear E S a; intro a w E S; simp only [List.take_succ_cons, List.take_zero, List.drop_succ_cons, List.drop_zero, List.cons_append, List.nil_append, List.append_nil, List.length_cons, List.length_nil, Nat.zero_add, Nat.add_zero] at S
 refine zd E ?_; clear E a; intro a E
 refine wpList_nil ?_
 refine zAb hK ?_; clear hK K
 refine wp_ret ?_
 refine zBw ?_
 refine zAn ?_; clear hK K
 refine ret_ct E rfl rfl rfl (S.get pZ) rfl ?_
 exact ⟨_, rfl, rfl, S.tail.tr⟩
theorem dsumof2_ret (D : zAl) (v : Value) (b : List UInt8) (hD : Rd D 1 v b.length (byt b)) (hbl : b.length ≤ 140737488352000) (As : List zAl) (hDA : D ∈ As) (hG0 : Tab As 0 sha0.l) (hG1 : Tab As 1 shaK) (w0 : World) (H : Hp w0 As) :
  Ret Tryz.prog 41 #[.int .i64 2, v] w0 fun u w' => u = .tuple #[(shaF b).agg, .int .i64 0] ∧ Trs w0 w' As As := by
 have S := St.begin H
 refine zBt 16 Tryz.func41 rfl rfl dZ ?_; intro a E
 refine wp_seq_k ?_; intro K hK
 refine zAa ?_
 refine zAg rfl (zBf E S rfl rfl dZ rfl rfl rfl ?_); clear E S a; intro a w b4 E S
 refine zd E ?_; clear E a; intro a E
 refine wpList_nil ?_
 refine zAb hK ?_; clear hK K
 iterate 2 (refine wp_seq_k ?_; intro K hK)
 refine zAa ?_
 refine zd E ?_; clear E a; intro a E
 refine wpList_nil ?_
 refine zAb hK ?_; clear hK K
 refine wp_block ?_
 refine wp_seq_k ?_; intro K hK
 refine zAa ?_
 iterate 2 (refine zd E ?_; clear E a; intro a E)
 refine wpList_nil ?_
 refine zAb hK ?_; clear hK K
 refine zCq E rfl (rfl) ?_
 refine wp_seq_k ?_; intro K hK
 refine zAa ?_
 iterate 2 (refine zd E ?_; clear E a; intro a E)
 refine wpList_nil ?_
 refine zAb hK ?_; clear hK K
 refine zBo E rfl (rfl) ?_
 refine wp_seq_k ?_; intro K hK
 refine zAa ?_
 refine zd E ?_; clear E a; intro a E
 refine zAh E rfl rfl dZ rfl Tryz.func86 rfl yZ rfl (dsha_ret D v b hD hbl As hDA hG0 hG1 _ S.tail.hp) ?_
 rintro v14 w ⟨rfl, hT⟩; clear E a; intro a E
 have S := St.under [_] S hT
 refine zAg rfl (zAq E S rfl rfl rfl rfl (by simp [Value.oneCell']) rfl pZ (by simp) ?_); clear E S a; intro a w E S; simp only [List.take_succ_cons, List.take_zero, List.drop_succ_cons, List.drop_zero, List.cons_append, List.nil_append, List.append_nil, List.length_cons, List.length_nil, Nat.zero_add, Nat.add_zero] at S
 refine zd E ?_; clear E a; intro a E
 refine wpList_nil ?_
 refine zAb hK ?_; clear hK K
 refine wp_ret ?_
 refine zBw ?_
 refine zAn ?_; clear hK K
 refine ret_ct E rfl rfl rfl (S.get pZ) rfl ?_
 exact ⟨_, rfl, rfl, S.tail.tr⟩
end Go.Proofs.YtbogecljkaimdaaGreatDoor
namespace Go.Sl
def Fs.ws (s : Fs) : List Nat := [s.a, s.b, s.c, s.d]
def u64n (l : List Nat) : List Value := l.map fun (n : Nat) => Value.int .u64 (n : Int)
theorem u64n_at {l : List Nat} {i : Nat} (h : i < l.length) : (u64n l)[i]? = some (.int .u64 (l[i] : Int)) := by simp [u64n, h]
def zFy (l : List Nat) : List UInt8 := l.flatMap fun n => zBj n 8
def zEf (s : Fs) : List UInt8 := zFy s.ws
theorem zIf (l : List Nat) : (zFy l).length = 8 * l.length := by
 induction l with
 | nil => rfl
 | cons a l ih =>
  have : zFy (a :: l) = zBj a 8 ++ zFy l := rfl
  rw [this, List.length_append, ih, zAx, List.length_cons]; omega
theorem zKe {l : List Nat} {i : Nat} (h : i < l.length) : zFy (l.take (i + 1)) = zFy (l.take i) ++ zBj l[i] 8 := by
 rw [← List.take_append_getElem h]
 simp only [zFy, List.flatMap_append]
 simp
theorem zDg (s : Fs) : (zEf s).length = 32 := by rw [zEf, zIf]; rfl
end Go.Sl
namespace Go.Proofs.YtbogecljkaimdaaGreatDoor
open Go.Sl
set_option maxRecDepth 10000
theorem zIm (s : Fs) (As : List zAl) (w0 : World) (H : Hp w0 As) :
  Ret Tryz.prog 32 #[s.agg] w0 fun u w' => ∃ C, Buf C 5 1 u 32 (byt (zEf s)) ∧ Trs w0 w' As (C :: As) := by
 have S := St.begin H
 obtain ⟨ws, hws⟩ : ∃ ws, ws = s.ws := ⟨_, rfl⟩
 have hwl : ws.length = 4 := by rw [hws]; rfl
 have hwc : u64n ws = [.int .u64 s.a, .int .u64 s.b, .int .u64 s.c, .int .u64 s.d] := by rw [hws]; rfl
 refine zCd 35 Tryz.func32 rfl rfl dZ ?_; intro a E
 refine wp_seq_k ?_; intro K hK
 refine zAa ?_
 refine zAg rfl (zBx E S rfl rfl dZ rfl rfl ?_); clear E S a; intro a w b1 E S
 refine zd E ?_; clear E a; intro a E
 refine wpList_nil ?_
 refine zAb hK ?_; clear hK K
 refine wp_seq_k ?_; intro K hK
 refine zAa ?_
 refine zd E ?_; clear E a; intro a E
 refine wpList_nil ?_
 refine zAb hK ?_; clear hK K
 iterate 2 (refine wp_seq_k ?_; intro K hK)
 refine zAa ?_
 refine zp E (by first | exact zAc (q := 0) E rfl rfl rfl | exact zAd (q := 0) E rfl rfl rfl) ?_; clear E a; intro a E
 refine zd E ?_; clear E a; intro a E
 refine zp E (by first | exact zAc (q := 1) E rfl rfl rfl | exact zAd (q := 1) E rfl rfl rfl) ?_; clear E a; intro a E
 refine zd E ?_; clear E a; intro a E
 refine zp E (by first | exact zAc (q := 2) E rfl rfl rfl | exact zAd (q := 2) E rfl rfl rfl) ?_; clear E a; intro a E
 refine zd E ?_; clear E a; intro a E
 refine zp E (by first | exact zAc (q := 3) E rfl rfl rfl | exact zAd (q := 3) E rfl rfl rfl) ?_; clear E a; intro a E
 refine zd E ?_; clear E a; intro a E
 refine zAg rfl (zCm (cells := [_, _, _, _]) E S rfl rfl dZ rfl rfl rfl rfl rfl dZ rfl ?_); clear E S a; intro a w b15 E S
 rw [← hwc] at S
 iterate 2 (refine zd E ?_; clear E a; intro a E)
 refine wpList_nil ?_
 refine zAb hK ?_; clear hK K
 refine wp_block ?_
 refine wp_loop_ghost (fun (m : Nat) (a : Act) (w' : World) => ∃ (i : Nat) (C : zAl) (v : Value), m = 4 - i ∧ i ≤ 4 ∧ Buf C 5 1 v (8 * i) (byt (zFy (ws.take i))) ∧ St w0 As w' (C :: [(b15, cel (u64n ws) 27)] :: As) ∧ Fr a 35 [(3, v), (15, .slice (some ⟨b15, 0, none⟩) 4 4), (16, .int .i64 4), (17, .int .i64 i)]) (4) ?_ ?_
 ·exact ⟨0, [], _, by omega, by omega, Buf.nil _ _, S.perm2.tail.addNil, E.keep (kE4 rfl rfl rfl rfl)⟩
 clear E; clear a; (try clear S); rintro m a w ⟨i, C, v, rfl, hi, hB, S, E⟩
 refine wp_seq_k ?_; intro K hK
 refine zAa ?_
 refine zd E ?_; clear E a; intro a E
 refine wpList_nil ?_
 refine zAb hK ?_; clear hK K
 refine wp_seq_k ?_; intro K hK
 refine zAs E rfl (fun hb => ?_) (fun hb => ?_)
 ·replace hb := Nrm.nrm hb
  refine wp_skip ?_
  refine zAb hK ?_; clear hK K
  refine wp_seq_k ?_; intro K hK
  refine wp_block ?_
  refine wp_seq_k ?_; intro K hK
  have hil : i < ws.length := by omega
  refine zAa ?_
  refine zp E (by first | exact zAw E rfl rfl rfl rfl rfl rfl oZ | exact zBe E rfl rfl rfl rfl rfl rfl oZ | exact zAu E rfl rfl rfl rfl rfl rfl oZ) ?_; clear E a; intro a E
  refine zp E (zBd E rfl rfl rfl (by rw [Nat.zero_add]; exact zCf (S.get pZ) (u64n_at hil))) ?_; clear E a; intro a E
  refine zd E ?_; clear E a; intro a E
  refine wpList_nil ?_
  refine zAb hK ?_; clear hK K
  refine wp_seq_k ?_; intro K hK
  refine zAa ?_
  refine zd E ?_; clear E a; intro a E
  refine wpList_nil ?_
  refine zAb hK ?_; clear hK K
  refine wp_block ?_
  refine wp_loop_ghost (fun (m : Nat) (a : Act) (w' : World) => ∃ (j : Nat) (C : zAl) (v : Value), m = 8 - j ∧ j ≤ 8 ∧ Buf C 5 1 v (8 * i + j) (byt (zFy (ws.take i) ++ zBj ws[i] j)) ∧ St w0 As w' (C :: [(b15, cel (u64n ws) 27)] :: As) ∧ Fr a 35 [(3, v), (5, .int .u64 ws[i]), (15, .slice (some ⟨b15, 0, none⟩) 4 4), (16, .int .i64 4), (17, .int .i64 i), (21, .int .i64 j)]) (8) ?_ ?_
  ·exact ⟨0, C, v, by omega, by omega, by simpa [zBj] using hB, S, E.keep (kE6 rfl rfl rfl rfl rfl rfl)⟩
  clear E; clear a; (try clear S); rintro m a w ⟨j, C, v, rfl, hj, hB, S, E⟩
  refine wp_seq_k ?_; intro K hK
  refine zAa ?_
  refine zd E ?_; clear E a; intro a E
  refine wpList_nil ?_
  refine zAb hK ?_; clear hK K
  refine wp_seq_k ?_; intro K hK
  refine zAs E rfl (fun hb => ?_) (fun hb => ?_)
  ·replace hb := Nrm.nrm hb
   refine wp_skip ?_
   refine zAb hK ?_; clear hK K
   refine wp_seq_k ?_; intro K hK
   refine wp_block ?_
   refine wp_seq_k ?_; intro K hK
   refine zAa ?_
   iterate 2 (refine zd E ?_; clear E a; intro a E)
   refine wpList_nil ?_
   refine zAb hK ?_; clear hK K
   refine zAa ?_
   iterate 3 (refine zd E ?_; clear E a; intro a E)
   refine zp E (zEg E rfl rfl rfl (by first | exact zEq (x := 8) oZ | exact zDx (x := 8) oZ | exact w_in oZ | exact rfl)) ?_; clear E a; intro a E
   refine zp E (zHi E rfl rfl rfl oZ (by simp only [IntKind.bits]; omega) shru) ?_; clear E a; intro a E
   refine zp E (zAo E rfl rfl rfl rfl (w8 _)) ?_; clear E a; intro a E
   refine zAg rfl (zCm (cells := [_]) E S rfl rfl dZ rfl rfl rfl rfl rfl dZ rfl ?_); clear E S a; intro a w b30 E S
   refine zAg rfl (zBu (by' := 1) E S rfl rfl dZ rfl rfl hB pZ ((zEa (g := b30) (T := 5) (xs := [.int .u8 (UInt8.ofNat (ws[i] / 2 ^ (8 * j))).toNat]) (s := 1) (m := 1) rfl (by simp [Value.oneCell']) oZ 1).src (S.stab.at mZ) rfl) rfl rfl rfl rfl rfl rfl (by simp only [maxLen]; omega) oZ ?_); clear E S a; intro a w v31 C31 E S hB31
   refine zd E ?_; clear E a; intro a E
   refine wpList_nil ?_
   refine zAr ?_
   refine zAb hK ?_; clear hK K
   refine zAa ?_
   refine zp E (zBc E rfl rfl rfl (by first | exact zBq (y := 1) oZ | exact w_in oZ | exact zBb oZ | exact rfl)) ?_; clear E a; intro a E
   refine zd E ?_; clear E a; intro a E
   refine wpList_nil ?_
   refine zAy ?_
   exact ⟨_, by omega, j + 1, C31, v31, rfl, by omega, by rw [zBj, ← List.append_assoc, zDa]; exact hB31, S.perm2.tail, E.keep (kE6 rfl rfl rfl rfl rfl rfl)⟩
  ·replace hb := Nrm.nrm hb
   refine wp_exit ?_
   refine zAp ?_; clear hK K
   refine zAp ?_
   refine zBr ?_
   refine zAr ?_
   refine zAb hK ?_; clear hK K
   refine zAa ?_
   refine zp E (zBc E rfl rfl rfl (by first | exact zBq (y := 1) oZ | exact w_in oZ | exact zBb oZ | exact rfl)) ?_; clear E a; intro a E
   refine zd E ?_; clear E a; intro a E
   refine wpList_nil ?_
   refine zAy ?_
   obtain rfl : j = 8 := by omega
   exact ⟨_, by omega, i + 1, C, v, rfl, by omega, by rw [zKe hil]; exact hB, S, E.keep (kE4 rfl rfl rfl rfl)⟩
 ·replace hb := Nrm.nrm hb
  refine wp_exit ?_
  refine zAp ?_; clear hK K
  refine zAp ?_
  refine zBr ?_
  refine zAb hK ?_; clear hK K
  refine wp_seq_k ?_; intro K hK
  refine zAa ?_
  iterate 2 (refine zd E ?_; clear E a; intro a E)
  refine wpList_nil ?_
  refine zAb hK ?_; clear hK K
  refine wp_ret ?_
  refine ret1 E rfl rfl ?_
  obtain rfl : i = 4 := by omega
  rw [List.take_of_length_le oZ, hws] at hB
  exact ⟨_, rfl, C, hB, S.perm2.tail.tr⟩
theorem over_ret (s : Fs) (D : zAl) (v : Value) (b : List UInt8) (hD : Rd D 1 v b.length (byt b)) (hbl : b.length ≤ 140737488351000) (As : List zAl) (hDA : D ∈ As) (hG : Tab As 2 shaK) (w0 : World) (H : Hp w0 As) :
  Ret Tryz.prog 31 #[v, s.agg] w0 fun u w' => u = (shaF (zEf s ++ b)).agg ∧ Trs w0 w' As As := by
 have S := St.begin H
 have hsl := zDg s
 refine zBt 16 Tryz.func31 rfl rfl dZ ?_; intro a E
 refine wp_seq_k ?_; intro K hK
 refine zAa ?_
 refine zAg rfl (zBx E S rfl rfl dZ rfl rfl ?_); clear E S a; intro a w b3 E S
 refine zAg rfl (zBf E S rfl rfl dZ rfl rfl rfl ?_); clear E S a; intro a w b4 E S
 refine wpList_nil ?_
 refine zAb hK ?_; clear hK K
 refine wp_seq_k ?_; intro K hK
 refine zAa ?_
 refine zp E (zAz (vs := [_, _, _, _]) E rfl rfl rfl (S.get pZ) rfl rfl) ?_; clear E a; intro a E
 refine zAh E rfl rfl dZ rfl Tryz.func32 rfl yZ rfl (zIm s _ _ S.hp) ?_
 rintro v9 w ⟨C, hC, hT⟩; clear E a; intro a E
 have S := S.all hT
 refine zd E ?_; clear E a; intro a E
 refine zAg rfl (zBu (by' := 1) E S rfl rfl dZ rfl rfl hC pZ (hD.src (S.stab.at (List.Mem.tail _ (List.Mem.tail _ (List.Mem.tail _ hDA)))) rfl) rfl rfl rfl rfl rfl rfl (by simp only [maxLen]; omega) oZ ?_); clear E S a; intro a w v11 C11 E S hB11
 have hR : Rd C11 1 v11 (zEf s ++ b).length (byt (zEf s ++ b)) := by rw [List.length_append, hsl, zDa]; exact hB11.rd
 refine zAh E rfl rfl dZ rfl Tryz.func76 rfl yZ rfl (sumof2_ret C11 v11 (zEf s ++ b) hR (by rw [List.length_append]; omega) _ mZ hG.tail.tail.tail _ S.hp) ?_
 rintro v12 w ⟨rfl, hT⟩; clear E a; intro a E
 have S := S.all hT
 iterate 3 (refine zd E ?_; clear E a; intro a E)
 refine zAg rfl (zBf E S rfl rfl dZ rfl rfl rfl ?_); clear E S a; intro a w b5 E S
 refine zAg rfl (zAq E S rfl rfl rfl rfl (by simp [Value.oneCell']) rfl pZ (by simp) ?_); clear E S a; intro a w E S; simp only [List.take_succ_cons, List.take_zero, List.drop_succ_cons, List.drop_zero, List.cons_append, List.nil_append, List.append_nil, List.length_cons, List.length_nil, Nat.zero_add, Nat.add_zero] at S
 refine zd E ?_; clear E a; intro a E
 refine wpList_nil ?_
 refine zAb hK ?_; clear hK K
 refine wp_seq_k ?_; intro K hK
 refine zAa ?_
 refine zp E (zAz (vs := [_, _, _, _]) E rfl rfl rfl (S.get pZ) rfl rfl) ?_; clear E a; intro a E
 refine zAg rfl (zAq E S rfl rfl rfl rfl (by simp [Value.oneCell']) rfl pZ (by simp) ?_); clear E S a; intro a w E S; simp only [List.take_succ_cons, List.take_zero, List.drop_succ_cons, List.drop_zero, List.cons_append, List.nil_append, List.append_nil, List.length_cons, List.length_nil, Nat.zero_add, Nat.add_zero] at S
 refine wpList_nil ?_
 refine zAb hK ?_; clear hK K
 refine wp_ret ?_
 refine zFu E rfl rfl (S.get pZ) rfl ?_
 exact ⟨_, rfl, rfl, (S.tail3.tail).tr⟩
end Go.Proofs.YtbogecljkaimdaaGreatDoor
namespace Go.Sl
def headB (k : Int) (n : Nat) : List UInt8 := zBj k.toNat 1 ++ zBj n 4
theorem zGu (k : Int) (n : Nat) : (headB k n).length = 5 := by simp [headB, zAx]
def zEr (k : Int) (b : List UInt8) : List UInt8 := headB k b.length ++ b
def ownS (k : Int) (b : List UInt8) (s : Fs) : Fs := shaF (zEf s ++ zEr k b)
def zCt (k : Int) (b : List UInt8) (s : Fs) : List UInt8 := zEr k b ++ zEf (ownS k b s)
theorem zEh (k : Int) (b : List UInt8) : (zEr k b).length = 5 + b.length := by rw [zEr, List.length_append, zGu]
theorem zGj (k : Int) (b : List UInt8) (s : Fs) : (zCt k b s).length = 37 + b.length := by rw [zCt, List.length_append, zEh, zDg]; omega
end Go.Sl
namespace Go.Proofs.YtbogecljkaimdaaGreatDoor
open Go.Sl
set_option maxRecDepth 10000
theorem ckE_no {r : Rec} (h : ckE r ≠ 0) : ckB r = false := by
 cases hc : ckB r with
 | false => rfl
 | true => simp [ckE, hc] at h
theorem ckE_yes {r : Rec} (h : ckE r = 0) : ckB r = true := by
 cases hc : ckB r with
 | true => rfl
 | false => simp [ckE, hc] at h
theorem ckB_use {r : Rec} (h : ckB r = true) : inK r.kind ∧ mayK r.kind r = true := by
 simp only [ckB, Bool.and_eq_true, decide_eq_true_eq] at h
 exact ⟨h.1, h.2.1⟩
theorem body_le {r : Rec} {k : Int} (hk : inK k) (h : mayK k r = true) : (zEx k r).length ≤ 2048 := by
 rcases zEm hk with rfl | rfl | rfl | rfl | rfl | rfl | rfl
 ·have := may1_num h
  show (body1 r).length ≤ 2048
  simp only [body1, List.length_append, zCo, zAx]; omega
 ·obtain ⟨q1, q2, q3, q4, q5, q6, q7⟩ := (zDn r).1 h
  have h1 := beh_len q1
  have h2 := zIe q6
  have h3 := prps_num q7
  have h4 := propsL_le h3.2
  show (body2 r).length ≤ 2048
  simp only [body2, List.length_append, zCo, zAx]; omega
 ·have := zIl (l := r.keep) h
  show (body3 r).length ≤ 2048
  simp only [body3, List.length_append, zGt, zAx]; omega
 ·have h : may4 r = true := h
  simp only [may4, Bool.and_eq_true, decide_eq_true_eq] at h
  have := zIl h.2.2
  show (body4 r).length ≤ 2048
  simp only [body4, List.length_append, zGt, zAx]; omega
 ·have h : may5 r = true := h
  simp only [may5, Bool.and_eq_true, decide_eq_true_eq] at h
  show (body5 r).length ≤ 2048
  simp only [body5, List.length_append, zAx]; omega
 ·show (body6 r).length ≤ 2048
  simp only [body6, zAx]; omega
 ·show (body6 r).length ≤ 2048
  simp only [body6, zAx]; omega
def encP (r : Rec) (s : Fs) (As : List zAl) (w0 : World) (u : Value) (w' : World) : Prop :=
 (ckB r = false ∧ u = .tuple #[.slice none 0 0, zFx.agg, .int .i64 200] ∧ Trs w0 w' As As) ∨
 (ckB r = true ∧ ∃ v D, u = .tuple #[v, (ownS r.kind (zEx r.kind r) s).agg, .int .i64 0] ∧ Buf D 5 1 v (zCt r.kind (zEx r.kind r) s).length (byt (zCt r.kind (zEx r.kind r) s)) ∧ Trs w0 w' As (D :: As))
theorem encode_ret {C : zAl} {r : Rec} {pv kv dv : Value} (hR : RecR C r pv kv dv) (hs : Sml r) (s : Fs) {As : List zAl} (hC : C ∈ As) (hG : Tab As 2 shaK) (w0 : World) (H : Hp w0 As) :
  Ret Tryz.prog 12 #[.agg (r.cells pv kv dv).toArray, s.agg] w0 (encP r s As w0) := by
 have S := St.begin H
 obtain ⟨ad1, c1, rfl⟩ := hR.pr.slice
 obtain ⟨ad2, c2, rfl⟩ := hR.kr.slice
 obtain ⟨ad3, c3, rfl⟩ := hR.dr.slice
 refine zBt 62 Tryz.func12 rfl rfl dZ ?_; intro a E
 refine wp_seq_k ?_; intro K hK
 refine zAa ?_
 refine zAg rfl (zBx E S rfl rfl dZ rfl rfl ?_); clear E S a; intro a w b2 E S
 refine zAg rfl (zBx E S rfl rfl dZ rfl rfl ?_); clear E S a; intro a w b3 E S
 refine zd E ?_; clear E a; intro a E
 refine zAg rfl (zBf E S rfl rfl dZ rfl rfl rfl ?_); clear E S a; intro a w b5 E S
 refine zd E ?_; clear E a; intro a E
 refine wpList_nil ?_
 refine zAb hK ?_; clear hK K
 iterate 2 (refine wp_seq_k ?_; intro K hK)
 refine zAa ?_
 refine zp E (zAz (vs := [_, _, _, _, _, _, _, _, _, _, _, _, _]) E rfl rfl rfl (S.get pZ) rfl rfl) ?_; clear E a; intro a E
 refine zAh E rfl rfl dZ rfl Tryz.func11 rfl yZ rfl (zJx hR hs (List.mem_cons_of_mem _ (List.mem_cons_of_mem _ (List.mem_cons_of_mem _ hC))) _ S.hp) ?_
 rintro v16 w ⟨rfl, hT⟩; clear E a; intro a E
 have S := S.all hT
 refine zd E ?_; clear E a; intro a E
 refine wpList_nil ?_
 refine zAb hK ?_; clear hK K
 refine wp_seq_k ?_; intro K hK
 refine zAa ?_
 iterate 2 (refine zd E ?_; clear E a; intro a E)
 refine wpList_nil ?_
 refine zAb hK ?_; clear hK K
 refine zAs E rfl (fun hb => ?_) (fun hb => ?_)
 ·replace hb := Nrm.nrm hb
  have hck := ckE_no hb
  refine wp_seq_k ?_; intro K hK
  refine zAa ?_
  refine zp E (zBp (cells := [_, _, _, _]) E rfl rfl rfl) ?_; clear E a; intro a E
  iterate 2 (refine zd E ?_; clear E a; intro a E)
  refine zAg rfl (zAq E S rfl rfl rfl rfl (by simp [Value.oneCell']) rfl pZ (by simp) ?_); clear E S a; intro a w E S; simp only [List.take_succ_cons, List.take_zero, List.drop_succ_cons, List.drop_zero, List.cons_append, List.nil_append, List.append_nil, List.length_cons, List.length_nil, Nat.zero_add, Nat.add_zero] at S
  refine zd E ?_; clear E a; intro a E
  refine wpList_nil ?_
  refine zAb hK ?_; clear hK K
  refine wp_ret ?_
  refine zAn ?_; clear hK K
  refine ret_tct E rfl rfl rfl rfl (S.get pZ) rfl ?_
  exact ⟨_, rfl, .inl ⟨hck, by rw [show ckE r = 200 by simp [ckE, hck]]; rfl, S.tail3.tr⟩⟩
 ·replace hb := Nrm.nrm hb
  have hck := ckE_yes hb
  refine wp_skip ?_
  refine zAb hK ?_; clear hK K
  refine wp_seq_k ?_; intro K hK
  obtain ⟨hk, hm⟩ := ckB_use hck
  obtain ⟨fn, q1, q2, q3⟩ := layF_fn hk
  obtain ⟨ix, hrow⟩ := row_is hk
  have hbl := body_le hk hm
  refine zAa ?_
  refine zAh E rfl rfl dZ rfl Tryz.func28 rfl yZ rfl (zKr 2048 _) ?_
  rintro v21 w ⟨p, A, rfl, hA, hT⟩; clear E a; intro a E
  have S := S.fresh hT
  refine zd E ?_; clear E a; intro a E
  refine wpList_nil ?_
  refine zAb hK ?_; clear hK K
  refine wp_seq_k ?_; intro K hK
  refine zCn S (.ofL [(1, 0), (2, 0), (5, 0), (6, 0), (0, 1), (3, 1), (4, 0), (7, 3)]) [[(b2, cel (r.cells (.slice ad1 r.props.length c1) (.slice ad2 r.keep.length c2) (.slice ad3 r.data.length c3)) 26)]] (fun h => h.sub (by first | (simp; done) | (simp +contextual; done) | (simp [*]; done))) yZ yZ ?_
  clear S; intro w S
  refine zm E rfl (fun w h => by first | exact zAc (q := 0) E rfl rfl rfl | exact zAd (q := 0) E rfl rfl rfl) ?_; clear E a; intro a E
  iterate 2 (refine zmd E ?_; clear E a; intro a E)
  refine zm E rfl (fun w h => zAz (vs := [_, _, _, _, _, _, _, _, _, _, _, _, _]) E rfl rfl rfl (h.one mZ) rfl rfl) ?_; clear E a; intro a E
  refine zBs E rfl rfl rfl dZ rfl Tryz.func25 rfl yZ rfl (zJd _ _ S.hp) ?_
  rintro v22 w ⟨g, rfl, hT⟩; clear E a; intro a E
  have S := S.all hT
  refine ⟨S.stab.sub (by first | (simp; done) | (simp +contextual; done) | (simp [*]; done)), ?_⟩
  refine zCu rfl rfl (zGe E (rn_lookup1 (v := .agg [fnv (mayF r.kind), fnv (layF r.kind), fnv (takF r.kind)].toArray) E rfl rfl rfl rfl rfl (S.get pZ) hrow) rfl dZ ?_); clear E a; intro a E; refine ⟨S.stab.sub (by first | (simp; done) | (simp +contextual; done) | (simp [*]; done)), ?_⟩
  refine zm E rfl (fun w h => rn_field E rfl rfl rfl rfl rfl rfl rfl) ?_; clear E a; intro a E
  have S := S.front1 (A := A) pZ
  refine mix_callc3 E rfl rfl rfl dZ rfl rfl q1 q2 q3 rfl (layK_ret hR mZ p A hA _ S.hp hk hm) ?_
  rintro v29 w ⟨A1, hA1, hT⟩; clear E a; intro a E
  have S := S.all hT
  refine zBi ?_
  refine zAb hK ?_; clear hK K
  refine wp_seq_k ?_; intro K hK
  obtain ⟨body, hbody⟩ : ∃ body, body = zEx r.kind r := ⟨_, rfl⟩
  rw [← hbody] at hA1 hbl
  refine zAa ?_
  refine zd E ?_; clear E a; intro a E
  refine zAh E rfl rfl dZ rfl Tryz.func29 rfl yZ rfl (done_fit p 2048 body A1 _ hA1 (S.hp.sel sZ) oZ) ?_
  rintro v32 w ⟨g1, rfl, hT⟩; clear E a; intro a E
  have S := S.call2 sZ hT
  iterate 5 (refine zd E ?_; clear E a; intro a E)
  refine wpList_nil ?_
  refine zAb hK ?_; clear hK K
  refine wp_seq_k ?_; intro K hK
  replace E := E.keep (e' := [(2, _), (3, _), (4, _), (5, _), (6, _), (9, _)]) (kE6 rfl rfl rfl rfl rfl rfl)
  refine zAa ?_
  refine zAh E rfl rfl dZ rfl Tryz.func28 rfl yZ rfl (zKr 5 _) ?_
  rintro v35 w ⟨p2, B, rfl, hB, hT⟩; clear E a; intro a E
  have S := S.fresh hT
  refine zd E ?_; clear E a; intro a E
  refine wpList_nil ?_
  refine zAb hK ?_; clear hK K
  refine wp_seq_k ?_; intro K hK
  refine zAa ?_
  refine zd E ?_; clear E a; intro a E
  refine zp E (by first | exact zAc (q := 0) E rfl rfl rfl | exact zAd (q := 0) E rfl rfl rfl) ?_; clear E a; intro a E
  refine zd E ?_; clear E a; intro a E
  refine zp E (zAo E rfl rfl rfl rfl (zJy (by have := hk.1; omega) (by have := hk.2; omega))) ?_; clear E a; intro a E
  refine zAh E rfl rfl dZ rfl Tryz.func30 rfl yZ rfl (zEd p2 5 [] B _ hB r.kind.toNat 1 (S.hp.sel sZ) oZ oZ oZ (by have := hk.2; omega) (by simp only [List.length_nil]; omega)) ?_
  rintro v40 w ⟨B1, hB1, hT⟩; clear E a; intro a E
  have S := S.call1 sZ hT
  refine wpList_nil ?_
  refine zAb hK ?_; clear hK K
  refine wp_seq_k ?_; intro K hK
  refine zAa ?_
  iterate 3 (refine zd E ?_; clear E a; intro a E)
  refine zp E (by first | exact zAo E rfl rfl rfl rfl (by first | exact wu8 _ | exact zCz oZ | exact zCe oZ | exact w_in oZ | exact zBb oZ | exact rfl) | exact zBh E rfl rfl rfl rfl rfl (by assumption) (S.stab.at (by simp))) ?_; clear E a; intro a E
  refine zAh E rfl rfl dZ rfl Tryz.func30 rfl yZ rfl (zEd p2 5 _ B1 _ hB1 body.length 4 (S.hp.sel sZ) oZ oZ oZ oZ (by simp only [List.nil_append, zAx]; omega)) ?_
  rintro v45 w ⟨B2, hB2, hT⟩; clear E a; intro a E
  have S := S.call1 sZ hT
  refine wpList_nil ?_
  refine zAb hK ?_; clear hK K
  refine wp_seq_k ?_; intro K hK
  have hhd : [] ++ zBj r.kind.toNat 1 ++ zBj body.length 4 = headB r.kind body.length := rfl
  rw [hhd] at hB2
  obtain ⟨hd, hhd2⟩ : ∃ hd, hd = headB r.kind body.length := ⟨_, rfl⟩
  rw [← hhd2] at hB2
  have hdl : hd.length = 5 := by rw [hhd2, zGu]
  refine zAa ?_
  refine zd E ?_; clear E a; intro a E
  refine zAh E rfl rfl dZ rfl Tryz.func29 rfl yZ rfl (done_fit p2 5 hd B2 _ hB2 (S.hp.sel sZ) oZ) ?_
  rintro v48 w ⟨g2, rfl, hT⟩; clear E a; intro a E
  have S := S.call2 sZ hT
  iterate 5 (refine zd E ?_; clear E a; intro a E)
  refine wpList_nil ?_
  refine zAb hK ?_; clear hK K
  refine wp_seq_k ?_; intro K hK
  replace E := E.keep (e' := [(3, _), (4, _), (5, _), (6, _), (9, _), (12, _)]) (kE6 rfl rfl rfl rfl rfl rfl)
  refine zAa ?_
  iterate 2 (refine zd E ?_; clear E a; intro a E)
  refine zAg rfl (zBu (by' := 1) E S rfl rfl dZ rfl rfl (zIa g2 hd 5 oZ) pZ ((rd_block (g := g1) (b := body) (T := 5) rfl oZ body.length).src (S.stab.at mZ) rfl) rfl rfl rfl rfl rfl rfl (by simp only [maxLen]; omega) oZ ?_); clear E S a; intro a w v53 C53 E S hB53
  refine zd E ?_; clear E a; intro a E
  refine wpList_nil ?_
  refine zAb hK ?_; clear hK K
  refine wp_seq_k ?_; intro K hK
  obtain ⟨fb, hfb⟩ : ∃ fb, fb = zEr r.kind body := ⟨_, rfl⟩
  have hfl : fb.length = 5 + body.length := by rw [hfb, zEh]
  have hfr : Buf C53 5 1 v53 fb.length (byt fb) := by
   have e5 : fb.length = hd.length + body.length := by omega
   rw [e5, hfb, zEr, ← hhd2, zDa]
   exact hB53
  refine zAa ?_
  refine zd E ?_; clear E a; intro a E
  refine zp E (zAz (vs := [_, _, _, _]) E rfl rfl rfl (S.get pZ) rfl rfl) ?_; clear E a; intro a E
  refine zAh E rfl rfl dZ rfl Tryz.func31 rfl yZ rfl (over_ret s C53 v53 fb hfr.rd oZ _ mZ (by repeat (first | exact hG | apply Tab.tail)) _ S.hp) ?_
  rintro v56 w ⟨he, hT⟩; clear E a; intro a E
  have S := S.all hT; obtain ⟨own, hown⟩ : ∃ own, own = shaF (zEf s ++ fb) := ⟨_, rfl⟩; rw [← hown] at he; subst he
  refine zAg rfl (zBf E S rfl rfl dZ rfl rfl rfl ?_); clear E S a; intro a w b14 E S
  refine zAg rfl (zAq E S rfl rfl rfl rfl (by simp [Value.oneCell']) rfl pZ (by simp) ?_); clear E S a; intro a w E S; simp only [List.take_succ_cons, List.take_zero, List.drop_succ_cons, List.drop_zero, List.cons_append, List.nil_append, List.append_nil, List.length_cons, List.length_nil, Nat.zero_add, Nat.add_zero] at S
  refine wpList_nil ?_
  refine zAb hK ?_; clear hK K
  refine wp_seq_k ?_; intro K hK
  refine zCn S (.ofL [(0, 0), (1, 0), (4, 0), (2, 1), (3, 1), (5, 0), (6, 3), (7, 2)]) [[(b14, cel [.int .u64 own.a, .int .u64 own.b, .int .u64 own.c, .int .u64 own.d] 29)]] (fun h => h.sub (by first | (simp; done) | (simp +contextual; done) | (simp [*]; done))) yZ yZ ?_
  clear S; intro w S
  refine zmd E ?_; clear E a; intro a E
  iterate 2 (refine zm E rfl (fun w h => zAz (vs := [_, _, _, _]) E rfl rfl rfl (h.one mZ) rfl rfl) ?_; clear E a; intro a E)
  refine zBs E rfl rfl rfl dZ rfl Tryz.func32 rfl yZ rfl (zIm own _ _ S.hp) ?_
  rintro v59 w ⟨D2, hD2, hT⟩; clear E a; intro a E
  have S := S.all hT
  refine ⟨S.stab.sub (by first | (simp; done) | (simp +contextual; done) | (simp [*]; done)), ?_⟩
  refine zCu rfl rfl (zBu (by' := 1) E S rfl rfl dZ rfl rfl hfr pZ (hD2.rd.src (S.stab.at mZ) rfl) rfl rfl rfl rfl rfl rfl (by simp only [maxLen]; omega) oZ ?_); clear E S a; intro a w v60 C60 E S hB60; refine ⟨S.stab.sub (by first | (simp; done) | (simp +contextual; done) | (simp [*]; done)), ?_⟩
  refine zmd E ?_; clear E a; intro a E
  refine zCb rfl rfl (zAq E S rfl rfl rfl rfl (by simp [Value.oneCell']) rfl pZ (by simp) ?_); clear E S a; intro a w E S; simp only [List.take_succ_cons, List.take_zero, List.drop_succ_cons, List.drop_zero, List.cons_append, List.nil_append, List.append_nil, List.length_cons, List.length_nil, Nat.zero_add, Nat.add_zero] at S
  refine zCg E rfl rfl rfl dZ (fun w => zCl E rfl rfl) ?_; clear E a; intro a E
  refine zBi ?_
  refine zAb hK ?_; clear hK K
  refine wp_ret ?_
  refine ret_tct E rfl rfl rfl rfl (S.get pZ) rfl ?_
  have hlen := zDg own
  have hpb : zCt r.kind (zEx r.kind r) s = fb ++ zEf own := by rw [zCt, ownS, ← hbody, ← hfb, ← hown]
  have howns : ownS r.kind (zEx r.kind r) s = own := by rw [ownS, ← hbody, ← hfb, ← hown]
  refine ⟨_, rfl, .inr ⟨hck, v60, C60, by rw [howns], ?_, ?_⟩⟩
  ·rw [hpb, zDa, List.length_append, hlen]; exact hB60
  ·exact (St.drops [_, _, _, _, _, _, _, _, _] (S.front1 (A := C60) pZ)).tr
end Go.Proofs.YtbogecljkaimdaaGreatDoor
namespace Go.Sl
theorem zCk (s : Rdr) (k : Nat) : (s.num k).1 < 256 ^ k := by
 have hp : 0 < 256 ^ k := Nat.pow_pos oZ
 unfold Rdr.num
 split
 ·exact hp
 ·split
  ·exact hp
  ·split
   ·exact hp
   ·rw [Int.toNat_natCast]
    exact Nat.lt_of_lt_of_le (zEu _) (Nat.pow_le_pow_right oZ (by simp only [Rdr.cut, List.length_take]; omega))
def zFh (size : Nat) (less : Int) (s : Rdr) : Nat → List Int × Rdr
 | 0 => ([], s)
 | i + 1 => ((zFh size less s i).1 ++ [(((zFh size less s i).2.num size).1 : Int) - less], ((zFh size less s i).2.num size).2)
theorem zKf (size : Nat) (less : Int) (s : Rdr) (i : Nat) : (zFh size less s i).1.length = i := by
 induction i with
 | zero => rfl
 | succ i ih => simp [zFh, ih]
def zFj (s : Rdr) (size : Nat) (less : Int) : List Int × Rdr := zFh size less (s.num 2).2 (min (s.num 2).1 241)
def prpS (s : Rdr) : Nat → List Prp × Rdr
 | 0 => ([], s)
 | i + 1 => ((prpS s i).1 ++ [⟨((prpS s i).2.text 24).1, (((prpS s i).2.text 24).2.text 64).1⟩], (((prpS s i).2.text 24).2.text 64).2)
theorem prpS_len (s : Rdr) (i : Nat) : (prpS s i).1.length = i := by
 induction i with
 | zero => rfl
 | succ i ih => simp [prpS, ih]
def zCy (k : Int) : Rec := ⟨k, [], 0, 0, 0, 0, [], [], 0, 0, 0, [], []⟩
def take1 (k : Int) (s : Rdr) : Rec × Rdr := ({ zCy k with name := (s.text 24).1, many := ((s.text 24).2.num 2).1 }, ((s.text 24).2.num 2).2)
def take3 (k : Int) (s : Rdr) : Rec × Rdr := ({ zCy k with keep := (zFj s 4 0).1 }, (zFj s 4 0).2)
def take4 (k : Int) (s : Rdr) : Rec × Rdr := ({ zCy k with object := (s.num 4).1, keep := (zFj (s.num 4).2 2 1).1 }, (zFj (s.num 4).2 2 1).2)
def take5 (k : Int) (s : Rdr) : Rec × Rdr :=
 let a := s.num 4
 let b := a.2.num 2
 let c := b.2.num 2
 let d := c.2.bytes c.1
 ({ zCy k with object := a.1, at_ := (b.1 : Int) - 1, data := d.1 }, d.2)
def take6 (k : Int) (s : Rdr) : Rec × Rdr := ({ zCy k with many := (s.num 4).1 }, (s.num 4).2)
def zHs (k : Int) (s : Rdr) : Rec × Rdr :=
 let n := s.text 240
 let a := n.2.num 1
 let b := a.2.num 6
 let c := b.2.num 6
 let d := c.2.num 1
 let t := d.2.text 24
 let m := t.2.num 1
 let p := prpS m.2 m.1
 ({ zCy k with name := n.1, typ := a.1, frm := b.1, guid := c.1, origin := d.1, snap := t.1, props := p.1 }, p.2)
def zEj (k : Int) (s : Rdr) : Rec × Rdr := if k = 1 then take1 k s else if k = 2 then zHs k s else if k = 3 then take3 k s else if k = 4 then take4 k s else if k = 5 then take5 k s else take6 k s
def RecO (tp ti tu : TypeId) (D : zAl) (r : Rec) (pv kv dv : Value) : Prop := ∃ D1 D2 D3, D = D1 ++ (D2 ++ D3) ∧
 Buf D1 tp 2 pv r.props.length (r.props.flatMap Prp.lay) ∧ Buf D2 ti 1 kv r.keep.length (ints r.keep) ∧ Buf D3 tu 1 dv r.data.length (byt r.data)
theorem RecO.rd {tp ti tu : TypeId} {D : zAl} {r : Rec} {pv kv dv : Value} (h : RecO tp ti tu D r pv kv dv) : RecR D r pv kv dv := by
 obtain ⟨D1, D2, D3, rfl, h1, h2, h3⟩ := h
 exact ⟨h1.rd.sub fun x hx => by simp [hx], h2.rd.sub fun x hx => by simp [hx], h3.rd.sub fun x hx => by simp [hx]⟩
abbrev nilv : Value := .slice none 0 0
end Go.Sl
namespace Go.Proofs.YtbogecljkaimdaaGreatDoor
open Go.Sl
set_option maxRecDepth 10000
abbrev zIx := RecO 70 3 5
theorem keep_ret (p : Nat) (s : Rdr) (A : zAl) (hA : RdC 108 p s A) (size : Nat) (less : Int) (h4 : size ≤ 4) (hl : 0 ≤ less ∧ less ≤ 1) (w0 : World) (H : Hp w0 [A]) :
  Ret Tryz.prog 60 #[ptr p, .int .i64 size, .int .i64 less] w0 fun u w' => ∃ A' C, RdC 108 p (zFj s size less).2 A' ∧ Buf C 3 1 u (zFj s size less).1.length (ints (zFj s size less).1) ∧ Trs w0 w' [A] [A', C] := by
 have S := St.begin H
 have hn2 : (s.num 2).1 < 65536 := zCk s 2
 refine zEz 25 Tryz.func60 rfl rfl dZ ?_; intro a E
 refine wp_seq_k ?_; intro K hK
 refine zAa ?_
 refine zd E ?_; clear E a; intro a E
 refine wpList_nil ?_
 refine zAb hK ?_; clear hK K
 refine wp_seq_k ?_; intro K hK
 refine zAa ?_
 refine zd E ?_; clear E a; intro a E
 refine wpList_nil ?_
 refine zAb hK ?_; clear hK K
 iterate 2 (refine wp_seq_k ?_; intro K hK)
 refine zAa ?_
 refine zd E ?_; clear E a; intro a E
 refine zAh E rfl rfl dZ rfl Tryz.func44 rfl yZ rfl (zDm p s A _ hA (S.hp.sel sZ) 2) ?_
 rintro v9 w ⟨A1, rfl, hA1, hT⟩; clear E a; intro a E
 replace S := S.call1 sZ hT; obtain ⟨n, hn⟩ : ∃ n, n = (s.num 2).1 := ⟨_, rfl⟩; rw [← hn] at E hn2
 refine zp E (by first | exact zAo E rfl rfl rfl rfl (by first | exact wu8 _ | exact zCz oZ | exact zCe oZ | exact w_in oZ | exact zBb oZ | exact rfl) | exact zBh E rfl rfl rfl rfl rfl (by assumption) (S.stab.at (by simp))) ?_; clear E a; intro a E
 refine zp E (rn_min E rfl rfl rfl) ?_; clear E a; intro a E
 obtain ⟨q, hq⟩ : ∃ q, q = min n 241 := ⟨_, rfl⟩; rw [show min (n : Int) 241 = ((q : Nat) : Int) by omega] at E
 refine zd E ?_; clear E a; intro a E
 refine wpList_nil ?_
 refine zAb hK ?_; clear hK K
 refine wp_block ?_
 refine wp_loop_ghost (fun (m : Nat) (a : Act) (w' : World) => ∃ (i : Nat) (A' C : zAl) (v : Value), m = q - i ∧ i ≤ q ∧ RdC 108 p (zFh size less (s.num 2).2 i).2 A' ∧ Buf C 3 1 v i (ints (zFh size less (s.num 2).2 i).1) ∧ St w0 [A] w' [A', C] ∧ Fr a 25 [(0, ptr p), (1, .int .i64 size), (2, .int .i64 less), (7, v), (11, .int .i64 q), (12, .int .i64 i)]) (q) ?_ ?_
 ·exact ⟨0, A1, [], _, by omega, by omega, hA1, Buf.nil _ _, S.addNil.perm2, E.keep (kE6 rfl rfl rfl rfl rfl rfl)⟩
 clear E; clear a; (try clear S); rintro m a w ⟨i, A', C, v, rfl, hi, hA', hB, S, E⟩
 refine wp_seq_k ?_; intro K hK
 refine zAa ?_
 refine zd E ?_; clear E a; intro a E
 refine wpList_nil ?_
 refine zAb hK ?_; clear hK K
 refine wp_seq_k ?_; intro K hK
 refine zAs E rfl (fun hb => ?_) (fun hb => ?_)
 ·replace hb := Nrm.nrm hb
  refine wp_skip ?_
  refine zAb hK ?_; clear hK K
  refine wp_seq_k ?_; intro K hK
  refine wp_block ?_
  have hlt : ((zFh size less (s.num 2).2 i).2.num size).1 < 4294967296 := Nat.lt_of_lt_of_le (zCk _ size) (Nat.pow_le_pow_right (n := 256) oZ h4)
  refine zAa ?_
  iterate 3 (refine zd E ?_; clear E a; intro a E)
  refine zAh E rfl rfl dZ rfl Tryz.func44 rfl yZ rfl (zDm p _ A' _ hA' (S.hp.sel sZ) size) ?_
  rintro v17 w ⟨A2, rfl, hA2, hT⟩; clear E a; intro a E
  replace S := S.call1 sZ hT; obtain ⟨x, hx⟩ : ∃ x, x = ((zFh size less (s.num 2).2 i).2.num size).1 := ⟨_, rfl⟩; rw [← hx] at E hlt
  refine zp E (by first | exact zAo E rfl rfl rfl rfl (by first | exact wu8 _ | exact zCz oZ | exact zCe oZ | exact w_in oZ | exact zBb oZ | exact rfl) | exact zBh E rfl rfl rfl rfl rfl (by assumption) (S.stab.at (by simp))) ?_; clear E a; intro a E
  refine zd E ?_; clear E a; intro a E
  refine zp E (zCv E rfl rfl rfl (w_in oZ)) ?_; clear E a; intro a E
  refine zAg rfl (zCm (cells := [_]) E S rfl rfl dZ rfl rfl rfl rfl rfl dZ rfl ?_); clear E S a; intro a w b21 E S
  refine zAg rfl (zBu (by' := 8) E S rfl rfl dZ rfl rfl hB pZ ((zEa (g := b21) (T := 3) (xs := [.int .i64 ((x : Int) - less)]) (s := 1) (m := 1) rfl (by simp [Value.oneCell']) oZ 1).src (S.stab.at mZ) rfl) rfl rfl rfl rfl rfl rfl (by simp only [maxLen]; omega) oZ ?_); clear E S a; intro a w v22 C22 E S hB22
  refine zd E ?_; clear E a; intro a E
  refine wpList_nil ?_
  refine zAr ?_
  refine zAb hK ?_; clear hK K
  refine zAa ?_
  refine zp E (zBc E rfl rfl rfl (by first | exact zBq (y := 1) oZ | exact w_in oZ | exact zBb oZ | exact rfl)) ?_; clear E a; intro a E
  refine zd E ?_; clear E a; intro a E
  refine wpList_nil ?_
  refine zAy ?_
  have hB2 : Buf C22 3 1 v22 (i + 1) (ints (zFh size less (s.num 2).2 (i + 1)).1) := by
   rw [zFh, ← hx]; simp only [ints, List.map_append]; exact hB22
  exact ⟨_, by omega, i + 1, A2, C22, v22, rfl, by omega, hA2, hB2, (St.drops2 [_] (S.front2 (A := A2) (B := C22) pZ pZ)), E.keep (kE6 rfl rfl rfl rfl rfl rfl)⟩
 ·replace hb := Nrm.nrm hb
  refine wp_exit ?_
  refine zAp ?_; clear hK K
  refine zAp ?_
  refine zBr ?_
  refine zAb hK ?_; clear hK K
  refine wp_seq_k ?_; intro K hK
  refine zAa ?_
  iterate 2 (refine zd E ?_; clear E a; intro a E)
  refine wpList_nil ?_
  refine zAb hK ?_; clear hK K
  refine wp_ret ?_
  refine ret1 E rfl rfl ?_
  obtain rfl : i = q := by omega
  have hk : zFj s size less = zFh size less (s.num 2).2 i := by rw [zFj, ← hn, ← hq]
  rw [hk, zKf]
  exact ⟨_, rfl, A', C, hA', hB, S.tr⟩
end Go.Proofs.YtbogecljkaimdaaGreatDoor
namespace Go.Proofs.YtbogecljkaimdaaGreatDoor
open Go.Sl
set_option maxRecDepth 10000
section
variable (p b : Nat) (k : Int) (s : Rdr) (A : zAl) (hA : RdC 108 p s A) (w0 : World) (H : Hp w0 [A, [(b, cel ((zCy k).cells nilv nilv nilv) 26)]])
include hA H
theorem take1_ret : Ret Tryz.prog 52 #[ptr p, ptr b] w0 fun _ w' => ∃ A' D pv kv dv, RdC 108 p (take1 k s).2 A' ∧ zIx D (take1 k s).1 pv kv dv ∧ Trs w0 w' [A, [(b, cel ((zCy k).cells nilv nilv nilv) 26)]] [A', [(b, cel ((take1 k s).1.cells pv kv dv) 26)], D] := by
 have S := St.begin H
 have hn : ((s.text 24).2.num 2).1 < 65536 := zCk _ 2
 refine zBt 15 Tryz.func52 rfl rfl dZ ?_; intro a E
 refine zAa ?_
 iterate 3 (refine zd E ?_; clear E a; intro a E)
 refine zAh E rfl rfl dZ rfl Tryz.func53 rfl yZ rfl (zGp p s A _ hA (S.hp.sel sZ) 24) ?_
 rintro v7 w ⟨A1, rfl, hA1, hT⟩; clear E a; intro a E
 have S := S.call1 sZ hT
 refine zd E ?_; clear E a; intro a E
 refine zAh E rfl rfl dZ rfl Tryz.func44 rfl yZ rfl (zDm p _ A1 _ hA1 (S.hp.sel sZ) 2) ?_
 rintro v9 w ⟨A2, rfl, hA2, hT⟩; clear E a; intro a E
 have S := S.call1 sZ hT
 refine zp E (by first | exact zAo E rfl rfl rfl rfl (by first | exact wu8 _ | exact zCz oZ | exact zCe oZ | exact w_in oZ | exact zBb oZ | exact rfl) | exact zBh E rfl rfl rfl rfl rfl (by assumption) (S.stab.at (by simp))) ?_; clear E a; intro a E
 refine zd E ?_; clear E a; intro a E
 refine zp E (by first | exact zAc (q := 1) E rfl rfl rfl | exact zAd (q := 1) E rfl rfl rfl) ?_; clear E a; intro a E
 refine zAg rfl (zAv E S rfl rfl rfl rfl rfl rfl pZ (by first | exact Nat.le_of_ble_eq_true rfl | (simp; done) | (simp; omega)) ?_); clear E S a; intro a w E S; try dsimp only [List.set] at S
 refine zd E ?_; clear E a; intro a E
 refine zp E (by first | exact zAc (q := 10) E rfl rfl rfl | exact zAd (q := 10) E rfl rfl rfl) ?_; clear E a; intro a E
 refine zAg rfl (zAv E S rfl rfl rfl rfl rfl rfl pZ (by first | exact Nat.le_of_ble_eq_true rfl | (simp; done) | (simp; omega)) ?_); clear E S a; intro a w E S; try dsimp only [List.set] at S
 refine wpList_nil ?_
 refine end0 E rfl ?_
 exact ⟨_, rfl, A2, [], nilv, nilv, nilv, hA2, ⟨[], [], [], rfl, Buf.nil _ _, Buf.nil _ _, Buf.nil _ _⟩, (S.addNil.perm (Bs := [A2, _, []]) (zBa pZ (zBa pZ (zBa pZ (zDc _))))).tr⟩
theorem take3_ret : Ret Tryz.prog 59 #[ptr p, ptr b] w0 fun _ w' => ∃ A' D pv kv dv, RdC 108 p (take3 k s).2 A' ∧ zIx D (take3 k s).1 pv kv dv ∧ Trs w0 w' [A, [(b, cel ((zCy k).cells nilv nilv nilv) 26)]] [A', [(b, cel ((take3 k s).1.cells pv kv dv) 26)], D] := by
 have S := St.begin H
 refine zBt 9 Tryz.func59 rfl rfl dZ ?_; intro a E
 refine zAa ?_
 iterate 2 (refine zd E ?_; clear E a; intro a E)
 refine zAh E rfl rfl dZ rfl Tryz.func60 rfl yZ rfl (keep_ret p s A hA 4 0 oZ oZ _ (S.hp.sel sZ)) ?_
 rintro v6 w ⟨A1, C, hA1, hC, hT⟩; clear E a; intro a E
 have S := S.call2 sZ hT; obtain ⟨ad, c, rfl⟩ := hC.slice
 refine zd E ?_; clear E a; intro a E
 refine zp E (by first | exact zAc (q := 11) E rfl rfl rfl | exact zAd (q := 11) E rfl rfl rfl) ?_; clear E a; intro a E
 refine zAg rfl (zAv E S rfl rfl rfl rfl rfl rfl pZ (by first | exact Nat.le_of_ble_eq_true rfl | (simp; done) | (simp; omega)) ?_); clear E S a; intro a w E S; try dsimp only [List.set] at S
 refine wpList_nil ?_
 refine end0 E rfl ?_
 exact ⟨_, rfl, A1, C, nilv, _, nilv, hA1, ⟨[], C, [], by simp, Buf.nil _ _, hC, Buf.nil _ _⟩, (S.perm (Bs := [A1, _, C]) (zBa pZ (zBa pZ (zBa pZ (zDc _))))).tr⟩
theorem take4_ret : Ret Tryz.prog 63 #[ptr p, ptr b] w0 fun _ w' => ∃ A' D pv kv dv, RdC 108 p (take4 k s).2 A' ∧ zIx D (take4 k s).1 pv kv dv ∧ Trs w0 w' [A, [(b, cel ((zCy k).cells nilv nilv nilv) 26)]] [A', [(b, cel ((take4 k s).1.cells pv kv dv) 26)], D] := by
 have S := St.begin H
 have hn : (s.num 4).1 < 4294967296 := zCk _ 4
 refine zBt 15 Tryz.func63 rfl rfl dZ ?_; intro a E
 refine zAa ?_
 iterate 3 (refine zd E ?_; clear E a; intro a E)
 refine zAh E rfl rfl dZ rfl Tryz.func44 rfl yZ rfl (zDm p s A _ hA (S.hp.sel sZ) 4) ?_
 rintro v7 w ⟨A1, rfl, hA1, hT⟩; clear E a; intro a E
 have S := S.call1 sZ hT
 refine zp E (by first | exact zAo E rfl rfl rfl rfl (by first | exact wu8 _ | exact zCz oZ | exact zCe oZ | exact w_in oZ | exact zBb oZ | exact rfl) | exact zBh E rfl rfl rfl rfl rfl (by assumption) (S.stab.at (by simp))) ?_; clear E a; intro a E
 refine zd E ?_; clear E a; intro a E
 refine zAh E rfl rfl dZ rfl Tryz.func60 rfl yZ rfl (keep_ret p _ A1 hA1 2 1 oZ oZ _ (S.hp.sel sZ)) ?_
 rintro v10 w ⟨A2, C, hA2, hC, hT⟩; clear E a; intro a E
 have S := S.call2 sZ hT; obtain ⟨ad, c, rfl⟩ := hC.slice
 refine zd E ?_; clear E a; intro a E
 refine zp E (by first | exact zAc (q := 8) E rfl rfl rfl | exact zAd (q := 8) E rfl rfl rfl) ?_; clear E a; intro a E
 refine zAg rfl (zAv E S rfl rfl rfl rfl rfl rfl pZ (by first | exact Nat.le_of_ble_eq_true rfl | (simp; done) | (simp; omega)) ?_); clear E S a; intro a w E S; try dsimp only [List.set] at S
 refine zd E ?_; clear E a; intro a E
 refine zp E (by first | exact zAc (q := 11) E rfl rfl rfl | exact zAd (q := 11) E rfl rfl rfl) ?_; clear E a; intro a E
 refine zAg rfl (zAv E S rfl rfl rfl rfl rfl rfl pZ (by first | exact Nat.le_of_ble_eq_true rfl | (simp; done) | (simp; omega)) ?_); clear E S a; intro a w E S; try dsimp only [List.set] at S
 refine wpList_nil ?_
 refine end0 E rfl ?_
 exact ⟨_, rfl, A2, C, nilv, _, nilv, hA2, ⟨[], C, [], by simp, Buf.nil _ _, hC, Buf.nil _ _⟩, (S.perm (Bs := [A2, _, C]) (zBa pZ (zBa pZ (zBa pZ (zDc _))))).tr⟩
theorem take5_ret : Ret Tryz.prog 67 #[ptr p, ptr b] w0 fun _ w' => ∃ A' D pv kv dv, RdC 108 p (take5 k s).2 A' ∧ zIx D (take5 k s).1 pv kv dv ∧ Trs w0 w' [A, [(b, cel ((zCy k).cells nilv nilv nilv) 26)]] [A', [(b, cel ((take5 k s).1.cells pv kv dv) 26)], D] := by
 have S := St.begin H
 have hn : (s.num 4).1 < 4294967296 := zCk _ 4
 have hn2 : ((s.num 4).2.num 2).1 < 65536 := zCk _ 2
 have hn3 : (((s.num 4).2.num 2).2.num 2).1 < 65536 := zCk _ 2
 refine zBt 25 Tryz.func67 rfl rfl dZ ?_; intro a E
 refine wp_seq_k ?_; intro K hK
 refine zAa ?_
 iterate 3 (refine zd E ?_; clear E a; intro a E)
 refine zAh E rfl rfl dZ rfl Tryz.func44 rfl yZ rfl (zDm p s A _ hA (S.hp.sel sZ) 4) ?_
 rintro v7 w ⟨A1, rfl, hA1, hT⟩; clear E a; intro a E
 have S := S.call1 sZ hT
 refine zp E (by first | exact zAo E rfl rfl rfl rfl (by first | exact wu8 _ | exact zCz oZ | exact zCe oZ | exact w_in oZ | exact zBb oZ | exact rfl) | exact zBh E rfl rfl rfl rfl rfl (by assumption) (S.stab.at (by simp))) ?_; clear E a; intro a E
 refine zd E ?_; clear E a; intro a E
 refine zAh E rfl rfl dZ rfl Tryz.func44 rfl yZ rfl (zDm p _ A1 _ hA1 (S.hp.sel sZ) 2) ?_
 rintro v10 w ⟨A2, rfl, hA2, hT⟩; clear E a; intro a E
 have S := S.call1 sZ hT
 refine zp E (by first | exact zAo E rfl rfl rfl rfl (by first | exact wu8 _ | exact zCz oZ | exact zCe oZ | exact w_in oZ | exact zBb oZ | exact rfl) | exact zBh E rfl rfl rfl rfl rfl (by assumption) (S.stab.at (by simp))) ?_; clear E a; intro a E
 refine zp E (zCv E rfl rfl rfl (w_in oZ)) ?_; clear E a; intro a E
 refine zd E ?_; clear E a; intro a E
 refine zp E (by first | exact zAc (q := 8) E rfl rfl rfl | exact zAd (q := 8) E rfl rfl rfl) ?_; clear E a; intro a E
 refine zAg rfl (zAv E S rfl rfl rfl rfl rfl rfl pZ (by first | exact Nat.le_of_ble_eq_true rfl | (simp; done) | (simp; omega)) ?_); clear E S a; intro a w E S; try dsimp only [List.set] at S
 refine zd E ?_; clear E a; intro a E
 refine zp E (by first | exact zAc (q := 9) E rfl rfl rfl | exact zAd (q := 9) E rfl rfl rfl) ?_; clear E a; intro a E
 refine zAg rfl (zAv E S rfl rfl rfl rfl rfl rfl pZ (by first | exact Nat.le_of_ble_eq_true rfl | (simp; done) | (simp; omega)) ?_); clear E S a; intro a w E S; try dsimp only [List.set] at S
 refine wpList_nil ?_
 refine zAb hK ?_; clear hK K
 refine zAa ?_
 iterate 3 (refine zd E ?_; clear E a; intro a E)
 refine zAh E rfl rfl dZ rfl Tryz.func44 rfl yZ rfl (zDm p _ A2 _ hA2 (S.hp.sel sZ) 2) ?_
 rintro v20 w ⟨A3, rfl, hA3, hT⟩; clear E a; intro a E
 have S := S.call1 sZ hT
 refine zp E (by first | exact zAo E rfl rfl rfl rfl (by first | exact wu8 _ | exact zCz oZ | exact zCe oZ | exact w_in oZ | exact zBb oZ | exact rfl) | exact zBh E rfl rfl rfl rfl rfl (by assumption) (S.stab.at (by simp))) ?_; clear E a; intro a E
 refine zAh E rfl rfl dZ rfl Tryz.func68 rfl yZ rfl (rbytes_ret p _ A3 _ hA3 (S.hp.sel sZ) (((s.num 4).2.num 2).2.num 2).1 oZ) ?_
 rintro v22 w ⟨A4, C, hA4, hT, hC⟩; clear E a; intro a E
 have S := S.call2 sZ hT; obtain ⟨ad, c, rfl⟩ := hC.slice
 refine zd E ?_; clear E a; intro a E
 refine zp E (by first | exact zAc (q := 12) E rfl rfl rfl | exact zAd (q := 12) E rfl rfl rfl) ?_; clear E a; intro a E
 refine zAg rfl (zAv E S rfl rfl rfl rfl rfl rfl pZ (by first | exact Nat.le_of_ble_eq_true rfl | (simp; done) | (simp; omega)) ?_); clear E S a; intro a w E S; try dsimp only [List.set] at S
 refine wpList_nil ?_
 refine end0 E rfl ?_
 exact ⟨_, rfl, A4, C, nilv, nilv, _, hA4, ⟨[], [], C, by simp, Buf.nil _ _, Buf.nil _ _, hC⟩, (S.perm (Bs := [A4, _, C]) (zBa pZ (zBa pZ (zBa pZ (zDc _))))).tr⟩
theorem take6_ret : Ret Tryz.prog 101 #[ptr p, ptr b] w0 fun _ w' => ∃ A' D pv kv dv, RdC 108 p (take6 k s).2 A' ∧ zIx D (take6 k s).1 pv kv dv ∧ Trs w0 w' [A, [(b, cel ((zCy k).cells nilv nilv nilv) 26)]] [A', [(b, cel ((take6 k s).1.cells pv kv dv) 26)], D] := by
 have S := St.begin H
 have hn : (s.num 4).1 < 4294967296 := zCk _ 4
 refine zBt 10 Tryz.func101 rfl rfl dZ ?_; intro a E
 refine zAa ?_
 iterate 2 (refine zd E ?_; clear E a; intro a E)
 refine zAh E rfl rfl dZ rfl Tryz.func44 rfl yZ rfl (zDm p s A _ hA (S.hp.sel sZ) 4) ?_
 rintro v6 w ⟨A1, rfl, hA1, hT⟩; clear E a; intro a E
 have S := S.call1 sZ hT
 refine zp E (by first | exact zAo E rfl rfl rfl rfl (by first | exact wu8 _ | exact zCz oZ | exact zCe oZ | exact w_in oZ | exact zBb oZ | exact rfl) | exact zBh E rfl rfl rfl rfl rfl (by assumption) (S.stab.at (by simp))) ?_; clear E a; intro a E
 refine zd E ?_; clear E a; intro a E
 refine zp E (by first | exact zAc (q := 10) E rfl rfl rfl | exact zAd (q := 10) E rfl rfl rfl) ?_; clear E a; intro a E
 refine zAg rfl (zAv E S rfl rfl rfl rfl rfl rfl pZ (by first | exact Nat.le_of_ble_eq_true rfl | (simp; done) | (simp; omega)) ?_); clear E S a; intro a w E S; try dsimp only [List.set] at S
 refine wpList_nil ?_
 refine end0 E rfl ?_
 exact ⟨_, rfl, A1, [], nilv, nilv, nilv, hA1, ⟨[], [], [], rfl, Buf.nil _ _, Buf.nil _ _, Buf.nil _ _⟩, (S.addNil.perm (Bs := [A1, _, []]) (zBa pZ (zBa pZ (zBa pZ (zDc _))))).tr⟩
end
end Go.Proofs.YtbogecljkaimdaaGreatDoor
