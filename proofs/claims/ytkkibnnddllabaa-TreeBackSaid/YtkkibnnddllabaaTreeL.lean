/-
  Objects as blocks: the law's 'same'.
-/
import Derived.Test.YtkkibnnddllabaaTreeO
namespace Go.Sl
/-- What the law writes into the blocks. -/
def wrote (bs : List (List UInt8)) (i : Nat) : List (List UInt8) := bs.mapIdx fun j x => if j < i then List.replicate x.length (UInt8.ofNat (200 + j)) else x
theorem wrote_length (bs : List (List UInt8)) (i : Nat) : (wrote bs i).length = bs.length := by simp [wrote]
theorem wrote_zero (bs : List (List UInt8)) : wrote bs 0 = bs := by
  apply List.ext_getElem
  · simp [wrote]
  · intro j h1 h2; simp [wrote]
theorem wrote_at (bs : List (List UInt8)) (i j : Nat) (h : j < (wrote bs i).length) : (wrote bs i)[j] = if j < i then List.replicate (bs[j]'(by rw [wrote_length] at h; exact h)).length (UInt8.ofNat (200 + j)) else bs[j]'(by rw [wrote_length] at h; exact h) := by simp [wrote]
/-- And within a block. -/
def half (x : List UInt8) (c : UInt8) (k : Nat) : List UInt8 := List.replicate k c ++ x.drop k
theorem half_length (x : List UInt8) (c : UInt8) {k : Nat} (h : k ≤ x.length) : (half x c k).length = x.length := by simp [half]; omega
theorem half_set {x : List UInt8} {c : UInt8} {k : Nat} (h : k < x.length) : (half x c k).set k c = half x c (k + 1) := by
  rw [half, List.set_append, if_neg (by simp), List.length_replicate, Nat.sub_self, List.drop_eq_getElem_cons h, List.set_cons_zero, half, List.replicate_succ', List.append_assoc]; rfl
theorem wrote_start (bs : List (List UInt8)) {i : Nat} (h : i < bs.length) (c : UInt8) : (wrote bs i).set i (half bs[i] c 0) = wrote bs i := by
  apply List.ext_getElem
  · simp
  · intro j h1 h2
    rw [List.getElem_set]
    split
    · rename_i e; subst e; rw [wrote_at]; simp [half]
    · rfl
theorem wrote_end (bs : List (List UInt8)) {i : Nat} (h : i < bs.length) : (wrote bs i).set i (half bs[i] (UInt8.ofNat (200 + i)) bs[i].length) = wrote bs (i + 1) := by
  apply List.ext_getElem
  · simp [wrote_length]
  · intro j h1 h2
    rw [List.getElem_set]
    split
    · rename_i e; subst e; rw [wrote_at]; simp [half]
    · rename_i e; rw [wrote_at, wrote_at]
      by_cases c : j < i
      · rw [if_pos c, if_pos (by omega)]
      · rw [if_neg c, if_neg (by omega)]
theorem set_self {α : Type} {l : List α} {i : Nat} {v : α} (h : l[i]? = some v) : l.set i v = l := by
  obtain ⟨hi, rfl⟩ := List.getElem?_eq_some_iff.1 h
  exact List.set_getElem_self hi
end Go.Sl
namespace Go.Proofs.Ytkkibnnddllabaa
open Go.Sl
set_option maxRecDepth 10000

theorem bsame_ret (C D C2 D2 : Chunk) (v u : Value) (bs : List (List UInt8)) (hB : Bl C D v bs) (hB2 : Bl C2 D2 u bs) (hl : bs.length ≤ 140737488355328) (hs : ∀ x ∈ bs, x.length ≤ 1024) (w0 : World) (H : Hp w0 [C, D, C2, D2]) :
    Ret Try.prog 10 #[v, u] w0 fun r w' => r = .bool true ∧ Trs w0 w' [C, D, C2, D2] [] := by
  have S := St.begin H
  obtain ⟨vs, hC, hD⟩ := hB
  obtain ⟨us, hC2, hD2⟩ := hB2
  obtain ⟨ad, c, rfl⟩ := hC.slice
  obtain ⟨ad2, c2, rfl⟩ := hC2.slice
  refine enter2 82 Try.func10 rfl rfl (by decide) ?_; intro a E
  refine wp_seq_k ?_; intro K hK
  refine region_list ?_
  refine list_pure E rfl rfl (by decide) (rn_assign E rfl rfl) ?_; clear E a; intro a E
  refine wpList_nil ?_
  refine then_k hK ?_; clear hK; clear K
  refine wp_seq_k ?_; intro K hK
  refine wp_seq_k ?_; intro K hK
  refine region_list ?_
  refine list_pure E rfl rfl (by decide) (rn_move E rfl rfl) ?_; clear E a; intro a E
  refine list_pure E rfl rfl (by decide) (by first | exact rn_len E rfl rfl rfl | exact rn_len_str E rfl rfl rfl | exact rn_len_string E rfl rfl rfl) ?_; clear E a; intro a E
  refine list_pure E rfl rfl (by decide) (rn_move E rfl rfl) ?_; clear E a; intro a E
  refine list_pure E rfl rfl (by decide) (by first | exact rn_len E rfl rfl rfl | exact rn_len_str E rfl rfl rfl | exact rn_len_string E rfl rfl rfl) ?_; clear E a; intro a E
  refine list_pure E rfl rfl (by decide) (by first | exact rn_neq E rfl rfl rfl | exact rn_neq_ptr_nil E rfl rfl rfl rfl | exact rn_neq_bool E rfl rfl rfl rfl | exact rn_neq_string E rfl rfl rfl) ?_; clear E a; intro a E
  refine wpList_nil ?_
  refine then_k hK ?_; clear hK; clear K
  refine if_bool E rfl (fun hb => ?_) (fun hb => ?_)
  · first | with_reducible replace hb := n1 hb | with_reducible replace hb := n2 hb | with_reducible replace hb := n3 hb | with_reducible replace hb := n4 hb | with_reducible replace hb := n5 hb | with_reducible replace hb := n6 hb | replace hb := n1 hb | replace hb := n2 hb | replace hb := n3 hb | replace hb := n4 hb | replace hb := n5 hb | replace hb := n6 hb | skip
    exfalso; exact hb rfl
  · first | with_reducible replace hb := n1 hb | with_reducible replace hb := n2 hb | with_reducible replace hb := n3 hb | with_reducible replace hb := n4 hb | with_reducible replace hb := n5 hb | with_reducible replace hb := n6 hb | replace hb := n1 hb | replace hb := n2 hb | replace hb := n3 hb | replace hb := n4 hb | replace hb := n5 hb | replace hb := n6 hb | skip
    refine wp_skip ?_
    refine then_k hK ?_; clear hK; clear K
    refine wp_seq_k ?_; intro K hK
    refine wp_seq_k ?_; intro K hK
    refine region_list ?_
    refine list_pure E rfl rfl (by decide) (rn_assign E rfl rfl) ?_; clear E a; intro a E
    refine wpList_nil ?_
    refine then_k hK ?_; clear hK; clear K
    refine wp_block ?_
    refine wp_loop_ghost (fun (m : Nat) (a : Act) (w' : World) => ∃ i : Nat, m = bs.length - i ∧ i ≤ bs.length ∧ St w0 [C, D, C2, D2] w' [C, D, C2, D2] ∧ Fr a 82 [(0, .slice ad bs.length c), (1, .slice ad2 bs.length c2), (5, .int .i64 i)]) (bs.length - 0) ?_ ?_
    · exact ⟨0, rfl, by omega, S, E.keep (keep_cons rfl (keep_cons rfl (keep_cons rfl keep_nil)))⟩
    clear E; clear a; rintro m a w ⟨i, rfl, hi, S, E⟩
    refine wp_seq_k ?_; intro K hK
    refine wp_seq_k ?_; intro K hK
    refine region_list ?_
    refine list_pure E rfl rfl (by decide) (rn_move E rfl rfl) ?_; clear E a; intro a E
    refine list_pure E rfl rfl (by decide) (rn_move E rfl rfl) ?_; clear E a; intro a E
    refine list_pure E rfl rfl (by decide) (by first | exact rn_len E rfl rfl rfl | exact rn_len_str E rfl rfl rfl | exact rn_len_string E rfl rfl rfl) ?_; clear E a; intro a E
    refine list_pure E rfl rfl (by decide) (rn_lss E rfl rfl rfl) ?_; clear E a; intro a E
    refine wpList_nil ?_
    refine then_k hK ?_; clear hK; clear K
    refine if_bool E rfl (fun hb => ?_) (fun hb => ?_)
    · first | with_reducible replace hb := n1 hb | with_reducible replace hb := n2 hb | with_reducible replace hb := n3 hb | with_reducible replace hb := n4 hb | with_reducible replace hb := n5 hb | with_reducible replace hb := n6 hb | replace hb := n1 hb | replace hb := n2 hb | replace hb := n3 hb | replace hb := n4 hb | replace hb := n5 hb | replace hb := n6 hb | skip
      refine wp_skip ?_
      refine then_k hK ?_; clear hK; clear K
      refine wp_seq_k ?_; intro K hK
      refine wp_block ?_
      refine wp_seq_k ?_; intro K hK
      have hib : i < bs.length := by omega
      obtain ⟨g, rfl⟩ := hC.addr (by omega)
      obtain ⟨g2, rfl⟩ := hC2.addr (by omega)
      obtain ⟨vi, hvi, hR⟩ := hD.rd hib
      obtain ⟨ui, hui, hR2⟩ := hD2.rd hib
      refine region_mix0 S (.ofL [(0, 0), (1, 0), (2, 0), (3, 0), (4, 0), (5, 0), (6, 0), (7, 0), (8, 0), (9, 0), (10, 0)]) (by kernel_rfl) (by kernel_rfl) ?_
      clear S; intro w S
      refine mix_pure E rfl rfl rfl (by decide) (fun w h => rn_move E rfl rfl) ?_; clear E a; intro a E
      refine mix_pure E rfl rfl rfl (by decide) (fun w h => rn_move E rfl rfl) ?_; clear E a; intro a E
      refine mix_pure E rfl rfl rfl (by decide) (fun w h => by first | exact rn_indexAddr1 E rfl rfl rfl rfl rfl rfl (by omega) | exact rn_indexAddr E rfl rfl rfl rfl rfl rfl (by omega) | exact rn_indexAddr_array E rfl rfl rfl rfl rfl rfl (by omega)) ?_; clear E a; intro a E
      refine mix_pure E rfl rfl rfl (by decide) (fun w h => rn_loadc E rfl rfl rfl (hC.rd.cells (h.at (by first | exact mm1 | exact mm2 | exact mm3 | exact mm4 | exact mm5 | exact mm6 | exact mm7 | exact mm8)) rfl i _ hvi)) ?_; clear E a; intro a E
      refine mix_pure E rfl rfl rfl (by decide) (fun w h => rn_string E rfl rfl rfl rfl rfl hR (h.at (by first | exact mm1 | exact mm2 | exact mm3 | exact mm4 | exact mm5 | exact mm6 | exact mm7 | exact mm8))) ?_; clear E a; intro a E
      refine mix_pure E rfl rfl rfl (by decide) (fun w h => rn_move E rfl rfl) ?_; clear E a; intro a E
      refine mix_pure E rfl rfl rfl (by decide) (fun w h => rn_move E rfl rfl) ?_; clear E a; intro a E
      refine mix_pure E rfl rfl rfl (by decide) (fun w h => by first | exact rn_indexAddr1 E rfl rfl rfl rfl rfl rfl (by omega) | exact rn_indexAddr E rfl rfl rfl rfl rfl rfl (by omega) | exact rn_indexAddr_array E rfl rfl rfl rfl rfl rfl (by omega)) ?_; clear E a; intro a E
      refine mix_pure E rfl rfl rfl (by decide) (fun w h => rn_loadc E rfl rfl rfl (hC2.rd.cells (h.at (by first | exact mm1 | exact mm2 | exact mm3 | exact mm4 | exact mm5 | exact mm6 | exact mm7 | exact mm8)) rfl i _ hui)) ?_; clear E a; intro a E
      refine mix_pure E rfl rfl rfl (by decide) (fun w h => rn_string E rfl rfl rfl rfl rfl hR2 (h.at (by first | exact mm1 | exact mm2 | exact mm3 | exact mm4 | exact mm5 | exact mm6 | exact mm7 | exact mm8))) ?_; clear E a; intro a E
      refine mix_pure E rfl rfl rfl (by decide) (fun w h => by first | exact rn_neq E rfl rfl rfl | exact rn_neq_ptr_nil E rfl rfl rfl rfl | exact rn_neq_bool E rfl rfl rfl rfl | exact rn_neq_string E rfl rfl rfl) ?_; clear E a; intro a E
      refine mix_nil ?_
      refine then_k hK ?_; clear hK; clear K
      refine if_bool E rfl (fun hb => ?_) (fun hb => ?_)
      · first | with_reducible replace hb := n1 hb | with_reducible replace hb := n2 hb | with_reducible replace hb := n3 hb | with_reducible replace hb := n4 hb | with_reducible replace hb := n5 hb | with_reducible replace hb := n6 hb | replace hb := n1 hb | replace hb := n2 hb | replace hb := n3 hb | replace hb := n4 hb | replace hb := n5 hb | replace hb := n6 hb | skip
        exfalso; simp at hb
      · first | with_reducible replace hb := n1 hb | with_reducible replace hb := n2 hb | with_reducible replace hb := n3 hb | with_reducible replace hb := n4 hb | with_reducible replace hb := n5 hb | with_reducible replace hb := n6 hb | replace hb := n1 hb | replace hb := n2 hb | replace hb := n3 hb | replace hb := n4 hb | replace hb := n5 hb | replace hb := n6 hb | skip
        refine wp_skip ?_
        refine in_normal ?_
        refine then_k hK ?_; clear hK; clear K
        refine region_list ?_
        refine list_pure E rfl rfl (by decide) (rn_move E rfl rfl) ?_; clear E a; intro a E
        refine list_pure E rfl rfl (by decide) (rn_add E rfl rfl rfl (by first | exact wa_lit (y := 1) (by omega) | exact w_in (by omega) | exact w_inu (by omega) | exact rfl)) ?_; clear E a; intro a E
        refine list_pure E rfl rfl (by decide) (rn_assign E rfl rfl) ?_; clear E a; intro a E
        refine wpList_nil ?_
        refine then_normal ?_
        exact ⟨_, by omega, i + 1, rfl, by omega, S, E.keep (keep_cons rfl (keep_cons rfl (keep_cons rfl keep_nil)))⟩
    · first | with_reducible replace hb := n1 hb | with_reducible replace hb := n2 hb | with_reducible replace hb := n3 hb | with_reducible replace hb := n4 hb | with_reducible replace hb := n5 hb | with_reducible replace hb := n6 hb | replace hb := n1 hb | replace hb := n2 hb | replace hb := n3 hb | replace hb := n4 hb | replace hb := n5 hb | replace hb := n6 hb | skip
      refine wp_exit ?_
      refine then_exit ?_; clear hK; clear K
      refine then_exit ?_
      refine in_exit ?_
      refine then_k hK ?_; clear hK; clear K
      refine wp_seq_k ?_; intro K hK
      refine wp_seq_k ?_; intro K hK
      rw [← wrote_zero bs] at hD
      refine region_list ?_
      refine list_pure E rfl rfl (by decide) (rn_assign E rfl rfl) ?_; clear E a; intro a E
      refine wpList_nil ?_
      refine then_k hK ?_; clear hK; clear K
      refine wp_block ?_
      refine wp_loop_ghost (fun (m : Nat) (a : Act) (w' : World) => ∃ (i : Nat) (D' : Chunk), m = bs.length - i ∧ i ≤ bs.length ∧ Inn 5 1 byt D' vs (wrote bs i) ∧ St w0 [C, D, C2, D2] w' [C, D'] ∧ Fr a 82 [(0, .slice ad bs.length c), (6, .int .i64 i)]) (bs.length - 0) ?_ ?_
      · exact ⟨0, D, rfl, by omega, hD, S.only (Bs := [C, D]) (sel_cons (by first | exact pk1 | exact pk2 | exact pk3 | exact pk4 | exact pk5 | exact pk6 | exact pk7 | exact pk8 | exact pk9) (sel_cons (by first | exact pk1 | exact pk2 | exact pk3 | exact pk4 | exact pk5 | exact pk6 | exact pk7 | exact pk8 | exact pk9) (sel_nil _))), E.keep (keep_cons rfl (keep_cons rfl keep_nil))⟩
      clear E; clear a; rintro m a w ⟨i, D', rfl, hi, hD, S, E⟩
      refine wp_seq_k ?_; intro K hK
      refine wp_seq_k ?_; intro K hK
      refine region_list ?_
      refine list_pure E rfl rfl (by decide) (rn_move E rfl rfl) ?_; clear E a; intro a E
      refine list_pure E rfl rfl (by decide) (rn_move E rfl rfl) ?_; clear E a; intro a E
      refine list_pure E rfl rfl (by decide) (by first | exact rn_len E rfl rfl rfl | exact rn_len_str E rfl rfl rfl | exact rn_len_string E rfl rfl rfl) ?_; clear E a; intro a E
      refine list_pure E rfl rfl (by decide) (rn_lss E rfl rfl rfl) ?_; clear E a; intro a E
      refine wpList_nil ?_
      refine then_k hK ?_; clear hK; clear K
      refine if_bool E rfl (fun hb => ?_) (fun hb => ?_)
      · first | with_reducible replace hb := n1 hb | with_reducible replace hb := n2 hb | with_reducible replace hb := n3 hb | with_reducible replace hb := n4 hb | with_reducible replace hb := n5 hb | with_reducible replace hb := n6 hb | replace hb := n1 hb | replace hb := n2 hb | replace hb := n3 hb | replace hb := n4 hb | replace hb := n5 hb | replace hb := n6 hb | skip
        refine wp_skip ?_
        refine then_k hK ?_; clear hK; clear K
        refine wp_seq_k ?_; intro K hK
        refine wp_block ?_
        refine wp_seq_k ?_; intro K hK
        have hib : i < bs.length := by omega
        obtain ⟨x, hx⟩ : ∃ x, x = bs[i] := ⟨_, rfl⟩
        have hxl : x.length ≤ 1024 := hs _ (hx ▸ List.getElem_mem hib)
        obtain ⟨g, rfl⟩ := hC.addr (by omega)
        refine region_list ?_
        refine list_pure E rfl rfl (by decide) (rn_assign E rfl rfl) ?_; clear E a; intro a E
        refine wpList_nil ?_
        refine then_k hK ?_; clear hK; clear K
        refine wp_block ?_
        refine wp_loop_ghost (fun (m : Nat) (a : Act) (w' : World) => ∃ (k : Nat) (D' : Chunk), m = x.length - k ∧ k ≤ x.length ∧ Inn 5 1 byt D' vs ((wrote bs i).set i (half x (UInt8.ofNat (200 + i)) k)) ∧ St w0 [C, D, C2, D2] w' [C, D'] ∧ Fr a 82 [(0, .slice (some ⟨g, 0, none⟩) bs.length c), (6, .int .i64 i), (7, .int .i64 k)]) (x.length - 0) ?_ ?_
        · exact ⟨0, D', rfl, by omega, by rw [hx, wrote_start bs hib]; exact hD, S, E.keep (keep_cons rfl (keep_cons rfl (keep_cons rfl keep_nil)))⟩
        clear E; clear a; rintro m a w ⟨k, D', rfl, hk, hD, S, E⟩
        refine wp_seq_k ?_; intro K hK
        refine wp_seq_k ?_; intro K hK
        have hhl := half_length x (UInt8.ofNat (200 + i)) hk
        obtain ⟨A, X, B, vi, rfl, hvi, hX, hput⟩ := hD.at (i := i) (by rw [List.length_set, wrote_length]; exact hib)
        rw [List.getElem_set_self, hhl] at hX
        obtain ⟨adx, cx, rfl⟩ := hX.slice
        refine region_list ?_
        refine list_pure E rfl rfl (by decide) (rn_move E rfl rfl) ?_; clear E a; intro a E
        refine list_pure E rfl rfl (by decide) (rn_move E rfl rfl) ?_; clear E a; intro a E
        refine list_pure E rfl rfl (by decide) (rn_move E rfl rfl) ?_; clear E a; intro a E
        refine list_pure E rfl rfl (by decide) (by first | exact rn_indexAddr1 E rfl rfl rfl rfl rfl rfl (by omega) | exact rn_indexAddr E rfl rfl rfl rfl rfl rfl (by omega) | exact rn_indexAddr_array E rfl rfl rfl rfl rfl rfl (by omega)) ?_; clear E a; intro a E
        refine list_pure E rfl rfl (by decide) (rn_loadc E rfl rfl rfl (hC.rd.cells (S.stab.at (by first | exact mm1 | exact mm2 | exact mm3 | exact mm4 | exact mm5 | exact mm6 | exact mm7 | exact mm8)) rfl i _ hvi)) ?_; clear E a; intro a E
        refine list_pure E rfl rfl (by decide) (by first | exact rn_len E rfl rfl rfl | exact rn_len_str E rfl rfl rfl | exact rn_len_string E rfl rfl rfl) ?_; clear E a; intro a E
        refine list_pure E rfl rfl (by decide) (rn_lss E rfl rfl rfl) ?_; clear E a; intro a E
        refine wpList_nil ?_
        refine then_k hK ?_; clear hK; clear K
        refine if_bool E rfl (fun hb => ?_) (fun hb => ?_)
        · first | with_reducible replace hb := n1 hb | with_reducible replace hb := n2 hb | with_reducible replace hb := n3 hb | with_reducible replace hb := n4 hb | with_reducible replace hb := n5 hb | with_reducible replace hb := n6 hb | replace hb := n1 hb | replace hb := n2 hb | replace hb := n3 hb | replace hb := n4 hb | replace hb := n5 hb | replace hb := n6 hb | skip
          refine wp_skip ?_
          refine then_k hK ?_; clear hK; clear K
          refine wp_seq_k ?_; intro K hK
          refine wp_block ?_
          have hkx : k < x.length := by omega
          obtain ⟨gx, rfl⟩ := hX.addr (by omega)
          have S := S.perm2.openMid
          refine region_list ?_
          refine list_pure E rfl rfl (by decide) (rn_move E rfl rfl) ?_; clear E a; intro a E
          refine list_pure E rfl rfl (by decide) (rn_move E rfl rfl) ?_; clear E a; intro a E
          refine list_pure E rfl rfl (by decide) (by first | exact rn_indexAddr1 E rfl rfl rfl rfl rfl rfl (by omega) | exact rn_indexAddr E rfl rfl rfl rfl rfl rfl (by omega) | exact rn_indexAddr_array E rfl rfl rfl rfl rfl rfl (by omega)) ?_; clear E a; intro a E
          refine list_pure E rfl rfl (by decide) (rn_loadc E rfl rfl rfl (hC.rd.cells (S.stab.at (by first | exact mm1 | exact mm2 | exact mm3 | exact mm4 | exact mm5 | exact mm6 | exact mm7 | exact mm8)) rfl i _ hvi)) ?_; clear E a; intro a E
          refine list_pure E rfl rfl (by decide) (rn_move E rfl rfl) ?_; clear E a; intro a E
          refine list_pure E rfl rfl (by decide) (rn_move E rfl rfl) ?_; clear E a; intro a E
          refine list_pure E rfl rfl (by decide) (rn_add E rfl rfl rfl (by first | exact wa_lit2 (x := 200) (by omega) | exact w_in (by omega) | exact w_inu (by omega) | exact rfl)) ?_; clear E a; intro a E
          refine list_pure E rfl rfl (by decide) (rn_convert E rfl rfl rfl rfl (w8 (200 + i))) ?_; clear E a; intro a E
          refine list_pure E rfl rfl (by decide) (by first | exact rn_indexAddr1 E rfl rfl rfl rfl rfl rfl (by omega) | exact rn_indexAddr E rfl rfl rfl rfl rfl rfl (by omega) | exact rn_indexAddr_array E rfl rfl rfl rfl rfl rfl (by omega)) ?_; clear E a; intro a E
          refine list_wp rfl (wp_elem1 E S rfl rfl rfl rfl rfl rfl hX (by first | exact pk1 | exact pk2 | exact pk3 | exact pk4 | exact pk5 | exact pk6 | exact pk7 | exact pk8 | exact pk9) (i := k) (by rw [byt_length, hhl]; exact hkx) (Nat.zero_add _) ?_); clear E S a; intro a w Cs9 E hBs9 S
          refine wpList_nil ?_
          refine in_normal ?_
          refine then_k hK ?_; clear hK; clear K
          refine region_list ?_
          refine list_pure E rfl rfl (by decide) (rn_move E rfl rfl) ?_; clear E a; intro a E
          refine list_pure E rfl rfl (by decide) (rn_add E rfl rfl rfl (by first | exact wa_lit (y := 1) (by omega) | exact w_in (by omega) | exact w_inu (by omega) | exact rfl)) ?_; clear E a; intro a E
          refine list_pure E rfl rfl (by decide) (rn_assign E rfl rfl) ?_; clear E a; intro a E
          refine wpList_nil ?_
          refine then_normal ?_
          rw [byt_set, half_set hkx] at hBs9
          have hn := hput Cs9 _ (half x (UInt8.ofNat (200 + i)) (k + 1)) (by rw [half_length _ _ (by omega)]; exact hBs9)
          rw [List.set_set, set_self hvi] at hn
          have S := (S.perm (Bs := Cs9 :: A :: B :: [C]) (by first | exact List.Perm.refl _ | exact (List.perm_append_comm (l₁ := [_]) (l₂ := [_, _, _])).symm)).closeMid
          exact ⟨_, by omega, k + 1, _, rfl, by omega, hn, S.perm2, E.keep (keep_cons rfl (keep_cons rfl (keep_cons rfl keep_nil)))⟩
        · first | with_reducible replace hb := n1 hb | with_reducible replace hb := n2 hb | with_reducible replace hb := n3 hb | with_reducible replace hb := n4 hb | with_reducible replace hb := n5 hb | with_reducible replace hb := n6 hb | replace hb := n1 hb | replace hb := n2 hb | replace hb := n3 hb | replace hb := n4 hb | replace hb := n5 hb | replace hb := n6 hb | skip
          refine wp_exit ?_
          refine then_exit ?_; clear hK; clear K
          refine then_exit ?_
          refine in_exit ?_
          refine in_normal ?_
          refine then_k hK ?_; clear hK; clear K
          refine region_list ?_
          refine list_pure E rfl rfl (by decide) (rn_move E rfl rfl) ?_; clear E a; intro a E
          refine list_pure E rfl rfl (by decide) (rn_add E rfl rfl rfl (by first | exact wa_lit (y := 1) (by omega) | exact w_in (by omega) | exact w_inu (by omega) | exact rfl)) ?_; clear E a; intro a E
          refine list_pure E rfl rfl (by decide) (rn_assign E rfl rfl) ?_; clear E a; intro a E
          refine wpList_nil ?_
          refine then_normal ?_
          obtain rfl : k = x.length := by omega
          rw [hx, wrote_end bs hib] at hD
          exact ⟨_, by omega, i + 1, _, rfl, by omega, hD, S, E.keep (keep_cons rfl (keep_cons rfl keep_nil))⟩
      · first | with_reducible replace hb := n1 hb | with_reducible replace hb := n2 hb | with_reducible replace hb := n3 hb | with_reducible replace hb := n4 hb | with_reducible replace hb := n5 hb | with_reducible replace hb := n6 hb | replace hb := n1 hb | replace hb := n2 hb | replace hb := n3 hb | replace hb := n4 hb | replace hb := n5 hb | replace hb := n6 hb | skip
        refine wp_exit ?_
        refine then_exit ?_; clear hK; clear K
        refine then_exit ?_
        refine in_exit ?_
        refine then_k hK ?_; clear hK; clear K
        refine wp_seq_k ?_; intro K hK
        refine wp_seq_k ?_; intro K hK
        obtain rfl : i = bs.length := by omega
        refine region_list ?_
        refine list_pure E rfl rfl (by decide) (rn_assign E rfl rfl) ?_; clear E a; intro a E
        refine wpList_nil ?_
        refine then_k hK ?_; clear hK; clear K
        refine wp_block ?_
        refine wp_loop_ghost (fun (m : Nat) (a : Act) (w' : World) => ∃ (i : Nat), m = bs.length - i ∧ i ≤ bs.length ∧ St w0 [C, D, C2, D2] w' [C, D'] ∧ Fr a 82 [(0, .slice ad bs.length c), (8, .int .i64 i)]) (bs.length - 0) ?_ ?_
        · exact ⟨0, rfl, by omega, S, E.keep (keep_cons rfl (keep_cons rfl keep_nil))⟩
        clear E; clear a; rintro m a w ⟨i, rfl, hi, S, E⟩
        refine wp_seq_k ?_; intro K hK
        refine wp_seq_k ?_; intro K hK
        refine region_list ?_
        refine list_pure E rfl rfl (by decide) (rn_move E rfl rfl) ?_; clear E a; intro a E
        refine list_pure E rfl rfl (by decide) (rn_move E rfl rfl) ?_; clear E a; intro a E
        refine list_pure E rfl rfl (by decide) (by first | exact rn_len E rfl rfl rfl | exact rn_len_str E rfl rfl rfl | exact rn_len_string E rfl rfl rfl) ?_; clear E a; intro a E
        refine list_pure E rfl rfl (by decide) (rn_lss E rfl rfl rfl) ?_; clear E a; intro a E
        refine wpList_nil ?_
        refine then_k hK ?_; clear hK; clear K
        refine if_bool E rfl (fun hb => ?_) (fun hb => ?_)
        · first | with_reducible replace hb := n1 hb | with_reducible replace hb := n2 hb | with_reducible replace hb := n3 hb | with_reducible replace hb := n4 hb | with_reducible replace hb := n5 hb | with_reducible replace hb := n6 hb | replace hb := n1 hb | replace hb := n2 hb | replace hb := n3 hb | replace hb := n4 hb | replace hb := n5 hb | replace hb := n6 hb | skip
          refine wp_skip ?_
          refine then_k hK ?_; clear hK; clear K
          refine wp_seq_k ?_; intro K hK
          refine wp_block ?_
          refine wp_seq_k ?_; intro K hK
          have hib : i < bs.length := by omega
          obtain ⟨g, rfl⟩ := hC.addr (by omega)
          obtain ⟨vi, hvi, hR⟩ := hD.rd (i := i) (by rw [wrote_length]; exact hib)
          obtain ⟨x, hx⟩ : ∃ x, x = (wrote bs bs.length)[i]'(by rw [wrote_length]; exact hib) := ⟨_, rfl⟩
          rw [← hx] at hR
          have hxr : x = List.replicate bs[i].length (UInt8.ofNat (200 + i)) := by rw [hx, wrote_at, if_pos hib]
          have hxl : x.length ≤ 1024 := by rw [hxr, List.length_replicate]; exact hs _ (List.getElem_mem hib)
          obtain ⟨adx, cx, rfl⟩ := hR.slice
          refine region_list ?_
          refine list_pure E rfl rfl (by decide) (rn_assign E rfl rfl) ?_; clear E a; intro a E
          refine wpList_nil ?_
          refine then_k hK ?_; clear hK; clear K
          refine wp_block ?_
          refine wp_loop_ghost (fun (m : Nat) (a : Act) (w' : World) => ∃ (k : Nat), m = x.length - k ∧ k ≤ x.length ∧ St w0 [C, D, C2, D2] w' [C, D'] ∧ Fr a 82 [(0, .slice (some ⟨g, 0, none⟩) bs.length c), (8, .int .i64 i), (9, .int .i64 k)]) (x.length - 0) ?_ ?_
          · exact ⟨0, rfl, by omega, S, E.keep (keep_cons rfl (keep_cons rfl (keep_cons rfl keep_nil)))⟩
          clear E; clear a; rintro m a w ⟨k, rfl, hk, S, E⟩
          refine wp_seq_k ?_; intro K hK
          refine wp_seq_k ?_; intro K hK
          refine region_list ?_
          refine list_pure E rfl rfl (by decide) (rn_move E rfl rfl) ?_; clear E a; intro a E
          refine list_pure E rfl rfl (by decide) (rn_move E rfl rfl) ?_; clear E a; intro a E
          refine list_pure E rfl rfl (by decide) (rn_move E rfl rfl) ?_; clear E a; intro a E
          refine list_pure E rfl rfl (by decide) (by first | exact rn_indexAddr1 E rfl rfl rfl rfl rfl rfl (by omega) | exact rn_indexAddr E rfl rfl rfl rfl rfl rfl (by omega) | exact rn_indexAddr_array E rfl rfl rfl rfl rfl rfl (by omega)) ?_; clear E a; intro a E
          refine list_pure E rfl rfl (by decide) (rn_loadc E rfl rfl rfl (hC.rd.cells (S.stab.at (by first | exact mm1 | exact mm2 | exact mm3 | exact mm4 | exact mm5 | exact mm6 | exact mm7 | exact mm8)) rfl i _ hvi)) ?_; clear E a; intro a E
          refine list_pure E rfl rfl (by decide) (by first | exact rn_len E rfl rfl rfl | exact rn_len_str E rfl rfl rfl | exact rn_len_string E rfl rfl rfl) ?_; clear E a; intro a E
          refine list_pure E rfl rfl (by decide) (rn_lss E rfl rfl rfl) ?_; clear E a; intro a E
          refine wpList_nil ?_
          refine then_k hK ?_; clear hK; clear K
          refine if_bool E rfl (fun hb => ?_) (fun hb => ?_)
          · first | with_reducible replace hb := n1 hb | with_reducible replace hb := n2 hb | with_reducible replace hb := n3 hb | with_reducible replace hb := n4 hb | with_reducible replace hb := n5 hb | with_reducible replace hb := n6 hb | replace hb := n1 hb | replace hb := n2 hb | replace hb := n3 hb | replace hb := n4 hb | replace hb := n5 hb | replace hb := n6 hb | skip
            refine wp_skip ?_
            refine then_k hK ?_; clear hK; clear K
            refine wp_seq_k ?_; intro K hK
            refine wp_block ?_
            refine wp_seq_k ?_; intro K hK
            have hkx : k < x.length := by omega
            obtain ⟨gx, ox, rfl⟩ := hR.addr (by omega)
            have hxk : (x[k]'hkx) = UInt8.ofNat (200 + i) := by subst hxr; simp
            refine region_list ?_
            refine list_pure E rfl rfl (by decide) (rn_move E rfl rfl) ?_; clear E a; intro a E
            refine list_pure E rfl rfl (by decide) (rn_move E rfl rfl) ?_; clear E a; intro a E
            refine list_pure E rfl rfl (by decide) (by first | exact rn_indexAddr1 E rfl rfl rfl rfl rfl rfl (by omega) | exact rn_indexAddr E rfl rfl rfl rfl rfl rfl (by omega) | exact rn_indexAddr_array E rfl rfl rfl rfl rfl rfl (by omega)) ?_; clear E a; intro a E
            refine list_pure E rfl rfl (by decide) (rn_loadc E rfl rfl rfl (hC.rd.cells (S.stab.at (by first | exact mm1 | exact mm2 | exact mm3 | exact mm4 | exact mm5 | exact mm6 | exact mm7 | exact mm8)) rfl i _ hvi)) ?_; clear E a; intro a E
            refine list_pure E rfl rfl (by decide) (rn_move E rfl rfl) ?_; clear E a; intro a E
            refine list_pure E rfl rfl (by decide) (by first | exact rn_indexAddr1 E rfl rfl rfl rfl rfl rfl (by omega) | exact rn_indexAddr E rfl rfl rfl rfl rfl rfl (by omega) | exact rn_indexAddr_array E rfl rfl rfl rfl rfl rfl (by omega)) ?_; clear E a; intro a E
            refine list_pure E rfl rfl (by decide) (rn_loadc E rfl rfl rfl (hR.byte (S.stab.at (by first | exact mm1 | exact mm2 | exact mm3 | exact mm4 | exact mm5 | exact mm6 | exact mm7 | exact mm8)) hkx)) ?_; clear E a; intro a E
            rw [hxk] at E
            refine list_pure E rfl rfl (by decide) (rn_move E rfl rfl) ?_; clear E a; intro a E
            refine list_pure E rfl rfl (by decide) (rn_add E rfl rfl rfl (by first | exact wa_lit2 (x := 200) (by omega) | exact w_in (by omega) | exact w_inu (by omega) | exact rfl)) ?_; clear E a; intro a E
            refine list_pure E rfl rfl (by decide) (rn_convert E rfl rfl rfl rfl (w8 (200 + i))) ?_; clear E a; intro a E
            refine list_pure E rfl rfl (by decide) (by first | exact rn_neq E rfl rfl rfl | exact rn_neq_ptr_nil E rfl rfl rfl rfl | exact rn_neq_bool E rfl rfl rfl rfl | exact rn_neq_string E rfl rfl rfl) ?_; clear E a; intro a E
            refine wpList_nil ?_
            refine then_k hK ?_; clear hK; clear K
            refine if_bool E rfl (fun hb => ?_) (fun hb => ?_)
            · first | with_reducible replace hb := n1 hb | with_reducible replace hb := n2 hb | with_reducible replace hb := n3 hb | with_reducible replace hb := n4 hb | with_reducible replace hb := n5 hb | with_reducible replace hb := n6 hb | replace hb := n1 hb | replace hb := n2 hb | replace hb := n3 hb | replace hb := n4 hb | replace hb := n5 hb | replace hb := n6 hb | skip
              exfalso; exact hb rfl
            · first | with_reducible replace hb := n1 hb | with_reducible replace hb := n2 hb | with_reducible replace hb := n3 hb | with_reducible replace hb := n4 hb | with_reducible replace hb := n5 hb | with_reducible replace hb := n6 hb | replace hb := n1 hb | replace hb := n2 hb | replace hb := n3 hb | replace hb := n4 hb | replace hb := n5 hb | replace hb := n6 hb | skip
              refine wp_skip ?_
              refine in_normal ?_
              refine then_k hK ?_; clear hK; clear K
              refine region_list ?_
              refine list_pure E rfl rfl (by decide) (rn_move E rfl rfl) ?_; clear E a; intro a E
              refine list_pure E rfl rfl (by decide) (rn_add E rfl rfl rfl (by first | exact wa_lit (y := 1) (by omega) | exact w_in (by omega) | exact w_inu (by omega) | exact rfl)) ?_; clear E a; intro a E
              refine list_pure E rfl rfl (by decide) (rn_assign E rfl rfl) ?_; clear E a; intro a E
              refine wpList_nil ?_
              refine then_normal ?_
              exact ⟨_, by omega, k + 1, rfl, by omega, S, E.keep (keep_cons rfl (keep_cons rfl (keep_cons rfl keep_nil)))⟩
          · first | with_reducible replace hb := n1 hb | with_reducible replace hb := n2 hb | with_reducible replace hb := n3 hb | with_reducible replace hb := n4 hb | with_reducible replace hb := n5 hb | with_reducible replace hb := n6 hb | replace hb := n1 hb | replace hb := n2 hb | replace hb := n3 hb | replace hb := n4 hb | replace hb := n5 hb | replace hb := n6 hb | skip
            refine wp_exit ?_
            refine then_exit ?_; clear hK; clear K
            refine then_exit ?_
            refine in_exit ?_
            refine in_normal ?_
            refine then_k hK ?_; clear hK; clear K
            refine region_list ?_
            refine list_pure E rfl rfl (by decide) (rn_move E rfl rfl) ?_; clear E a; intro a E
            refine list_pure E rfl rfl (by decide) (rn_add E rfl rfl rfl (by first | exact wa_lit (y := 1) (by omega) | exact w_in (by omega) | exact w_inu (by omega) | exact rfl)) ?_; clear E a; intro a E
            refine list_pure E rfl rfl (by decide) (rn_assign E rfl rfl) ?_; clear E a; intro a E
            refine wpList_nil ?_
            refine then_normal ?_
            exact ⟨_, by omega, i + 1, rfl, by omega, S, E.keep (keep_cons rfl (keep_cons rfl keep_nil))⟩
        · first | with_reducible replace hb := n1 hb | with_reducible replace hb := n2 hb | with_reducible replace hb := n3 hb | with_reducible replace hb := n4 hb | with_reducible replace hb := n5 hb | with_reducible replace hb := n6 hb | replace hb := n1 hb | replace hb := n2 hb | replace hb := n3 hb | replace hb := n4 hb | replace hb := n5 hb | replace hb := n6 hb | skip
          refine wp_exit ?_
          refine then_exit ?_; clear hK; clear K
          refine then_exit ?_
          refine in_exit ?_
          refine then_k hK ?_; clear hK; clear K
          refine wp_seq_k ?_; intro K hK
          refine region_list ?_
          refine list_pure E rfl rfl (by decide) (rn_assign E rfl rfl) ?_; clear E a; intro a E
          refine wpList_nil ?_
          refine then_k hK ?_; clear hK; clear K
          refine wp_ret ?_
          refine ret1 E rfl rfl ?_
          exact ⟨_, rfl, rfl, (S.only (Bs := []) (sel_nil _)).tr⟩
end Go.Proofs.Ytkkibnnddllabaa
