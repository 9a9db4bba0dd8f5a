/-
  SHA-256: the program's whole.
-/
import Derived.Test.YtjhmjdgdgpgcdaaDoorShaT
namespace Go.Sl
theorem buf_hcap {C : Chunk} {T : TypeId} {s m : Nat} {v : Value} {xs : List Value} (h : Buf C T s v m xs) : ∃ ad c, v = .slice ad m c ∧ m ≤ c := by
  obtain ⟨ad, c, rfl⟩ := h.slice
  exact ⟨ad, c, rfl, h.cap_le⟩
theorem pad_zero (b : List UInt8) (z : Nat) : byt (b ++ [128] ++ List.replicate (z + 1) 0) = byt (b ++ [128] ++ List.replicate z 0) ++ [.int .u8 0] := by
  rw [List.replicate_succ', ← List.append_assoc, byt_append]; rfl
def padH (b : List UInt8) : List UInt8 := b ++ [128] ++ List.replicate (padZ b.length) 0
theorem padH_length (b : List UInt8) : (padH b).length = b.length + 1 + padZ b.length := by simp [padH]; omega
theorem padH_len (b : List UInt8) : padH b ++ lenB (b.length * 8) 8 = padL b := rfl
theorem drop_blk (all : List UInt8) (k : Nat) : ((byt (all.drop (64 * k))).drop (0 * 1)).take ((64 - 0) * 1) = byt (blk all k) := by simp [blk, byt_take]
theorem drop_next (all : List UInt8) (k n : Nat) (h : all.length ≤ n + 64 * k + 64) : ((byt (all.drop (64 * k))).drop (64 * 1)).take (n * 1) = byt (all.drop (64 * (k + 1))) := by
  rw [byt_drop, byt_take, List.drop_drop, List.take_of_length_le (by rw [List.length_drop]; omega), show 64 * k + 64 * 1 = 64 * (k + 1) by omega]
end Go.Sl
namespace Go.Proofs.YtjhmjdgdgpgcdaaDoor
open Go.Sl
set_option maxRecDepth 10000

set_option maxHeartbeats 1000000 in
theorem sha_ret (D : Chunk) (v : Value) (b : List UInt8) (hD : Rd D 1 v b.length (byt b)) (hbl : b.length ≤ 140737488352000) (As : List Chunk) (hDA : D ∈ As) (hG : Tab As 2 shaK) (w0 : World) (H : Hp w0 As) :
    Ret Tryd.prog 94 #[v] w0 fun u w' => u = (shaF b).agg ∧ Trs w0 w' As As := by
  have S := (St.begin H).addNil
  have hps := pad_small hbl
  have hHl := padH_length b
  have hLl := padL_length b
  have hL64 := padL_64 b
  obtain ⟨ad0, c0, rfl⟩ := hD.slice
  refine enter1 55 Tryd.func94 rfl rfl (by decide) ?_; intro a E
  refine wp_seq_k ?_; intro K hK
  refine region_list ?_
  refine list_wp rfl (wp_alloc E S rfl rfl (by decide) rfl rfl rfl ?_); clear E S a; intro a w b2 E S
  refine wpList_nil ?_
  refine then_k hK ?_; clear hK; clear K
  refine wp_seq_k ?_; intro K hK
  refine region_list ?_
  refine list_pure E rfl rfl (by decide) (rn_build (cells := [_, _, _, _, _, _, _, _]) E rfl rfl rfl) ?_; clear E a; intro a E
  refine list_wp rfl (wp_alloc E S rfl rfl (by decide) rfl rfl rfl ?_); clear E S a; intro a w b3 E S
  refine list_wp rfl (wp_storeN E S rfl rfl rfl rfl (by simp [Value.oneCell']) rfl (by repeat (first | exact pk1 | apply pick_tail)) (by simp) ?_); clear E S a; intro a w E S; simp only [List.take_succ_cons, List.take_zero, List.drop_succ_cons, List.drop_zero, List.cons_append, List.nil_append, List.append_nil, List.length_cons, List.length_nil, Nat.zero_add, Nat.add_zero] at S
  refine wpList_nil ?_
  refine then_k hK ?_; clear hK; clear K
  refine wp_seq_k ?_; intro K hK
  refine region_list ?_
  refine list_pure E rfl rfl (by decide) (rn_move E rfl rfl) ?_; clear E a; intro a E
  refine list_wp rfl (wp_append (by' := 1) E S rfl rfl (by decide) rfl rfl (Buf.nil _ _) (by repeat (first | exact pk1 | apply pick_tail)) (hD.src (S.stab.at (by repeat (first | exact mm1 | assumption | apply List.Mem.tail))) rfl) rfl rfl rfl rfl rfl rfl (by simp only [maxLen]; omega) (by omega) ?_); clear E S a; intro a w v9 C9 E S hB9
  simp only [Nat.zero_add, List.nil_append] at hB9
  refine list_wp rfl (wp_bslice (cells := [_]) E S rfl rfl (by decide) rfl rfl rfl rfl rfl (by decide) rfl ?_); clear E S a; intro a w b10 E S
  refine list_wp rfl (wp_append (by' := 1) E S rfl rfl (by decide) rfl rfl hB9 (by repeat (first | exact pk1 | apply pick_tail)) ((rd_cells (g := b10) (T := 5) (xs := [.int .u8 128]) (s := 1) (m := 1) rfl (by simp [Value.oneCell']) (by omega) 1).src (S.stab.at (by repeat (first | exact mm1 | assumption | apply List.Mem.tail))) rfl) rfl rfl rfl rfl rfl rfl (by simp only [maxLen]; omega) (by omega) ?_); clear E S a; intro a w v11 C11 E S hB11
  refine list_pure E rfl rfl (by decide) (rn_assign E rfl rfl) ?_; clear E a; intro a E
  refine wpList_nil ?_
  have S := (S.del (A := [(b10, _)]) (by repeat (first | exact pk1 | apply pick_tail))).front3 (A := C11) (by repeat (first | exact pk1 | apply pick_tail)) (B := [(b3, _)]) (by repeat (first | exact pk1 | apply pick_tail)) (C := [(b2, _)]) (by repeat (first | exact pk1 | apply pick_tail))
  refine then_k hK ?_; clear hK; clear K
  refine wp_seq_k ?_; intro K hK
  refine wp_block ?_
  refine wp_loop_ghost (fun (m : Nat) (a : Act) (w' : World) => ∃ (z : Nat) (v : Value) (C : Chunk), m = padZ b.length - z ∧ z ≤ padZ b.length ∧ Buf C 5 1 v (b.length + 1 + z) (byt (b ++ [128] ++ List.replicate z 0)) ∧ St w0 As w' (C :: [(b3, cel (u32s sha0.l) 123)] :: [(b2, cel [.int .u64 0, .int .u64 0, .int .u64 0, .int .u64 0] 86)] :: As) ∧ Fr a 55 [(0, .slice ad0 b.length c0), (2, ptr b2), (3, ptr b3), (4, v)]) (padZ b.length - 0) ?_ ?_
  · exact ⟨0, v11, C11, rfl, by omega, by rw [List.replicate_zero, List.append_nil, byt_append]; exact hB11, S, E.keep (keep_cons rfl (keep_cons rfl (keep_cons rfl (keep_cons rfl keep_nil))))⟩
  clear E; clear a; (try clear S); rintro m a w ⟨z, v, C, rfl, hz, hC, S, E⟩
  refine wp_seq_k ?_; intro K hK
  refine wp_seq_k ?_; intro K hK
  obtain ⟨adv, cv, rfl⟩ := hC.slice
  refine region_list ?_
  refine list_pure E rfl rfl (by decide) (rn_move E rfl rfl) ?_; clear E a; intro a E
  refine list_pure E rfl rfl (by decide) (by first | exact rn_len E rfl rfl rfl | exact rn_len_str E rfl rfl rfl | exact rn_len_string E rfl rfl rfl) ?_; clear E a; intro a E
  refine list_pure E rfl rfl (by decide) (rn_rem E rfl rfl rfl (by decide) (by first | exact wr_lit (y := 64) | exact rfl)) ?_; clear E a; intro a E
  refine list_pure E rfl rfl (by decide) (by first | exact rn_neq E rfl rfl rfl | exact rn_neq_ptr_nil E rfl rfl rfl rfl | exact rn_neq_bool E rfl rfl rfl rfl | exact rn_neq_string E rfl rfl rfl) ?_; clear E a; intro a E
  refine wpList_nil ?_
  refine then_k hK ?_; clear hK; clear K
  refine if_bool E rfl (fun hb => ?_) (fun hb => ?_)
  · replace hb := Nrm.nrm hb
    refine wp_skip ?_
    refine then_k hK ?_; clear hK; clear K
    refine wp_block ?_
    refine region_list ?_
    refine list_pure E rfl rfl (by decide) (rn_move E rfl rfl) ?_; clear E a; intro a E
    refine list_wp rfl (wp_bslice (cells := [_]) E S rfl rfl (by decide) rfl rfl rfl rfl rfl (by decide) rfl ?_); clear E S a; intro a w b17 E S
    refine list_wp rfl (wp_append (by' := 1) E S rfl rfl (by decide) rfl rfl hC (by repeat (first | exact pk1 | apply pick_tail)) ((rd_cells (g := b17) (T := 5) (xs := [.int .u8 0]) (s := 1) (m := 1) rfl (by simp [Value.oneCell']) (by omega) 1).src (S.stab.at (by repeat (first | exact mm1 | assumption | apply List.Mem.tail))) rfl) rfl rfl rfl rfl rfl rfl (by simp only [maxLen]; omega) (by omega) ?_); clear E S a; intro a w v18 C18 E S hB18
    refine list_pure E rfl rfl (by decide) (rn_assign E rfl rfl) ?_; clear E a; intro a E
    refine wpList_nil ?_
    refine in_normal ?_
    refine then_normal ?_
    rw [← pad_zero] at hB18
    exact ⟨_, by unfold padZ at *; omega, z + 1, v18, C18, rfl, by unfold padZ at *; omega, hB18, (S.del (A := [(b17, _)]) (by repeat (first | exact pk1 | apply pick_tail))).front3 (A := C18) (by repeat (first | exact pk1 | apply pick_tail)) (B := [(b3, _)]) (by repeat (first | exact pk1 | apply pick_tail)) (C := [(b2, _)]) (by repeat (first | exact pk1 | apply pick_tail)), E.keep (keep_cons rfl (keep_cons rfl (keep_cons rfl (keep_cons rfl keep_nil))))⟩
  · replace hb := Nrm.nrm hb
    refine wp_exit ?_
    refine then_exit ?_; clear hK; clear K
    refine then_exit ?_
    refine in_exit ?_
    refine then_k hK ?_; clear hK; clear K
    refine wp_seq_k ?_; intro K hK
    refine wp_seq_k ?_; intro K hK
    have hzz : z = padZ b.length := by unfold padZ at *; omega
    subst hzz
    have hC : Buf C 5 1 (.slice adv (b.length + 1 + padZ b.length) cv) (b.length + 1 + padZ b.length) (byt (padH b)) := hC
    refine region_list ?_
    refine list_pure E rfl rfl (by decide) (rn_assign E rfl rfl) ?_; clear E a; intro a E
    refine wpList_nil ?_
    refine then_k hK ?_; clear hK; clear K
    refine wp_block ?_
    refine wp_loop_ghost (fun (m : Nat) (a : Act) (w' : World) => ∃ (k : Nat) (v : Value) (C : Chunk), m = 8 - k ∧ k ≤ 8 ∧ Buf C 5 1 v (b.length + 1 + padZ b.length + k) (byt (padH b ++ lenB (b.length * 8) k)) ∧ St w0 As w' (C :: [(b3, cel (u32s sha0.l) 123)] :: [(b2, cel [.int .u64 0, .int .u64 0, .int .u64 0, .int .u64 0] 86)] :: As) ∧ Fr a 55 [(0, .slice ad0 b.length c0), (2, ptr b2), (3, ptr b3), (4, v), (5, .int .i64 (56 - 8 * (k : Int)))]) (8 - 0) ?_ ?_
    · exact ⟨0, _, C, rfl, by omega, by rw [lenB, List.append_nil, Nat.add_zero]; exact hC, S, E.keep (keep_cons rfl (keep_cons rfl (keep_cons rfl (keep_cons rfl (keep_cons rfl keep_nil)))))⟩
    clear E; clear a; (try clear S); rintro m a w ⟨k, v, C, rfl, hk, hC, S, E⟩
    refine wp_seq_k ?_; intro K hK
    refine wp_seq_k ?_; intro K hK
    refine region_list ?_
    refine list_pure E rfl rfl (by decide) (rn_move E rfl rfl) ?_; clear E a; intro a E
    refine list_pure E rfl rfl (by decide) (rn_geq E rfl rfl rfl) ?_; clear E a; intro a E
    refine wpList_nil ?_
    refine then_k hK ?_; clear hK; clear K
    refine if_bool E rfl (fun hb => ?_) (fun hb => ?_)
    · replace hb := Nrm.nrm hb
      refine wp_skip ?_
      refine then_k hK ?_; clear hK; clear K
      refine wp_seq_k ?_; intro K hK
      refine wp_block ?_
      obtain ⟨adv, cv, rfl⟩ := hC.slice
      have hq1 : [UInt8.ofNat (b.length * 8 / 2 ^ (56 - 8 * k))].length = 1 := rfl
      refine region_list ?_
      refine list_pure E rfl rfl (by decide) (rn_move E rfl rfl) ?_; clear E a; intro a E
      refine list_pure E rfl rfl (by decide) (rn_move E rfl rfl) ?_; clear E a; intro a E
      refine list_pure E rfl rfl (by decide) (by first | exact rn_len E rfl rfl rfl | exact rn_len_str E rfl rfl rfl | exact rn_len_string E rfl rfl rfl) ?_; clear E a; intro a E
      refine list_pure E rfl rfl (by decide) (by first | exact rn_convert E rfl rfl rfl rfl (by first | exact wu8 _ | exact w_nat (by omega) | exact w_natu (by omega) | exact w_in (by omega) | exact w_inu (by omega) | exact rfl) | exact rn_string E rfl rfl rfl rfl rfl (by assumption) (S.stab.at (by simp))) ?_; clear E a; intro a E
      refine list_pure E rfl rfl (by decide) (rn_mul E rfl rfl rfl (w_inu (by omega))) ?_; clear E a; intro a E
      refine list_pure E rfl rfl (by decide) (rn_move E rfl rfl) ?_; clear E a; intro a E
      refine list_pure E rfl rfl (by decide) (rn_shr E rfl rfl rfl (by omega) (by simp only [IntKind.bits]; omega) rfl) ?_; clear E a; intro a E
      rw [shs (by omega)] at E
      refine list_pure E rfl rfl (by decide) (rn_convert E rfl rfl rfl rfl (w8 _)) ?_; clear E a; intro a E
      refine list_wp rfl (wp_bslice (cells := [_]) E S rfl rfl (by decide) rfl rfl rfl rfl rfl (by decide) rfl ?_); clear E S a; intro a w b31 E S
      refine list_wp rfl (wp_append (by' := 1) E S rfl rfl (by decide) rfl rfl hC (by repeat (first | exact pk1 | apply pick_tail)) ((buf_bytes b31 [UInt8.ofNat (b.length * 8 / 2 ^ (56 - 8 * k))] 5 (by simp)).rd.src (S.stab.at (by repeat (first | exact mm1 | assumption | apply List.Mem.tail))) rfl) rfl rfl rfl rfl rfl rfl (by simp only [maxLen]; omega) (by omega) ?_); clear E S a; intro a w v32 C32 E S hB32
      refine list_pure E rfl rfl (by decide) (rn_assign E rfl rfl) ?_; clear E a; intro a E
      refine wpList_nil ?_
      refine in_normal ?_
      refine then_k hK ?_; clear hK; clear K
      refine region_list ?_
      refine list_pure E rfl rfl (by decide) (rn_move E rfl rfl) ?_; clear E a; intro a E
      refine list_pure E rfl rfl (by decide) (rn_sub E rfl rfl rfl (w_in (by omega))) ?_; clear E a; intro a E
      refine list_pure E rfl rfl (by decide) (rn_assign E rfl rfl) ?_; clear E a; intro a E
      refine wpList_nil ?_
      refine then_normal ?_
      rw [show (56 - 8 * (k : Int)) - 8 = 56 - 8 * ((k + 1 : Nat) : Int) by omega] at E
      rw [← byt_append, List.append_assoc, ← lenB_succ] at hB32
      exact ⟨_, by omega, k + 1, v32, C32, rfl, by omega, hB32, (S.del (A := [(b31, _)]) (by repeat (first | exact pk1 | apply pick_tail))).front3 (A := C32) (by repeat (first | exact pk1 | apply pick_tail)) (B := [(b3, _)]) (by repeat (first | exact pk1 | apply pick_tail)) (C := [(b2, _)]) (by repeat (first | exact pk1 | apply pick_tail)), E.keep (keep_cons rfl (keep_cons rfl (keep_cons rfl (keep_cons rfl (keep_cons rfl keep_nil)))))⟩
    · replace hb := Nrm.nrm hb
      refine wp_exit ?_
      refine then_exit ?_; clear hK; clear K
      refine then_exit ?_
      refine in_exit ?_
      refine then_k hK ?_; clear hK; clear K
      refine wp_seq_k ?_; intro K hK
      refine wp_block ?_
      refine wp_loop_ghost (fun (m : Nat) (a : Act) (w' : World) => ∃ (j : Nat) (ad : Option Addr) (c : Nat), m = (padL b).length / 64 - j ∧ j ≤ (padL b).length / 64 ∧ (padL b).length - 64 * j ≤ c ∧ Rd C 1 (.slice ad ((padL b).length - 64 * j) c) ((padL b).length - 64 * j) (byt ((padL b).drop (64 * j))) ∧ St w0 As w' ([(b3, cel (u32s (shaH (padL b) j).l) 123)] :: C :: [(b2, cel [.int .u64 0, .int .u64 0, .int .u64 0, .int .u64 0] 86)] :: As) ∧ Fr a 55 [(2, ptr b2), (3, ptr b3), (4, .slice ad ((padL b).length - 64 * j) c)]) ((padL b).length / 64 - 0) ?_ ?_
      · obtain rfl : k = 8 := (by omega); rw [padH_len] at hC; obtain ⟨adv, cv, rfl, hcv⟩ := buf_hcap hC; have hlen : b.length + 1 + padZ b.length + 8 = (padL b).length - 64 * 0 := (by omega); rw [hlen] at hC E hcv; exact ⟨0, adv, cv, rfl, by omega, hcv, by rw [Nat.mul_zero, List.drop_zero]; exact hC.rd, S.front2 (by repeat (first | exact pk1 | apply pick_tail)) (by repeat (first | exact pk1 | apply pick_tail)), E.keep (keep_cons rfl (keep_cons rfl (keep_cons rfl keep_nil)))⟩
      clear E; clear a; (try clear S); rintro m a w ⟨j, ad, c, rfl, hj, hc, hR, S, E⟩
      refine wp_seq_k ?_; intro K hK
      refine wp_seq_k ?_; intro K hK
      refine region_list ?_
      refine list_pure E rfl rfl (by decide) (rn_move E rfl rfl) ?_; clear E a; intro a E
      refine list_pure E rfl rfl (by decide) (by first | exact rn_len E rfl rfl rfl | exact rn_len_str E rfl rfl rfl | exact rn_len_string E rfl rfl rfl) ?_; clear E a; intro a E
      refine list_pure E rfl rfl (by decide) (rn_gtr E rfl rfl rfl) ?_; clear E a; intro a E
      refine wpList_nil ?_
      refine then_k hK ?_; clear hK; clear K
      refine if_bool E rfl (fun hb => ?_) (fun hb => ?_)
      · replace hb := Nrm.nrm hb
        refine wp_skip ?_
        refine then_k hK ?_; clear hK; clear K
        refine wp_seq_k ?_; intro K hK
        refine wp_block ?_
        have hjl : 64 * j + 64 ≤ (padL b).length := by omega
        obtain ⟨ad2, hs2, hR2⟩ := hR.cutc (lo := 0) (hi := 64) (by omega) (by omega) (by omega)
        rw [drop_blk] at hR2
        obtain ⟨g2, off2, rfl⟩ := hR2.addr (by omega)
        have hbk := blk_length (padL b) hjl
        refine region_mix0 S (.ofL [(0, 0), (1, 0), (2, 0), (3, 0), (4, 0), (5, 1), (6, 1), (7, 3)]) (by kernel_rfl) (by kernel_rfl) ?_
        clear S; intro w S
        refine mix_pure E rfl rfl rfl (by decide) (fun w h => rn_load_all E rfl rfl rfl (h.one (by repeat (first | exact mm1 | assumption | apply List.Mem.tail))) rfl) ?_; clear E a; intro a E
        refine mix_pure E rfl rfl rfl (by decide) (fun w h => rn_move E rfl rfl) ?_; clear E a; intro a E
        refine mix_pure E rfl rfl rfl (by decide) (fun w h => rn_slice_h (s := 1) (hi := 64) E rfl rfl rfl rfl rfl rfl (by omega)) ?_; clear E a; intro a E
        rw [hs2] at E
        refine mix_pure E rfl rfl rfl (by decide) (fun w h => rn_s2a E rfl rfl rfl (by omega)) ?_; clear E a; intro a E
        refine mix_pure E rfl rfl rfl (by decide) (fun w h => rn_load_aggc (vs := byt (blk (padL b) j)) E rfl rfl rfl (by rw [byt_length, hbk]; rfl) (hR2.cells (h.at (by repeat (first | exact mm1 | assumption | apply List.Mem.tail))) rfl)) ?_; clear E a; intro a E
        refine mix_call E rfl rfl rfl (by decide) rfl Tryd.func98 rfl (by kernel_rfl) rfl (schedule_ret (blk (padL b) j) hbk _) ?_
        rintro v43 w ⟨rfl, hT⟩; clear E a; intro a E
        have S := S.quiet hT
        refine ⟨S.stab.sub (by first | (simp; done) | (simp +contextual; done)), ?_⟩
        refine mix_call E rfl rfl rfl (by decide) rfl Tryd.func97 rfl (by kernel_rfl) rfl (mixed_ret (shaH (padL b) j) (wsN (blk (padL b) j) 64) (wsN_length _ _) As hG _ S.tail3.hp) ?_
        rintro v44 w ⟨rfl, hT⟩; clear E a; intro a E
        have S := St.under [_, _, _] S hT
        refine ⟨S.stab.sub (by first | (simp; done) | (simp +contextual; done)), ?_⟩
        refine mix_last rfl rfl (wp_storeA E S rfl rfl rfl rfl (u32s_one _) rfl rfl (by repeat (first | exact pk1 | apply pick_tail)) (by rfl) ?_); clear E S a; intro a w E S
        refine mix_nil ?_
        refine in_normal ?_
        refine then_k hK ?_; clear hK; clear K
        obtain ⟨ad3, hs3, hR3⟩ := hR.cutc (lo := 64) (hi := (padL b).length - 64 * j) (by omega) (by omega) (by omega)
        rw [drop_next (padL b) j ((padL b).length - 64 * j - 64) (by omega), show (padL b).length - 64 * j - 64 = (padL b).length - 64 * (j + 1) by omega] at hR3
        rw [show (padL b).length - 64 * j - 64 = (padL b).length - 64 * (j + 1) by omega] at hs3
        refine region_list ?_
        refine list_pure E rfl rfl (by decide) (rn_move E rfl rfl) ?_; clear E a; intro a E
        refine list_pure E rfl rfl (by decide) (rn_slice_l (s := 1) (lo := 64) E rfl rfl rfl rfl rfl rfl (by omega)) ?_; clear E a; intro a E
        rw [hs3] at E
        refine list_pure E rfl rfl (by decide) (rn_assign E rfl rfl) ?_; clear E a; intro a E
        refine wpList_nil ?_
        refine then_normal ?_
        exact ⟨_, by omega, j + 1, ad3, c - 64, rfl, by omega, by omega, hR3, S, E.keep (keep_cons rfl (keep_cons rfl (keep_cons rfl keep_nil)))⟩
      · replace hb := Nrm.nrm hb
        refine wp_exit ?_
        refine then_exit ?_; clear hK; clear K
        refine then_exit ?_
        refine in_exit ?_
        refine then_k hK ?_; clear hK; clear K
        refine wp_seq_k ?_; intro K hK
        obtain ⟨hh, hhe⟩ : ∃ hh, hh = shaH (padL b) ((padL b).length / 64) := ⟨_, rfl⟩
        obtain rfl : j = (padL b).length / 64 := by omega
        rw [← hhe] at S
        refine region_list ?_
        refine list_pure E rfl rfl (by decide) (rn_makeFunc E rfl rfl ⟨_, rfl⟩) ?_; clear E a; intro a E
        refine list_pure E rfl rfl (by decide) (rn_assign E rfl rfl) ?_; clear E a; intro a E
        refine wpList_nil ?_
        refine then_k hK ?_; clear hK; clear K
        refine wp_seq_k ?_; intro K hK
        refine region_list ?_
        refine list_pure E rfl rfl (by decide) (rn_move E rfl rfl) ?_; clear E a; intro a E
        refine list_callc E rfl rfl (by decide) rfl rfl Tryd.func99 rfl (by kernel_rfl) rfl (sha1_ret hh b3 0 (by omega) _ (S.hp.sel (sel_cons (by repeat (first | exact pk1 | apply pick_tail)) (sel_nil _)))) ?_
        rintro v47 w ⟨rfl, hT⟩; clear E a; intro a E
        have S := S.call1 (sel_cons (by repeat (first | exact pk1 | apply pick_tail)) (sel_nil _)) hT
        refine list_pure E rfl rfl (by decide) (rn_move E rfl rfl) ?_; clear E a; intro a E
        refine list_callc E rfl rfl (by decide) rfl rfl Tryd.func99 rfl (by kernel_rfl) rfl (sha1_ret hh b3 2 (by omega) _ (S.hp.sel (sel_cons (by repeat (first | exact pk1 | apply pick_tail)) (sel_nil _)))) ?_
        rintro v49 w ⟨rfl, hT⟩; clear E a; intro a E
        have S := S.call1 (sel_cons (by repeat (first | exact pk1 | apply pick_tail)) (sel_nil _)) hT
        refine list_pure E rfl rfl (by decide) (rn_move E rfl rfl) ?_; clear E a; intro a E
        refine list_callc E rfl rfl (by decide) rfl rfl Tryd.func99 rfl (by kernel_rfl) rfl (sha1_ret hh b3 4 (by omega) _ (S.hp.sel (sel_cons (by repeat (first | exact pk1 | apply pick_tail)) (sel_nil _)))) ?_
        rintro v51 w ⟨rfl, hT⟩; clear E a; intro a E
        have S := S.call1 (sel_cons (by repeat (first | exact pk1 | apply pick_tail)) (sel_nil _)) hT
        refine list_pure E rfl rfl (by decide) (rn_move E rfl rfl) ?_; clear E a; intro a E
        refine list_callc E rfl rfl (by decide) rfl rfl Tryd.func99 rfl (by kernel_rfl) rfl (sha1_ret hh b3 6 (by omega) _ (S.hp.sel (sel_cons (by repeat (first | exact pk1 | apply pick_tail)) (sel_nil _)))) ?_
        rintro v53 w ⟨rfl, hT⟩; clear E a; intro a E
        have S := S.call1 (sel_cons (by repeat (first | exact pk1 | apply pick_tail)) (sel_nil _)) hT
        refine list_pure E rfl rfl (by decide) (rn_build (cells := [_, _, _, _]) E rfl rfl rfl) ?_; clear E a; intro a E
        refine list_wp rfl (wp_storeN E S rfl rfl rfl rfl (by simp [Value.oneCell']) rfl (by repeat (first | exact pk1 | apply pick_tail)) (by simp) ?_); clear E S a; intro a w E S; simp only [List.take_succ_cons, List.take_zero, List.drop_succ_cons, List.drop_zero, List.cons_append, List.nil_append, List.append_nil, List.length_cons, List.length_nil, Nat.zero_add, Nat.add_zero] at S
        refine wpList_nil ?_
        refine then_k hK ?_; clear hK; clear K
        refine wp_ret ?_
        refine ret_c E rfl rfl (S.get (by repeat (first | exact pk1 | apply pick_tail))) rfl ?_
        exact ⟨_, rfl, by rw [shaF, ← hhe]; rfl, S.tail3.tr⟩
end Go.Proofs.YtjhmjdgdgpgcdaaDoor
