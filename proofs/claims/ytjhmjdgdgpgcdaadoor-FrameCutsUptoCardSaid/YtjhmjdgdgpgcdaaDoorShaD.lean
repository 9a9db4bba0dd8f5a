/-
  SHA-256: the document's functions.
-/
import Derived.Test.YtjhmjdgdgpgcdaaDoorShaU
namespace Go.Sl
section
variable {P : Program} {a : Act} {o : Oper} {n : Nat} {e : List (Nat × Value)} {x y : Operand} {w : World}
/-- The address of an element of a slice that is a whole block of single cells. -/
theorem rn_is0 (E : Fr a n e) {t el : TypeId} {b l c i : Nat} {k : IntKind} {q : Int} (ho : o.op = .indexAddr t x y) (hx : ev e x = some (.slice (some ⟨b, 0, none⟩) l c)) (hy : ev e y = some (.int k q))
    (ht : P.underlying t = some (.slice el)) (hs : (P.info? el).map (·.size) = some 1) (hq : q = (i : Int)) (hi : i < l) : RunsTo P o a w (.pointer (some ⟨b, i, none⟩)) w := by
  have h := rn_indexAddr (P := P) (w := w) E ho hx hy ht hs hq hi
  rwa [Nat.zero_add, Nat.mul_one] at h
end
theorem Tab.cells {As : List Chunk} {g : Nat} {l : List Int} {w : World} (h : Tab As g l) (S : Stab As w) : ∀ i u, (u32s l)[i]? = some u → w.cell? ⟨g, 0 + i, none⟩ = some u := fun i u hu => by
  obtain ⟨G, hG, T, fr, hm⟩ := h
  rw [Nat.zero_add]
  exact blk_cell (S G hG _ hm) hu
theorem Tab.sub {As Bs : List Chunk} {g : Nat} {l : List Int} (h : Tab As g l) (k : ∀ C ∈ As, C ∈ Bs) : Tab Bs g l := by
  obtain ⟨G, hG, r⟩ := h; exact ⟨G, k G hG, r⟩
theorem one8 {a b c d e f g h : Int} : ∀ u ∈ [Value.int .u32 a, .int .u32 b, .int .u32 c, .int .u32 d, .int .u32 e, .int .u32 f, .int .u32 g, .int .u32 h], u.oneCell' = true := fun u hu => by
  simp only [List.mem_cons, List.not_mem_nil, or_false] at hu
  rcases hu with rfl | rfl | rfl | rfl | rfl | rfl | rfl | rfl <;> rfl
theorem shs2 {n k : Nat} (hk : k ≤ 7) : ((n : Int) * 8) / 2 ^ (8 * (7 - (k : Int))).toNat = ((n * 8 / 2 ^ (56 - 8 * k) : Nat) : Int) := by
  rw [show (8 * (7 - (k : Int))).toNat = 56 - 8 * k by omega]; simp
end Go.Sl
namespace Go.Proofs.YtjhmjdgdgpgcdaaDoor
open Go.Sl
set_option maxRecDepth 10000

theorem turned_ret (x k : Int) (hk : 1 ≤ k ∧ k ≤ 31) (w0 : World) : Ret Tryd.prog 90 #[.int .u32 x, .int .u64 k] w0 fun u w' => u = .int .u32 (rot x k) ∧ Trs w0 w' [] [] := by
  have S := St.begin (hp_nil w0)
  refine enter2 13 Tryd.func90 rfl rfl (by decide) ?_; intro a E
  refine wp_seq_k ?_; intro K hK
  refine region_list ?_
  refine list_pure E rfl rfl (by decide) (rn_assign E rfl rfl) ?_; clear E a; intro a E
  refine wpList_nil ?_
  refine then_k hK ?_; clear hK; clear K
  refine wp_seq_k ?_; intro K hK
  refine region_list ?_
  refine list_pure E rfl rfl (by decide) (rn_move E rfl rfl) ?_; clear E a; intro a E
  refine list_pure E rfl rfl (by decide) (rn_move E rfl rfl) ?_; clear E a; intro a E
  refine list_pure E rfl rfl (by decide) (rn_shr E rfl rfl rfl (by omega) (by simp only [IntKind.bits]; omega) rfl) ?_; clear E a; intro a E
  refine list_pure E rfl rfl (by decide) (rn_move E rfl rfl) ?_; clear E a; intro a E
  refine list_pure E rfl rfl (by decide) (rn_move E rfl rfl) ?_; clear E a; intro a E
  refine list_pure E rfl rfl (by decide) (rn_sub E rfl rfl rfl (w_inu (by omega))) ?_; clear E a; intro a E
  refine list_pure E rfl rfl (by decide) (rn_shl E rfl rfl rfl (by omega) (by simp only [IntKind.bits]; omega) rfl) ?_; clear E a; intro a E
  refine list_pure E rfl rfl (by decide) (rn_or E rfl rfl rfl rfl) ?_; clear E a; intro a E
  refine list_pure E rfl rfl (by decide) (rn_assign E rfl rfl) ?_; clear E a; intro a E
  refine wpList_nil ?_
  refine then_k hK ?_; clear hK; clear K
  refine wp_ret ?_
  refine ret1 E rfl rfl ?_
  exact ⟨_, rfl, rfl, (S.only (Bs := []) (sel_nil _)).tr⟩

theorem dpad_ret (D : Chunk) (v : Value) (b : List UInt8) (hD : Rd D 1 v b.length (byt b)) (hbl : b.length ≤ 140737488352000) (As : List Chunk) (hDA : D ∈ As) (w0 : World) (H : Hp w0 As) :
    Ret Tryd.prog 88 #[v] w0 fun u w' => ∃ C, Buf C 5 1 u (padL b).length (byt (padL b)) ∧ Trs w0 w' As (C :: As) := by
  have S := (St.begin H).addNil
  have hps := pad_small hbl
  have hHl := padH_length b
  have hLl := padL_length b
  obtain ⟨ad0, c0, rfl⟩ := hD.slice
  refine enter1 36 Tryd.func88 rfl rfl (by decide) ?_; intro a E
  refine wp_seq_k ?_; intro K hK
  refine region_list ?_
  refine list_pure E rfl rfl (by decide) (rn_assign E rfl rfl) ?_; clear E a; intro a E
  refine wpList_nil ?_
  refine then_k hK ?_; clear hK; clear K
  refine wp_seq_k ?_; intro K hK
  refine region_list ?_
  refine list_pure E rfl rfl (by decide) (rn_move E rfl rfl) ?_; clear E a; intro a E
  refine list_wp rfl (wp_append (by' := 1) E S rfl rfl (by decide) rfl rfl (Buf.nil _ _) (by repeat (first | exact pk1 | apply pick_tail)) (hD.src (S.stab.at (by repeat (first | exact mm1 | assumption | apply List.Mem.tail))) rfl) rfl rfl rfl rfl rfl rfl (by simp only [maxLen]; omega) (by omega) ?_); clear E S a; intro a w v7 C7 E S hB7
  simp only [Nat.zero_add, List.nil_append] at hB7
  refine list_pure E rfl rfl (by decide) (rn_assign E rfl rfl) ?_; clear E a; intro a E
  refine wpList_nil ?_
  refine then_k hK ?_; clear hK; clear K
  refine wp_seq_k ?_; intro K hK
  refine region_list ?_
  refine list_pure E rfl rfl (by decide) (rn_move E rfl rfl) ?_; clear E a; intro a E
  refine list_wp rfl (wp_bslice (cells := [_]) E S rfl rfl (by decide) rfl rfl rfl rfl rfl (by decide) rfl ?_); clear E S a; intro a w b9 E S
  refine list_wp rfl (wp_append (by' := 1) E S rfl rfl (by decide) rfl rfl hB7 (by repeat (first | exact pk1 | apply pick_tail)) ((rd_cells (g := b9) (T := 5) (xs := [.int .u8 128]) (s := 1) (m := 1) rfl (by simp [Value.oneCell']) (by omega) 1).src (S.stab.at (by repeat (first | exact mm1 | assumption | apply List.Mem.tail))) rfl) rfl rfl rfl rfl rfl rfl (by simp only [maxLen]; omega) (by omega) ?_); clear E S a; intro a w v10 C10 E S hB10
  refine list_pure E rfl rfl (by decide) (rn_assign E rfl rfl) ?_; clear E a; intro a E
  refine wpList_nil ?_
  have S := (S.del (A := [(b9, _)]) (by repeat (first | exact pk1 | apply pick_tail))).front1 (A := C10) (by repeat (first | exact pk1 | apply pick_tail))
  refine then_k hK ?_; clear hK; clear K
  refine wp_seq_k ?_; intro K hK
  refine wp_block ?_
  refine wp_loop_ghost (fun (m : Nat) (a : Act) (w' : World) => ∃ (z : Nat) (v : Value) (C : Chunk), m = padZ b.length - z ∧ z ≤ padZ b.length ∧ Buf C 5 1 v (b.length + 1 + z) (byt (b ++ [128] ++ List.replicate z 0)) ∧ St w0 As w' (C :: As) ∧ Fr a 36 [(0, .slice ad0 b.length c0), (3, v)]) (padZ b.length - 0) ?_ ?_
  · exact ⟨0, v10, C10, rfl, by omega, by rw [List.replicate_zero, List.append_nil, byt_append]; exact hB10, S, E.keep (keep_cons rfl (keep_cons rfl keep_nil))⟩
  clear E; clear a; (try clear S); rintro m a w ⟨z, v, C, rfl, hz, hC, S, E⟩
  refine wp_seq_k ?_; intro K hK
  refine wp_seq_k ?_; intro K hK
  obtain ⟨adv, cv, rfl⟩ := hC.slice
  refine region_list ?_
  refine list_pure E rfl rfl (by decide) (rn_move E rfl rfl) ?_; clear E a; intro a E
  refine list_pure E rfl rfl (by decide) (by first | exact rn_len E rfl rfl rfl | exact rn_len_str E rfl rfl rfl | exact rn_len_string E rfl rfl rfl) ?_; clear E a; intro a E
  refine list_pure E rfl rfl (by decide) (rn_rem E rfl rfl rfl (by decide) (by first | exact wr_lit (y := 64) | exact rfl)) ?_; clear E a; intro a E
  refine list_pure E rfl rfl (by decide) (by first | exact rn_neq E rfl rfl rfl | exact rn_neq_ptr_nil E rfl rfl rfl rfl | exact rn_neq_bool E rfl rfl rfl rfl | exact rn_neq_string E rfl rfl rfl) ?_; clear E a; intro a E
  refine wpList_nil ?_
  refine then_k hK ?_; clear hK; clear K
  refine if_bool E rfl (fun hb => ?_) (fun hb => ?_)
  · replace hb := Nrm.nrm hb
    refine wp_skip ?_
    refine then_k hK ?_; clear hK; clear K
    refine wp_block ?_
    refine region_list ?_
    refine list_pure E rfl rfl (by decide) (rn_move E rfl rfl) ?_; clear E a; intro a E
    refine list_wp rfl (wp_bslice (cells := [_]) E S rfl rfl (by decide) rfl rfl rfl rfl rfl (by decide) rfl ?_); clear E S a; intro a w b16 E S
    refine list_wp rfl (wp_append (by' := 1) E S rfl rfl (by decide) rfl rfl hC (by repeat (first | exact pk1 | apply pick_tail)) ((rd_cells (g := b16) (T := 5) (xs := [.int .u8 0]) (s := 1) (m := 1) rfl (by simp [Value.oneCell']) (by omega) 1).src (S.stab.at (by repeat (first | exact mm1 | assumption | apply List.Mem.tail))) rfl) rfl rfl rfl rfl rfl rfl (by simp only [maxLen]; omega) (by omega) ?_); clear E S a; intro a w v17 C17 E S hB17
    refine list_pure E rfl rfl (by decide) (rn_assign E rfl rfl) ?_; clear E a; intro a E
    refine wpList_nil ?_
    refine in_normal ?_
    refine then_normal ?_
    rw [← pad_zero] at hB17
    exact ⟨_, by unfold padZ at *; omega, z + 1, v17, C17, rfl, by unfold padZ at *; omega, hB17, (S.del (A := [(b16, _)]) (by repeat (first | exact pk1 | apply pick_tail))).front1 (A := C17) (by repeat (first | exact pk1 | apply pick_tail)), E.keep (keep_cons rfl (keep_cons rfl keep_nil))⟩
  · replace hb := Nrm.nrm hb
    refine wp_exit ?_
    refine then_exit ?_; clear hK; clear K
    refine then_exit ?_
    refine in_exit ?_
    refine then_k hK ?_; clear hK; clear K
    refine wp_seq_k ?_; intro K hK
    have hzz : z = padZ b.length := by unfold padZ at *; omega
    subst hzz
    have hC : Buf C 5 1 (.slice adv (b.length + 1 + padZ b.length) cv) (b.length + 1 + padZ b.length) (byt (padH b)) := hC
    refine region_list ?_
    refine list_pure E rfl rfl (by decide) (rn_move E rfl rfl) ?_; clear E a; intro a E
    refine list_pure E rfl rfl (by decide) (by first | exact rn_len E rfl rfl rfl | exact rn_len_str E rfl rfl rfl | exact rn_len_string E rfl rfl rfl) ?_; clear E a; intro a E
    refine list_pure E rfl rfl (by decide) (by first | exact rn_convert E rfl rfl rfl rfl (by first | exact wu8 _ | exact w_nat (by omega) | exact w_natu (by omega) | exact w_in (by omega) | exact w_inu (by omega) | exact rfl) | exact rn_string E rfl rfl rfl rfl rfl (by assumption) (S.stab.at (by simp))) ?_; clear E a; intro a E
    refine list_pure E rfl rfl (by decide) (rn_mul E rfl rfl rfl (w_inu (by omega))) ?_; clear E a; intro a E
    refine list_pure E rfl rfl (by decide) (rn_assign E rfl rfl) ?_; clear E a; intro a E
    refine wpList_nil ?_
    refine then_k hK ?_; clear hK; clear K
    refine wp_seq_k ?_; intro K hK
    refine wp_seq_k ?_; intro K hK
    refine region_list ?_
    refine list_pure E rfl rfl (by decide) (rn_assign E rfl rfl) ?_; clear E a; intro a E
    refine wpList_nil ?_
    refine then_k hK ?_; clear hK; clear K
    refine wp_block ?_
    refine wp_loop_ghost (fun (m : Nat) (a : Act) (w' : World) => ∃ (k : Nat) (v : Value) (C : Chunk), m = 8 - k ∧ k ≤ 8 ∧ Buf C 5 1 v (b.length + 1 + padZ b.length + k) (byt (padH b ++ lenB (b.length * 8) k)) ∧ St w0 As w' (C :: As) ∧ Fr a 36 [(3, v), (4, .int .u64 ((b.length : Int) * 8)), (5, .int .i64 (7 - (k : Int)))]) (8 - 0) ?_ ?_
    · exact ⟨0, _, C, rfl, by omega, by rw [lenB, List.append_nil, Nat.add_zero]; exact hC, S, E.keep (keep_cons rfl (keep_cons rfl (keep_cons rfl keep_nil)))⟩
    clear E; clear a; (try clear S); rintro m a w ⟨k, v, C, rfl, hk, hC, S, E⟩
    refine wp_seq_k ?_; intro K hK
    refine wp_seq_k ?_; intro K hK
    refine region_list ?_
    refine list_pure E rfl rfl (by decide) (rn_move E rfl rfl) ?_; clear E a; intro a E
    refine list_pure E rfl rfl (by decide) (rn_geq E rfl rfl rfl) ?_; clear E a; intro a E
    refine wpList_nil ?_
    refine then_k hK ?_; clear hK; clear K
    refine if_bool E rfl (fun hb => ?_) (fun hb => ?_)
    · replace hb := Nrm.nrm hb
      refine wp_skip ?_
      refine then_k hK ?_; clear hK; clear K
      refine wp_seq_k ?_; intro K hK
      refine wp_block ?_
      obtain ⟨adv, cv, rfl⟩ := hC.slice
      have hq1 : [UInt8.ofNat (b.length * 8 / 2 ^ (56 - 8 * k))].length = 1 := rfl
      refine region_list ?_
      refine list_pure E rfl rfl (by decide) (rn_move E rfl rfl) ?_; clear E a; intro a E
      refine list_pure E rfl rfl (by decide) (rn_move E rfl rfl) ?_; clear E a; intro a E
      refine list_pure E rfl rfl (by decide) (rn_move E rfl rfl) ?_; clear E a; intro a E
      refine list_pure E rfl rfl (by decide) (rn_convert E rfl rfl rfl rfl (w_inu (by omega))) ?_; clear E a; intro a E
      refine list_pure E rfl rfl (by decide) (rn_mul E rfl rfl rfl (w_inu (by omega))) ?_; clear E a; intro a E
      refine list_pure E rfl rfl (by decide) (rn_shr E rfl rfl rfl (by omega) (by simp only [IntKind.bits]; omega) rfl) ?_; clear E a; intro a E
      rw [shs2 (by omega)] at E
      refine list_pure E rfl rfl (by decide) (rn_convert E rfl rfl rfl rfl (w8 _)) ?_; clear E a; intro a E
      refine list_wp rfl (wp_bslice (cells := [_]) E S rfl rfl (by decide) rfl rfl rfl rfl rfl (by decide) rfl ?_); clear E S a; intro a w b33 E S
      refine list_wp rfl (wp_append (by' := 1) E S rfl rfl (by decide) rfl rfl hC (by repeat (first | exact pk1 | apply pick_tail)) ((buf_bytes b33 [UInt8.ofNat (b.length * 8 / 2 ^ (56 - 8 * k))] 5 (by simp)).rd.src (S.stab.at (by repeat (first | exact mm1 | assumption | apply List.Mem.tail))) rfl) rfl rfl rfl rfl rfl rfl (by simp only [maxLen]; omega) (by omega) ?_); clear E S a; intro a w v34 C34 E S hB34
      refine list_pure E rfl rfl (by decide) (rn_assign E rfl rfl) ?_; clear E a; intro a E
      refine wpList_nil ?_
      refine in_normal ?_
      refine then_k hK ?_; clear hK; clear K
      refine region_list ?_
      refine list_pure E rfl rfl (by decide) (rn_move E rfl rfl) ?_; clear E a; intro a E
      refine list_pure E rfl rfl (by decide) (rn_sub E rfl rfl rfl (w_in (by omega))) ?_; clear E a; intro a E
      refine list_pure E rfl rfl (by decide) (rn_assign E rfl rfl) ?_; clear E a; intro a E
      refine wpList_nil ?_
      refine then_normal ?_
      rw [show (7 - (k : Int)) - 1 = 7 - ((k + 1 : Nat) : Int) by omega] at E
      rw [← byt_append, List.append_assoc, ← lenB_succ] at hB34
      exact ⟨_, by omega, k + 1, v34, C34, rfl, by omega, hB34, (S.del (A := [(b33, _)]) (by repeat (first | exact pk1 | apply pick_tail))).front1 (A := C34) (by repeat (first | exact pk1 | apply pick_tail)), E.keep (keep_cons rfl (keep_cons rfl (keep_cons rfl keep_nil)))⟩
    · replace hb := Nrm.nrm hb
      refine wp_exit ?_
      refine then_exit ?_; clear hK; clear K
      refine then_exit ?_
      refine in_exit ?_
      refine then_k hK ?_; clear hK; clear K
      refine wp_seq_k ?_; intro K hK
      refine region_list ?_
      refine list_pure E rfl rfl (by decide) (rn_move E rfl rfl) ?_; clear E a; intro a E
      refine list_pure E rfl rfl (by decide) (rn_assign E rfl rfl) ?_; clear E a; intro a E
      refine wpList_nil ?_
      refine then_k hK ?_; clear hK; clear K
      refine wp_ret ?_
      refine ret1 E rfl rfl ?_
      obtain rfl : k = 8 := by omega
      rw [padH_len] at hC
      exact ⟨_, rfl, C, by rw [show (padL b).length = b.length + 1 + padZ b.length + 8 by omega]; exact hC, S.tr⟩

theorem words_ret (C : Chunk) (v : Value) (b : List UInt8) (hC : Rd C 1 v b.length (byt b)) (hl : b.length = 64) (As : List Chunk) (hCA : C ∈ As) (w0 : World) (H : Hp w0 As) :
    Ret Tryd.prog 89 #[v] w0 fun u w' => ∃ g, u = .slice (some ⟨g, 0, none⟩) 64 64 ∧ Trs w0 w' As ([(g, cel (u32s (wsN b 64)) 122)] :: As) := by
  have S := St.begin H
  obtain ⟨ad0, c0, rfl⟩ := hC.slice
  obtain ⟨gc, oc, rfl⟩ := hC.addr (by omega)
  refine enter1 96 Tryd.func89 rfl rfl (by decide) ?_; intro a E
  refine wp_seq_k ?_; intro K hK
  refine region_list ?_
  refine list_pure E rfl rfl (by decide) (rn_assign E rfl rfl) ?_; clear E a; intro a E
  refine wpList_nil ?_
  refine then_k hK ?_; clear hK; clear K
  refine wp_seq_k ?_; intro K hK
  refine region_list ?_
  refine list_wp rfl (wp_make1 (by' := 4) E S rfl rfl (by decide) rfl rfl rfl rfl rfl rfl rfl rfl rfl rfl rfl (by decide) (by decide) ?_); clear E S a; intro a w g8 E S
  refine list_pure E rfl rfl (by decide) (rn_assign E rfl rfl) ?_; clear E a; intro a E
  refine wpList_nil ?_
  refine then_k hK ?_; clear hK; clear K
  refine wp_seq_k ?_; intro K hK
  refine wp_seq_k ?_; intro K hK
  refine region_list ?_
  refine list_pure E rfl rfl (by decide) (rn_assign E rfl rfl) ?_; clear E a; intro a E
  refine wpList_nil ?_
  refine then_k hK ?_; clear hK; clear K
  refine wp_block ?_
  refine wp_loop_ghost (fun (m : Nat) (a : Act) (w' : World) => ∃ i, m = 16 - i ∧ i ≤ 16 ∧ St w0 As w' ([(g8, cel (u32s (wsN b i) ++ List.replicate (64 - i) (.int .u32 0)) 122)] :: As) ∧ Fr a 96 [(0, .slice (some ⟨gc, oc, none⟩) b.length c0), (3, .slice (some ⟨g8, 0, none⟩) 64 64), (4, .int .i64 i)]) (16 - 0) ?_ ?_
  · exact ⟨0, rfl, by omega, S, E.keep (keep_cons rfl (keep_cons rfl (keep_cons rfl keep_nil)))⟩
  clear E; clear a; (try clear S); rintro m a w ⟨i, rfl, hi, S, E⟩
  refine wp_seq_k ?_; intro K hK
  refine wp_seq_k ?_; intro K hK
  refine region_list ?_
  refine list_pure E rfl rfl (by decide) (rn_move E rfl rfl) ?_; clear E a; intro a E
  refine list_pure E rfl rfl (by decide) (rn_lss E rfl rfl rfl) ?_; clear E a; intro a E
  refine wpList_nil ?_
  refine then_k hK ?_; clear hK; clear K
  refine if_bool E rfl (fun hb => ?_) (fun hb => ?_)
  · replace hb := Nrm.nrm hb
    refine wp_skip ?_
    refine then_k hK ?_; clear hK; clear K
    refine wp_seq_k ?_; intro K hK
    refine wp_block ?_
    have hwl := wsN_length b i
    have hst := ws_step b i
    rw [if_pos (by omega), word_lit b (by omega)] at hst
    refine region_mix0 S (.ofL [(0, 0), (1, 0), (2, 0), (3, 0), (4, 0), (5, 0), (6, 0), (7, 0), (8, 0), (9, 0), (10, 0), (11, 0), (12, 0), (13, 0), (14, 0), (15, 0), (16, 0), (17, 0), (18, 0), (19, 0), (20, 0), (21, 0), (22, 0), (23, 0), (24, 0), (25, 0), (26, 0), (27, 0), (28, 0), (29, 0), (30, 0), (31, 0), (32, 0), (33, 0), (34, 0), (35, 0), (36, 3)]) (by kernel_rfl) (by kernel_rfl) ?_
    clear S; intro w S
    refine mix_pure E rfl rfl rfl (by decide) (fun w h => rn_move E rfl rfl) ?_; clear E a; intro a E
    refine mix_pure E rfl rfl rfl (by decide) (fun w h => rn_move E rfl rfl) ?_; clear E a; intro a E
    refine mix_pure E rfl rfl rfl (by decide) (fun w h => rn_move E rfl rfl) ?_; clear E a; intro a E
    refine mix_pure E rfl rfl rfl (by decide) (fun w h => rn_move E rfl rfl) ?_; clear E a; intro a E
    refine mix_pure E rfl rfl rfl (by decide) (fun w h => rn_mul E rfl rfl rfl (by first | exact wm_lit (x := 4) (by omega) | exact wm_litu (x := 4) (by omega) | exact w_in (by omega) | exact rfl)) ?_; clear E a; intro a E
    refine mix_pure E rfl rfl rfl (by decide) (fun w h => rn_indexAddr1 (i := 4 * i) E rfl rfl rfl rfl rfl rfl (by omega)) ?_; clear E a; intro a E
    refine mix_pure E rfl rfl rfl (by decide) (fun w h => rn_loadc E rfl rfl rfl (hC.byte (h.at (by repeat (first | exact mm1 | assumption | apply List.Mem.tail))) (i := 4 * i) (by omega))) ?_; clear E a; intro a E
    refine mix_pure E rfl rfl rfl (by decide) (fun w h => rn_convert E rfl rfl rfl rfl (w8_32 _)) ?_; clear E a; intro a E
    refine mix_pure E rfl rfl rfl (by decide) (fun w h => rn_shl E rfl rfl rfl (by omega) (by simp only [IntKind.bits]; omega) rfl) ?_; clear E a; intro a E
    refine mix_pure E rfl rfl rfl (by decide) (fun w h => rn_move E rfl rfl) ?_; clear E a; intro a E
    refine mix_pure E rfl rfl rfl (by decide) (fun w h => rn_move E rfl rfl) ?_; clear E a; intro a E
    refine mix_pure E rfl rfl rfl (by decide) (fun w h => rn_mul E rfl rfl rfl (by first | exact wm_lit (x := 4) (by omega) | exact wm_litu (x := 4) (by omega) | exact w_in (by omega) | exact rfl)) ?_; clear E a; intro a E
    refine mix_pure E rfl rfl rfl (by decide) (fun w h => rn_add E rfl rfl rfl (by first | exact wa_lit (y := 1) (by omega) | exact w_in (by omega) | exact w_inu (by omega) | exact rfl)) ?_; clear E a; intro a E
    refine mix_pure E rfl rfl rfl (by decide) (fun w h => rn_indexAddr1 (i := 4 * i + 1) E rfl rfl rfl rfl rfl rfl (by omega)) ?_; clear E a; intro a E
    refine mix_pure E rfl rfl rfl (by decide) (fun w h => rn_loadc E rfl rfl rfl (hC.byte (h.at (by repeat (first | exact mm1 | assumption | apply List.Mem.tail))) (i := 4 * i + 1) (by omega))) ?_; clear E a; intro a E
    refine mix_pure E rfl rfl rfl (by decide) (fun w h => rn_convert E rfl rfl rfl rfl (w8_32 _)) ?_; clear E a; intro a E
    refine mix_pure E rfl rfl rfl (by decide) (fun w h => rn_shl E rfl rfl rfl (by omega) (by simp only [IntKind.bits]; omega) rfl) ?_; clear E a; intro a E
    refine mix_pure E rfl rfl rfl (by decide) (fun w h => rn_or E rfl rfl rfl rfl) ?_; clear E a; intro a E
    refine mix_pure E rfl rfl rfl (by decide) (fun w h => rn_move E rfl rfl) ?_; clear E a; intro a E
    refine mix_pure E rfl rfl rfl (by decide) (fun w h => rn_move E rfl rfl) ?_; clear E a; intro a E
    refine mix_pure E rfl rfl rfl (by decide) (fun w h => rn_mul E rfl rfl rfl (by first | exact wm_lit (x := 4) (by omega) | exact wm_litu (x := 4) (by omega) | exact w_in (by omega) | exact rfl)) ?_; clear E a; intro a E
    refine mix_pure E rfl rfl rfl (by decide) (fun w h => rn_add E rfl rfl rfl (by first | exact wa_lit (y := 2) (by omega) | exact w_in (by omega) | exact w_inu (by omega) | exact rfl)) ?_; clear E a; intro a E
    refine mix_pure E rfl rfl rfl (by decide) (fun w h => rn_indexAddr1 (i := 4 * i + 2) E rfl rfl rfl rfl rfl rfl (by omega)) ?_; clear E a; intro a E
    refine mix_pure E rfl rfl rfl (by decide) (fun w h => rn_loadc E rfl rfl rfl (hC.byte (h.at (by repeat (first | exact mm1 | assumption | apply List.Mem.tail))) (i := 4 * i + 2) (by omega))) ?_; clear E a; intro a E
    refine mix_pure E rfl rfl rfl (by decide) (fun w h => rn_convert E rfl rfl rfl rfl (w8_32 _)) ?_; clear E a; intro a E
    refine mix_pure E rfl rfl rfl (by decide) (fun w h => rn_shl E rfl rfl rfl (by omega) (by simp only [IntKind.bits]; omega) rfl) ?_; clear E a; intro a E
    refine mix_pure E rfl rfl rfl (by decide) (fun w h => rn_or E rfl rfl rfl rfl) ?_; clear E a; intro a E
    refine mix_pure E rfl rfl rfl (by decide) (fun w h => rn_move E rfl rfl) ?_; clear E a; intro a E
    refine mix_pure E rfl rfl rfl (by decide) (fun w h => rn_move E rfl rfl) ?_; clear E a; intro a E
    refine mix_pure E rfl rfl rfl (by decide) (fun w h => rn_mul E rfl rfl rfl (by first | exact wm_lit (x := 4) (by omega) | exact wm_litu (x := 4) (by omega) | exact w_in (by omega) | exact rfl)) ?_; clear E a; intro a E
    refine mix_pure E rfl rfl rfl (by decide) (fun w h => rn_add E rfl rfl rfl (by first | exact wa_lit (y := 3) (by omega) | exact w_in (by omega) | exact w_inu (by omega) | exact rfl)) ?_; clear E a; intro a E
    refine mix_pure E rfl rfl rfl (by decide) (fun w h => rn_indexAddr1 (i := 4 * i + 3) E rfl rfl rfl rfl rfl rfl (by omega)) ?_; clear E a; intro a E
    refine mix_pure E rfl rfl rfl (by decide) (fun w h => rn_loadc E rfl rfl rfl (hC.byte (h.at (by repeat (first | exact mm1 | assumption | apply List.Mem.tail))) (i := 4 * i + 3) (by omega))) ?_; clear E a; intro a E
    refine mix_pure E rfl rfl rfl (by decide) (fun w h => rn_convert E rfl rfl rfl rfl (w8_32 _)) ?_; clear E a; intro a E
    refine mix_pure E rfl rfl rfl (by decide) (fun w h => rn_or E rfl rfl rfl rfl) ?_; clear E a; intro a E
    refine mix_pure E rfl rfl rfl (by decide) (fun w h => rn_is0 (i := i) E rfl rfl rfl rfl rfl rfl (by omega)) ?_; clear E a; intro a E
    refine mix_last rfl rfl (wp_store1 E S rfl rfl rfl rfl rfl rfl (by repeat (first | exact pk1 | apply pick_tail)) (by rw [List.length_append, List.length_map, List.length_replicate]; omega) ?_); clear E S a; intro a w E S; try dsimp only [List.set] at S
    rw [set_zeros (u32s (wsN b i)) 64 (.int .u32 0) _ i (by rw [List.length_map, hwl]) (by omega)] at S
    refine mix_nil ?_
    refine in_normal ?_
    refine then_k hK ?_; clear hK; clear K
    refine region_list ?_
    refine list_pure E rfl rfl (by decide) (rn_move E rfl rfl) ?_; clear E a; intro a E
    refine list_pure E rfl rfl (by decide) (rn_add E rfl rfl rfl (by first | exact wa_lit (y := 1) (by omega) | exact w_in (by omega) | exact w_inu (by omega) | exact rfl)) ?_; clear E a; intro a E
    refine list_pure E rfl rfl (by decide) (rn_assign E rfl rfl) ?_; clear E a; intro a E
    refine wpList_nil ?_
    refine then_normal ?_
    exact ⟨_, by omega, i + 1, rfl, by omega, by rw [hst]; exact S, E.keep (keep_cons rfl (keep_cons rfl (keep_cons rfl keep_nil)))⟩
  · replace hb := Nrm.nrm hb
    refine wp_exit ?_
    refine then_exit ?_; clear hK; clear K
    refine then_exit ?_
    refine in_exit ?_
    refine then_k hK ?_; clear hK; clear K
    refine wp_seq_k ?_; intro K hK
    refine wp_seq_k ?_; intro K hK
    refine region_list ?_
    refine list_pure E rfl rfl (by decide) (rn_assign E rfl rfl) ?_; clear E a; intro a E
    refine wpList_nil ?_
    refine then_k hK ?_; clear hK; clear K
    refine wp_block ?_
    refine wp_loop_ghost (fun (m : Nat) (a : Act) (w' : World) => ∃ i, m = 64 - i ∧ 16 ≤ i ∧ i ≤ 64 ∧ St w0 As w' ([(g8, cel (u32s (wsN b i) ++ List.replicate (64 - i) (.int .u32 0)) 122)] :: As) ∧ Fr a 96 [(3, .slice (some ⟨g8, 0, none⟩) 64 64), (5, .int .i64 i)]) (64 - 16) ?_ ?_
    · exact ⟨16, rfl, by omega, by omega, by obtain rfl : i = 16 := (by omega); exact S, E.keep (keep_cons rfl (keep_cons rfl keep_nil))⟩
    clear E; clear a; (try clear S); rintro m a w ⟨i, rfl, h16, hi, S, E⟩
    refine wp_seq_k ?_; intro K hK
    refine wp_seq_k ?_; intro K hK
    refine region_list ?_
    refine list_pure E rfl rfl (by decide) (rn_move E rfl rfl) ?_; clear E a; intro a E
    refine list_pure E rfl rfl (by decide) (rn_lss E rfl rfl rfl) ?_; clear E a; intro a E
    refine wpList_nil ?_
    refine then_k hK ?_; clear hK; clear K
    refine if_bool E rfl (fun hb => ?_) (fun hb => ?_)
    · replace hb := Nrm.nrm hb
      refine wp_skip ?_
      refine then_k hK ?_; clear hK; clear K
      refine wp_seq_k ?_; intro K hK
      refine wp_block ?_
      refine wp_seq_k ?_; intro K hK
      have hwl := wsN_length b i
      have hst := ws_step b i
      rw [if_neg (by omega)] at hst
      refine region_list ?_
      refine list_pure E rfl rfl (by decide) (rn_move E rfl rfl) ?_; clear E a; intro a E
      refine list_pure E rfl rfl (by decide) (rn_move E rfl rfl) ?_; clear E a; intro a E
      refine list_pure E rfl rfl (by decide) (rn_sub E rfl rfl rfl (by first | exact ws_lit (y := 15) (by omega) (by omega) | exact w_in (by omega) | exact w_inu (by omega) | exact rfl)) ?_; clear E a; intro a E
      refine list_pure E rfl rfl (by decide) (rn_is0 (i := i - 15) E rfl rfl rfl rfl rfl rfl (by omega)) ?_; clear E a; intro a E
      refine list_pure E rfl rfl (by decide) (rn_loadc E rfl rfl rfl (blk_cell (S.get (by repeat (first | exact pk1 | apply pick_tail))) (ws_at b i (i - 15) _ (by omega)))) ?_; clear E a; intro a E
      refine list_pure E rfl rfl (by decide) (rn_assign E rfl rfl) ?_; clear E a; intro a E
      refine wpList_nil ?_
      refine then_k hK ?_; clear hK; clear K
      refine wp_seq_k ?_; intro K hK
      refine region_list ?_
      refine list_pure E rfl rfl (by decide) (rn_move E rfl rfl) ?_; clear E a; intro a E
      refine list_pure E rfl rfl (by decide) (rn_move E rfl rfl) ?_; clear E a; intro a E
      refine list_pure E rfl rfl (by decide) (rn_sub E rfl rfl rfl (by first | exact ws_lit (y := 2) (by omega) (by omega) | exact w_in (by omega) | exact w_inu (by omega) | exact rfl)) ?_; clear E a; intro a E
      refine list_pure E rfl rfl (by decide) (rn_is0 (i := i - 2) E rfl rfl rfl rfl rfl rfl (by omega)) ?_; clear E a; intro a E
      refine list_pure E rfl rfl (by decide) (rn_loadc E rfl rfl rfl (blk_cell (S.get (by repeat (first | exact pk1 | apply pick_tail))) (ws_at b i (i - 2) _ (by omega)))) ?_; clear E a; intro a E
      refine list_pure E rfl rfl (by decide) (rn_assign E rfl rfl) ?_; clear E a; intro a E
      refine wpList_nil ?_
      refine then_k hK ?_; clear hK; clear K
      refine region_mix0 S (.ofL [(0, 0), (1, 0), (2, 0), (3, 0), (4, 0), (5, 0), (6, 0), (7, 0), (9, 0), (12, 0), (13, 0), (16, 0), (17, 0), (18, 0), (19, 0), (20, 0), (22, 0), (24, 0), (27, 0), (28, 0), (8, 1), (10, 1), (11, 0), (14, 0), (15, 0), (21, 0), (23, 1), (25, 1), (26, 0), (29, 0), (30, 0), (31, 0), (32, 3)]) (by kernel_rfl) (by kernel_rfl) ?_
      clear S; intro w S
      refine mix_pure E rfl rfl rfl (by decide) (fun w h => rn_move E rfl rfl) ?_; clear E a; intro a E
      refine mix_pure E rfl rfl rfl (by decide) (fun w h => rn_move E rfl rfl) ?_; clear E a; intro a E
      refine mix_pure E rfl rfl rfl (by decide) (fun w h => rn_move E rfl rfl) ?_; clear E a; intro a E
      refine mix_pure E rfl rfl rfl (by decide) (fun w h => rn_move E rfl rfl) ?_; clear E a; intro a E
      refine mix_pure E rfl rfl rfl (by decide) (fun w h => rn_sub E rfl rfl rfl (by first | exact ws_lit (y := 16) (by omega) (by omega) | exact w_in (by omega) | exact w_inu (by omega) | exact rfl)) ?_; clear E a; intro a E
      refine mix_pure E rfl rfl rfl (by decide) (fun w h => rn_is0 (i := i - 16) E rfl rfl rfl rfl rfl rfl (by omega)) ?_; clear E a; intro a E
      refine mix_pure E rfl rfl rfl (by decide) (fun w h => rn_loadc E rfl rfl rfl (blk_cell (h.one (by repeat (first | exact mm1 | assumption | apply List.Mem.tail))) (ws_at b i (i - 16) _ (by omega)))) ?_; clear E a; intro a E
      refine mix_pure E rfl rfl rfl (by decide) (fun w h => rn_move E rfl rfl) ?_; clear E a; intro a E
      refine mix_pure E rfl rfl rfl (by decide) (fun w h => rn_move E rfl rfl) ?_; clear E a; intro a E
      refine mix_pure E rfl rfl rfl (by decide) (fun w h => rn_move E rfl rfl) ?_; clear E a; intro a E
      refine mix_pure E rfl rfl rfl (by decide) (fun w h => rn_shr E rfl rfl rfl (by omega) (by simp only [IntKind.bits]; omega) rfl) ?_; clear E a; intro a E
      refine mix_pure E rfl rfl rfl (by decide) (fun w h => rn_move E rfl rfl) ?_; clear E a; intro a E
      refine mix_pure E rfl rfl rfl (by decide) (fun w h => rn_move E rfl rfl) ?_; clear E a; intro a E
      refine mix_pure E rfl rfl rfl (by decide) (fun w h => rn_sub E rfl rfl rfl (by first | exact ws_lit (y := 7) (by omega) (by omega) | exact w_in (by omega) | exact w_inu (by omega) | exact rfl)) ?_; clear E a; intro a E
      refine mix_pure E rfl rfl rfl (by decide) (fun w h => rn_is0 (i := i - 7) E rfl rfl rfl rfl rfl rfl (by omega)) ?_; clear E a; intro a E
      refine mix_pure E rfl rfl rfl (by decide) (fun w h => rn_loadc E rfl rfl rfl (blk_cell (h.one (by repeat (first | exact mm1 | assumption | apply List.Mem.tail))) (ws_at b i (i - 7) _ (by omega)))) ?_; clear E a; intro a E
      refine mix_pure E rfl rfl rfl (by decide) (fun w h => rn_move E rfl rfl) ?_; clear E a; intro a E
      refine mix_pure E rfl rfl rfl (by decide) (fun w h => rn_move E rfl rfl) ?_; clear E a; intro a E
      refine mix_pure E rfl rfl rfl (by decide) (fun w h => rn_move E rfl rfl) ?_; clear E a; intro a E
      refine mix_pure E rfl rfl rfl (by decide) (fun w h => rn_shr E rfl rfl rfl (by omega) (by simp only [IntKind.bits]; omega) rfl) ?_; clear E a; intro a E
      refine mix_call E rfl rfl rfl (by decide) rfl Tryd.func90 rfl (by kernel_rfl) rfl (turned_ret _ 7 (by omega) _) ?_
      rintro v71 w ⟨rfl, hT⟩; clear E a; intro a E
      have S := S.quiet hT
      refine ⟨S.stab.sub (by first | (simp; done) | (simp +contextual; done)), ?_⟩
      refine mix_call E rfl rfl rfl (by decide) rfl Tryd.func90 rfl (by kernel_rfl) rfl (turned_ret _ 18 (by omega) _) ?_
      rintro v73 w ⟨rfl, hT⟩; clear E a; intro a E
      have S := S.quiet hT
      refine ⟨S.stab.sub (by first | (simp; done) | (simp +contextual; done)), ?_⟩
      refine mix_pure E rfl rfl rfl (by decide) (fun w h => rn_xor E rfl rfl rfl rfl) ?_; clear E a; intro a E
      refine mix_pure E rfl rfl rfl (by decide) (fun w h => rn_xor E rfl rfl rfl rfl) ?_; clear E a; intro a E
      refine mix_pure E rfl rfl rfl (by decide) (fun w h => rn_add E rfl rfl rfl (by first | exact wa1 (by omega) | exact w_in (by omega) | exact w_inu (by omega) | exact rfl)) ?_; clear E a; intro a E
      refine mix_pure E rfl rfl rfl (by decide) (fun w h => rn_add E rfl rfl rfl (by first | exact wa1 (by omega) | exact w_in (by omega) | exact w_inu (by omega) | exact rfl)) ?_; clear E a; intro a E
      refine mix_call E rfl rfl rfl (by decide) rfl Tryd.func90 rfl (by kernel_rfl) rfl (turned_ret _ 17 (by omega) _) ?_
      rintro v86 w ⟨rfl, hT⟩; clear E a; intro a E
      have S := S.quiet hT
      refine ⟨S.stab.sub (by first | (simp; done) | (simp +contextual; done)), ?_⟩
      refine mix_call E rfl rfl rfl (by decide) rfl Tryd.func90 rfl (by kernel_rfl) rfl (turned_ret _ 19 (by omega) _) ?_
      rintro v88 w ⟨rfl, hT⟩; clear E a; intro a E
      have S := S.quiet hT
      refine ⟨S.stab.sub (by first | (simp; done) | (simp +contextual; done)), ?_⟩
      refine mix_pure E rfl rfl rfl (by decide) (fun w h => rn_xor E rfl rfl rfl rfl) ?_; clear E a; intro a E
      refine mix_pure E rfl rfl rfl (by decide) (fun w h => rn_xor E rfl rfl rfl rfl) ?_; clear E a; intro a E
      refine mix_pure E rfl rfl rfl (by decide) (fun w h => rn_add E rfl rfl rfl (by first | exact wa1 (by omega) | exact w_in (by omega) | exact w_inu (by omega) | exact rfl)) ?_; clear E a; intro a E
      refine mix_pure E rfl rfl rfl (by decide) (fun w h => rn_is0 (i := i) E rfl rfl rfl rfl rfl rfl (by omega)) ?_; clear E a; intro a E
      refine mix_last rfl rfl (wp_store1 E S rfl rfl rfl rfl rfl rfl (by repeat (first | exact pk1 | apply pick_tail)) (by rw [List.length_append, List.length_map, List.length_replicate]; omega) ?_); clear E S a; intro a w E S; try dsimp only [List.set] at S
      rw [set_zeros (u32s (wsN b i)) 64 (.int .u32 0) _ i (by rw [List.length_map, hwl]) (by omega)] at S
      refine mix_nil ?_
      refine in_normal ?_
      refine then_k hK ?_; clear hK; clear K
      refine region_list ?_
      refine list_pure E rfl rfl (by decide) (rn_move E rfl rfl) ?_; clear E a; intro a E
      refine list_pure E rfl rfl (by decide) (rn_add E rfl rfl rfl (by first | exact wa_lit (y := 1) (by omega) | exact w_in (by omega) | exact w_inu (by omega) | exact rfl)) ?_; clear E a; intro a E
      refine list_pure E rfl rfl (by decide) (rn_assign E rfl rfl) ?_; clear E a; intro a E
      refine wpList_nil ?_
      refine then_normal ?_
      exact ⟨_, by omega, i + 1, rfl, by omega, by omega, by rw [hst]; exact S, E.keep (keep_cons rfl (keep_cons rfl keep_nil))⟩
    · replace hb := Nrm.nrm hb
      refine wp_exit ?_
      refine then_exit ?_; clear hK; clear K
      refine then_exit ?_
      refine in_exit ?_
      refine then_k hK ?_; clear hK; clear K
      refine wp_seq_k ?_; intro K hK
      refine region_list ?_
      refine list_pure E rfl rfl (by decide) (rn_move E rfl rfl) ?_; clear E a; intro a E
      refine list_pure E rfl rfl (by decide) (rn_assign E rfl rfl) ?_; clear E a; intro a E
      refine wpList_nil ?_
      refine then_k hK ?_; clear hK; clear K
      refine wp_ret ?_
      refine ret1 E rfl rfl ?_
      obtain rfl : i = 64 := by omega
      rw [Nat.sub_self, List.replicate_zero, List.append_nil] at S
      exact ⟨_, rfl, g8, rfl, S.tr⟩
end Go.Proofs.YtjhmjdgdgpgcdaaDoor
