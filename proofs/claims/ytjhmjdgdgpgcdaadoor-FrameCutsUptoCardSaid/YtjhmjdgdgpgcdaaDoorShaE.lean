/-
  SHA-256: the document's whole; sums by their kind.
-/
import Derived.Test.YtjhmjdgdgpgcdaaDoorShaD
namespace Go.Proofs.YtjhmjdgdgpgcdaaDoor
open Go.Sl
set_option maxRecDepth 10000

set_option maxHeartbeats 2000000 in
theorem dsha_ret (D : Chunk) (v : Value) (b : List UInt8) (hD : Rd D 1 v b.length (byt b)) (hbl : b.length ≤ 140737488352000) (As : List Chunk) (hDA : D ∈ As) (hG0 : Tab As 0 sha0.l) (hG1 : Tab As 1 shaK) (w0 : World) (H : Hp w0 As) :
    Ret Tryd.prog 75 #[v] w0 fun u w' => u = (shaF b).agg ∧ Trs w0 w' As As := by
  have S := St.begin H
  have hps := pad_small hbl
  have hLl := padL_length b
  have hL64 := padL_64 b
  obtain ⟨all, hall⟩ : ∃ all, all = padL b := ⟨_, rfl⟩
  refine enter1 157 Tryd.func75 rfl rfl (by decide) ?_; intro a E
  refine wp_seq_k ?_; intro K hK
  refine region_list ?_
  refine list_wp rfl (wp_alloc E S rfl rfl (by decide) rfl rfl rfl ?_); clear E S a; intro a w b2 E S
  refine wpList_nil ?_
  refine then_k hK ?_; clear hK; clear K
  refine wp_seq_k ?_; intro K hK
  refine region_list ?_
  refine list_pure E rfl rfl (by decide) (rn_load_aggc (vs := u32s sha0.l) E rfl rfl rfl rfl (hG0.tail.cells S.stab)) ?_; clear E a; intro a E
  refine list_wp rfl (wp_alloc E S rfl rfl (by decide) rfl rfl rfl ?_); clear E S a; intro a w b3 E S
  refine list_wp rfl (wp_storeA E S rfl rfl rfl rfl (u32s_one _) rfl rfl (by repeat (first | exact pk1 | apply pick_tail)) (by rfl) ?_); clear E S a; intro a w E S
  refine wpList_nil ?_
  refine then_k hK ?_; clear hK; clear K
  refine wp_seq_k ?_; intro K hK
  refine region_list ?_
  refine list_pure E rfl rfl (by decide) (rn_move E rfl rfl) ?_; clear E a; intro a E
  refine list_call E rfl rfl (by decide) rfl Tryd.func88 rfl (by kernel_rfl) rfl (dpad_ret D v b hD hbl As hDA _ S.tail2.hp) ?_
  rintro v16 w ⟨C, hC, hT⟩; clear E a; intro a E
  have S := St.under [_, _] S hT; rw [← hall] at hC hLl hL64; obtain ⟨adv, cv, rfl, hcv⟩ := buf_hcap hC
  refine list_pure E rfl rfl (by decide) (rn_assign E rfl rfl) ?_; clear E a; intro a E
  refine wpList_nil ?_
  refine then_k hK ?_; clear hK; clear K
  refine wp_seq_k ?_; intro K hK
  refine wp_seq_k ?_; intro K hK
  refine region_list ?_
  refine list_pure E rfl rfl (by decide) (rn_assign E rfl rfl) ?_; clear E a; intro a E
  refine wpList_nil ?_
  refine then_k hK ?_; clear hK; clear K
  refine wp_block ?_
  refine wp_loop_ghost (fun (m : Nat) (a : Act) (w' : World) => ∃ j, m = all.length / 64 - j ∧ j ≤ all.length / 64 ∧ St w0 As w' ([(b3, cel (u32s (shaH all j).l) 123)] :: C :: [(b2, cel [.int .u64 0, .int .u64 0, .int .u64 0, .int .u64 0] 86)] :: As) ∧ Fr a 157 [(2, ptr b2), (3, ptr b3), (4, .slice adv all.length cv), (5, .int .i64 (64 * j : Nat))]) (all.length / 64 - 0) ?_ ?_
  · exact ⟨0, rfl, by omega, S.front3 (by repeat (first | exact pk1 | apply pick_tail)) (B := C) (by repeat (first | exact pk1 | apply pick_tail)) (C := [(b2, _)]) (by repeat (first | exact pk1 | apply pick_tail)), E.keep (keep_cons rfl (keep_cons rfl (keep_cons rfl (keep_cons rfl keep_nil))))⟩
  clear E; clear a; (try clear S); rintro m a w ⟨j, rfl, hj, S, E⟩
  refine wp_seq_k ?_; intro K hK
  refine wp_seq_k ?_; intro K hK
  refine region_list ?_
  refine list_pure E rfl rfl (by decide) (rn_move E rfl rfl) ?_; clear E a; intro a E
  refine list_pure E rfl rfl (by decide) (rn_move E rfl rfl) ?_; clear E a; intro a E
  refine list_pure E rfl rfl (by decide) (by first | exact rn_len E rfl rfl rfl | exact rn_len_str E rfl rfl rfl | exact rn_len_string E rfl rfl rfl) ?_; clear E a; intro a E
  refine list_pure E rfl rfl (by decide) (rn_lss E rfl rfl rfl) ?_; clear E a; intro a E
  refine wpList_nil ?_
  refine then_k hK ?_; clear hK; clear K
  refine if_bool E rfl (fun hb => ?_) (fun hb => ?_)
  · replace hb := Nrm.nrm hb
    refine wp_skip ?_
    refine then_k hK ?_; clear hK; clear K
    refine wp_seq_k ?_; intro K hK
    refine wp_block ?_
    refine wp_seq_k ?_; intro K hK
    have hjl : 64 * j + 64 ≤ all.length := by omega
    obtain ⟨ad2, hs2, hR2⟩ := hC.rd.cutc (lo := 64 * j) (hi := 64 * j + 64) (by omega) (by omega) (by omega)
    have hbk := blk_length all hjl
    rw [show ((byt all).drop (64 * j * 1)).take ((64 * j + 64 - 64 * j) * 1) = byt (blk all j) by simp [blk, byt_take, byt_drop]] at hR2
    have hR2 : Rd C 1 (.slice ad2 (64 * j + 64 - 64 * j) (cv - 64 * j)) (blk all j).length (byt (blk all j)) := by rw [hbk]; rw [show 64 * j + 64 - 64 * j = 64 by omega] at *; exact hR2
    refine region_list ?_
    refine list_pure E rfl rfl (by decide) (rn_move E rfl rfl) ?_; clear E a; intro a E
    refine list_pure E rfl rfl (by decide) (rn_move E rfl rfl) ?_; clear E a; intro a E
    refine list_pure E rfl rfl (by decide) (rn_move E rfl rfl) ?_; clear E a; intro a E
    refine list_pure E rfl rfl (by decide) (rn_add E rfl rfl rfl (by first | exact wa_lit (y := 64) (by omega) | exact w_in (by omega) | exact w_inu (by omega) | exact rfl)) ?_; clear E a; intro a E
    refine list_pure E rfl rfl (by decide) (rn_slice_lh (s := 1) (lo := 64 * j) (hi := 64 * j + 64) E rfl rfl rfl rfl rfl rfl rfl rfl (by omega) (by omega)) ?_; clear E a; intro a E
    rw [hs2] at E
    refine list_call E rfl rfl (by decide) rfl Tryd.func89 rfl (by kernel_rfl) rfl (words_ret C _ (blk all j) hR2 hbk _ (show C ∈ _ from (by repeat (first | exact mm1 | assumption | apply List.Mem.tail))) _ S.hp) ?_
    rintro v28 w ⟨g6, rfl, hT⟩; clear E a; intro a E
    have S := S.all hT; obtain ⟨ws, hws⟩ : ∃ ws, ws = wsN (blk all j) 64 := ⟨_, rfl⟩; have hwl : ws.length = 64 := (by rw [hws]; exact wsN_length _ _); rw [← hws] at S
    refine list_pure E rfl rfl (by decide) (rn_assign E rfl rfl) ?_; clear E a; intro a E
    refine wpList_nil ?_
    refine then_k hK ?_; clear hK; clear K
    refine wp_seq_k ?_; intro K hK
    obtain ⟨h0, hh0⟩ : ∃ h0, h0 = shaH all j := ⟨_, rfl⟩
    rw [← hh0] at S
    refine region_list ?_
    refine list_pure E rfl rfl (by decide) (rn_load_all E rfl rfl rfl (S.get (by repeat (first | exact pk1 | apply pick_tail))) rfl) ?_; clear E a; intro a E
    refine list_wp rfl (wp_alloc E S rfl rfl (by decide) rfl rfl rfl ?_); clear E S a; intro a w b7 E S
    refine list_wp rfl (wp_storeA E S rfl rfl rfl rfl (u32s_one _) rfl rfl (by repeat (first | exact pk1 | apply pick_tail)) (by rfl) ?_); clear E S a; intro a w E S
    refine wpList_nil ?_
    refine then_k hK ?_; clear hK; clear K
    refine wp_seq_k ?_; intro K hK
    refine wp_seq_k ?_; intro K hK
    refine region_list ?_
    refine list_pure E rfl rfl (by decide) (rn_assign E rfl rfl) ?_; clear E a; intro a E
    refine wpList_nil ?_
    refine then_k hK ?_; clear hK; clear K
    refine wp_block ?_
    refine wp_loop_ghost (fun (m : Nat) (a : Act) (w' : World) => ∃ (i : Nat) (s : S8), m = 64 - i ∧ i ≤ 64 ∧ s = S8.mix h0 shaK ws i ∧ St w0 As w' ([(b7, cel (u32s s.l) 123)] :: [(g6, cel (u32s ws) 122)] :: [(b3, cel (u32s h0.l) 123)] :: C :: [(b2, cel [.int .u64 0, .int .u64 0, .int .u64 0, .int .u64 0] 86)] :: As) ∧ Fr a 157 [(2, ptr b2), (3, ptr b3), (4, .slice adv all.length cv), (5, .int .i64 (64 * j : Nat)), (6, .slice (some ⟨g6, 0, none⟩) 64 64), (7, ptr b7), (8, .int .i64 i)]) (64 - 0) ?_ ?_
    · exact ⟨0, h0, rfl, by omega, rfl, S, E.keep (keep_cons rfl (keep_cons rfl (keep_cons rfl (keep_cons rfl (keep_cons rfl (keep_cons rfl (keep_cons rfl keep_nil)))))))⟩
    clear E; clear a; (try clear S); rintro m a w ⟨i, s, rfl, hi, hs, S, E⟩
    refine wp_seq_k ?_; intro K hK
    refine wp_seq_k ?_; intro K hK
    refine region_list ?_
    refine list_pure E rfl rfl (by decide) (rn_move E rfl rfl) ?_; clear E a; intro a E
    refine list_pure E rfl rfl (by decide) (rn_lss E rfl rfl rfl) ?_; clear E a; intro a E
    refine wpList_nil ?_
    refine then_k hK ?_; clear hK; clear K
    refine if_bool E rfl (fun hb => ?_) (fun hb => ?_)
    · replace hb := Nrm.nrm hb
      refine wp_skip ?_
      refine then_k hK ?_; clear hK; clear K
      refine wp_seq_k ?_; intro K hK
      refine wp_block ?_
      refine wp_seq_k ?_; intro K hK
      refine region_list ?_
      refine list_pure E rfl rfl (by decide) (rn_ia0 (i := 0) E rfl rfl rfl rfl rfl rfl (by omega)) ?_; clear E a; intro a E
      refine list_pure E rfl rfl (by decide) (by first | exact rn_load E rfl rfl rfl (S.get (by repeat (first | exact pk1 | apply pick_tail))) rfl | exact rn_loadc E rfl rfl rfl (by assumption)) ?_; clear E a; intro a E
      refine list_pure E rfl rfl (by decide) (rn_assign E rfl rfl) ?_; clear E a; intro a E
      refine wpList_nil ?_
      refine then_k hK ?_; clear hK; clear K
      refine wp_seq_k ?_; intro K hK
      refine region_list ?_
      refine list_pure E rfl rfl (by decide) (rn_ia0 (i := 4) E rfl rfl rfl rfl rfl rfl (by omega)) ?_; clear E a; intro a E
      refine list_pure E rfl rfl (by decide) (by first | exact rn_load E rfl rfl rfl (S.get (by repeat (first | exact pk1 | apply pick_tail))) rfl | exact rn_loadc E rfl rfl rfl (by assumption)) ?_; clear E a; intro a E
      refine list_pure E rfl rfl (by decide) (rn_assign E rfl rfl) ?_; clear E a; intro a E
      refine wpList_nil ?_
      refine then_k hK ?_; clear hK; clear K
      refine wp_seq_k ?_; intro K hK
      refine region_mix0 S (.ofL [(0, 0), (1, 0), (2, 0), (4, 0), (7, 0), (11, 0), (12, 0), (13, 0), (14, 0), (15, 0), (16, 0), (17, 0), (18, 0), (19, 0), (20, 0), (22, 0), (23, 0), (24, 0), (26, 0), (27, 0), (28, 0), (29, 0), (3, 1), (5, 1), (6, 0), (8, 1), (9, 0), (10, 0), (21, 0), (25, 0), (30, 0), (31, 0)]) (by kernel_rfl) (by kernel_rfl) ?_
      clear S; intro w S
      refine mix_pure E rfl rfl rfl (by decide) (fun w h => rn_ia0 (i := 7) E rfl rfl rfl rfl rfl rfl (by omega)) ?_; clear E a; intro a E
      refine mix_pure E rfl rfl rfl (by decide) (fun w h => by first | exact rn_load E rfl rfl rfl (h.one (by repeat (first | exact mm1 | assumption | apply List.Mem.tail))) rfl | exact rn_loadc E rfl rfl rfl (by assumption)) ?_; clear E a; intro a E
      refine mix_pure E rfl rfl rfl (by decide) (fun w h => rn_move E rfl rfl) ?_; clear E a; intro a E
      refine mix_pure E rfl rfl rfl (by decide) (fun w h => rn_move E rfl rfl) ?_; clear E a; intro a E
      refine mix_pure E rfl rfl rfl (by decide) (fun w h => rn_move E rfl rfl) ?_; clear E a; intro a E
      refine mix_pure E rfl rfl rfl (by decide) (fun w h => rn_move E rfl rfl) ?_; clear E a; intro a E
      refine mix_pure E rfl rfl rfl (by decide) (fun w h => rn_ia0 (i := 5) E rfl rfl rfl rfl rfl rfl (by omega)) ?_; clear E a; intro a E
      refine mix_pure E rfl rfl rfl (by decide) (fun w h => by first | exact rn_load E rfl rfl rfl (h.one (by repeat (first | exact mm1 | assumption | apply List.Mem.tail))) rfl | exact rn_loadc E rfl rfl rfl (by assumption)) ?_; clear E a; intro a E
      refine mix_pure E rfl rfl rfl (by decide) (fun w h => rn_and E rfl rfl rfl rfl) ?_; clear E a; intro a E
      refine mix_pure E rfl rfl rfl (by decide) (fun w h => rn_move E rfl rfl) ?_; clear E a; intro a E
      refine mix_pure E rfl rfl rfl (by decide) (fun w h => rn_com E rfl rfl rfl) ?_; clear E a; intro a E
      refine mix_pure E rfl rfl rfl (by decide) (fun w h => rn_ia0 (i := 6) E rfl rfl rfl rfl rfl rfl (by omega)) ?_; clear E a; intro a E
      refine mix_pure E rfl rfl rfl (by decide) (fun w h => by first | exact rn_load E rfl rfl rfl (h.one (by repeat (first | exact mm1 | assumption | apply List.Mem.tail))) rfl | exact rn_loadc E rfl rfl rfl (by assumption)) ?_; clear E a; intro a E
      refine mix_pure E rfl rfl rfl (by decide) (fun w h => rn_and E rfl rfl rfl rfl) ?_; clear E a; intro a E
      refine mix_pure E rfl rfl rfl (by decide) (fun w h => rn_xor E rfl rfl rfl rfl) ?_; clear E a; intro a E
      refine mix_pure E rfl rfl rfl (by decide) (fun w h => rn_move E rfl rfl) ?_; clear E a; intro a E
      refine mix_pure E rfl rfl rfl (by decide) (fun w h => rn_ia0 (i := i) E rfl rfl rfl rfl rfl rfl (by omega)) ?_; clear E a; intro a E
      refine mix_pure E rfl rfl rfl (by decide) (fun w h => rn_loadc E rfl rfl rfl (hG1.tail.tail.tail.tail.tail.cell h (j := i) (by rw [shaK_len]; omega))) ?_; clear E a; intro a E
      refine mix_pure E rfl rfl rfl (by decide) (fun w h => rn_move E rfl rfl) ?_; clear E a; intro a E
      refine mix_pure E rfl rfl rfl (by decide) (fun w h => rn_move E rfl rfl) ?_; clear E a; intro a E
      refine mix_pure E rfl rfl rfl (by decide) (fun w h => rn_is0 (i := i) E rfl rfl rfl rfl rfl rfl (by omega)) ?_; clear E a; intro a E
      refine mix_pure E rfl rfl rfl (by decide) (fun w h => rn_loadc E rfl rfl rfl (blk_cell (h.one (show [(g6, cel (u32s ws) 122)] ∈ _ from (by repeat (first | exact mm1 | assumption | apply List.Mem.tail)))) (u32_at ws (j := i) (by omega)))) ?_; clear E a; intro a E
      refine mix_call E rfl rfl rfl (by decide) rfl Tryd.func90 rfl (by kernel_rfl) rfl (turned_ret s.e 6 (by omega) _) ?_
      rintro v41 w ⟨rfl, hT⟩; clear E a; intro a E
      have S := S.quiet hT
      refine ⟨S.stab.sub (by first | (simp; done) | (simp +contextual; done)), ?_⟩
      refine mix_call E rfl rfl rfl (by decide) rfl Tryd.func90 rfl (by kernel_rfl) rfl (turned_ret s.e 11 (by omega) _) ?_
      rintro v43 w ⟨rfl, hT⟩; clear E a; intro a E
      have S := S.quiet hT
      refine ⟨S.stab.sub (by first | (simp; done) | (simp +contextual; done)), ?_⟩
      refine mix_pure E rfl rfl rfl (by decide) (fun w h => rn_xor E rfl rfl rfl rfl) ?_; clear E a; intro a E
      refine mix_call E rfl rfl rfl (by decide) rfl Tryd.func90 rfl (by kernel_rfl) rfl (turned_ret s.e 25 (by omega) _) ?_
      rintro v46 w ⟨rfl, hT⟩; clear E a; intro a E
      have S := S.quiet hT
      refine ⟨S.stab.sub (by first | (simp; done) | (simp +contextual; done)), ?_⟩
      refine mix_pure E rfl rfl rfl (by decide) (fun w h => rn_xor E rfl rfl rfl rfl) ?_; clear E a; intro a E
      refine mix_pure E rfl rfl rfl (by decide) (fun w h => rn_add E rfl rfl rfl (by first | exact wa1 (by omega) | exact w_in (by omega) | exact w_inu (by omega) | exact rfl)) ?_; clear E a; intro a E
      refine mix_pure E rfl rfl rfl (by decide) (fun w h => rn_add E rfl rfl rfl (by first | exact wa1 (by omega) | exact w_in (by omega) | exact w_inu (by omega) | exact rfl)) ?_; clear E a; intro a E
      refine mix_pure E rfl rfl rfl (by decide) (fun w h => rn_add E rfl rfl rfl (by first | exact wa1 (by omega) | exact w_in (by omega) | exact w_inu (by omega) | exact rfl)) ?_; clear E a; intro a E
      refine mix_pure E rfl rfl rfl (by decide) (fun w h => rn_add E rfl rfl rfl (by first | exact wa1 (by omega) | exact w_in (by omega) | exact w_inu (by omega) | exact rfl)) ?_; clear E a; intro a E
      refine mix_pure E rfl rfl rfl (by decide) (fun w h => rn_assign E rfl rfl) ?_; clear E a; intro a E
      refine mix_nil ?_
      refine then_k hK ?_; clear hK; clear K
      refine wp_seq_k ?_; intro K hK
      refine region_mix0 S (.ofL [(0, 0), (2, 0), (5, 0), (8, 0), (9, 0), (10, 0), (11, 0), (12, 0), (13, 0), (14, 0), (15, 0), (16, 0), (17, 0), (18, 0), (19, 0), (20, 0), (21, 0), (22, 0), (1, 1), (3, 1), (4, 0), (6, 1), (7, 0), (23, 0), (24, 0)]) (by kernel_rfl) (by kernel_rfl) ?_
      clear S; intro w S
      refine mix_pure E rfl rfl rfl (by decide) (fun w h => rn_move E rfl rfl) ?_; clear E a; intro a E
      refine mix_pure E rfl rfl rfl (by decide) (fun w h => rn_move E rfl rfl) ?_; clear E a; intro a E
      refine mix_pure E rfl rfl rfl (by decide) (fun w h => rn_move E rfl rfl) ?_; clear E a; intro a E
      refine mix_pure E rfl rfl rfl (by decide) (fun w h => rn_move E rfl rfl) ?_; clear E a; intro a E
      refine mix_pure E rfl rfl rfl (by decide) (fun w h => rn_ia0 (i := 1) E rfl rfl rfl rfl rfl rfl (by omega)) ?_; clear E a; intro a E
      refine mix_pure E rfl rfl rfl (by decide) (fun w h => by first | exact rn_load E rfl rfl rfl (h.one (by repeat (first | exact mm1 | assumption | apply List.Mem.tail))) rfl | exact rn_loadc E rfl rfl rfl (by assumption)) ?_; clear E a; intro a E
      refine mix_pure E rfl rfl rfl (by decide) (fun w h => rn_and E rfl rfl rfl rfl) ?_; clear E a; intro a E
      refine mix_pure E rfl rfl rfl (by decide) (fun w h => rn_move E rfl rfl) ?_; clear E a; intro a E
      refine mix_pure E rfl rfl rfl (by decide) (fun w h => rn_ia0 (i := 2) E rfl rfl rfl rfl rfl rfl (by omega)) ?_; clear E a; intro a E
      refine mix_pure E rfl rfl rfl (by decide) (fun w h => by first | exact rn_load E rfl rfl rfl (h.one (by repeat (first | exact mm1 | assumption | apply List.Mem.tail))) rfl | exact rn_loadc E rfl rfl rfl (by assumption)) ?_; clear E a; intro a E
      refine mix_pure E rfl rfl rfl (by decide) (fun w h => rn_and E rfl rfl rfl rfl) ?_; clear E a; intro a E
      refine mix_pure E rfl rfl rfl (by decide) (fun w h => rn_xor E rfl rfl rfl rfl) ?_; clear E a; intro a E
      refine mix_pure E rfl rfl rfl (by decide) (fun w h => rn_ia0 (i := 1) E rfl rfl rfl rfl rfl rfl (by omega)) ?_; clear E a; intro a E
      refine mix_pure E rfl rfl rfl (by decide) (fun w h => by first | exact rn_load E rfl rfl rfl (h.one (by repeat (first | exact mm1 | assumption | apply List.Mem.tail))) rfl | exact rn_loadc E rfl rfl rfl (by assumption)) ?_; clear E a; intro a E
      refine mix_pure E rfl rfl rfl (by decide) (fun w h => rn_ia0 (i := 2) E rfl rfl rfl rfl rfl rfl (by omega)) ?_; clear E a; intro a E
      refine mix_pure E rfl rfl rfl (by decide) (fun w h => by first | exact rn_load E rfl rfl rfl (h.one (by repeat (first | exact mm1 | assumption | apply List.Mem.tail))) rfl | exact rn_loadc E rfl rfl rfl (by assumption)) ?_; clear E a; intro a E
      refine mix_pure E rfl rfl rfl (by decide) (fun w h => rn_and E rfl rfl rfl rfl) ?_; clear E a; intro a E
      refine mix_pure E rfl rfl rfl (by decide) (fun w h => rn_xor E rfl rfl rfl rfl) ?_; clear E a; intro a E
      refine mix_call E rfl rfl rfl (by decide) rfl Tryd.func90 rfl (by kernel_rfl) rfl (turned_ret s.a 2 (by omega) _) ?_
      rintro v70 w ⟨rfl, hT⟩; clear E a; intro a E
      have S := S.quiet hT
      refine ⟨S.stab.sub (by first | (simp; done) | (simp +contextual; done)), ?_⟩
      refine mix_call E rfl rfl rfl (by decide) rfl Tryd.func90 rfl (by kernel_rfl) rfl (turned_ret s.a 13 (by omega) _) ?_
      rintro v72 w ⟨rfl, hT⟩; clear E a; intro a E
      have S := S.quiet hT
      refine ⟨S.stab.sub (by first | (simp; done) | (simp +contextual; done)), ?_⟩
      refine mix_pure E rfl rfl rfl (by decide) (fun w h => rn_xor E rfl rfl rfl rfl) ?_; clear E a; intro a E
      refine mix_call E rfl rfl rfl (by decide) rfl Tryd.func90 rfl (by kernel_rfl) rfl (turned_ret s.a 22 (by omega) _) ?_
      rintro v75 w ⟨rfl, hT⟩; clear E a; intro a E
      have S := S.quiet hT
      refine ⟨S.stab.sub (by first | (simp; done) | (simp +contextual; done)), ?_⟩
      refine mix_pure E rfl rfl rfl (by decide) (fun w h => rn_xor E rfl rfl rfl rfl) ?_; clear E a; intro a E
      refine mix_pure E rfl rfl rfl (by decide) (fun w h => rn_add E rfl rfl rfl (by first | exact wa1 (by omega) | exact w_in (by omega) | exact w_inu (by omega) | exact rfl)) ?_; clear E a; intro a E
      refine mix_pure E rfl rfl rfl (by decide) (fun w h => rn_assign E rfl rfl) ?_; clear E a; intro a E
      refine mix_nil ?_
      refine then_k hK ?_; clear hK; clear K
      refine region_list ?_
      refine list_pure E rfl rfl (by decide) (rn_move E rfl rfl) ?_; clear E a; intro a E
      refine list_pure E rfl rfl (by decide) (rn_move E rfl rfl) ?_; clear E a; intro a E
      refine list_pure E rfl rfl (by decide) (rn_add E rfl rfl rfl (by first | exact wa1 (by omega) | exact w_in (by omega) | exact w_inu (by omega) | exact rfl)) ?_; clear E a; intro a E
      refine list_pure E rfl rfl (by decide) (rn_move E rfl rfl) ?_; clear E a; intro a E
      refine list_pure E rfl rfl (by decide) (rn_ia0 (i := 1) E rfl rfl rfl rfl rfl rfl (by omega)) ?_; clear E a; intro a E
      refine list_pure E rfl rfl (by decide) (by first | exact rn_load E rfl rfl rfl (S.get (by repeat (first | exact pk1 | apply pick_tail))) rfl | exact rn_loadc E rfl rfl rfl (by assumption)) ?_; clear E a; intro a E
      refine list_pure E rfl rfl (by decide) (rn_ia0 (i := 2) E rfl rfl rfl rfl rfl rfl (by omega)) ?_; clear E a; intro a E
      refine list_pure E rfl rfl (by decide) (by first | exact rn_load E rfl rfl rfl (S.get (by repeat (first | exact pk1 | apply pick_tail))) rfl | exact rn_loadc E rfl rfl rfl (by assumption)) ?_; clear E a; intro a E
      refine list_pure E rfl rfl (by decide) (rn_ia0 (i := 3) E rfl rfl rfl rfl rfl rfl (by omega)) ?_; clear E a; intro a E
      refine list_pure E rfl rfl (by decide) (by first | exact rn_load E rfl rfl rfl (S.get (by repeat (first | exact pk1 | apply pick_tail))) rfl | exact rn_loadc E rfl rfl rfl (by assumption)) ?_; clear E a; intro a E
      refine list_pure E rfl rfl (by decide) (rn_move E rfl rfl) ?_; clear E a; intro a E
      refine list_pure E rfl rfl (by decide) (rn_add E rfl rfl rfl (by first | exact wa1 (by omega) | exact w_in (by omega) | exact w_inu (by omega) | exact rfl)) ?_; clear E a; intro a E
      refine list_pure E rfl rfl (by decide) (rn_move E rfl rfl) ?_; clear E a; intro a E
      refine list_pure E rfl rfl (by decide) (rn_ia0 (i := 5) E rfl rfl rfl rfl rfl rfl (by omega)) ?_; clear E a; intro a E
      refine list_pure E rfl rfl (by decide) (by first | exact rn_load E rfl rfl rfl (S.get (by repeat (first | exact pk1 | apply pick_tail))) rfl | exact rn_loadc E rfl rfl rfl (by assumption)) ?_; clear E a; intro a E
      refine list_pure E rfl rfl (by decide) (rn_ia0 (i := 6) E rfl rfl rfl rfl rfl rfl (by omega)) ?_; clear E a; intro a E
      refine list_pure E rfl rfl (by decide) (by first | exact rn_load E rfl rfl rfl (S.get (by repeat (first | exact pk1 | apply pick_tail))) rfl | exact rn_loadc E rfl rfl rfl (by assumption)) ?_; clear E a; intro a E
      refine list_pure E rfl rfl (by decide) (rn_build (cells := [_, _, _, _, _, _, _, _]) E rfl rfl rfl) ?_; clear E a; intro a E
      refine list_wp rfl (wp_storeA E S rfl rfl rfl rfl one8 rfl rfl (by repeat (first | exact pk1 | apply pick_tail)) (by rfl) ?_); clear E S a; intro a w E S
      refine wpList_nil ?_
      refine in_normal ?_
      refine then_k hK ?_; clear hK; clear K
      refine region_list ?_
      refine list_pure E rfl rfl (by decide) (rn_move E rfl rfl) ?_; clear E a; intro a E
      refine list_pure E rfl rfl (by decide) (rn_add E rfl rfl rfl (by first | exact wa_lit (y := 1) (by omega) | exact w_in (by omega) | exact w_inu (by omega) | exact rfl)) ?_; clear E a; intro a E
      refine list_pure E rfl rfl (by decide) (rn_assign E rfl rfl) ?_; clear E a; intro a E
      refine wpList_nil ?_
      refine then_normal ?_
      exact ⟨_, by omega, i + 1, s.step (shaK.getD i 0) (ws.getD i 0), rfl, by omega, by rw [hs]; rfl, S, E.keep (keep_cons rfl (keep_cons rfl (keep_cons rfl (keep_cons rfl (keep_cons rfl (keep_cons rfl (keep_cons rfl keep_nil)))))))⟩
    · replace hb := Nrm.nrm hb
      refine wp_exit ?_
      refine then_exit ?_; clear hK; clear K
      refine then_exit ?_
      refine in_exit ?_
      refine then_k hK ?_; clear hK; clear K
      refine wp_seq_k ?_; intro K hK
      obtain rfl : i = 64 := by omega
      refine region_list ?_
      refine list_pure E rfl rfl (by decide) (rn_assign E rfl rfl) ?_; clear E a; intro a E
      refine wpList_nil ?_
      refine then_k hK ?_; clear hK; clear K
      refine wp_block ?_
      refine wp_loop_ghost (fun (m : Nat) (a : Act) (w' : World) => ∃ i, m = 8 - i ∧ i ≤ 8 ∧ St w0 As w' ([(b3, cel (u32s (addL h0 s i)) 123)] :: [(b7, cel (u32s s.l) 123)] :: C :: [(b2, cel [.int .u64 0, .int .u64 0, .int .u64 0, .int .u64 0] 86)] :: As) ∧ Fr a 157 [(2, ptr b2), (3, ptr b3), (4, .slice adv all.length cv), (5, .int .i64 (64 * j : Nat)), (7, ptr b7), (13, .int .i64 i)]) (8 - 0) ?_ ?_
      · exact ⟨0, rfl, by omega, by rw [addL_zero]; exact (S.del (A := [(g6, _)]) (by repeat (first | exact pk1 | apply pick_tail))).front2 (A := [(b3, _)]) (by repeat (first | exact pk1 | apply pick_tail)) (B := [(b7, _)]) (by repeat (first | exact pk1 | apply pick_tail)), E.keep (keep_cons rfl (keep_cons rfl (keep_cons rfl (keep_cons rfl (keep_cons rfl (keep_cons rfl keep_nil))))))⟩
      clear E; clear a; (try clear S); rintro m a w ⟨i, rfl, hi, S, E⟩
      refine wp_seq_k ?_; intro K hK
      refine wp_seq_k ?_; intro K hK
      refine region_list ?_
      refine list_pure E rfl rfl (by decide) (rn_move E rfl rfl) ?_; clear E a; intro a E
      refine list_pure E rfl rfl (by decide) (rn_lss E rfl rfl rfl) ?_; clear E a; intro a E
      refine wpList_nil ?_
      refine then_k hK ?_; clear hK; clear K
      refine if_bool E rfl (fun hb => ?_) (fun hb => ?_)
      · replace hb := Nrm.nrm hb
        refine wp_skip ?_
        refine then_k hK ?_; clear hK; clear K
        refine wp_seq_k ?_; intro K hK
        refine wp_block ?_
        refine region_mix0 S (.ofL [(0, 0), (1, 0), (2, 0), (3, 0), (4, 0), (5, 0), (6, 0), (7, 0), (8, 0), (9, 3)]) (by kernel_rfl) (by kernel_rfl) ?_
        clear S; intro w S
        refine mix_pure E rfl rfl rfl (by decide) (fun w h => rn_move E rfl rfl) ?_; clear E a; intro a E
        refine mix_pure E rfl rfl rfl (by decide) (fun w h => rn_move E rfl rfl) ?_; clear E a; intro a E
        refine mix_pure E rfl rfl rfl (by decide) (fun w h => rn_ia0 (i := i) E rfl rfl rfl rfl rfl rfl (by omega)) ?_; clear E a; intro a E
        refine mix_pure E rfl rfl rfl (by decide) (fun w h => rn_loadc E rfl rfl rfl (blk_cell (h.one (show [(b3, cel (u32s (addL h0 s i)) 123)] ∈ _ from (by repeat (first | exact mm1 | assumption | apply List.Mem.tail)))) (v := .int .u32 (h0.l.getD i 0)) (by rw [u32_at _ (by rw [addL_len]; omega), addL_at h0 s (by omega)]))) ?_; clear E a; intro a E
        refine mix_pure E rfl rfl rfl (by decide) (fun w h => rn_move E rfl rfl) ?_; clear E a; intro a E
        refine mix_pure E rfl rfl rfl (by decide) (fun w h => rn_ia0 (i := i) E rfl rfl rfl rfl rfl rfl (by omega)) ?_; clear E a; intro a E
        refine mix_pure E rfl rfl rfl (by decide) (fun w h => rn_loadc E rfl rfl rfl (blk_cell (h.one (show [(b7, cel (u32s s.l) 123)] ∈ _ from (by repeat (first | exact mm1 | assumption | apply List.Mem.tail)))) (s8_at s (i := i) (by omega)))) ?_; clear E a; intro a E
        refine mix_pure E rfl rfl rfl (by decide) (fun w h => rn_add E rfl rfl rfl (by first | exact wa1 (by omega) | exact w_in (by omega) | exact w_inu (by omega) | exact rfl)) ?_; clear E a; intro a E
        refine mix_pure E rfl rfl rfl (by decide) (fun w h => rn_ia0 (i := i) E rfl rfl rfl rfl rfl rfl (by omega)) ?_; clear E a; intro a E
        refine mix_last rfl rfl (wp_store1 E S rfl rfl rfl rfl rfl rfl (by repeat (first | exact pk1 | apply pick_tail)) (by rw [List.length_map, addL_len]; omega) ?_); clear E S a; intro a w E S; try dsimp only [List.set] at S
        refine mix_nil ?_
        refine in_normal ?_
        refine then_k hK ?_; clear hK; clear K
        refine region_list ?_
        refine list_pure E rfl rfl (by decide) (rn_move E rfl rfl) ?_; clear E a; intro a E
        refine list_pure E rfl rfl (by decide) (rn_add E rfl rfl rfl (by first | exact wa_lit (y := 1) (by omega) | exact w_in (by omega) | exact w_inu (by omega) | exact rfl)) ?_; clear E a; intro a E
        refine list_pure E rfl rfl (by decide) (rn_assign E rfl rfl) ?_; clear E a; intro a E
        refine wpList_nil ?_
        refine then_normal ?_
        exact ⟨_, by omega, i + 1, rfl, by omega, by rw [← addL_set h0 s (by omega)]; exact S, E.keep (keep_cons rfl (keep_cons rfl (keep_cons rfl (keep_cons rfl (keep_cons rfl (keep_cons rfl keep_nil))))))⟩
      · replace hb := Nrm.nrm hb
        refine wp_exit ?_
        refine then_exit ?_; clear hK; clear K
        refine then_exit ?_
        refine in_exit ?_
        refine in_normal ?_
        refine then_k hK ?_; clear hK; clear K
        obtain rfl : i = 8 := by omega
        rw [addL_end, hs, hh0, hws] at S
        refine region_list ?_
        refine list_pure E rfl rfl (by decide) (rn_move E rfl rfl) ?_; clear E a; intro a E
        refine list_pure E rfl rfl (by decide) (rn_add E rfl rfl rfl (by first | exact wa_lit (y := 64) (by omega) | exact w_in (by omega) | exact w_inu (by omega) | exact rfl)) ?_; clear E a; intro a E
        refine list_pure E rfl rfl (by decide) (rn_assign E rfl rfl) ?_; clear E a; intro a E
        refine wpList_nil ?_
        refine then_normal ?_
        rw [show 64 * j + 64 = 64 * (j + 1) by omega] at E
        exact ⟨_, by omega, j + 1, rfl, by omega, (S.del (A := [(b7, _)]) (by repeat (first | exact pk1 | apply pick_tail))).front1 (A := [(b3, _)]) (by repeat (first | exact pk1 | apply pick_tail)), E.keep (keep_cons rfl (keep_cons rfl (keep_cons rfl (keep_cons rfl keep_nil))))⟩
  · replace hb := Nrm.nrm hb
    refine wp_exit ?_
    refine then_exit ?_; clear hK; clear K
    refine then_exit ?_
    refine in_exit ?_
    refine then_k hK ?_; clear hK; clear K
    refine wp_seq_k ?_; intro K hK
    obtain ⟨hh, hhe⟩ : ∃ hh, hh = shaH all (all.length / 64) := ⟨_, rfl⟩
    obtain rfl : j = all.length / 64 := by omega
    rw [← hhe] at S
    refine region_list ?_
    refine list_pure E rfl rfl (by decide) (rn_ia0 (i := 0) E rfl rfl rfl rfl rfl rfl (by omega)) ?_; clear E a; intro a E
    refine list_pure E rfl rfl (by decide) (by first | exact rn_load E rfl rfl rfl (S.get (by repeat (first | exact pk1 | apply pick_tail))) rfl | exact rn_loadc E rfl rfl rfl (by assumption)) ?_; clear E a; intro a E
    refine list_pure E rfl rfl (by decide) (rn_convert E rfl rfl rfl rfl rfl) ?_; clear E a; intro a E
    refine list_pure E rfl rfl (by decide) (rn_shl E rfl rfl rfl (by omega) (by simp only [IntKind.bits]; omega) rfl) ?_; clear E a; intro a E
    refine list_pure E rfl rfl (by decide) (rn_ia0 (i := 1) E rfl rfl rfl rfl rfl rfl (by omega)) ?_; clear E a; intro a E
    refine list_pure E rfl rfl (by decide) (by first | exact rn_load E rfl rfl rfl (S.get (by repeat (first | exact pk1 | apply pick_tail))) rfl | exact rn_loadc E rfl rfl rfl (by assumption)) ?_; clear E a; intro a E
    refine list_pure E rfl rfl (by decide) (rn_convert E rfl rfl rfl rfl rfl) ?_; clear E a; intro a E
    refine list_pure E rfl rfl (by decide) (rn_or E rfl rfl rfl rfl) ?_; clear E a; intro a E
    refine list_pure E rfl rfl (by decide) (rn_ia0 (i := 2) E rfl rfl rfl rfl rfl rfl (by omega)) ?_; clear E a; intro a E
    refine list_pure E rfl rfl (by decide) (by first | exact rn_load E rfl rfl rfl (S.get (by repeat (first | exact pk1 | apply pick_tail))) rfl | exact rn_loadc E rfl rfl rfl (by assumption)) ?_; clear E a; intro a E
    refine list_pure E rfl rfl (by decide) (rn_convert E rfl rfl rfl rfl rfl) ?_; clear E a; intro a E
    refine list_pure E rfl rfl (by decide) (rn_shl E rfl rfl rfl (by omega) (by simp only [IntKind.bits]; omega) rfl) ?_; clear E a; intro a E
    refine list_pure E rfl rfl (by decide) (rn_ia0 (i := 3) E rfl rfl rfl rfl rfl rfl (by omega)) ?_; clear E a; intro a E
    refine list_pure E rfl rfl (by decide) (by first | exact rn_load E rfl rfl rfl (S.get (by repeat (first | exact pk1 | apply pick_tail))) rfl | exact rn_loadc E rfl rfl rfl (by assumption)) ?_; clear E a; intro a E
    refine list_pure E rfl rfl (by decide) (rn_convert E rfl rfl rfl rfl rfl) ?_; clear E a; intro a E
    refine list_pure E rfl rfl (by decide) (rn_or E rfl rfl rfl rfl) ?_; clear E a; intro a E
    refine list_pure E rfl rfl (by decide) (rn_ia0 (i := 4) E rfl rfl rfl rfl rfl rfl (by omega)) ?_; clear E a; intro a E
    refine list_pure E rfl rfl (by decide) (by first | exact rn_load E rfl rfl rfl (S.get (by repeat (first | exact pk1 | apply pick_tail))) rfl | exact rn_loadc E rfl rfl rfl (by assumption)) ?_; clear E a; intro a E
    refine list_pure E rfl rfl (by decide) (rn_convert E rfl rfl rfl rfl rfl) ?_; clear E a; intro a E
    refine list_pure E rfl rfl (by decide) (rn_shl E rfl rfl rfl (by omega) (by simp only [IntKind.bits]; omega) rfl) ?_; clear E a; intro a E
    refine list_pure E rfl rfl (by decide) (rn_ia0 (i := 5) E rfl rfl rfl rfl rfl rfl (by omega)) ?_; clear E a; intro a E
    refine list_pure E rfl rfl (by decide) (by first | exact rn_load E rfl rfl rfl (S.get (by repeat (first | exact pk1 | apply pick_tail))) rfl | exact rn_loadc E rfl rfl rfl (by assumption)) ?_; clear E a; intro a E
    refine list_pure E rfl rfl (by decide) (rn_convert E rfl rfl rfl rfl rfl) ?_; clear E a; intro a E
    refine list_pure E rfl rfl (by decide) (rn_or E rfl rfl rfl rfl) ?_; clear E a; intro a E
    refine list_pure E rfl rfl (by decide) (rn_ia0 (i := 6) E rfl rfl rfl rfl rfl rfl (by omega)) ?_; clear E a; intro a E
    refine list_pure E rfl rfl (by decide) (by first | exact rn_load E rfl rfl rfl (S.get (by repeat (first | exact pk1 | apply pick_tail))) rfl | exact rn_loadc E rfl rfl rfl (by assumption)) ?_; clear E a; intro a E
    refine list_pure E rfl rfl (by decide) (rn_convert E rfl rfl rfl rfl rfl) ?_; clear E a; intro a E
    refine list_pure E rfl rfl (by decide) (rn_shl E rfl rfl rfl (by omega) (by simp only [IntKind.bits]; omega) rfl) ?_; clear E a; intro a E
    refine list_pure E rfl rfl (by decide) (rn_ia0 (i := 7) E rfl rfl rfl rfl rfl rfl (by omega)) ?_; clear E a; intro a E
    refine list_pure E rfl rfl (by decide) (by first | exact rn_load E rfl rfl rfl (S.get (by repeat (first | exact pk1 | apply pick_tail))) rfl | exact rn_loadc E rfl rfl rfl (by assumption)) ?_; clear E a; intro a E
    refine list_pure E rfl rfl (by decide) (rn_convert E rfl rfl rfl rfl rfl) ?_; clear E a; intro a E
    refine list_pure E rfl rfl (by decide) (rn_or E rfl rfl rfl rfl) ?_; clear E a; intro a E
    refine list_pure E rfl rfl (by decide) (rn_build (cells := [_, _, _, _]) E rfl rfl rfl) ?_; clear E a; intro a E
    refine list_wp rfl (wp_storeN E S rfl rfl rfl rfl (by simp [Value.oneCell']) rfl (by repeat (first | exact pk1 | apply pick_tail)) (by simp) ?_); clear E S a; intro a w E S; simp only [List.take_succ_cons, List.take_zero, List.drop_succ_cons, List.drop_zero, List.cons_append, List.nil_append, List.append_nil, List.length_cons, List.length_nil, Nat.zero_add, Nat.add_zero] at S
    refine wpList_nil ?_
    refine then_k hK ?_; clear hK; clear K
    refine wp_ret ?_
    refine ret_c E rfl rfl (S.get (by repeat (first | exact pk1 | apply pick_tail))) rfl ?_
    exact ⟨_, rfl, by rw [shaF, ← hall, ← hhe]; simp only [S8.fs, Fs.agg, pairN_eq]; rfl, S.tail3.tr⟩

theorem sumof2_ret (D : Chunk) (v : Value) (b : List UInt8) (hD : Rd D 1 v b.length (byt b)) (hbl : b.length ≤ 140737488352000) (As : List Chunk) (hDA : D ∈ As) (hG : Tab As 2 shaK) (w0 : World) (H : Hp w0 As) :
    Ret Tryd.prog 80 #[.int .i64 2, v] w0 fun u w' => u = .tuple #[(shaF b).agg, .int .i64 0] ∧ Trs w0 w' As As := by
  have S := St.begin H
  refine enter2 21 Tryd.func80 rfl rfl (by decide) ?_; intro a E
  refine wp_seq_k ?_; intro K hK
  refine region_list ?_
  refine list_wp rfl (wp_alloc E S rfl rfl (by decide) rfl rfl rfl ?_); clear E S a; intro a w b4 E S
  refine list_pure E rfl rfl (by decide) (rn_assign E rfl rfl) ?_; clear E a; intro a E
  refine wpList_nil ?_
  refine then_k hK ?_; clear hK; clear K
  refine wp_seq_k ?_; intro K hK
  refine wp_seq_k ?_; intro K hK
  refine region_list ?_
  refine list_pure E rfl rfl (by decide) (rn_move E rfl rfl) ?_; clear E a; intro a E
  refine wpList_nil ?_
  refine then_k hK ?_; clear hK; clear K
  refine wp_block ?_
  refine wp_seq_k ?_; intro K hK
  refine region_list ?_
  refine list_pure E rfl rfl (by decide) (by first | exact rn_eql E rfl rfl rfl | exact rn_eql_ptr_nil E rfl rfl rfl rfl | exact rn_eql_bool E rfl rfl rfl rfl | exact rn_eql_string E rfl rfl rfl) ?_; clear E a; intro a E
  refine list_pure E rfl rfl (by decide) (rn_assign E rfl rfl) ?_; clear E a; intro a E
  refine wpList_nil ?_
  refine then_k hK ?_; clear hK; clear K
  refine if_false' E rfl (rfl) ?_
  refine wp_seq_k ?_; intro K hK
  refine region_list ?_
  refine list_pure E rfl rfl (by decide) (by first | exact rn_eql E rfl rfl rfl | exact rn_eql_ptr_nil E rfl rfl rfl rfl | exact rn_eql_bool E rfl rfl rfl rfl | exact rn_eql_string E rfl rfl rfl) ?_; clear E a; intro a E
  refine list_pure E rfl rfl (by decide) (rn_assign E rfl rfl) ?_; clear E a; intro a E
  refine wpList_nil ?_
  refine then_k hK ?_; clear hK; clear K
  refine if_true' E rfl (rfl) ?_
  refine wp_seq_k ?_; intro K hK
  refine region_list ?_
  refine list_pure E rfl rfl (by decide) (rn_move E rfl rfl) ?_; clear E a; intro a E
  refine list_call E rfl rfl (by decide) rfl Tryd.func94 rfl (by kernel_rfl) rfl (sha_ret D v b hD hbl As hDA hG _ S.tail.hp) ?_
  rintro v19 w ⟨rfl, hT⟩; clear E a; intro a E
  have S := St.under [_] S hT
  refine list_wp rfl (wp_storeN E S rfl rfl rfl rfl (by simp [Value.oneCell']) rfl (by repeat (first | exact pk1 | apply pick_tail)) (by simp) ?_); clear E S a; intro a w E S; simp only [List.take_succ_cons, List.take_zero, List.drop_succ_cons, List.drop_zero, List.cons_append, List.nil_append, List.append_nil, List.length_cons, List.length_nil, Nat.zero_add, Nat.add_zero] at S
  refine list_pure E rfl rfl (by decide) (rn_assign E rfl rfl) ?_; clear E a; intro a E
  refine wpList_nil ?_
  refine then_k hK ?_; clear hK; clear K
  refine wp_ret ?_
  refine in_ret ?_
  refine then_ret ?_; clear hK; clear K
  refine ret_ct E rfl rfl rfl (S.get (by repeat (first | exact pk1 | apply pick_tail))) rfl ?_
  exact ⟨_, rfl, rfl, S.tail.tr⟩

theorem dsumof2_ret (D : Chunk) (v : Value) (b : List UInt8) (hD : Rd D 1 v b.length (byt b)) (hbl : b.length ≤ 140737488352000) (As : List Chunk) (hDA : D ∈ As) (hG0 : Tab As 0 sha0.l) (hG1 : Tab As 1 shaK) (w0 : World) (H : Hp w0 As) :
    Ret Tryd.prog 47 #[.int .i64 2, v] w0 fun u w' => u = .tuple #[(shaF b).agg, .int .i64 0] ∧ Trs w0 w' As As := by
  have S := St.begin H
  refine enter2 16 Tryd.func47 rfl rfl (by decide) ?_; intro a E
  refine wp_seq_k ?_; intro K hK
  refine region_list ?_
  refine list_wp rfl (wp_alloc E S rfl rfl (by decide) rfl rfl rfl ?_); clear E S a; intro a w b4 E S
  refine list_pure E rfl rfl (by decide) (rn_assign E rfl rfl) ?_; clear E a; intro a E
  refine wpList_nil ?_
  refine then_k hK ?_; clear hK; clear K
  refine wp_seq_k ?_; intro K hK
  refine wp_seq_k ?_; intro K hK
  refine region_list ?_
  refine list_pure E rfl rfl (by decide) (rn_move E rfl rfl) ?_; clear E a; intro a E
  refine wpList_nil ?_
  refine then_k hK ?_; clear hK; clear K
  refine wp_block ?_
  refine wp_seq_k ?_; intro K hK
  refine region_list ?_
  refine list_pure E rfl rfl (by decide) (by first | exact rn_eql E rfl rfl rfl | exact rn_eql_ptr_nil E rfl rfl rfl rfl | exact rn_eql_bool E rfl rfl rfl rfl | exact rn_eql_string E rfl rfl rfl) ?_; clear E a; intro a E
  refine list_pure E rfl rfl (by decide) (rn_assign E rfl rfl) ?_; clear E a; intro a E
  refine wpList_nil ?_
  refine then_k hK ?_; clear hK; clear K
  refine if_false' E rfl (rfl) ?_
  refine wp_seq_k ?_; intro K hK
  refine region_list ?_
  refine list_pure E rfl rfl (by decide) (by first | exact rn_eql E rfl rfl rfl | exact rn_eql_ptr_nil E rfl rfl rfl rfl | exact rn_eql_bool E rfl rfl rfl rfl | exact rn_eql_string E rfl rfl rfl) ?_; clear E a; intro a E
  refine list_pure E rfl rfl (by decide) (rn_assign E rfl rfl) ?_; clear E a; intro a E
  refine wpList_nil ?_
  refine then_k hK ?_; clear hK; clear K
  refine if_true' E rfl (rfl) ?_
  refine wp_seq_k ?_; intro K hK
  refine region_list ?_
  refine list_pure E rfl rfl (by decide) (rn_move E rfl rfl) ?_; clear E a; intro a E
  refine list_call E rfl rfl (by decide) rfl Tryd.func75 rfl (by kernel_rfl) rfl (dsha_ret D v b hD hbl As hDA hG0 hG1 _ S.tail.hp) ?_
  rintro v14 w ⟨rfl, hT⟩; clear E a; intro a E
  have S := St.under [_] S hT
  refine list_wp rfl (wp_storeN E S rfl rfl rfl rfl (by simp [Value.oneCell']) rfl (by repeat (first | exact pk1 | apply pick_tail)) (by simp) ?_); clear E S a; intro a w E S; simp only [List.take_succ_cons, List.take_zero, List.drop_succ_cons, List.drop_zero, List.cons_append, List.nil_append, List.append_nil, List.length_cons, List.length_nil, Nat.zero_add, Nat.add_zero] at S
  refine list_pure E rfl rfl (by decide) (rn_assign E rfl rfl) ?_; clear E a; intro a E
  refine wpList_nil ?_
  refine then_k hK ?_; clear hK; clear K
  refine wp_ret ?_
  refine in_ret ?_
  refine then_ret ?_; clear hK; clear K
  refine ret_ct E rfl rfl rfl (S.get (by repeat (first | exact pk1 | apply pick_tail))) rfl ?_
  exact ⟨_, rfl, rfl, S.tail.tr⟩
end Go.Proofs.YtjhmjdgdgpgcdaaDoor
