/-
  Disks: what waits dropped, flushed.
-/
import Derived.Test.YtpppaohhnlgfoaaDiskQ
namespace Go.Sl
abbrev wl (ws : List Wt) : List Value := ws.flatMap Wt.lay
theorem wl_len (ws : List Wt) : (wl ws).length = ws.length * 130 := flat_len Wt.lay_len
theorem wl_one (ws : List Wt) : ∀ u ∈ wl ws, u.oneCell' = true := fun u hu => by
  obtain ⟨x, _, hx⟩ := List.mem_flatMap.1 hu
  exact x.lay_one u hx
/-- What stays when one disk's writes are taken out. -/
def outW (d : Nat) (ws : List Wt) : List Wt := ws.filter fun x => decide (x.d ≠ d)
theorem outW_take (d : Nat) (ws : List Wt) {i : Nat} (hi : i < ws.length) : outW d (ws.take (i + 1)) = outW d (ws.take i) ++ (if ws[i].d ≠ d then [ws[i]] else []) := by
  rw [← List.take_append_getElem hi, outW, outW, List.filter_append]
  congr 1
  simp only [List.filter_cons, List.filter_nil]
  by_cases h : ws[i].d ≠ d <;> simp [h]
theorem outW_le (d : Nat) (ws : List Wt) : (outW d ws).length ≤ ws.length := List.length_filter_le _ _
/-- The row in which what stays is moved ahead. -/
structure Mv (ws : List Wt) (r L : List Value) (ks : List Wt) (i c : Nat) : Prop where
  len : L.length = c * 130
  hd : L.take (ks.length * 130) = wl ks
  tl : L.drop (i * 130) = wl (ws.drop i) ++ r
theorem Mv.cell {ws : List Wt} {r L : List Value} {ks : List Wt} {i c : Nat} (h : Mv ws r L ks i c) (hi : i < ws.length) : (L.drop (i * 130)).take 130 = ws[i].lay := by
  rw [h.tl, List.drop_eq_getElem_cons hi, wl, List.flatMap_cons, List.append_assoc, List.take_left' (Wt.lay_len _)]
theorem Mv.skip {ws : List Wt} {r L : List Value} {ks : List Wt} {i c : Nat} (h : Mv ws r L ks i c) (hi : i < ws.length) : Mv ws r L ks (i + 1) c := by
  refine ⟨h.len, h.hd, ?_⟩
  rw [Nat.add_mul, Nat.one_mul, ← List.drop_drop, h.tl, List.drop_eq_getElem_cons hi, wl, List.flatMap_cons, List.append_assoc, List.drop_left' (Wt.lay_len _)]
theorem Mv.put {ws : List Wt} {r L : List Value} {ks : List Wt} {i c : Nat} (h : Mv ws r L ks i c) (hi : i < ws.length) (hk : ks.length ≤ i) (hc : i + 1 ≤ c) :
    Mv ws r (L.take (ks.length * 130) ++ ws[i].lay ++ L.drop ((ks.length + 1) * 130)) (ks ++ [ws[i]]) (i + 1) c := by
  have hl := h.len
  have hw := Wt.lay_len ws[i]
  have h2 := (h.skip hi).tl
  have hA : (L.take (ks.length * 130) ++ ws[i].lay).length = (ks.length + 1) * 130 := by rw [List.length_append, List.length_take, hw]; omega
  refine ⟨?_, ?_, ?_⟩
  · rw [List.length_append, hA, List.length_drop]; omega
  · rw [List.length_append, List.length_singleton, List.take_left' hA, h.hd, wl, wl, List.flatMap_append]; simp
  · rw [show (i + 1) * 130 = (ks.length + 1) * 130 + ((i + 1) * 130 - (ks.length + 1) * 130) by omega, ← List.drop_drop, List.drop_left' hA, List.drop_drop, show (ks.length + 1) * 130 + ((i + 1) * 130 - (ks.length + 1) * 130) = (i + 1) * 130 by omega, h2]
/-- Blocks among chunks. -/
def Bks (As : List Chunk) (b : Nat) : Prop := ∃ C ∈ As, ∃ l T, (b, cel l T) ∈ C
theorem Bks.bk {As : List Chunk} {b : Nat} {w : World} (h : Bks As b) (S : Stab As w) : Bk w b := by
  obtain ⟨C, hC, l, T, hm⟩ := h
  exact ⟨l, T, S C hC _ hm⟩
theorem Bks.sub {As Bs : List Chunk} {b : Nat} (h : Bks As b) (k : ∀ C ∈ As, C ∈ Bs) : Bks Bs b := by
  obtain ⟨C, hC, r⟩ := h; exact ⟨C, k C hC, r⟩
end Go.Sl
namespace Go.Proofs.Ytpppaohhnlgfoaa
open Go.Sl
set_option maxRecDepth 10000

theorem drop_nil (p : Nat) (s : Pw) (vd : Value) (d : Nat) (w0 : World) (H : Hp w0 [[(p, pcl s (.slice none 0 0) vd)]]) :
    Ret Try.prog 31 #[ptr p, ptr d] w0 fun _ w' => Trs w0 w' [[(p, pcl s (.slice none 0 0) vd)]] [[(p, pcl s (.slice none 0 0) vd)]] := by
  have S := St.begin H
  refine enter2 34 Try.func31 rfl rfl (by decide) ?_; intro a E
  refine wp_seq_k ?_; intro K hK
  refine region_list ?_
  refine list_pure E rfl rfl (by decide) (rn_move E rfl rfl) ?_; clear E a; intro a E
  refine list_pure E rfl rfl (by decide) (rn_nilCheck E rfl rfl) ?_; clear E a; intro a E
  refine list_pure E rfl rfl (by decide) (by first | exact rn_fieldAddr0 (q := 0) E rfl rfl rfl | exact rn_fieldAddr (q := 0) E rfl rfl rfl) ?_; clear E a; intro a E
  refine list_pure E rfl rfl (by decide) (by first | exact rn_load E rfl rfl rfl (S.get (by repeat (first | exact pk1 | apply pick_tail))) rfl | exact rn_loadc E rfl rfl rfl (by assumption)) ?_; clear E a; intro a E
  refine list_pure E rfl rfl (by decide) (rn_slice_h (s := 130) (hi := 0) E rfl rfl rfl rfl rfl rfl (by omega)) ?_; clear E a; intro a E
  refine list_pure E rfl rfl (by decide) (rn_assign E rfl rfl) ?_; clear E a; intro a E
  refine wpList_nil ?_
  refine then_k hK ?_; clear hK; clear K
  refine wp_seq_k ?_; intro K hK
  refine wp_seq_k ?_; intro K hK
  refine region_list ?_
  refine list_pure E rfl rfl (by decide) (rn_move E rfl rfl) ?_; clear E a; intro a E
  refine list_pure E rfl rfl (by decide) (rn_nilCheck E rfl rfl) ?_; clear E a; intro a E
  refine list_pure E rfl rfl (by decide) (by first | exact rn_fieldAddr0 (q := 0) E rfl rfl rfl | exact rn_fieldAddr (q := 0) E rfl rfl rfl) ?_; clear E a; intro a E
  refine list_pure E rfl rfl (by decide) (by first | exact rn_load E rfl rfl rfl (S.get (by repeat (first | exact pk1 | apply pick_tail))) rfl | exact rn_loadc E rfl rfl rfl (by assumption)) ?_; clear E a; intro a E
  refine list_pure E rfl rfl (by decide) (by first | exact rn_len E rfl rfl rfl | exact rn_len_str E rfl rfl rfl | exact rn_len_string E rfl rfl rfl) ?_; clear E a; intro a E
  refine list_pure E rfl rfl (by decide) (rn_move E rfl rfl) ?_; clear E a; intro a E
  refine wpList_nil ?_
  refine then_k hK ?_; clear hK; clear K
  refine wp_block ?_
  refine wp_loop_ghost (fun (m : Nat) (a : Act) (w' : World) => m = 0 ∧ St w0 [[(p, pcl s (.slice none 0 0) vd)]] w' [[(p, pcl s (.slice none 0 0) vd)]] ∧ Fr a 34 [(0, ptr p), (4, .slice none 0 0), (16, .int .i64 0), (17, .int .i64 0)]) (0) ?_ ?_
  · exact ⟨rfl, S, E.keep (keep_cons rfl (keep_cons rfl (keep_cons rfl (keep_cons rfl keep_nil))))⟩
  clear E; clear a; (try clear S); rintro m a w ⟨rfl, S, E⟩
  refine wp_seq_k ?_; intro K hK
  refine region_list ?_
  refine list_pure E rfl rfl (by decide) (rn_lss E rfl rfl rfl) ?_; clear E a; intro a E
  refine wpList_nil ?_
  refine then_k hK ?_; clear hK; clear K
  refine wp_seq_k ?_; intro K hK
  refine if_bool E rfl (fun hb => ?_) (fun hb => ?_)
  · replace hb := Nrm.nrm hb
    exfalso; omega
  · replace hb := Nrm.nrm hb
    refine wp_exit ?_
    refine then_exit ?_; clear hK; clear K
    refine then_exit ?_
    refine in_exit ?_
    refine then_k hK ?_; clear hK; clear K
    refine region_list ?_
    refine list_pure E rfl rfl (by decide) (rn_move E rfl rfl) ?_; clear E a; intro a E
    refine list_pure E rfl rfl (by decide) (rn_move E rfl rfl) ?_; clear E a; intro a E
    refine list_pure E rfl rfl (by decide) (rn_nilCheck E rfl rfl) ?_; clear E a; intro a E
    refine list_pure E rfl rfl (by decide) (by first | exact rn_fieldAddr0 (q := 0) E rfl rfl rfl | exact rn_fieldAddr (q := 0) E rfl rfl rfl) ?_; clear E a; intro a E
    refine list_wp rfl (wp_store1 E S rfl rfl rfl rfl rfl rfl (by repeat (first | exact pk1 | apply pick_tail)) (by first | exact Nat.le_of_ble_eq_true rfl | (simp; done) | (simp; omega)) ?_); clear E S a; intro a w E S; try dsimp only [List.set] at S
    refine wpList_nil ?_
    refine end0 E rfl ?_
    exact ⟨_, rfl, S.tr⟩

theorem drop_blk (p : Nat) (s : Pw) (vd : Value) (ws : List Wt) (g c : Nat) (r : List Value) (hc : ws.length ≤ c) (hcm : c ≤ maxLen) (hlen : (wl ws ++ r).length = c * 130) (d : Nat) (As : List Chunk) (hB : ∀ x ∈ ws, x.d = d ∨ (Bks As x.d ∧ Bks As d)) (w0 : World)
    (H : Hp w0 ([(p, pcl s (.slice (some ⟨g, 0, none⟩) ws.length c) vd)] :: [(g, cel (wl ws ++ r) 65)] :: As)) :
    Ret Try.prog 31 #[ptr p, ptr d] w0 fun _ w' => ∃ L, L.length = c * 130 ∧ L.take ((outW d ws).length * 130) = wl (outW d ws) ∧ Trs w0 w' ([(p, pcl s (.slice (some ⟨g, 0, none⟩) ws.length c) vd)] :: [(g, cel (wl ws ++ r) 65)] :: As) ([(p, pcl s (.slice (some ⟨g, 0, none⟩) (outW d ws).length c) vd)] :: [(g, cel L 65)] :: As) := by
  have S := St.begin H
  simp only [maxLen] at hcm
  refine enter2 34 Try.func31 rfl rfl (by decide) ?_; intro a E
  refine wp_seq_k ?_; intro K hK
  refine region_list ?_
  refine list_pure E rfl rfl (by decide) (rn_move E rfl rfl) ?_; clear E a; intro a E
  refine list_pure E rfl rfl (by decide) (rn_nilCheck E rfl rfl) ?_; clear E a; intro a E
  refine list_pure E rfl rfl (by decide) (by first | exact rn_fieldAddr0 (q := 0) E rfl rfl rfl | exact rn_fieldAddr (q := 0) E rfl rfl rfl) ?_; clear E a; intro a E
  refine list_pure E rfl rfl (by decide) (by first | exact rn_load E rfl rfl rfl (S.get (by repeat (first | exact pk1 | apply pick_tail))) rfl | exact rn_loadc E rfl rfl rfl (by assumption)) ?_; clear E a; intro a E
  refine list_pure E rfl rfl (by decide) (rn_slice_h (s := 130) (hi := 0) E rfl rfl rfl rfl rfl rfl (by omega)) ?_; clear E a; intro a E
  rw [show sliced (some ⟨g, 0, none⟩) 0 0 c 130 = .slice (some ⟨g, 0, none⟩) 0 c by unfold sliced; by_cases h : c = 0 <;> simp [h, Addr.add]] at E
  refine list_pure E rfl rfl (by decide) (rn_assign E rfl rfl) ?_; clear E a; intro a E
  refine wpList_nil ?_
  refine then_k hK ?_; clear hK; clear K
  refine wp_seq_k ?_; intro K hK
  refine wp_seq_k ?_; intro K hK
  refine region_list ?_
  refine list_pure E rfl rfl (by decide) (rn_move E rfl rfl) ?_; clear E a; intro a E
  refine list_pure E rfl rfl (by decide) (rn_nilCheck E rfl rfl) ?_; clear E a; intro a E
  refine list_pure E rfl rfl (by decide) (by first | exact rn_fieldAddr0 (q := 0) E rfl rfl rfl | exact rn_fieldAddr (q := 0) E rfl rfl rfl) ?_; clear E a; intro a E
  refine list_pure E rfl rfl (by decide) (by first | exact rn_load E rfl rfl rfl (S.get (by repeat (first | exact pk1 | apply pick_tail))) rfl | exact rn_loadc E rfl rfl rfl (by assumption)) ?_; clear E a; intro a E
  refine list_pure E rfl rfl (by decide) (by first | exact rn_len E rfl rfl rfl | exact rn_len_str E rfl rfl rfl | exact rn_len_string E rfl rfl rfl) ?_; clear E a; intro a E
  refine list_pure E rfl rfl (by decide) (rn_move E rfl rfl) ?_; clear E a; intro a E
  refine wpList_nil ?_
  refine then_k hK ?_; clear hK; clear K
  refine wp_block ?_
  refine wp_loop_ghost (fun (m : Nat) (a : Act) (w' : World) => ∃ (i : Nat) (L : List Value), m = ws.length - i ∧ i ≤ ws.length ∧ Mv ws r L (outW d (ws.take i)) i c ∧ St w0 ([(p, pcl s (.slice (some ⟨g, 0, none⟩) ws.length c) vd)] :: [(g, cel (wl ws ++ r) 65)] :: As) w' ([(p, pcl s (.slice (some ⟨g, 0, none⟩) ws.length c) vd)] :: [(g, cel L 65)] :: As) ∧ Fr a 34 [(0, ptr p), (1, ptr d), (4, .slice (some ⟨g, 0, none⟩) (outW d (ws.take i)).length c), (15, .slice (some ⟨g, 0, none⟩) ws.length c), (16, .int .i64 ws.length), (17, .int .i64 i)]) (ws.length - 0) ?_ ?_
  · exact ⟨0, wl ws ++ r, rfl, by omega, ⟨hlen, by simp [outW], by simp⟩, S, E.keep (keep_cons rfl (keep_cons rfl (keep_cons rfl (keep_cons rfl (keep_cons rfl (keep_cons rfl keep_nil))))))⟩
  clear E; clear a; (try clear S); rintro m a w ⟨i, L, rfl, hi, hM, S, E⟩
  refine wp_seq_k ?_; intro K hK
  refine region_list ?_
  refine list_pure E rfl rfl (by decide) (rn_lss E rfl rfl rfl) ?_; clear E a; intro a E
  refine wpList_nil ?_
  refine then_k hK ?_; clear hK; clear K
  refine wp_seq_k ?_; intro K hK
  refine if_bool E rfl (fun hb => ?_) (fun hb => ?_)
  · replace hb := Nrm.nrm hb
    refine wp_skip ?_
    refine then_k hK ?_; clear hK; clear K
    refine wp_seq_k ?_; intro K hK
    refine wp_block ?_
    refine wp_seq_k ?_; intro K hK
    have hil : i < ws.length := by omega
    have hkl : (outW d (ws.take i)).length ≤ i := Nat.le_trans (outW_le d _) (by rw [List.length_take]; omega)
    have hst := outW_take d ws hil
    have hbk := hB _ (List.getElem_mem hil)
    obtain ⟨x, hx⟩ : ∃ x, x = ws[i]'hil := ⟨_, rfl⟩
    have hcell := hM.cell hil
    have hput := hM.put hil hkl (by omega)
    rw [← hx] at hst hbk hcell hput
    refine region_list ?_
    refine list_pure E rfl rfl (by decide) (rn_indexAddr (i := i) (s := 130) E rfl rfl rfl rfl rfl rfl (by omega)) ?_; clear E a; intro a E
    refine list_pure E rfl rfl (by decide) (rn_load_blk (vs := x.lay) E rfl rfl rfl (S.get (show List.Perm _ ([(g, _)] :: _) from (by repeat (first | exact pk1 | apply pick_tail)))) (Wt.lay_len x) (by rw [Wt.lay_len, Nat.zero_add]; exact hcell)) ?_; clear E a; intro a E
    refine list_wp rfl (wp_alloc E S rfl rfl (by decide) rfl rfl rfl ?_); clear E S a; intro a w b6 E S
    refine list_wp rfl (wp_storeA E S rfl rfl rfl rfl x.lay_one rfl (Wt.lay_len x) (by repeat (first | exact pk1 | apply pick_tail)) (by rw [Wt.lay_len]; rfl) ?_); clear E S a; intro a w E S
    refine wpList_nil ?_
    refine then_k hK ?_; clear hK; clear K
    refine wp_seq_k ?_; intro K hK
    refine region_list ?_
    refine list_pure E rfl rfl (by decide) (by first | exact rn_fieldAddr0 (q := 0) E rfl rfl rfl | exact rn_fieldAddr (q := 0) E rfl rfl rfl) ?_; clear E a; intro a E
    refine list_pure E rfl rfl (by decide) (rn_loadc E rfl rfl rfl (blk_cell (S.get (show List.Perm _ ([(b6, _)] :: _) from (by repeat (first | exact pk1 | apply pick_tail)))) (v := ptr x.d) rfl)) ?_; clear E a; intro a E
    refine list_pure E rfl rfl (by decide) (rn_move E rfl rfl) ?_; clear E a; intro a E
    refine list_pure E rfl rfl (by decide) (rn_neq_ptrs (i := x.d) (j := d) E rfl rfl rfl rfl rfl (by decide) (hbk.imp_right fun h => ⟨(h.1.sub (fun _ h => by repeat (first | exact h | apply List.Mem.tail))).bk S.stab, (h.2.sub (fun _ h => by repeat (first | exact h | apply List.Mem.tail))).bk S.stab⟩)) ?_; clear E a; intro a E
    refine wpList_nil ?_
    refine then_k hK ?_; clear hK; clear K
    refine if_bool E rfl (fun hb => ?_) (fun hb => ?_)
    · replace hb := Nrm.nrm hb
      have hne : x.d ≠ d := (by simpa using hb)
      refine region_list ?_
      refine list_pure E rfl rfl (by decide) (rn_move E rfl rfl) ?_; clear E a; intro a E
      refine list_pure E rfl rfl (by decide) (rn_load_all E rfl rfl rfl (S.get (show List.Perm _ ([(b6, _)] :: _) from (by repeat (first | exact pk1 | apply pick_tail)))) (Wt.lay_len x)) ?_; clear E a; intro a E
      refine list_wp rfl (wp_bslice (cells := x.lay) E S rfl rfl (by decide) rfl rfl rfl rfl rfl (by decide) (fill_one (by kernel_rfl) ((Wt.lay_len x).trans (by kernel_rfl))) ?_); clear E S a; intro a w b27 E S
      refine list_wp rfl (wp_append_in E S rfl rfl (by decide) rfl rfl (by repeat (first | exact pk1 | apply pick_tail)) (by omega) (by rw [hM.len]; omega) ((rd_cells (g := b27) (T := 65) (xs := x.lay) (s := 130) (m := 1) (Wt.lay_len x) x.lay_one (by omega) 1).src (S.stab.at (by repeat (first | exact mm1 | assumption | apply List.Mem.tail))) rfl) rfl rfl rfl ?_); clear E S a; intro a w E S
      refine list_pure E rfl rfl (by decide) (rn_assign E rfl rfl) ?_; clear E a; intro a E
      refine wpList_nil ?_
      refine in_normal ?_
      refine then_k hK ?_; clear hK; clear K
      refine region_list ?_
      refine list_pure E rfl rfl (by decide) (rn_add E rfl rfl rfl (by first | exact wa_lit (y := 1) (by omega) | exact w_in (by omega) | exact w_inu (by omega) | exact rfl)) ?_; clear E a; intro a E
      refine list_pure E rfl rfl (by decide) (rn_move E rfl rfl) ?_; clear E a; intro a E
      refine wpList_nil ?_
      refine then_normal ?_
      first
      | (rw [if_pos hne] at hst
         have hl : (outW d (ws.take (i + 1))).length = (outW d (ws.take i)).length + 1 := by rw [hst]; simp
         rw [← hl] at E
         exact ⟨_, by omega, i + 1, _, rfl, by omega, by rw [hst]; exact hput, ((S.del (A := [(b27, _)]) (by repeat (first | exact pk1 | apply pick_tail))).del (A := [(b6, _)]) (by repeat (first | exact pk1 | apply pick_tail))).front2 (A := [(p, _)]) (by repeat (first | exact pk1 | apply pick_tail)) (B := [(g, _)]) (by repeat (first | exact pk1 | apply pick_tail)), E.keep (keep_cons rfl (keep_cons rfl (keep_cons rfl (keep_cons rfl (keep_cons rfl (keep_cons rfl keep_nil))))))⟩)
      | (rw [if_neg (fun q => q heq), List.append_nil] at hst
         rw [← hst] at E
         exact ⟨_, by omega, i + 1, _, rfl, by omega, by rw [hst]; exact hM.skip hil, (S.del (A := [(b6, _)]) (by repeat (first | exact pk1 | apply pick_tail))).front2 (A := [(p, _)]) (by repeat (first | exact pk1 | apply pick_tail)) (B := [(g, _)]) (by repeat (first | exact pk1 | apply pick_tail)), E.keep (keep_cons rfl (keep_cons rfl (keep_cons rfl (keep_cons rfl (keep_cons rfl (keep_cons rfl keep_nil))))))⟩)
    · replace hb := Nrm.nrm hb
      have heq : x.d = d := (by simpa using hb)
      refine wp_skip ?_
      refine in_normal ?_
      refine then_k hK ?_; clear hK; clear K
      refine region_list ?_
      refine list_pure E rfl rfl (by decide) (rn_add E rfl rfl rfl (by first | exact wa_lit (y := 1) (by omega) | exact w_in (by omega) | exact w_inu (by omega) | exact rfl)) ?_; clear E a; intro a E
      refine list_pure E rfl rfl (by decide) (rn_move E rfl rfl) ?_; clear E a; intro a E
      refine wpList_nil ?_
      refine then_normal ?_
      first
      | (rw [if_pos hne] at hst
         have hl : (outW d (ws.take (i + 1))).length = (outW d (ws.take i)).length + 1 := by rw [hst]; simp
         rw [← hl] at E
         exact ⟨_, by omega, i + 1, _, rfl, by omega, by rw [hst]; exact hput, ((S.del (A := [(b27, _)]) (by repeat (first | exact pk1 | apply pick_tail))).del (A := [(b6, _)]) (by repeat (first | exact pk1 | apply pick_tail))).front2 (A := [(p, _)]) (by repeat (first | exact pk1 | apply pick_tail)) (B := [(g, _)]) (by repeat (first | exact pk1 | apply pick_tail)), E.keep (keep_cons rfl (keep_cons rfl (keep_cons rfl (keep_cons rfl (keep_cons rfl (keep_cons rfl keep_nil))))))⟩)
      | (rw [if_neg (fun q => q heq), List.append_nil] at hst
         rw [← hst] at E
         exact ⟨_, by omega, i + 1, _, rfl, by omega, by rw [hst]; exact hM.skip hil, (S.del (A := [(b6, _)]) (by repeat (first | exact pk1 | apply pick_tail))).front2 (A := [(p, _)]) (by repeat (first | exact pk1 | apply pick_tail)) (B := [(g, _)]) (by repeat (first | exact pk1 | apply pick_tail)), E.keep (keep_cons rfl (keep_cons rfl (keep_cons rfl (keep_cons rfl (keep_cons rfl (keep_cons rfl keep_nil))))))⟩)
  · replace hb := Nrm.nrm hb
    refine wp_exit ?_
    refine then_exit ?_; clear hK; clear K
    refine then_exit ?_
    refine in_exit ?_
    refine then_k hK ?_; clear hK; clear K
    refine region_list ?_
    refine list_pure E rfl rfl (by decide) (rn_move E rfl rfl) ?_; clear E a; intro a E
    refine list_pure E rfl rfl (by decide) (rn_move E rfl rfl) ?_; clear E a; intro a E
    refine list_pure E rfl rfl (by decide) (rn_nilCheck E rfl rfl) ?_; clear E a; intro a E
    refine list_pure E rfl rfl (by decide) (by first | exact rn_fieldAddr0 (q := 0) E rfl rfl rfl | exact rn_fieldAddr (q := 0) E rfl rfl rfl) ?_; clear E a; intro a E
    refine list_wp rfl (wp_store1 E S rfl rfl rfl rfl rfl rfl (by repeat (first | exact pk1 | apply pick_tail)) (by first | exact Nat.le_of_ble_eq_true rfl | (simp; done) | (simp; omega)) ?_); clear E S a; intro a w E S; try dsimp only [List.set] at S
    refine wpList_nil ?_
    refine end0 E rfl ?_
    obtain rfl : i = ws.length := by omega
    rw [List.take_length] at hM S
    exact ⟨_, rfl, L, hM.len, hM.hd, S.tr⟩
end Go.Proofs.Ytpppaohhnlgfoaa
