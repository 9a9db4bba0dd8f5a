/-
  Labels: read by the program; written and read by the document.
-/
import Derived.Test.YtmghbcaookahaaaDoorTopE
namespace Go.Sl
theorem tpAt_take (b : List UInt8) {m q : Nat} (h : q + 6 ≤ m) : tpAt (b.take m) q = tpAt b q := by
  unfold tpAt; rw [nm_take b (by omega), nm_take b (by omega), nm_take b (by omega)]
theorem lbAt_take (b : List UInt8) (h : nm b 14 1 ≤ 4) : lbAt (b.take 96) = ⟨nm b 4 8, topsAt b (nm b 14 1), nm b 12 1, nm b 13 1⟩ := by
  unfold lbAt topsAt
  rw [nm_take b (by omega), nm_take b (by omega), nm_take b (by omega), nm_take b (by omega)]
  congr 1
  apply List.map_congr_left
  intro i hi
  rw [List.mem_range] at hi
  exact tpAt_take b (by omega)
theorem lbdec_form {b : List UInt8} (h4 : nm b 14 1 ≤ 4) (hf : formB b lLet (15 + 6 * nm b 14 1) = true) : lbdecE b = lbE ⟨nm b 4 8, topsAt b (nm b 14 1), nm b 12 1, nm b 13 1⟩ := by
  obtain ⟨h1, h2, h3⟩ := (formB_iff _ _ _).1 hf
  rw [lbdecE_open h1]; unfold lbtE
  rw [nm_take b (by omega), if_neg (by omega), if_neg (fun q => q h3), lbAt_take b h4]
theorem lbdec_noform {b : List UInt8} (h : ¬ (nm b 14 1 ≤ 4 ∧ formB b lLet (15 + 6 * nm b 14 1) = true)) : lbdecE b = 43 := by
  cases h1 : openB b lLet
  · exact lbdecE_shut h1
  · rw [lbdecE_open h1]; unfold lbtE
    rw [nm_take b (by omega)]
    by_cases h4 : nm b 14 1 ≤ 4
    · rw [if_neg (by omega)]
      exact if_pos (fun q => h ⟨h4, (formB_iff _ _ _).2 ⟨h1, by omega, q⟩⟩)
    · rw [if_pos (by omega)]
theorem lbdec_form_val {b : List UInt8} (h4 : nm b 14 1 ≤ 4) (h : lbdecE b = 0) : lbdec b = ⟨nm b 4 8, topsAt b (nm b 14 1), nm b 12 1, nm b 13 1⟩ := by rw [lbdec_val h, lbAt_take b h4]
theorem lbdec_short {b : List UInt8} (h : b.length ≠ 128) : lbdecE b = 43 := lbdecE_shut (openB_no (fun q => h q.1))
end Go.Sl
namespace Go.Proofs.YtmghbcaookahaaaDoor
open Go.Sl
set_option maxRecDepth 10000

theorem takenlb_ret (O : Chunk) (v : Value) (b : List UInt8) (hO : Rd O 1 v b.length (byt b)) (hl : b.length = 96) (w0 : World) (H : Hp w0 [O]) :
    Ret Tryd.prog 51 #[v, .int .i64 43, .func (.func 18) #[] #[], .func (.func 52) #[] #[]] w0 fun u w' => ∃ v' C, u = .tuple #[lbagg (lbt b) v', .int .i64 (lbtE b)] ∧ Buf C 39 3 v' (lbt b).tops.length ((lbt b).tops.flatMap Tp.lay) ∧ Trs w0 w' [O] [C, O] := by
  have S := St.begin H
  have hO0 := hO
  obtain ⟨ad, c, rfl⟩ := hO.slice
  obtain ⟨mn, hmn⟩ : ∃ mn, mn = nm b 14 1 := ⟨_, rfl⟩
  refine enter4 36 Tryd.func51 rfl rfl (by decide) ?_; intro a E
  refine wp_seq_k ?_; intro K hK
  refine region_list ?_
  refine list_wp rfl (wp_alloc E S rfl rfl (by decide) rfl rfl rfl ?_); clear E S a; intro a w b8 E S
  refine list_pure E rfl rfl (by decide) (rn_assign E rfl rfl) ?_; clear E a; intro a E
  refine wpList_nil ?_
  refine then_k hK ?_; clear hK; clear K
  refine wp_seq_k ?_; intro K hK
  refine region_list ?_
  refine list_wp rfl (wp_alloc E S rfl rfl (by decide) rfl rfl rfl ?_); clear E S a; intro a w b10 E S
  refine wpList_nil ?_
  refine then_k hK ?_; clear hK; clear K
  refine wp_seq_k ?_; intro K hK
  refine region_list ?_
  refine list_pure E rfl rfl (by decide) (rn_move E rfl rfl) ?_; clear E a; intro a E
  refine list_call E rfl rfl (by decide) rfl Tryd.func66 rfl (by kernel_rfl) rfl (reader_ret O _ b _ hO0 (S.hp.sel (sel_cons (by repeat (first | exact pk1 | apply pick_tail)) (sel_nil _))) (by omega)) ?_
  rintro v15 w ⟨p, R, rfl, hR, hT⟩; clear E a; intro a E
  have S := S.call2 (sel_cons (by repeat (first | exact pk1 | apply pick_tail)) (sel_nil _)) hT
  refine list_pure E rfl rfl (by decide) (rn_assign E rfl rfl) ?_; clear E a; intro a E
  refine wpList_nil ?_
  refine then_k hK ?_; clear hK; clear K
  refine wp_seq_k ?_; intro K hK
  refine region_list ?_
  refine list_pure E rfl rfl (by decide) (rn_move E rfl rfl) ?_; clear E a; intro a E
  refine list_pure E rfl rfl (by decide) (rn_move E rfl rfl) ?_; clear E a; intro a E
  refine list_callc E rfl rfl (by decide) rfl rfl Tryd.func52 rfl (by kernel_rfl) rfl (takelb_ret p b R _ hR (S.hp.sel (sel_cons (by repeat (first | exact pk1 | apply pick_tail)) (sel_nil _))) hl) ?_
  rintro v18 w ⟨R1, vl, C, l', s', rfl, hC, hR1, hT, hbad, hgood⟩; clear E a; intro a E
  have S := S.call2 (sel_cons (by repeat (first | exact pk1 | apply pick_tail)) (sel_nil _)) hT
  obtain ⟨adl, cl, rfl⟩ := hC.slice
  rw [← hmn] at hbad hgood
  rcases (show 4 < mn ∨ (mn ≤ 4 ∧ b.drop (15 + 6 * mn) = List.replicate (96 - (15 + 6 * mn)) 0) ∨ (mn ≤ 4 ∧ b.drop (15 + 6 * mn) ≠ List.replicate (96 - (15 + 6 * mn)) 0) by rcases Nat.lt_or_ge 4 mn with q | q; exact .inl q; by_cases z : b.drop (15 + 6 * mn) = List.replicate (96 - (15 + 6 * mn)) 0; exact .inr (.inl ⟨q, z⟩); exact .inr (.inr ⟨q, z⟩)) with hm4 | ⟨hm4, hz⟩ | ⟨hm4, hz⟩
  · skip
    have he := hbad hm4
    have hz2 : lbtE b = 43 := by unfold lbtE; rw [← hmn, if_pos hm4]
    refine list_wp rfl (wp_alloc E S rfl rfl (by decide) rfl rfl rfl ?_); clear E S a; intro a w b12 E S
    refine list_wp rfl (wp_storeN E S rfl rfl rfl rfl (by simp [Value.oneCell']) rfl (by repeat (first | exact pk1 | apply pick_tail)) (by simp) ?_); clear E S a; intro a w E S; simp only [List.take_succ_cons, List.take_zero, List.drop_succ_cons, List.drop_zero, List.cons_append, List.nil_append, List.append_nil, List.length_cons, List.length_nil, Nat.zero_add, Nat.add_zero] at S
    refine wpList_nil ?_
    refine then_k hK ?_; clear hK; clear K
    refine wp_seq_k ?_; intro K hK
    refine region_list ?_
    refine list_pure E rfl rfl (by decide) (rn_move E rfl rfl) ?_; clear E a; intro a E
    refine list_pure E rfl rfl (by decide) (rn_move E rfl rfl) ?_; clear E a; intro a E
    refine list_pure E rfl rfl (by decide) (by first | exact rn_len E rfl rfl rfl | exact rn_len_str E rfl rfl rfl | exact rn_len_string E rfl rfl rfl) ?_; clear E a; intro a E
    refine list_call E rfl rfl (by decide) rfl Tryd.func67 rfl (by kernel_rfl) rfl (rpad_ret p _ R1 _ hR1 (S.hp.sel (sel_cons (by repeat (first | exact pk1 | apply pick_tail)) (sel_nil _))) b.length (by omega)) ?_
    rintro v22 w ⟨R2, hR2, hT⟩; clear E a; intro a E
    have S := S.call1 (sel_cons (by repeat (first | exact pk1 | apply pick_tail)) (sel_nil _)) hT; rw [show s'.pad b.length = s' by simp [Rdr.pad, he]] at hR2
    refine wpList_nil ?_
    refine then_k hK ?_; clear hK; clear K
    refine wp_seq_k ?_; intro K hK
    refine wp_seq_k ?_; intro K hK
    refine region_list ?_
    refine list_pure E rfl rfl (by decide) (rn_move E rfl rfl) ?_; clear E a; intro a E
    refine list_call E rfl rfl (by decide) rfl Tryd.func68 rfl (by kernel_rfl) rfl (rdone_ret p _ R2 _ hR2 (S.hp.sel (sel_cons (by repeat (first | exact pk1 | apply pick_tail)) (sel_nil _)))) ?_
    rintro v24 w ⟨rfl, hT⟩; clear E a; intro a E
    have S := S.call1 (sel_cons (by repeat (first | exact pk1 | apply pick_tail)) (sel_nil _)) hT; rw [show s'.done = s'.e by simp [Rdr.done, he]] at E
    refine list_pure E rfl rfl (by decide) (by first | exact rn_neq E rfl rfl rfl | exact rn_neq_ptr_nil E rfl rfl rfl rfl | exact rn_neq_bool E rfl rfl rfl rfl | exact rn_neq_string E rfl rfl rfl) ?_; clear E a; intro a E
    refine wpList_nil ?_
    refine then_k hK ?_; clear hK; clear K
    refine if_true' E rfl ((by simp; omega)) ?_
    refine wp_seq_k ?_; intro K hK
    refine region_list ?_
    refine list_pure E rfl rfl (by decide) (rn_load_blk (vs := [_, _, _, _]) E rfl rfl rfl (S.get (by repeat (first | exact pk1 | apply pick_tail))) rfl rfl) ?_; clear E a; intro a E
    refine list_pure E rfl rfl (by decide) (rn_move E rfl rfl) ?_; clear E a; intro a E
    refine list_wp rfl (wp_storeN E S rfl rfl rfl rfl (by simp [Value.oneCell']) rfl (by repeat (first | exact pk1 | apply pick_tail)) (by simp) ?_); clear E S a; intro a w E S; simp only [List.take_succ_cons, List.take_zero, List.drop_succ_cons, List.drop_zero, List.cons_append, List.nil_append, List.append_nil, List.length_cons, List.length_nil, Nat.zero_add, Nat.add_zero] at S
    refine list_pure E rfl rfl (by decide) (rn_assign E rfl rfl) ?_; clear E a; intro a E
    refine wpList_nil ?_
    refine then_k hK ?_; clear hK; clear K
    refine wp_ret ?_
    refine then_ret ?_; clear hK; clear K
    refine ret_ct E rfl rfl rfl (S.get (by repeat (first | exact pk1 | apply pick_tail))) rfl ?_
    exact ⟨_, rfl, .slice none 0 0, [], by rw [hz2, lbt_none (by rw [hz2]; decide)]; rfl, by rw [lbt_none (by rw [hz2]; decide)]; exact Buf.nil _ _, (S.addNil.only (Bs := [[], O]) (sel_cons (by repeat (first | exact pk1 | apply pick_tail)) (sel_cons (by repeat (first | exact pk1 | apply pick_tail)) (sel_nil _)))).tr⟩
  · skip
    obtain ⟨rfl, rfl⟩ := hgood hm4
    have hz2 : lbtE b = lbE (lbAt b) := by unfold lbtE; rw [← hmn, if_neg (by omega), if_neg (fun q => q hz)]
    refine list_wp rfl (wp_alloc E S rfl rfl (by decide) rfl rfl rfl ?_); clear E S a; intro a w b12 E S
    refine list_wp rfl (wp_storeN E S rfl rfl rfl rfl (by simp [Value.oneCell']) rfl (by repeat (first | exact pk1 | apply pick_tail)) (by simp) ?_); clear E S a; intro a w E S; simp only [List.take_succ_cons, List.take_zero, List.drop_succ_cons, List.drop_zero, List.cons_append, List.nil_append, List.append_nil, List.length_cons, List.length_nil, Nat.zero_add, Nat.add_zero] at S
    refine wpList_nil ?_
    refine then_k hK ?_; clear hK; clear K
    refine wp_seq_k ?_; intro K hK
    refine region_list ?_
    refine list_pure E rfl rfl (by decide) (rn_move E rfl rfl) ?_; clear E a; intro a E
    refine list_pure E rfl rfl (by decide) (rn_move E rfl rfl) ?_; clear E a; intro a E
    refine list_pure E rfl rfl (by decide) (by first | exact rn_len E rfl rfl rfl | exact rn_len_str E rfl rfl rfl | exact rn_len_string E rfl rfl rfl) ?_; clear E a; intro a E
    refine list_call E rfl rfl (by decide) rfl Tryd.func67 rfl (by kernel_rfl) rfl (rpad_ret p _ R1 _ hR1 (S.hp.sel (sel_cons (by repeat (first | exact pk1 | apply pick_tail)) (sel_nil _))) b.length (by omega)) ?_
    rintro v22 w ⟨R2, hR2, hT⟩; clear E a; intro a E
    have S := S.call1 (sel_cons (by repeat (first | exact pk1 | apply pick_tail)) (sel_nil _)) hT; rw [rpad_at b (by omega) (by omega), hl, if_pos (by rw [List.take_of_length_le (by rw [List.length_drop]; omega)]; exact hz)] at hR2
    refine wpList_nil ?_
    refine then_k hK ?_; clear hK; clear K
    refine wp_seq_k ?_; intro K hK
    refine wp_seq_k ?_; intro K hK
    refine region_list ?_
    refine list_pure E rfl rfl (by decide) (rn_move E rfl rfl) ?_; clear E a; intro a E
    refine list_call E rfl rfl (by decide) rfl Tryd.func68 rfl (by kernel_rfl) rfl (rdone_ret p _ R2 _ hR2 (S.hp.sel (sel_cons (by repeat (first | exact pk1 | apply pick_tail)) (sel_nil _)))) ?_
    rintro v24 w ⟨rfl, hT⟩; clear E a; intro a E
    have S := S.call1 (sel_cons (by repeat (first | exact pk1 | apply pick_tail)) (sel_nil _)) hT; rw [show (Rdr.mk b 96 0).done = 0 by simp [Rdr.done, hl]] at E
    refine list_pure E rfl rfl (by decide) (by first | exact rn_neq E rfl rfl rfl | exact rn_neq_ptr_nil E rfl rfl rfl rfl | exact rn_neq_bool E rfl rfl rfl rfl | exact rn_neq_string E rfl rfl rfl) ?_; clear E a; intro a E
    refine wpList_nil ?_
    refine then_k hK ?_; clear hK; clear K
    refine if_false' E rfl (rfl) ?_
    refine wp_skip ?_
    refine then_k hK ?_; clear hK; clear K
    refine wp_seq_k ?_; intro K hK
    refine wp_seq_k ?_; intro K hK
    refine region_list ?_
    refine list_pure E rfl rfl (by decide) (rn_move E rfl rfl) ?_; clear E a; intro a E
    refine list_pure E rfl rfl (by decide) (rn_load_blk (vs := [_, _, _, _]) E rfl rfl rfl (S.get (by repeat (first | exact pk1 | apply pick_tail))) rfl rfl) ?_; clear E a; intro a E
    refine list_callc E rfl rfl (by decide) rfl rfl Tryd.func18 rfl (by kernel_rfl) rfl (lbcheck_ret C _ (lbAt b) hC.rd _ (S.hp.sel (sel_cons (by repeat (first | exact pk1 | apply pick_tail)) (sel_nil _)))) ?_
    rintro v30 w ⟨rfl, hT⟩; clear E a; intro a E
    have S := S.call1 (sel_cons (by repeat (first | exact pk1 | apply pick_tail)) (sel_nil _)) hT; rw [← hz2] at E
    refine list_pure E rfl rfl (by decide) (rn_assign E rfl rfl) ?_; clear E a; intro a E
    refine wpList_nil ?_
    refine then_k hK ?_; clear hK; clear K
    refine wp_seq_k ?_; intro K hK
    replace E := E.keep (e' := [(8, _), (9, _), (10, _), (12, _), (13, _)]) (keep_cons rfl (keep_cons rfl (keep_cons rfl (keep_cons rfl (keep_cons rfl (keep_nil))))))
    refine region_list ?_
    refine list_pure E rfl rfl (by decide) (rn_move E rfl rfl) ?_; clear E a; intro a E
    refine list_pure E rfl rfl (by decide) (by first | exact rn_neq E rfl rfl rfl | exact rn_neq_ptr_nil E rfl rfl rfl rfl | exact rn_neq_bool E rfl rfl rfl rfl | exact rn_neq_string E rfl rfl rfl) ?_; clear E a; intro a E
    refine wpList_nil ?_
    refine then_k hK ?_; clear hK; clear K
    refine if_bool E rfl (fun hb => ?_) (fun hb => ?_)
    · replace hb := Nrm.nrm hb
      refine wp_seq_k ?_; intro K hK
      refine region_list ?_
      refine list_pure E rfl rfl (by decide) (rn_load_blk (vs := [_, _, _, _]) E rfl rfl rfl (S.get (by repeat (first | exact pk1 | apply pick_tail))) rfl rfl) ?_; clear E a; intro a E
      refine list_pure E rfl rfl (by decide) (rn_move E rfl rfl) ?_; clear E a; intro a E
      refine list_wp rfl (wp_storeN E S rfl rfl rfl rfl (by simp [Value.oneCell']) rfl (by repeat (first | exact pk1 | apply pick_tail)) (by simp) ?_); clear E S a; intro a w E S; simp only [List.take_succ_cons, List.take_zero, List.drop_succ_cons, List.drop_zero, List.cons_append, List.nil_append, List.append_nil, List.length_cons, List.length_nil, Nat.zero_add, Nat.add_zero] at S
      refine list_pure E rfl rfl (by decide) (rn_assign E rfl rfl) ?_; clear E a; intro a E
      refine wpList_nil ?_
      refine then_k hK ?_; clear hK; clear K
      refine wp_ret ?_
      refine then_ret ?_; clear hK; clear K
      refine ret_ct E rfl rfl rfl (S.get (by repeat (first | exact pk1 | apply pick_tail))) rfl ?_
      exact ⟨_, rfl, .slice none 0 0, [], by rw [lbt_none hb]; rfl, by rw [lbt_none hb]; exact Buf.nil _ _, (S.addNil.only (Bs := [[], O]) (sel_cons (by repeat (first | exact pk1 | apply pick_tail)) (sel_cons (by repeat (first | exact pk1 | apply pick_tail)) (sel_nil _)))).tr⟩
    · replace hb := Nrm.nrm hb
      refine wp_skip ?_
      refine then_k hK ?_; clear hK; clear K
      refine wp_seq_k ?_; intro K hK
      refine region_list ?_
      refine list_pure E rfl rfl (by decide) (rn_load_blk (vs := [_, _, _, _]) E rfl rfl rfl (S.get (by repeat (first | exact pk1 | apply pick_tail))) rfl rfl) ?_; clear E a; intro a E
      refine list_wp rfl (wp_storeN E S rfl rfl rfl rfl (by simp [Value.oneCell']) rfl (by repeat (first | exact pk1 | apply pick_tail)) (by simp) ?_); clear E S a; intro a w E S; simp only [List.take_succ_cons, List.take_zero, List.drop_succ_cons, List.drop_zero, List.cons_append, List.nil_append, List.append_nil, List.length_cons, List.length_nil, Nat.zero_add, Nat.add_zero] at S
      refine list_pure E rfl rfl (by decide) (rn_assign E rfl rfl) ?_; clear E a; intro a E
      refine wpList_nil ?_
      refine then_k hK ?_; clear hK; clear K
      refine wp_ret ?_
      refine ret_ct E rfl rfl rfl (S.get (by repeat (first | exact pk1 | apply pick_tail))) rfl ?_
      exact ⟨_, rfl, _, C, by rw [hb, lbt_val hb], by rw [lbt_val hb]; exact hC, (S.only (Bs := [C, O]) (sel_cons (by repeat (first | exact pk1 | apply pick_tail)) (sel_cons (by repeat (first | exact pk1 | apply pick_tail)) (sel_nil _)))).tr⟩
  · skip
    obtain ⟨rfl, rfl⟩ := hgood hm4
    have hz2 : lbtE b = 43 := by unfold lbtE; rw [← hmn, if_neg (by omega), if_pos hz]
    refine list_wp rfl (wp_alloc E S rfl rfl (by decide) rfl rfl rfl ?_); clear E S a; intro a w b12 E S
    refine list_wp rfl (wp_storeN E S rfl rfl rfl rfl (by simp [Value.oneCell']) rfl (by repeat (first | exact pk1 | apply pick_tail)) (by simp) ?_); clear E S a; intro a w E S; simp only [List.take_succ_cons, List.take_zero, List.drop_succ_cons, List.drop_zero, List.cons_append, List.nil_append, List.append_nil, List.length_cons, List.length_nil, Nat.zero_add, Nat.add_zero] at S
    refine wpList_nil ?_
    refine then_k hK ?_; clear hK; clear K
    refine wp_seq_k ?_; intro K hK
    refine region_list ?_
    refine list_pure E rfl rfl (by decide) (rn_move E rfl rfl) ?_; clear E a; intro a E
    refine list_pure E rfl rfl (by decide) (rn_move E rfl rfl) ?_; clear E a; intro a E
    refine list_pure E rfl rfl (by decide) (by first | exact rn_len E rfl rfl rfl | exact rn_len_str E rfl rfl rfl | exact rn_len_string E rfl rfl rfl) ?_; clear E a; intro a E
    refine list_call E rfl rfl (by decide) rfl Tryd.func67 rfl (by kernel_rfl) rfl (rpad_ret p _ R1 _ hR1 (S.hp.sel (sel_cons (by repeat (first | exact pk1 | apply pick_tail)) (sel_nil _))) b.length (by omega)) ?_
    rintro v22 w ⟨R2, hR2, hT⟩; clear E a; intro a E
    have S := S.call1 (sel_cons (by repeat (first | exact pk1 | apply pick_tail)) (sel_nil _)) hT; rw [rpad_at b (by omega) (by omega), hl, if_neg (by rw [List.take_of_length_le (by rw [List.length_drop]; omega)]; exact hz)] at hR2
    refine wpList_nil ?_
    refine then_k hK ?_; clear hK; clear K
    refine wp_seq_k ?_; intro K hK
    refine wp_seq_k ?_; intro K hK
    refine region_list ?_
    refine list_pure E rfl rfl (by decide) (rn_move E rfl rfl) ?_; clear E a; intro a E
    refine list_call E rfl rfl (by decide) rfl Tryd.func68 rfl (by kernel_rfl) rfl (rdone_ret p _ R2 _ hR2 (S.hp.sel (sel_cons (by repeat (first | exact pk1 | apply pick_tail)) (sel_nil _)))) ?_
    rintro v24 w ⟨rfl, hT⟩; clear E a; intro a E
    have S := S.call1 (sel_cons (by repeat (first | exact pk1 | apply pick_tail)) (sel_nil _)) hT; rw [show (Rdr.mk b (15 + 6 * mn) 14).done = 14 by simp [Rdr.done]] at E
    refine list_pure E rfl rfl (by decide) (by first | exact rn_neq E rfl rfl rfl | exact rn_neq_ptr_nil E rfl rfl rfl rfl | exact rn_neq_bool E rfl rfl rfl rfl | exact rn_neq_string E rfl rfl rfl) ?_; clear E a; intro a E
    refine wpList_nil ?_
    refine then_k hK ?_; clear hK; clear K
    refine if_true' E rfl (rfl) ?_
    refine wp_seq_k ?_; intro K hK
    refine region_list ?_
    refine list_pure E rfl rfl (by decide) (rn_load_blk (vs := [_, _, _, _]) E rfl rfl rfl (S.get (by repeat (first | exact pk1 | apply pick_tail))) rfl rfl) ?_; clear E a; intro a E
    refine list_pure E rfl rfl (by decide) (rn_move E rfl rfl) ?_; clear E a; intro a E
    refine list_wp rfl (wp_storeN E S rfl rfl rfl rfl (by simp [Value.oneCell']) rfl (by repeat (first | exact pk1 | apply pick_tail)) (by simp) ?_); clear E S a; intro a w E S; simp only [List.take_succ_cons, List.take_zero, List.drop_succ_cons, List.drop_zero, List.cons_append, List.nil_append, List.append_nil, List.length_cons, List.length_nil, Nat.zero_add, Nat.add_zero] at S
    refine list_pure E rfl rfl (by decide) (rn_assign E rfl rfl) ?_; clear E a; intro a E
    refine wpList_nil ?_
    refine then_k hK ?_; clear hK; clear K
    refine wp_ret ?_
    refine then_ret ?_; clear hK; clear K
    refine ret_ct E rfl rfl rfl (S.get (by repeat (first | exact pk1 | apply pick_tail))) rfl ?_
    exact ⟨_, rfl, .slice none 0 0, [], by rw [hz2, lbt_none (by rw [hz2]; decide)]; rfl, by rw [lbt_none (by rw [hz2]; decide)]; exact Buf.nil _ _, (S.addNil.only (Bs := [[], O]) (sel_cons (by repeat (first | exact pk1 | apply pick_tail)) (sel_cons (by repeat (first | exact pk1 | apply pick_tail)) (sel_nil _)))).tr⟩

theorem lbdecode_ret (O : Chunk) (v : Value) (b : List UInt8) (hO : Rd O 1 v b.length (byt b)) (hcap : ∃ ad c, v = .slice ad b.length c ∧ b.length ≤ c) (w0 : World) (H : Hp w0 [O]) :
    Ret Tryd.prog 26 #[v] w0 fun u w' => ∃ v' C, u = .tuple #[lbagg (lbdec b) v', .int .i64 (lbdecE b)] ∧ Buf C 39 3 v' (lbdec b).tops.length ((lbdec b).tops.flatMap Tp.lay) ∧ Trs w0 w' [O] [C, O] := by
  have S := St.begin H
  refine enter1 18 Tryd.func26 rfl rfl (by decide) ?_; intro a E
  refine wp_seq_k ?_; intro K hK
  refine region_list ?_
  refine list_wp rfl (wp_alloc E S rfl rfl (by decide) rfl rfl rfl ?_); clear E S a; intro a w b2 E S
  refine list_pure E rfl rfl (by decide) (rn_assign E rfl rfl) ?_; clear E a; intro a E
  refine wpList_nil ?_
  refine then_k hK ?_; clear hK; clear K
  refine wp_seq_k ?_; intro K hK
  refine region_list ?_
  refine list_pure E rfl rfl (by decide) (rn_move E rfl rfl) ?_; clear E a; intro a E
  refine list_call E rfl rfl (by decide) rfl Tryd.func50 rfl (by kernel_rfl) rfl (opened_ret O v b lLet hO hcap rfl _ (S.hp.sel (sel_cons (by repeat (first | exact pk1 | apply pick_tail)) (sel_nil _)))) ?_
  rintro v8 w ⟨x, rfl, hx, hT⟩; clear E a; intro a E
  have S := S.call1 (sel_cons (by repeat (first | exact pk1 | apply pick_tail)) (sel_nil _)) hT
  refine list_pure E rfl rfl (by decide) (rn_move E rfl rfl) ?_; clear E a; intro a E
  refine list_pure E rfl rfl (by decide) (rn_extract E rfl rfl rfl) ?_; clear E a; intro a E
  refine list_pure E rfl rfl (by decide) (rn_extract E rfl rfl rfl) ?_; clear E a; intro a E
  refine list_pure E rfl rfl (by decide) (rn_assign E rfl rfl) ?_; clear E a; intro a E
  refine list_pure E rfl rfl (by decide) (rn_assign E rfl rfl) ?_; clear E a; intro a E
  refine wpList_nil ?_
  refine then_k hK ?_; clear hK; clear K
  refine wp_seq_k ?_; intro K hK
  refine wp_seq_k ?_; intro K hK
  refine region_list ?_
  refine list_pure E rfl rfl (by decide) (rn_move E rfl rfl) ?_; clear E a; intro a E
  refine list_pure E rfl rfl (by decide) (rn_not E rfl rfl) ?_; clear E a; intro a E
  refine wpList_nil ?_
  refine then_k hK ?_; clear hK; clear K
  refine if_bool E rfl (fun hb => ?_) (fun hb => ?_)
  · replace hb := Nrm.nrm hb
    have hno : openB b lLet = false := (by simpa using hb)
    refine wp_seq_k ?_; intro K hK
    refine region_list ?_
    refine list_pure E rfl rfl (by decide) (rn_build (cells := [_, _, _, _]) E rfl rfl rfl) ?_; clear E a; intro a E
    refine list_wp rfl (wp_storeN E S rfl rfl rfl rfl (by simp [Value.oneCell']) rfl (by repeat (first | exact pk1 | apply pick_tail)) (by simp) ?_); clear E S a; intro a w E S; simp only [List.take_succ_cons, List.take_zero, List.drop_succ_cons, List.drop_zero, List.cons_append, List.nil_append, List.append_nil, List.length_cons, List.length_nil, Nat.zero_add, Nat.add_zero] at S
    refine list_pure E rfl rfl (by decide) (rn_assign E rfl rfl) ?_; clear E a; intro a E
    refine wpList_nil ?_
    refine then_k hK ?_; clear hK; clear K
    refine wp_ret ?_
    refine then_ret ?_; clear hK; clear K
    refine ret_ct E rfl rfl rfl (S.get (by repeat (first | exact pk1 | apply pick_tail))) rfl ?_
    exact ⟨_, rfl, .slice none 0 0, [], by rw [lbdecE_shut hno, lbdec_shut hno]; rfl, by rw [lbdec_shut hno]; exact Buf.nil _ _, (S.addNil.only (Bs := [[], O]) (sel_cons (by repeat (first | exact pk1 | apply pick_tail)) (sel_cons (by repeat (first | exact pk1 | apply pick_tail)) (sel_nil _)))).tr⟩
  · replace hb := Nrm.nrm hb
    have hyes : openB b lLet = true := (by simpa using hb)
    refine wp_skip ?_
    refine then_k hK ?_; clear hK; clear K
    refine wp_seq_k ?_; intro K hK
    have hl96 : (b.take 96).length = 96 := by have := ((openB_iff b lLet).1 hyes).1; rw [List.length_take]; omega
    refine region_list ?_
    refine list_pure E rfl rfl (by decide) (rn_move E rfl rfl) ?_; clear E a; intro a E
    refine list_call E rfl rfl (by decide) rfl Tryd.func51 rfl (by kernel_rfl) rfl (takenlb_ret O x (b.take 96) (hx hyes) hl96 _ (S.hp.sel (sel_cons (by repeat (first | exact pk1 | apply pick_tail)) (sel_nil _)))) ?_
    rintro v15 w ⟨v', C, rfl, hC, hT⟩; clear E a; intro a E
    have S := S.call2 (sel_cons (by repeat (first | exact pk1 | apply pick_tail)) (sel_nil _)) hT; rw [← lbdecE_open hyes, ← lbdec_open hyes] at E; rw [← lbdec_open hyes] at hC
    obtain ⟨adl, cl, rfl⟩ := hC.slice
    refine list_pure E rfl rfl (by decide) (rn_extract E rfl rfl rfl) ?_; clear E a; intro a E
    refine list_pure E rfl rfl (by decide) (rn_extract E rfl rfl rfl) ?_; clear E a; intro a E
    refine list_wp rfl (wp_storeN E S rfl rfl rfl rfl (by simp [Value.oneCell']) rfl (by repeat (first | exact pk1 | apply pick_tail)) (by simp) ?_); clear E S a; intro a w E S; simp only [List.take_succ_cons, List.take_zero, List.drop_succ_cons, List.drop_zero, List.cons_append, List.nil_append, List.append_nil, List.length_cons, List.length_nil, Nat.zero_add, Nat.add_zero] at S
    refine list_pure E rfl rfl (by decide) (rn_assign E rfl rfl) ?_; clear E a; intro a E
    refine wpList_nil ?_
    refine then_k hK ?_; clear hK; clear K
    refine wp_ret ?_
    refine ret_ct E rfl rfl rfl (S.get (by repeat (first | exact pk1 | apply pick_tail))) rfl ?_
    exact ⟨_, rfl, _, C, rfl, hC, (S.only (Bs := [C, O]) (sel_cons (by repeat (first | exact pk1 | apply pick_tail)) (sel_cons (by repeat (first | exact pk1 | apply pick_tail)) (sel_nil _)))).tr⟩

theorem dlbencode_ret (O : Chunk) (v : Value) (l : Lbl) (hO : Rd O 3 v l.tops.length (l.tops.flatMap Tp.lay)) (ho : l.Ok) (w0 : World) (H : Hp w0 [O]) :
    Ret Tryd.prog 16 #[lbagg l v] w0 fun u w' => ∃ v C, u = .tuple #[v, .int .i64 (lbE l)] ∧ Buf C 5 1 v (lbO l).length (byt (lbO l)) ∧ Trs w0 w' [O] [C, O] := by
  have S := St.begin H
  have hO0 := hO
  have o1 := ho.pool
  have hl4 : lLet.length = 4 := rfl
  have hHl := lbH_length l
  obtain ⟨ad, c, rfl⟩ := hO.slice
  refine enter1 66 Tryd.func16 rfl rfl (by decide) ?_; intro a E
  refine wp_seq_k ?_; intro K hK
  refine region_list ?_
  refine list_wp rfl (wp_box E S rfl rfl (by decide) rfl rfl ?_); clear E S a; intro a w b1 E S
  refine list_pure E rfl rfl (by decide) (rn_assign E rfl rfl) ?_; clear E a; intro a E
  refine list_pure E rfl rfl (by decide) (rn_assign E rfl rfl) ?_; clear E a; intro a E
  refine wpList_nil ?_
  refine then_k hK ?_; clear hK; clear K
  refine wp_seq_k ?_; intro K hK
  refine region_list ?_
  refine list_pure E rfl rfl (by decide) (rn_load_blk (vs := [_, _, _, _]) E rfl rfl rfl (S.get (by repeat (first | exact pk1 | apply pick_tail))) rfl rfl) ?_; clear E a; intro a E
  refine list_call E rfl rfl (by decide) rfl Tryd.func19 rfl (by kernel_rfl) rfl (dlbcheck_ret O _ l hO0 _ (S.hp.sel (sel_cons (by repeat (first | exact pk1 | apply pick_tail)) (sel_nil _)))) ?_
  rintro v8 w ⟨rfl, hT⟩; clear E a; intro a E
  have S := S.call1 (sel_cons (by repeat (first | exact pk1 | apply pick_tail)) (sel_nil _)) hT
  refine list_pure E rfl rfl (by decide) (rn_assign E rfl rfl) ?_; clear E a; intro a E
  refine wpList_nil ?_
  refine then_k hK ?_; clear hK; clear K
  refine wp_seq_k ?_; intro K hK
  refine wp_seq_k ?_; intro K hK
  refine region_list ?_
  refine list_pure E rfl rfl (by decide) (rn_move E rfl rfl) ?_; clear E a; intro a E
  refine list_pure E rfl rfl (by decide) (by first | exact rn_neq E rfl rfl rfl | exact rn_neq_ptr_nil E rfl rfl rfl rfl | exact rn_neq_bool E rfl rfl rfl rfl | exact rn_neq_string E rfl rfl rfl) ?_; clear E a; intro a E
  refine wpList_nil ?_
  refine then_k hK ?_; clear hK; clear K
  refine if_bool E rfl (fun hb => ?_) (fun hb => ?_)
  · replace hb := Nrm.nrm hb
    refine wp_seq_k ?_; intro K hK
    refine region_list ?_
    refine list_pure E rfl rfl (by decide) (rn_move E rfl rfl) ?_; clear E a; intro a E
    refine list_pure E rfl rfl (by decide) (rn_assign E rfl rfl) ?_; clear E a; intro a E
    refine list_pure E rfl rfl (by decide) (rn_assign E rfl rfl) ?_; clear E a; intro a E
    refine wpList_nil ?_
    refine then_k hK ?_; clear hK; clear K
    refine wp_ret ?_
    refine then_ret ?_; clear hK; clear K
    refine ret2 E rfl rfl rfl ?_
    exact ⟨_, rfl, .slice none 0 0, [], rfl, by rw [lbO_no hb]; exact Buf.nil _ _, (S.addNil.only (Bs := [[], O]) (sel_cons (by repeat (first | exact pk1 | apply pick_tail)) (sel_cons (by repeat (first | exact pk1 | apply pick_tail)) (sel_nil _)))).tr⟩
  · replace hb := Nrm.nrm hb
    refine wp_skip ?_
    refine then_k hK ?_; clear hK; clear K
    refine wp_seq_k ?_; intro K hK
    have hpe := hb
    obtain ⟨hh, hmm⟩ := (lbE_iff l).1 hb
    have hpl := half_place hh hmm
    obtain ⟨m1, m2, m3, m4, m5, m6⟩ := hh
    obtain ⟨g, off, rfl⟩ := hO.addr (by omega)
    obtain ⟨tn, htn⟩ : ∃ n : Nat, l.top = n := ⟨l.top.toNat, by omega⟩
    obtain ⟨pn, hpn⟩ : ∃ n : Nat, l.place = n := ⟨l.place.toNat, by omega⟩
    have hH : lbH l = lLet ++ formOf l.pool 8 ++ [UInt8.ofNat tn, UInt8.ofNat pn, UInt8.ofNat l.tops.length] := by simp [lbH, htn, hpn, form1]
    have hsm := lbB_small hpe
    refine region_list ?_
    refine list_wp rfl (wp_bslice (cells := [_, _, _, _]) E S rfl rfl (by decide) rfl rfl rfl rfl rfl (by decide) rfl ?_); clear E S a; intro a w b12 E S
    refine list_wp rfl (wp_mark E S rfl rfl rfl (by decide) rfl rfl rfl (by repeat (first | exact pk1 | apply pick_tail)) ?_); clear E S a; intro a w E S
    refine list_pure E rfl rfl (by decide) (rn_assign E rfl rfl) ?_; clear E a; intro a E
    refine wpList_nil ?_
    refine then_k hK ?_; clear hK; clear K
    refine wp_seq_k ?_; intro K hK
    refine region_list ?_
    refine list_pure E rfl rfl (by decide) (rn_move E rfl rfl) ?_; clear E a; intro a E
    refine list_pure E rfl rfl (by decide) (by first | exact rn_fieldAddr0 (q := 0) E rfl rfl rfl | exact rn_fieldAddr (q := 0) E rfl rfl rfl) ?_; clear E a; intro a E
    refine list_pure E rfl rfl (by decide) (by first | exact rn_load E rfl rfl rfl (S.get (by repeat (first | exact pk1 | apply pick_tail))) rfl | exact rn_loadc E rfl rfl rfl (by assumption)) ?_; clear E a; intro a E
    refine list_call E rfl rfl (by decide) rfl Tryd.func32 rfl (by kernel_rfl) rfl (dnumf_ret b12 lLet _ l.pool 8 (rd_mark lLet (by omega)) (by omega) o1 (by omega) (by omega) _ (S.hp.sel (sel_cons (by repeat (first | exact pk1 | apply pick_tail)) (sel_nil _)))) ?_
    rintro v17 w ⟨C1, hC1, hT⟩; clear E a; intro a E
    have S := S.call1 (sel_cons (by repeat (first | exact pk1 | apply pick_tail)) (sel_nil _)) hT
    refine list_pure E rfl rfl (by decide) (rn_assign E rfl rfl) ?_; clear E a; intro a E
    refine wpList_nil ?_
    refine then_k hK ?_; clear hK; clear K
    refine wp_seq_k ?_; intro K hK
    have hq1 : (lLet ++ formOf l.pool 8).length = 12 := by rw [List.length_append, formOf_length]; omega
    have hq2 : [UInt8.ofNat tn, UInt8.ofNat pn, UInt8.ofNat l.tops.length].length = 3 := rfl
    refine region_list ?_
    refine list_pure E rfl rfl (by decide) (rn_move E rfl rfl) ?_; clear E a; intro a E
    refine list_pure E rfl rfl (by decide) (by first | exact rn_fieldAddr0 (q := 2) E rfl rfl rfl | exact rn_fieldAddr (q := 2) E rfl rfl rfl) ?_; clear E a; intro a E
    refine list_pure E rfl rfl (by decide) (by first | exact rn_load E rfl rfl rfl (S.get (by repeat (first | exact pk1 | apply pick_tail))) rfl | exact rn_loadc E rfl rfl rfl (by assumption)) ?_; clear E a; intro a E
    rw [htn] at E
    refine list_pure E rfl rfl (by decide) (rn_convert E rfl rfl rfl rfl (w8 _)) ?_; clear E a; intro a E
    refine list_pure E rfl rfl (by decide) (by first | exact rn_fieldAddr0 (q := 3) E rfl rfl rfl | exact rn_fieldAddr (q := 3) E rfl rfl rfl) ?_; clear E a; intro a E
    refine list_pure E rfl rfl (by decide) (by first | exact rn_load E rfl rfl rfl (S.get (by repeat (first | exact pk1 | apply pick_tail))) rfl | exact rn_loadc E rfl rfl rfl (by assumption)) ?_; clear E a; intro a E
    rw [hpn] at E
    refine list_pure E rfl rfl (by decide) (rn_convert E rfl rfl rfl rfl (w8 _)) ?_; clear E a; intro a E
    refine list_pure E rfl rfl (by decide) (by first | exact rn_fieldAddr0 (q := 1) E rfl rfl rfl | exact rn_fieldAddr (q := 1) E rfl rfl rfl) ?_; clear E a; intro a E
    refine list_pure E rfl rfl (by decide) (by first | exact rn_load E rfl rfl rfl (S.get (by repeat (first | exact pk1 | apply pick_tail))) rfl | exact rn_loadc E rfl rfl rfl (by assumption)) ?_; clear E a; intro a E
    refine list_pure E rfl rfl (by decide) (by first | exact rn_len E rfl rfl rfl | exact rn_len_str E rfl rfl rfl | exact rn_len_string E rfl rfl rfl) ?_; clear E a; intro a E
    refine list_pure E rfl rfl (by decide) (rn_convert E rfl rfl rfl rfl (w8 _)) ?_; clear E a; intro a E
    refine list_wp rfl (wp_bslice (cells := [_, _, _]) E S rfl rfl (by decide) rfl rfl rfl rfl rfl (by decide) rfl ?_); clear E S a; intro a w b29 E S
    refine list_wp rfl (wp_append (by' := 1) E S rfl rfl (by decide) rfl rfl hC1 (by repeat (first | exact pk1 | apply pick_tail)) ((buf_bytes b29 [UInt8.ofNat tn, UInt8.ofNat pn, UInt8.ofNat l.tops.length] 5 (by simp)).rd.src (S.stab.at (by repeat (first | exact mm1 | apply List.Mem.tail))) rfl) rfl rfl rfl rfl rfl rfl (by simp only [maxLen]; omega) (by omega) ?_); clear E S a; intro a w v30 C30 E S hB30
    refine list_pure E rfl rfl (by decide) (rn_assign E rfl rfl) ?_; clear E a; intro a E
    refine wpList_nil ?_
    have hC2 : Buf C30 5 1 v30 (lbH l).length (byt (lbH l)) := by rw [hH, byt_append, List.length_append]; exact hB30
    refine then_k hK ?_; clear hK; clear K
    refine wp_seq_k ?_; intro K hK
    refine wp_seq_k ?_; intro K hK
    replace E := E.keep (e' := [(1, _), (2, _), (3, _), (5, _)]) (keep_cons rfl (keep_cons rfl (keep_cons rfl (keep_cons rfl (keep_nil)))))
    refine region_list ?_
    refine list_pure E rfl rfl (by decide) (rn_assign E rfl rfl) ?_; clear E a; intro a E
    refine wpList_nil ?_
    refine then_k hK ?_; clear hK; clear K
    refine wp_block ?_
    refine wp_loop_ghost (fun (m : Nat) (a : Act) (w' : World) => ∃ (i : Nat) (v : Value) (C' : Chunk), m = l.tops.length - i ∧ i ≤ l.tops.length ∧ Buf C' 5 1 v (lbH l ++ (l.tops.take i).flatMap tpB).length (byt (lbH l ++ (l.tops.take i).flatMap tpB)) ∧ (∃ Ls, St w0 [O] w' (C' :: [(b1, cel [.int .u64 l.pool, .slice (some ⟨g, off, none⟩) l.tops.length c, .int .i64 l.top, .int .i64 l.place] 37)] :: O :: Ls)) ∧ Fr a 66 [(1, ptr b1), (5, v), (6, .int .i64 i)]) (l.tops.length - 0) ?_ ?_
    · exact ⟨0, v30, C30, rfl, by omega, by simpa using hC2, ⟨_, S.front3 (by repeat (first | exact pk1 | apply pick_tail)) (B := [(b1, _)]) (by repeat (first | exact pk1 | apply pick_tail)) (C := O) (by repeat (first | exact pk1 | apply pick_tail))⟩, E.keep (keep_cons rfl (keep_cons rfl (keep_cons rfl keep_nil)))⟩
    clear E; clear a; (try clear S); rintro m a w ⟨i, v, C', rfl, hi, hC', ⟨Ls, S⟩, E⟩
    refine wp_seq_k ?_; intro K hK
    refine wp_seq_k ?_; intro K hK
    refine region_list ?_
    refine list_pure E rfl rfl (by decide) (rn_move E rfl rfl) ?_; clear E a; intro a E
    refine list_pure E rfl rfl (by decide) (by first | exact rn_fieldAddr0 (q := 1) E rfl rfl rfl | exact rn_fieldAddr (q := 1) E rfl rfl rfl) ?_; clear E a; intro a E
    refine list_pure E rfl rfl (by decide) (by first | exact rn_load E rfl rfl rfl (S.get (by repeat (first | exact pk1 | apply pick_tail))) rfl | exact rn_loadc E rfl rfl rfl (by assumption)) ?_; clear E a; intro a E
    refine list_pure E rfl rfl (by decide) (by first | exact rn_len E rfl rfl rfl | exact rn_len_str E rfl rfl rfl | exact rn_len_string E rfl rfl rfl) ?_; clear E a; intro a E
    refine list_pure E rfl rfl (by decide) (rn_lss E rfl rfl rfl) ?_; clear E a; intro a E
    refine wpList_nil ?_
    refine then_k hK ?_; clear hK; clear K
    refine if_bool E rfl (fun hb => ?_) (fun hb => ?_)
    · replace hb := Nrm.nrm hb
      refine wp_skip ?_
      refine then_k hK ?_; clear hK; clear K
      refine wp_seq_k ?_; intro K hK
      refine wp_block ?_
      refine wp_seq_k ?_; intro K hK
      have hib : i < l.tops.length := by omega
      have hmd := hmm _ (List.getElem_mem hib)
      have hst := tops_take_succ l.tops hib
      have htl := tops_len (l.tops.take i)
      rw [List.length_take, Nat.min_eq_left (by omega)] at htl
      unfold Tp.made at hmd
      obtain ⟨kn, hkn⟩ : ∃ n : Nat, l.tops[i].kind = n := ⟨l.tops[i].kind.toNat, by omega⟩
      obtain ⟨vn, hvn⟩ : ∃ n : Nat, l.tops[i].leaves = n := ⟨l.tops[i].leaves.toNat, by omega⟩
      obtain ⟨sn, hsn⟩ : ∃ n : Nat, l.tops[i].sectors = n := ⟨l.tops[i].sectors.toNat, by omega⟩
      have hB : tpB l.tops[i] = [UInt8.ofNat kn, UInt8.ofNat vn] ++ formOf sn 4 := by simp [tpB, hkn, hvn, hsn, form1]
      have hq3 : (lbH l ++ (l.tops.take i).flatMap tpB).length = 15 + 6 * i := by rw [List.length_append, htl, hHl]
      have hq4 : [UInt8.ofNat kn, UInt8.ofNat vn].length = 2 := rfl
      refine region_mix0 S (.ofL [(0, 0), (1, 0), (2, 0), (3, 0), (4, 0), (5, 0), (6, 0), (7, 0), (8, 0), (9, 0), (10, 0), (11, 0), (12, 0), (13, 0), (14, 0), (15, 1), (16, 3), (17, 2)]) (by kernel_rfl) (by kernel_rfl) ?_
      clear S; intro w S
      refine mix_pure E rfl rfl rfl (by decide) (fun w h => rn_move E rfl rfl) ?_; clear E a; intro a E
      refine mix_pure E rfl rfl rfl (by decide) (fun w h => by first | exact rn_fieldAddr0 (q := 1) E rfl rfl rfl | exact rn_fieldAddr (q := 1) E rfl rfl rfl) ?_; clear E a; intro a E
      refine mix_pure E rfl rfl rfl (by decide) (fun w h => by first | exact rn_load E rfl rfl rfl (h.one (by repeat (first | exact mm1 | apply List.Mem.tail))) rfl | exact rn_loadc E rfl rfl rfl (by assumption)) ?_; clear E a; intro a E
      refine mix_pure E rfl rfl rfl (by decide) (fun w h => rn_move E rfl rfl) ?_; clear E a; intro a E
      refine mix_pure E rfl rfl rfl (by decide) (fun w h => by first | exact rn_indexAddr1 E rfl rfl rfl rfl rfl rfl (by omega) | exact rn_indexAddr E rfl rfl rfl rfl rfl rfl (by omega) | exact rn_indexAddr_array E rfl rfl rfl rfl rfl rfl (by omega)) ?_; clear E a; intro a E
      refine mix_pure E rfl rfl rfl (by decide) (fun w h => by first | exact rn_fieldAddr0 (q := 0) E rfl rfl rfl | exact rn_fieldAddr (q := 0) E rfl rfl rfl) ?_; clear E a; intro a E
      refine mix_pure E rfl rfl rfl (by decide) (fun w h => rn_loadc E rfl rfl rfl (hO.elem (lay := Tp.lay) Tp.lay_len (h.at (by repeat (first | exact mm1 | apply List.Mem.tail))) (i := i) hib 0 _ rfl)) ?_; clear E a; intro a E
      rw [hkn] at E
      refine mix_pure E rfl rfl rfl (by decide) (fun w h => rn_convert E rfl rfl rfl rfl (w8 _)) ?_; clear E a; intro a E
      refine mix_pure E rfl rfl rfl (by decide) (fun w h => by first | exact rn_fieldAddr0 (q := 1) E rfl rfl rfl | exact rn_fieldAddr (q := 1) E rfl rfl rfl) ?_; clear E a; intro a E
      refine mix_pure E rfl rfl rfl (by decide) (fun w h => by first | exact rn_load E rfl rfl rfl (h.one (by repeat (first | exact mm1 | apply List.Mem.tail))) rfl | exact rn_loadc E rfl rfl rfl (by assumption)) ?_; clear E a; intro a E
      refine mix_pure E rfl rfl rfl (by decide) (fun w h => rn_move E rfl rfl) ?_; clear E a; intro a E
      refine mix_pure E rfl rfl rfl (by decide) (fun w h => by first | exact rn_indexAddr1 E rfl rfl rfl rfl rfl rfl (by omega) | exact rn_indexAddr E rfl rfl rfl rfl rfl rfl (by omega) | exact rn_indexAddr_array E rfl rfl rfl rfl rfl rfl (by omega)) ?_; clear E a; intro a E
      refine mix_pure E rfl rfl rfl (by decide) (fun w h => by first | exact rn_fieldAddr0 (q := 1) E rfl rfl rfl | exact rn_fieldAddr (q := 1) E rfl rfl rfl) ?_; clear E a; intro a E
      refine mix_pure E rfl rfl rfl (by decide) (fun w h => rn_loadc E rfl rfl rfl (hO.elem (lay := Tp.lay) Tp.lay_len (h.at (by repeat (first | exact mm1 | apply List.Mem.tail))) (i := i) hib 1 _ rfl)) ?_; clear E a; intro a E
      rw [hvn] at E
      refine mix_pure E rfl rfl rfl (by decide) (fun w h => rn_convert E rfl rfl rfl rfl (w8 _)) ?_; clear E a; intro a E
      refine mix_act rfl rfl (wp_bslice (cells := [_, _]) E S rfl rfl (by decide) rfl rfl rfl rfl rfl (by decide) rfl ?_); clear E S a; intro a w b53 E S; refine ⟨S.stab.sub (by first | (simp; done) | (simp +contextual; done)), ?_⟩
      refine mix_last rfl rfl (wp_append (by' := 1) E S rfl rfl (by decide) rfl rfl hC' (by repeat (first | exact pk1 | apply pick_tail)) ((buf_bytes b53 [UInt8.ofNat kn, UInt8.ofNat vn] 5 (by simp)).rd.src (S.stab.at (by repeat (first | exact mm1 | apply List.Mem.tail))) rfl) rfl rfl rfl rfl rfl rfl (by simp only [maxLen]; omega) (by omega) ?_); clear E S a; intro a w v54 C54 E S hB54
      refine mix_free E rfl rfl rfl (by decide) (fun w => rn_assign E rfl rfl) ?_; clear E a; intro a E
      refine mix_nil ?_
      have hC3 : Buf C54 5 1 v54 (lbH l ++ (l.tops.take i).flatMap tpB ++ [UInt8.ofNat kn, UInt8.ofNat vn]).length (byt (lbH l ++ (l.tops.take i).flatMap tpB ++ [UInt8.ofNat kn, UInt8.ofNat vn])) := by rw [byt_append, List.length_append]; exact hB54
      refine then_k hK ?_; clear hK; clear K
      refine region_list ?_
      refine list_pure E rfl rfl (by decide) (rn_move E rfl rfl) ?_; clear E a; intro a E
      refine list_pure E rfl rfl (by decide) (by first | exact rn_fieldAddr0 (q := 1) E rfl rfl rfl | exact rn_fieldAddr (q := 1) E rfl rfl rfl) ?_; clear E a; intro a E
      refine list_pure E rfl rfl (by decide) (by first | exact rn_load E rfl rfl rfl (S.get (by repeat (first | exact pk1 | apply pick_tail))) rfl | exact rn_loadc E rfl rfl rfl (by assumption)) ?_; clear E a; intro a E
      refine list_pure E rfl rfl (by decide) (rn_move E rfl rfl) ?_; clear E a; intro a E
      refine list_pure E rfl rfl (by decide) (by first | exact rn_indexAddr1 E rfl rfl rfl rfl rfl rfl (by omega) | exact rn_indexAddr E rfl rfl rfl rfl rfl rfl (by omega) | exact rn_indexAddr_array E rfl rfl rfl rfl rfl rfl (by omega)) ?_; clear E a; intro a E
      refine list_pure E rfl rfl (by decide) (by first | exact rn_fieldAddr0 (q := 2) E rfl rfl rfl | exact rn_fieldAddr (q := 2) E rfl rfl rfl) ?_; clear E a; intro a E
      refine list_pure E rfl rfl (by decide) (rn_loadc E rfl rfl rfl (hO.elem (lay := Tp.lay) Tp.lay_len (S.stab.at (by repeat (first | exact mm1 | apply List.Mem.tail))) (i := i) hib 2 _ rfl)) ?_; clear E a; intro a E
      rw [hsn] at E
      refine list_pure E rfl rfl (by decide) (by first | exact rn_convert E rfl rfl rfl rfl (by first | exact wu8 _ | exact w_nat (by omega) | exact w_natu (by omega) | exact w_in (by omega) | exact w_inu (by omega) | exact rfl) | exact rn_string E rfl rfl rfl rfl rfl (by assumption) (S.stab.at (by simp))) ?_; clear E a; intro a E
      refine list_call E rfl rfl (by decide) rfl Tryd.func32 rfl (by kernel_rfl) rfl (dnum_ret _ _ C54 sn 4 hC3 (by simp only [List.length_append, List.length_cons, List.length_nil]; omega) (by omega) (by omega) _ (S.hp.sel (sel_cons (by repeat (first | exact pk1 | apply pick_tail)) (sel_nil _)))) ?_
      rintro v63 w ⟨C4, hC4, hT⟩; clear E a; intro a E
      have S := S.call1 (sel_cons (by repeat (first | exact pk1 | apply pick_tail)) (sel_nil _)) hT
      refine list_pure E rfl rfl (by decide) (rn_assign E rfl rfl) ?_; clear E a; intro a E
      refine wpList_nil ?_
      refine in_normal ?_
      refine then_k hK ?_; clear hK; clear K
      refine region_list ?_
      refine list_pure E rfl rfl (by decide) (rn_move E rfl rfl) ?_; clear E a; intro a E
      refine list_pure E rfl rfl (by decide) (rn_add E rfl rfl rfl (by first | exact wa_lit (y := 1) (by omega) | exact w_in (by omega) | exact w_inu (by omega) | exact rfl)) ?_; clear E a; intro a E
      refine list_pure E rfl rfl (by decide) (rn_assign E rfl rfl) ?_; clear E a; intro a E
      refine wpList_nil ?_
      refine then_normal ?_
      have e : lbH l ++ (l.tops.take (i + 1)).flatMap tpB = lbH l ++ (l.tops.take i).flatMap tpB ++ [UInt8.ofNat kn, UInt8.ofNat vn] ++ formOf sn 4 := by rw [hst, hB]; simp only [List.append_assoc]
      rw [← e] at hC4
      exact ⟨_, by omega, i + 1, _, C4, rfl, by omega, hC4, ⟨_, S.front3 (by repeat (first | exact pk1 | apply pick_tail)) (B := [(b1, _)]) (by repeat (first | exact pk1 | apply pick_tail)) (C := O) (by repeat (first | exact pk1 | apply pick_tail))⟩, E.keep (keep_cons rfl (keep_cons rfl (keep_cons rfl keep_nil)))⟩
    · replace hb := Nrm.nrm hb
      refine wp_exit ?_
      refine then_exit ?_; clear hK; clear K
      refine then_exit ?_
      refine in_exit ?_
      refine then_k hK ?_; clear hK; clear K
      refine wp_seq_k ?_; intro K hK
      obtain rfl : i = l.tops.length := by omega
      rw [List.take_length] at hC'
      refine region_list ?_
      refine list_pure E rfl rfl (by decide) (rn_move E rfl rfl) ?_; clear E a; intro a E
      refine list_call E rfl rfl (by decide) rfl Tryd.func38 rfl (by kernel_rfl) rfl (dsummed_ret _ (lbB l) C' hC' (by omega) _ (S.hp.sel (sel_cons (by repeat (first | exact pk1 | apply pick_tail)) (sel_nil _)))) ?_
      rintro v65 w ⟨C6, hC6, hT⟩; clear E a; intro a E
      have S := S.call1 (sel_cons (by repeat (first | exact pk1 | apply pick_tail)) (sel_nil _)) hT
      refine list_pure E rfl rfl (by decide) (rn_assign E rfl rfl) ?_; clear E a; intro a E
      refine list_pure E rfl rfl (by decide) (rn_assign E rfl rfl) ?_; clear E a; intro a E
      refine wpList_nil ?_
      refine then_k hK ?_; clear hK; clear K
      refine wp_ret ?_
      refine ret2 E rfl rfl rfl ?_
      exact ⟨_, rfl, _, C6, by rw [hpe], by rw [lbO_ok hpe]; exact hC6, (S.only (Bs := [C6, O]) (sel_cons (by repeat (first | exact pk1 | apply pick_tail)) (sel_cons (by repeat (first | exact pk1 | apply pick_tail)) (sel_nil _)))).tr⟩
end Go.Proofs.YtmghbcaookahaaaDoor
