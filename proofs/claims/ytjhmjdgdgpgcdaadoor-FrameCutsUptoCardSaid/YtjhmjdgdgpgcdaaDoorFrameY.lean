/-
  The law's example.
-/
import Derived.Test.YtjhmjdgdgpgcdaaDoorFrameX
namespace Go.Sl
abbrev rqX : Rq := ⟨1, 2, 3, [], [], [], [], 0, 0, []⟩
theorem rqX_may : rqX.may := by decide
theorem rqX_len : (rqO rqX).length = 41 := by rw [rqO_yes rqX_may, frm_length, List.length_cons, rqB_length]; rfl
theorem rqX_e : rqE rqX = 0 := rqE_yes rqX_may
theorem rqX_nm : nm (rqO rqX) 0 4 = 37 := by
  have := nm_form [] (1 :: rqB rqX ++ formOf (shaF (1 :: rqB rqX)).a 8) 37 (q := 0) (k := 4) rfl (by rw [p4]; omega)
  rw [List.nil_append] at this
  have hl : (1 :: rqB rqX).length + 8 = 37 := by rw [List.length_cons, rqB_length]; rfl
  rw [rqO_yes rqX_may, frm, hl, List.append_assoc]; exact this
theorem rqX_head : (rqO rqX).take 11 = [37, 0, 0, 0, 1, 1, 2, 0, 0, 0, 3] := by
  have hl : (1 :: rqB rqX).length + 8 = 37 := by rw [List.length_cons, rqB_length]; rfl
  have hB : (1 :: rqB rqX).take 7 = [1, 1, 2, 0, 0, 0, 3] := by decide
  have h1 : 7 ≤ (1 :: rqB rqX).length := by rw [List.length_cons, rqB_length]; omega
  rw [rqO_yes rqX_may, frm, hl, List.append_assoc, show formOf 37 4 = [37, 0, 0, 0] from by decide, List.take_append, List.take_append, show 11 - [37, 0, 0, (0 : UInt8)].length = 7 from rfl, hB, show 7 - (1 :: rqB rqX).length = 0 by omega]
  rfl
theorem rqX_cut : cutR (rqO rqX) = ([rqO rqX], [], 0) := by
  have hl := rqX_len
  have hn := rqX_nm
  rw [cutR_step (by omega) (by omega) (by omega), hn, List.take_of_length_le (by omega), List.drop_of_length_le (by omega), cutR_short (by simp)]
theorem rqX_wait : cutR ((rqO rqX).take 10) = ([], (rqO rqX).take 10, 0) := by
  have hl := rqX_len
  have hn := rqX_nm
  have hll : ((rqO rqX).take 10).length = 10 := by rw [List.length_take]; omega
  have hn2 : nm ((rqO rqX).take 10) 0 4 = 37 := by rw [← hn]; simp [nm, List.take_take]
  exact cutR_wait (by omega) (by omega) (by omega)
theorem rqX_join : (rqO rqX).take 10 ++ (rqO rqX).drop 10 = rqO rqX := List.take_append_drop _ _
end Go.Sl
namespace Go.Proofs.YtjhmjdgdgpgcdaaDoor
open Go.Sl
set_option maxRecDepth 10000

theorem awake_ret (As : List Chunk) (hG : Tab As 2 shaK) (w0 : World) (H : Hp w0 As) : Ret Tryd.prog 9 #[] w0 fun u w' => u = .bool true ∧ Trs w0 w' As As := by
  have S := (St.begin H)
  have h1 := rqX_len
  have h2 := rqX_head
  have h3 := rqX_cut
  have h4 := rqX_wait
  have h5 := rqX_join
  have h6 := rqF_backP rqX_may
  have h7 := rqX_e
  have hlt : ((rqO rqX).take 10).length = 10 := by rw [List.length_take]; omega
  have hld : ((rqO rqX).drop 10).length = 31 := by rw [List.length_drop]; omega
  refine enter0 86 Tryd.func9 rfl rfl ?_; intro a E
  refine wp_seq_k ?_; intro K hK
  refine region_list ?_
  refine list_pure E rfl rfl (by decide) (rn_assign E rfl rfl) ?_; clear E a; intro a E
  refine wpList_nil ?_
  refine then_k hK ?_; clear hK; clear K
  refine wp_seq_k ?_; intro K hK
  refine region_list ?_
  refine list_pure E rfl rfl (by decide) (rn_build (cells := [_, _, _, _, _, _, _, _, _, _]) E rfl rfl rfl) ?_; clear E a; intro a E
  have S := S.addNil
  refine list_call E rfl rfl (by decide) rfl Tryd.func10 rfl (by kernel_rfl) rfl (rqencode_ret rqX [] (.slice none 0 0) (Buf.nil 5 1).rd _ (show [] ∈ _ from (by repeat (first | exact mm1 | assumption | apply List.Mem.tail))) hG.tail _ S.hp) ?_
  rintro v14 w ⟨x, C, rfl, hC, hT⟩; clear E a; intro a E
  have S := S.all hT
  rw [h7] at E
  obtain ⟨o, ho⟩ : ∃ o, o = rqO rqX := ⟨_, rfl⟩
  rw [← ho] at hC h1 h2 h3 h4 h5 h6 hlt hld
  obtain ⟨ad, c, rfl⟩ := hC.slice
  have hcap := hC.cap_le
  refine list_pure E rfl rfl (by decide) (rn_move E rfl rfl) ?_; clear E a; intro a E
  refine list_pure E rfl rfl (by decide) (rn_extract E rfl rfl rfl) ?_; clear E a; intro a E
  refine list_pure E rfl rfl (by decide) (rn_extract E rfl rfl rfl) ?_; clear E a; intro a E
  refine list_pure E rfl rfl (by decide) (rn_assign E rfl rfl) ?_; clear E a; intro a E
  refine list_pure E rfl rfl (by decide) (rn_assign E rfl rfl) ?_; clear E a; intro a E
  refine wpList_nil ?_
  refine then_k hK ?_; clear hK; clear K
  refine wp_seq_k ?_; intro K hK
  refine region_list ?_
  refine list_call E rfl rfl (by decide) rfl Tryd.func12 rfl (by kernel_rfl) rfl (lnew_ret _) ?_
  rintro v17 w ⟨p, L, rfl, hL, hT⟩; clear E a; intro a E
  have S := S.fresh hT
  refine list_pure E rfl rfl (by decide) (rn_assign E rfl rfl) ?_; clear E a; intro a E
  refine wpList_nil ?_
  refine then_k hK ?_; clear hK; clear K
  refine wp_seq_k ?_; intro K hK
  refine wp_seq_k ?_; intro K hK
  refine region_list ?_
  refine list_pure E rfl rfl (by decide) (rn_move E rfl rfl) ?_; clear E a; intro a E
  refine list_pure E rfl rfl (by decide) (by first | exact rn_eql E rfl rfl rfl | exact rn_eql_ptr_nil E rfl rfl rfl rfl | exact rn_eql_bool E rfl rfl rfl rfl | exact rn_eql_string E rfl rfl rfl) ?_; clear E a; intro a E
  refine list_pure E rfl rfl (by decide) (rn_move E rfl rfl) ?_; clear E a; intro a E
  refine guard_false E (t := 20) rfl (rfl) (fun hb20 => ?_)
  refine list_guard_yes E rfl rfl rfl rfl hb20 rfl (by decide) (rn_move E rfl rfl) ?_; clear E a; intro a E
  refine list_guard_yes E rfl rfl rfl rfl hb20 rfl (by decide) (by first | exact rn_len E rfl rfl rfl | exact rn_len_str E rfl rfl rfl | exact rn_len_string E rfl rfl rfl) ?_; clear E a; intro a E
  refine list_guard_yes E rfl rfl rfl rfl hb20 rfl (by decide) (by first | exact rn_neq E rfl rfl rfl | exact rn_neq_ptr_nil E rfl rfl rfl rfl | exact rn_neq_bool E rfl rfl rfl rfl | exact rn_neq_string E rfl rfl rfl) ?_; clear E a; intro a E
  refine list_pure E rfl rfl (by decide) (rn_pick_no' E rfl rfl hb20 rfl) ?_; clear E a; intro a E
  refine list_pure E rfl rfl (by decide) (rn_move E rfl rfl) ?_; clear E a; intro a E
  refine guard_false E (t := 25) rfl ((by rw [h1]; rfl)) (fun hb25 => ?_)
  refine list_guard_yes E rfl rfl rfl rfl hb25 rfl (by decide) (rn_move E rfl rfl) ?_; clear E a; intro a E
  refine list_guard_yes E rfl rfl rfl rfl hb25 rfl (by decide) (by first | exact rn_neq E rfl rfl rfl | exact rn_neq_ptr_nil E rfl rfl rfl rfl | exact rn_neq_bool E rfl rfl rfl rfl | exact rn_neq_string E rfl rfl rfl) ?_; clear E a; intro a E
  refine list_pure E rfl rfl (by decide) (rn_pick_no' E rfl rfl hb25 rfl) ?_; clear E a; intro a E
  refine wpList_nil ?_
  refine then_k hK ?_; clear hK; clear K
  refine if_false' E rfl (rfl) ?_
  refine wp_skip ?_
  refine then_k hK ?_; clear hK; clear K
  refine wp_seq_k ?_; intro K hK
  refine region_list ?_
  refine list_pure E rfl rfl (by decide) (rn_move E rfl rfl) ?_; clear E a; intro a E
  refine list_pure E rfl rfl (by decide) (rn_move E rfl rfl) ?_; clear E a; intro a E
  have hR := hC.rd.bytes (lo := 0) (hi := 10) (mx := c) (by omega) (by omega) (by omega)
  rw [List.drop_zero, Nat.sub_zero] at hR
  refine list_pure E rfl rfl (by decide) (rn_slice_h (hi := 10) (s := 1) E rfl rfl rfl rfl rfl rfl (by omega)) ?_; clear E a; intro a E
  refine list_call E rfl rfl (by decide) rfl Tryd.func13 rfl (by kernel_rfl) rfl (feed_ret p [] L C _ (o.take 10) hL hR (by rw [hlt]; exact Nat.le_of_ble_eq_true rfl) _ (S.hp.sel (sel_cons (by repeat (first | exact pk1 | apply pick_tail)) (sel_cons (by repeat (first | exact pk1 | apply pick_tail)) (sel_nil _))))) ?_
  rintro v33 w ⟨xm, X, Y, L1, vs, rfl, hL1, hX, hY, hT⟩; clear E a; intro a E
  have S := S.call4 (sel_cons (by repeat (first | exact pk1 | apply pick_tail)) (sel_cons (by repeat (first | exact pk1 | apply pick_tail)) (sel_nil _))) hT
  rw [List.nil_append, h4] at hL1 hX hY E
  dsimp only at hL1 hX hY E
  obtain ⟨adm, cm, rfl⟩ := hX.slice
  refine list_pure E rfl rfl (by decide) (rn_move E rfl rfl) ?_; clear E a; intro a E
  refine list_pure E rfl rfl (by decide) (rn_extract E rfl rfl rfl) ?_; clear E a; intro a E
  refine list_pure E rfl rfl (by decide) (rn_extract E rfl rfl rfl) ?_; clear E a; intro a E
  refine list_pure E rfl rfl (by decide) (rn_assign E rfl rfl) ?_; clear E a; intro a E
  refine list_pure E rfl rfl (by decide) (rn_assign E rfl rfl) ?_; clear E a; intro a E
  refine wpList_nil ?_
  refine then_k hK ?_; clear hK; clear K
  refine wp_seq_k ?_; intro K hK
  replace E := E.keep (e' := [(0, _), (1, _), (3, _), (4, _), (5, _)]) (keep_cons rfl (keep_cons rfl (keep_cons rfl (keep_cons rfl (keep_cons rfl (keep_nil))))))
  refine region_list ?_
  refine list_pure E rfl rfl (by decide) (rn_move E rfl rfl) ?_; clear E a; intro a E
  refine list_call E rfl rfl (by decide) rfl Tryd.func16 rfl (by kernel_rfl) rfl (lleft_ret p _ L1 _ hL1 (S.hp.sel (sel_cons (by repeat (first | exact pk1 | apply pick_tail)) (sel_nil _)))) ?_
  rintro v37 w ⟨rfl, hT⟩; clear E a; intro a E
  have S := S.call1 (sel_cons (by repeat (first | exact pk1 | apply pick_tail)) (sel_nil _)) hT
  refine list_pure E rfl rfl (by decide) (rn_assign E rfl rfl) ?_; clear E a; intro a E
  refine wpList_nil ?_
  refine then_k hK ?_; clear hK; clear K
  refine wp_seq_k ?_; intro K hK
  refine region_list ?_
  refine list_pure E rfl rfl (by decide) (rn_move E rfl rfl) ?_; clear E a; intro a E
  refine list_pure E rfl rfl (by decide) (rn_move E rfl rfl) ?_; clear E a; intro a E
  obtain ⟨ad3, c3, he3, hc3, hR3⟩ := hC.rd.tailc (n := 10) (by omega) hcap
  rw [Nat.mul_one, byt_drop, ← List.length_drop] at hR3
  refine list_pure E rfl rfl (by decide) (rn_slice_l (lo := 10) (s := 1) E rfl rfl rfl rfl rfl rfl (by omega)) ?_; clear E a; intro a E
  rw [he3, ← List.length_drop] at E
  refine list_call E rfl rfl (by decide) rfl Tryd.func13 rfl (by kernel_rfl) rfl (feed_ret p _ L1 C _ (o.drop 10) hL1 hR3 (by rw [hlt, hld]; omega) _ (S.hp.sel (sel_cons (by repeat (first | exact pk1 | apply pick_tail)) (sel_cons (by repeat (first | exact pk1 | apply pick_tail)) (sel_nil _))))) ?_
  rintro v42 w ⟨xo, X2, Y2, L2, vs2, rfl, hL2, hX2, hY2, hT⟩; clear E a; intro a E
  have S := S.call4 (sel_cons (by repeat (first | exact pk1 | apply pick_tail)) (sel_cons (by repeat (first | exact pk1 | apply pick_tail)) (sel_nil _))) hT
  rw [h5, h3] at hL2 hX2 hY2 E
  dsimp only at hL2 hX2 hY2 E
  obtain ⟨ado, co, rfl⟩ := hX2.slice
  refine list_pure E rfl rfl (by decide) (rn_move E rfl rfl) ?_; clear E a; intro a E
  refine list_pure E rfl rfl (by decide) (rn_extract E rfl rfl rfl) ?_; clear E a; intro a E
  refine list_pure E rfl rfl (by decide) (rn_extract E rfl rfl rfl) ?_; clear E a; intro a E
  refine list_pure E rfl rfl (by decide) (rn_assign E rfl rfl) ?_; clear E a; intro a E
  refine list_pure E rfl rfl (by decide) (rn_assign E rfl rfl) ?_; clear E a; intro a E
  refine wpList_nil ?_
  refine then_k hK ?_; clear hK; clear K
  refine wp_seq_k ?_; intro K hK
  refine region_list ?_
  refine list_pure E rfl rfl (by decide) (rn_move E rfl rfl) ?_; clear E a; intro a E
  refine list_call E rfl rfl (by decide) rfl Tryd.func18 rfl (by kernel_rfl) rfl (readrq_ret C _ o hC.rd ⟨_, _, rfl, hcap⟩ _ (show C ∈ _ from (by repeat (first | exact mm1 | assumption | apply List.Mem.tail))) (hG.sub (fun _ h => by repeat (first | exact h | apply List.Mem.tail))) _ S.hp) ?_
  rintro v47 w ⟨xr, F, rfl, hF, hT⟩; clear E a; intro a E
  have S := S.all hT; rw [h6] at E hF; dsimp only at E hF; obtain ⟨adx, cx, rfl⟩ := hF.slice
  refine list_pure E rfl rfl (by decide) (rn_move E rfl rfl) ?_; clear E a; intro a E
  refine list_pure E rfl rfl (by decide) (rn_extract E rfl rfl rfl) ?_; clear E a; intro a E
  refine list_pure E rfl rfl (by decide) (rn_extract E rfl rfl rfl) ?_; clear E a; intro a E
  refine list_wp rfl (wp_alloc E S rfl rfl (by decide) rfl rfl rfl ?_); clear E S a; intro a w b9 E S
  refine list_wp rfl (wp_storeN E S rfl rfl rfl rfl (by simp [Value.oneCell']) rfl (by repeat (first | exact pk1 | apply pick_tail)) (by simp) ?_); clear E S a; intro a w E S; simp only [List.take_succ_cons, List.take_zero, List.drop_succ_cons, List.drop_zero, List.cons_append, List.nil_append, List.append_nil, List.length_cons, List.length_nil, Nat.zero_add, Nat.add_zero] at S
  refine list_pure E rfl rfl (by decide) (rn_assign E rfl rfl) ?_; clear E a; intro a E
  refine wpList_nil ?_
  refine then_k hK ?_; clear hK; clear K
  refine wp_seq_k ?_; intro K hK
  replace E := E.keep (e' := [(0, _), (1, _), (4, _), (5, _), (6, _), (7, _), (8, _), (9, _), (10, _)]) (keep_cons rfl (keep_cons rfl (keep_cons rfl (keep_cons rfl (keep_cons rfl (keep_cons rfl (keep_cons rfl (keep_cons rfl (keep_cons rfl (keep_nil))))))))))
  refine region_list ?_
  refine list_pure E rfl rfl (by decide) (rn_move E rfl rfl) ?_; clear E a; intro a E
  refine list_pure E rfl rfl (by decide) (by first | exact rn_len E rfl rfl rfl | exact rn_len_str E rfl rfl rfl | exact rn_len_string E rfl rfl rfl) ?_; clear E a; intro a E
  refine list_pure E rfl rfl (by decide) (by first | exact rn_eql E rfl rfl rfl | exact rn_eql_ptr_nil E rfl rfl rfl rfl | exact rn_eql_bool E rfl rfl rfl rfl | exact rn_eql_string E rfl rfl rfl) ?_; clear E a; intro a E
  refine list_pure E rfl rfl (by decide) (rn_move E rfl rfl) ?_; clear E a; intro a E
  refine guard_true E (t := 53) rfl (rfl) (fun hb53 => ?_)
  refine list_guard_yes E rfl rfl rfl rfl hb53 rfl (by decide) (rn_move E rfl rfl) ?_; clear E a; intro a E
  refine list_guard_yes E rfl rfl rfl rfl hb53 rfl (by decide) (by first | exact rn_eql E rfl rfl rfl | exact rn_eql_ptr_nil E rfl rfl rfl rfl | exact rn_eql_bool E rfl rfl rfl rfl | exact rn_eql_string E rfl rfl rfl) ?_; clear E a; intro a E
  refine list_pure E rfl rfl (by decide) (rn_pick_yes' E rfl rfl hb53 rfl) ?_; clear E a; intro a E
  refine list_pure E rfl rfl (by decide) (rn_move E rfl rfl) ?_; clear E a; intro a E
  refine guard_true E (t := 57) rfl (rfl) (fun hb57 => ?_)
  refine list_guard_yes E rfl rfl rfl rfl hb57 rfl (by decide) (rn_move E rfl rfl) ?_; clear E a; intro a E
  refine list_guard_yes E rfl rfl rfl rfl hb57 rfl (by decide) (by first | exact rn_eql E rfl rfl rfl | exact rn_eql_ptr_nil E rfl rfl rfl rfl | exact rn_eql_bool E rfl rfl rfl rfl | exact rn_eql_string E rfl rfl rfl) ?_; clear E a; intro a E
  refine list_pure E rfl rfl (by decide) (rn_pick_yes' E rfl rfl hb57 rfl) ?_; clear E a; intro a E
  refine list_pure E rfl rfl (by decide) (rn_move E rfl rfl) ?_; clear E a; intro a E
  refine guard_true E (t := 61) rfl ((by rw [hlt]; rfl)) (fun hb61 => ?_)
  refine list_guard_yes E rfl rfl rfl rfl hb61 rfl (by decide) (rn_move E rfl rfl) ?_; clear E a; intro a E
  refine list_guard_yes E rfl rfl rfl rfl hb61 rfl (by decide) (by first | exact rn_len E rfl rfl rfl | exact rn_len_str E rfl rfl rfl | exact rn_len_string E rfl rfl rfl) ?_; clear E a; intro a E
  refine list_guard_yes E rfl rfl rfl rfl hb61 rfl (by decide) (by first | exact rn_eql E rfl rfl rfl | exact rn_eql_ptr_nil E rfl rfl rfl rfl | exact rn_eql_bool E rfl rfl rfl rfl | exact rn_eql_string E rfl rfl rfl) ?_; clear E a; intro a E
  refine list_pure E rfl rfl (by decide) (rn_pick_yes' E rfl rfl hb61 rfl) ?_; clear E a; intro a E
  refine list_pure E rfl rfl (by decide) (rn_move E rfl rfl) ?_; clear E a; intro a E
  refine guard_true E (t := 66) rfl (rfl) (fun hb66 => ?_)
  refine list_guard_yes E rfl rfl rfl rfl hb66 rfl (by decide) (rn_move E rfl rfl) ?_; clear E a; intro a E
  refine list_guard_yes E rfl rfl rfl rfl hb66 rfl (by decide) (by first | exact rn_eql E rfl rfl rfl | exact rn_eql_ptr_nil E rfl rfl rfl rfl | exact rn_eql_bool E rfl rfl rfl rfl | exact rn_eql_string E rfl rfl rfl) ?_; clear E a; intro a E
  refine list_pure E rfl rfl (by decide) (rn_pick_yes' E rfl rfl hb66 rfl) ?_; clear E a; intro a E
  refine list_pure E rfl rfl (by decide) (rn_assign E rfl rfl) ?_; clear E a; intro a E
  refine wpList_nil ?_
  refine then_k hK ?_; clear hK; clear K
  refine wp_seq_k ?_; intro K hK
  replace E := E.keep (e' := [(0, _), (1, _), (9, _), (10, _), (11, _)]) (keep_cons rfl (keep_cons rfl (keep_cons rfl (keep_cons rfl (keep_cons rfl (keep_nil))))))
  refine region_list ?_
  refine list_pure E rfl rfl (by decide) (rn_move E rfl rfl) ?_; clear E a; intro a E
  refine list_pure E rfl rfl (by decide) (rn_move E rfl rfl) ?_; clear E a; intro a E
  refine guard_true E (t := 71) rfl (rfl) (fun hb71 => ?_)
  refine list_guard_yes E rfl rfl rfl rfl hb71 rfl (by decide) (rn_move E rfl rfl) ?_; clear E a; intro a E
  have hR4 := hC.rd.bytes (lo := 0) (hi := 11) (mx := c) (by omega) (by omega) (by omega)
  rw [List.drop_zero, Nat.sub_zero] at hR4
  refine list_guard_yes E rfl rfl rfl rfl hb71 rfl (by decide) (rn_slice_h (hi := 11) (s := 1) E rfl rfl rfl rfl rfl rfl (by omega)) ?_; clear E a; intro a E
  refine list_guard_yes E rfl rfl rfl rfl hb71 rfl (by decide) (rn_string E rfl rfl rfl rfl rfl (bs := o.take 11) hR4 (S.stab.at (by repeat (first | exact mm1 | assumption | apply List.Mem.tail)))) ?_; clear E a; intro a E
  rw [h2] at E
  refine list_guard_yes E rfl rfl rfl rfl hb71 rfl (by decide) (by first | exact rn_eql E rfl rfl rfl | exact rn_eql_ptr_nil E rfl rfl rfl rfl | exact rn_eql_bool E rfl rfl rfl rfl | exact rn_eql_string E rfl rfl rfl) ?_; clear E a; intro a E
  refine list_pure E rfl rfl (by decide) (rn_pick_yes' E rfl rfl hb71 rfl) ?_; clear E a; intro a E
  refine list_pure E rfl rfl (by decide) (rn_move E rfl rfl) ?_; clear E a; intro a E
  refine guard_true E (t := 77) rfl ((decide_eq_true rfl)) (fun hb77 => ?_)
  refine list_guard_yes E rfl rfl rfl rfl hb77 rfl (by decide) (by first | exact rn_fieldAddr0 (q := 2) E rfl rfl rfl | exact rn_fieldAddr (q := 2) E rfl rfl rfl) ?_; clear E a; intro a E
  refine list_guard_yes E rfl rfl rfl rfl hb77 rfl (by decide) (by first | exact rn_load E rfl rfl rfl (S.get (by repeat (first | exact pk1 | apply pick_tail))) rfl | exact rn_loadc E rfl rfl rfl (by assumption)) ?_; clear E a; intro a E
  refine list_guard_yes E rfl rfl rfl rfl hb77 rfl (by decide) (by first | exact rn_eql E rfl rfl rfl | exact rn_eql_ptr_nil E rfl rfl rfl rfl | exact rn_eql_bool E rfl rfl rfl rfl | exact rn_eql_string E rfl rfl rfl) ?_; clear E a; intro a E
  refine list_pure E rfl rfl (by decide) (rn_pick_yes' E rfl rfl hb77 rfl) ?_; clear E a; intro a E
  refine list_pure E rfl rfl (by decide) (rn_move E rfl rfl) ?_; clear E a; intro a E
  refine guard_true E (t := 82) rfl (rfl) (fun hb82 => ?_)
  refine list_guard_yes E rfl rfl rfl rfl hb82 rfl (by decide) (rn_move E rfl rfl) ?_; clear E a; intro a E
  refine list_guard_yes E rfl rfl rfl rfl hb82 rfl (by decide) (by first | exact rn_eql E rfl rfl rfl | exact rn_eql_ptr_nil E rfl rfl rfl rfl | exact rn_eql_bool E rfl rfl rfl rfl | exact rn_eql_string E rfl rfl rfl) ?_; clear E a; intro a E
  refine list_pure E rfl rfl (by decide) (rn_pick_yes' E rfl rfl hb82 rfl) ?_; clear E a; intro a E
  refine list_pure E rfl rfl (by decide) (rn_assign E rfl rfl) ?_; clear E a; intro a E
  refine wpList_nil ?_
  refine then_k hK ?_; clear hK; clear K
  refine wp_ret ?_
  refine ret1 E rfl rfl ?_
  exact ⟨_, rfl, rfl, (by repeat (first | exact S.tr | replace S := S.tail))⟩
end Go.Proofs.YtjhmjdgdgpgcdaaDoor
