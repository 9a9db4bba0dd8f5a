/-
  Requests as frames: the program's whole; the document's.
-/
import Derived.Test.YtjhmjdgdgpgcdaaDoorFrameT
namespace Go.Sl
theorem frm_cat (x : List UInt8) : [formOf (x.length + 8) 4, x, formOf (shaF x).a 8].flatten = frm x := by simp [frm]
theorem div_step (n i : Nat) : n / 256 ^ i / 256 = n / 256 ^ (i + 1) := by rw [Nat.div_div_eq_div_mul, Nat.pow_succ]
end Go.Sl
namespace Go.Proofs.YtjhmjdgdgpgcdaaDoor
open Go.Sl
set_option maxRecDepth 10000

theorem framedrq_ret (r : Rq) (O : Chunk) (v : Value) (hO : Rd O 1 v r.data.length (byt r.data)) (As : List Chunk) (hOA : O ∈ As) (hG : Tab As 2 shaK) (w0 : World) (H : Hp w0 As) :
    Ret Tryd.prog 26 #[rqagg r v, .int .i64 1, .func (.func 27) #[] #[], .func (.func 28) #[] #[]] w0 fun u w' => ∃ x C, u = .tuple #[x, .int .i64 (rqE r)] ∧ Buf C 5 1 x (rqO r).length (byt (rqO r)) ∧ Trs w0 w' As (C :: As) := by
  obtain ⟨Rs, hp⟩ := mem_perm hOA
  have S := (St.begin H).perm hp
  have hG := hG.perm hp
  have hO0 := hO
  have e1 := p1
  have e4 := p4
  obtain ⟨ad, c, rfl⟩ := hO.slice
  refine enter4 57 Tryd.func26 rfl rfl (by decide) ?_; intro a E
  refine wp_seq_k ?_; intro K hK
  refine region_list ?_
  refine list_wp rfl (wp_box E S rfl rfl (by decide) rfl rfl ?_); clear E S a; intro a w b4 E S
  refine list_pure E rfl rfl (by decide) (rn_assign E rfl rfl) ?_; clear E a; intro a E
  refine list_pure E rfl rfl (by decide) (rn_assign E rfl rfl) ?_; clear E a; intro a E
  refine wpList_nil ?_
  refine then_k hK ?_; clear hK; clear K
  refine wp_seq_k ?_; intro K hK
  refine wp_seq_k ?_; intro K hK
  refine region_list ?_
  refine list_pure E rfl rfl (by decide) (rn_move E rfl rfl) ?_; clear E a; intro a E
  refine list_pure E rfl rfl (by decide) (rn_load_blk (vs := [_, _, _, _, _, _, _, _, _, _]) E rfl rfl rfl (S.get (by repeat (first | exact pk1 | apply pick_tail))) rfl rfl) ?_; clear E a; intro a E
  refine list_callc E rfl rfl (by decide) rfl rfl Tryd.func27 rfl (by kernel_rfl) rfl (asks_ret r ad c _) ?_
  rintro v18 w ⟨rfl, hT⟩; clear E a; intro a E
  have S := S.quiet hT
  refine list_pure E rfl rfl (by decide) (rn_not E rfl rfl) ?_; clear E a; intro a E
  refine wpList_nil ?_
  refine then_k hK ?_; clear hK; clear K
  refine if_bool E rfl (fun hb => ?_) (fun hb => ?_)
  · replace hb := Nrm.nrm hb
    have hno : ¬ r.may := (by simpa using hb)
    refine wp_seq_k ?_; intro K hK
    refine region_list ?_
    refine list_pure E rfl rfl (by decide) (rn_assign E rfl rfl) ?_; clear E a; intro a E
    refine list_pure E rfl rfl (by decide) (rn_assign E rfl rfl) ?_; clear E a; intro a E
    refine wpList_nil ?_
    refine then_k hK ?_; clear hK; clear K
    refine wp_ret ?_
    refine then_ret ?_; clear hK; clear K
    refine ret2 E rfl rfl rfl ?_
    exact ⟨_, rfl, _, [], by rw [rqE_no hno], by rw [rqO_no hno]; exact Buf.nil _ _, ((S.del (A := [(b4, _)]) (by repeat (first | exact pk1 | apply pick_tail))).perm hp.symm).addNil.tr⟩
  · replace hb := Nrm.nrm hb
    have hm : r.may := (by simpa using hb)
    refine wp_skip ?_
    refine then_k hK ?_; clear hK; clear K
    refine wp_seq_k ?_; intro K hK
    have hsm := rqB_small hm
    refine region_list ?_
    refine list_call E rfl rfl (by decide) rfl Tryd.func49 rfl (by kernel_rfl) rfl (writer_ret 1048576 _) ?_
    rintro v20 w ⟨p, A, rfl, hA, hT⟩; clear E a; intro a E
    have S := S.fresh hT; have hA : WrC 114 p ⟨1048576, [], 0⟩ A := hA
    refine list_pure E rfl rfl (by decide) (rn_assign E rfl rfl) ?_; clear E a; intro a E
    refine wpList_nil ?_
    refine then_k hK ?_; clear hK; clear K
    refine wp_seq_k ?_; intro K hK
    refine region_list ?_
    refine list_pure E rfl rfl (by decide) (rn_move E rfl rfl) ?_; clear E a; intro a E
    refine list_pure E rfl rfl (by decide) (rn_move E rfl rfl) ?_; clear E a; intro a E
    refine list_pure E rfl rfl (by decide) (by first | exact rn_convert E rfl rfl rfl rfl (by first | exact wu8 _ | exact w_nat (by omega) | exact w_natu (by omega) | exact w_in (by omega) | exact w_inu (by omega) | exact rfl) | exact rn_string E rfl rfl rfl rfl rfl (by assumption) (S.stab.at (by simp))) ?_; clear E a; intro a E
    refine list_call E rfl rfl (by decide) rfl Tryd.func50 rfl (by kernel_rfl) rfl (num_fit p 1048576 [] A _ hA 1 1 (S.hp.sel (sel_cons (by repeat (first | exact pk1 | apply pick_tail)) (sel_nil _))) (by omega) (by omega) (by omega) (by omega) (by simp)) ?_
    rintro v24 w ⟨A1, hA1, hT⟩; clear E a; intro a E
    have S := S.call1 (sel_cons (by repeat (first | exact pk1 | apply pick_tail)) (sel_nil _)) hT; have hA1 : WrC 114 p ⟨1048576, [1], 0⟩ A1 := hA1
    refine wpList_nil ?_
    refine then_k hK ?_; clear hK; clear K
    refine wp_seq_k ?_; intro K hK
    refine region_list ?_
    refine list_pure E rfl rfl (by decide) (rn_move E rfl rfl) ?_; clear E a; intro a E
    refine list_pure E rfl rfl (by decide) (rn_move E rfl rfl) ?_; clear E a; intro a E
    refine list_pure E rfl rfl (by decide) (rn_load_blk (vs := [_, _, _, _, _, _, _, _, _, _]) E rfl rfl rfl (S.get (by repeat (first | exact pk1 | apply pick_tail))) rfl rfl) ?_; clear E a; intro a E
    refine list_callc E rfl rfl (by decide) rfl rfl Tryd.func28 rfl (by kernel_rfl) rfl (layrq_ret p 1048576 [1] A1 O r _ hO0 hm _ hA1 (S.hp.sel (sel_cons (by repeat (first | exact pk1 | apply pick_tail)) (sel_cons (by repeat (first | exact pk1 | apply pick_tail)) (sel_nil _)))) (by omega) (by simp)) ?_
    rintro v28 w ⟨A2, hA2, hT⟩; clear E a; intro a E
    have S := S.call2 (sel_cons (by repeat (first | exact pk1 | apply pick_tail)) (sel_cons (by repeat (first | exact pk1 | apply pick_tail)) (sel_nil _))) hT; obtain ⟨x, hx⟩ : ∃ x, x = [1] ++ rqB r := ⟨_, rfl⟩; rw [← hx] at hA2; have hxl : x.length = 1 + (rqB r).length := (by rw [hx, List.length_append]; rfl)
    refine wpList_nil ?_
    refine then_k hK ?_; clear hK; clear K
    refine wp_seq_k ?_; intro K hK
    refine region_list ?_
    refine list_pure E rfl rfl (by decide) (rn_move E rfl rfl) ?_; clear E a; intro a E
    refine list_call E rfl rfl (by decide) rfl Tryd.func51 rfl (by kernel_rfl) rfl (done_fit p 1048576 x A2 _ hA2 (S.hp.sel (sel_cons (by repeat (first | exact pk1 | apply pick_tail)) (sel_nil _))) (by omega)) ?_
    rintro v31 w ⟨g, rfl, hT⟩; clear E a; intro a E
    have S := S.call2 (sel_cons (by repeat (first | exact pk1 | apply pick_tail)) (sel_nil _)) hT
    refine list_pure E rfl rfl (by decide) (rn_move E rfl rfl) ?_; clear E a; intro a E
    refine list_pure E rfl rfl (by decide) (rn_extract E rfl rfl rfl) ?_; clear E a; intro a E
    refine list_pure E rfl rfl (by decide) (rn_extract E rfl rfl rfl) ?_; clear E a; intro a E
    refine list_pure E rfl rfl (by decide) (rn_assign E rfl rfl) ?_; clear E a; intro a E
    refine list_pure E rfl rfl (by decide) (rn_assign E rfl rfl) ?_; clear E a; intro a E
    refine wpList_nil ?_
    refine then_k hK ?_; clear hK; clear K
    refine wp_seq_k ?_; intro K hK
    refine wp_seq_k ?_; intro K hK
    replace E := E.keep (e' := [(8, _), (9, _), (11, _)]) (keep_cons rfl (keep_cons rfl (keep_cons rfl (keep_nil))))
    refine region_list ?_
    refine list_pure E rfl rfl (by decide) (rn_move E rfl rfl) ?_; clear E a; intro a E
    refine list_pure E rfl rfl (by decide) (by first | exact rn_len E rfl rfl rfl | exact rn_len_str E rfl rfl rfl | exact rn_len_string E rfl rfl rfl) ?_; clear E a; intro a E
    refine list_pure E rfl rfl (by decide) (rn_add E rfl rfl rfl (by first | exact wa_lit2 (x := 4) (by omega) | exact w_in (by omega) | exact w_inu (by omega) | exact rfl)) ?_; clear E a; intro a E
    refine list_pure E rfl rfl (by decide) (rn_add E rfl rfl rfl (by first | exact wa_lit (y := 8) (by omega) | exact w_in (by omega) | exact w_inu (by omega) | exact rfl)) ?_; clear E a; intro a E
    refine list_pure E rfl rfl (by decide) (rn_gtr E rfl rfl rfl) ?_; clear E a; intro a E
    refine wpList_nil ?_
    refine then_k hK ?_; clear hK; clear K
    refine if_false' E rfl ((by simp; omega)) ?_
    refine wp_skip ?_
    refine then_k hK ?_; clear hK; clear K
    refine wp_seq_k ?_; intro K hK
    refine region_list ?_
    refine list_call E rfl rfl (by decide) rfl Tryd.func49 rfl (by kernel_rfl) rfl (writer_ret 4 _) ?_
    rintro v39 w ⟨q, B, rfl, hB, hT⟩; clear E a; intro a E
    have S := S.fresh hT; have hB : WrC 114 q ⟨4, [], 0⟩ B := hB
    refine list_pure E rfl rfl (by decide) (rn_assign E rfl rfl) ?_; clear E a; intro a E
    refine wpList_nil ?_
    refine then_k hK ?_; clear hK; clear K
    refine wp_seq_k ?_; intro K hK
    refine region_list ?_
    refine list_pure E rfl rfl (by decide) (rn_move E rfl rfl) ?_; clear E a; intro a E
    refine list_pure E rfl rfl (by decide) (rn_move E rfl rfl) ?_; clear E a; intro a E
    refine list_pure E rfl rfl (by decide) (by first | exact rn_len E rfl rfl rfl | exact rn_len_str E rfl rfl rfl | exact rn_len_string E rfl rfl rfl) ?_; clear E a; intro a E
    refine list_pure E rfl rfl (by decide) (rn_add E rfl rfl rfl (by first | exact wa_lit (y := 8) (by omega) | exact w_in (by omega) | exact w_inu (by omega) | exact rfl)) ?_; clear E a; intro a E
    refine list_pure E rfl rfl (by decide) (by first | exact rn_convert E rfl rfl rfl rfl (by first | exact wu8 _ | exact w_nat (by omega) | exact w_natu (by omega) | exact w_in (by omega) | exact w_inu (by omega) | exact rfl) | exact rn_string E rfl rfl rfl rfl rfl (by assumption) (S.stab.at (by simp))) ?_; clear E a; intro a E
    refine list_call E rfl rfl (by decide) rfl Tryd.func50 rfl (by kernel_rfl) rfl (num_fit q 4 [] B _ hB (x.length + 8) 4 (S.hp.sel (sel_cons (by repeat (first | exact pk1 | apply pick_tail)) (sel_nil _))) (by omega) (by omega) (by omega) (by omega) (by simp)) ?_
    rintro v45 w ⟨B1, hB1, hT⟩; clear E a; intro a E
    have S := S.call1 (sel_cons (by repeat (first | exact pk1 | apply pick_tail)) (sel_nil _)) hT; rw [List.nil_append] at hB1
    refine wpList_nil ?_
    refine then_k hK ?_; clear hK; clear K
    refine wp_seq_k ?_; intro K hK
    refine region_list ?_
    refine list_pure E rfl rfl (by decide) (rn_move E rfl rfl) ?_; clear E a; intro a E
    refine list_call E rfl rfl (by decide) rfl Tryd.func51 rfl (by kernel_rfl) rfl (done_fit q 4 _ B1 _ hB1 (S.hp.sel (sel_cons (by repeat (first | exact pk1 | apply pick_tail)) (sel_nil _))) (by rw [formOf_length]; omega)) ?_
    rintro v48 w ⟨g2, rfl, hT⟩; clear E a; intro a E
    have S := S.call2 (sel_cons (by repeat (first | exact pk1 | apply pick_tail)) (sel_nil _)) hT; rw [formOf_length] at E
    refine list_pure E rfl rfl (by decide) (rn_move E rfl rfl) ?_; clear E a; intro a E
    refine list_pure E rfl rfl (by decide) (rn_extract E rfl rfl rfl) ?_; clear E a; intro a E
    refine list_pure E rfl rfl (by decide) (rn_extract E rfl rfl rfl) ?_; clear E a; intro a E
    refine list_pure E rfl rfl (by decide) (rn_assign E rfl rfl) ?_; clear E a; intro a E
    refine list_pure E rfl rfl (by decide) (rn_assign E rfl rfl) ?_; clear E a; intro a E
    refine wpList_nil ?_
    refine then_k hK ?_; clear hK; clear K
    refine wp_seq_k ?_; intro K hK
    have hx0 := (buf_bytes g x 5 (by omega)).rd
    have hn0 := (buf_bytes g2 (formOf (x.length + 8) 4) 5 (by rw [formOf_length]; omega)).rd
    refine region_list ?_
    refine list_pure E rfl rfl (by decide) (rn_move E rfl rfl) ?_; clear E a; intro a E
    refine list_pure E rfl rfl (by decide) (rn_move E rfl rfl) ?_; clear E a; intro a E
    refine list_pure E rfl rfl (by decide) (rn_move E rfl rfl) ?_; clear E a; intro a E
    refine list_call E rfl rfl (by decide) rfl Tryd.func52 rfl (by kernel_rfl) rfl (sum8_ret _ _ x hx0 (by omega) _ (show [(g, cel (byt x) 5)] ∈ _ from (by repeat (first | exact mm1 | assumption | apply List.Mem.tail))) (hG.sub (fun C hC => by rcases List.mem_cons.1 hC with rfl | hC <;> simp [hC])) _ S.hp) ?_
    rintro v54 w ⟨g3, rfl, hT⟩; clear E a; intro a E
    have S := S.all hT
    refine list_wp rfl (wp_bslice (cells := [_, _, _]) E S rfl rfl (by decide) rfl rfl rfl rfl rfl (by decide) rfl ?_); clear E S a; intro a w b55 E S
    have hs0 := (buf_bytes g3 (formOf (shaF x).a 8) 5 (by rw [formOf_length]; omega)).rd
    refine list_call E rfl rfl (by decide) rfl Tryd.func31 rfl (by kernel_rfl) rfl (bconcat_ret b55 [_, _, _] [formOf (x.length + 8) 4, x, formOf (shaF x).a 8] _ ⟨_, show [(b55, cel [.slice (some ⟨g2, 0, none⟩) 4 4, .slice (some ⟨g, 0, none⟩) x.length x.length, .slice (some ⟨g3, 0, none⟩) 8 8] 22)] ∈ _ from (by repeat (first | exact mm1 | assumption | apply List.Mem.tail))⟩ ⟨⟨_, show [(g2, cel (byt (formOf (x.length + 8) 4)) 5)] ∈ _ from (by repeat (first | exact mm1 | assumption | apply List.Mem.tail)), by rw [formOf_length] at hn0 ⊢; exact hn0⟩, ⟨_, show [(g, cel (byt x) 5)] ∈ _ from (by repeat (first | exact mm1 | assumption | apply List.Mem.tail)), hx0⟩, ⟨_, show [(g3, cel (byt (formOf (shaF x).a 8)) 5)] ∈ _ from (by repeat (first | exact mm1 | assumption | apply List.Mem.tail)), by rw [formOf_length] at hs0 ⊢; exact hs0⟩, trivial⟩ (by simp) (by rw [frm_cat, frm_length]; omega) _ S.hp) ?_
    rintro v56 w ⟨C, hC, hT⟩; clear E a; intro a E
    have S := S.all hT; rw [frm_cat] at hC
    refine list_pure E rfl rfl (by decide) (rn_assign E rfl rfl) ?_; clear E a; intro a E
    refine list_pure E rfl rfl (by decide) (rn_assign E rfl rfl) ?_; clear E a; intro a E
    refine wpList_nil ?_
    refine then_k hK ?_; clear hK; clear K
    refine wp_ret ?_
    refine ret2 E rfl rfl rfl ?_
    exact ⟨_, rfl, _, C, by rw [rqE_yes hm], by rw [rqO_yes hm]; rw [hx] at hC; exact hC, (((((((((S.del (A := [(b55, _)]) (by repeat (first | exact pk1 | apply pick_tail))).del (A := [(g3, _)]) (by repeat (first | exact pk1 | apply pick_tail))).del (A := [(g2, _)]) (by repeat (first | exact pk1 | apply pick_tail))).del (A := [(g, _)]) (by repeat (first | exact pk1 | apply pick_tail))).del (A := B1) (by repeat (first | exact pk1 | apply pick_tail))).del (A := A2) (by repeat (first | exact pk1 | apply pick_tail))).del (A := [(b4, _)]) (by repeat (first | exact pk1 | apply pick_tail))).front2 (A := C) (by repeat (first | exact pk1 | apply pick_tail)) (B := O) (by repeat (first | exact pk1 | apply pick_tail))).perm (hp.symm.cons _)).tr⟩

theorem rqencode_ret (r : Rq) (O : Chunk) (v : Value) (hO : Rd O 1 v r.data.length (byt r.data)) (As : List Chunk) (hOA : O ∈ As) (hG : Tab As 2 shaK) (w0 : World) (H : Hp w0 As) :
    Ret Tryd.prog 10 #[rqagg r v] w0 fun u w' => ∃ x C, u = .tuple #[x, .int .i64 (rqE r)] ∧ Buf C 5 1 x (rqO r).length (byt (rqO r)) ∧ Trs w0 w' As (C :: As) := by
  have S := St.begin H
  have hO0 := hO
  obtain ⟨ad, c, rfl⟩ := hO.slice
  refine enter1 8 Tryd.func10 rfl rfl (by decide) ?_; intro a E
  refine wp_seq_k ?_; intro K hK
  refine region_list ?_
  refine list_wp rfl (wp_box E S rfl rfl (by decide) rfl rfl ?_); clear E S a; intro a w b1 E S
  refine list_pure E rfl rfl (by decide) (rn_assign E rfl rfl) ?_; clear E a; intro a E
  refine list_pure E rfl rfl (by decide) (rn_assign E rfl rfl) ?_; clear E a; intro a E
  refine wpList_nil ?_
  refine then_k hK ?_; clear hK; clear K
  refine wp_seq_k ?_; intro K hK
  refine region_list ?_
  refine list_pure E rfl rfl (by decide) (rn_load_blk (vs := [_, _, _, _, _, _, _, _, _, _]) E rfl rfl rfl (S.get (by repeat (first | exact pk1 | apply pick_tail))) rfl rfl) ?_; clear E a; intro a E
  refine list_call E rfl rfl (by decide) rfl Tryd.func26 rfl (by kernel_rfl) rfl (framedrq_ret r O _ hO0 _ (show O ∈ _ from (by repeat (first | exact mm1 | assumption | apply List.Mem.tail))) hG.tail _ S.hp) ?_
  rintro v5 w ⟨x, C, rfl, hC, hT⟩; clear E a; intro a E
  have S := S.all hT
  refine list_pure E rfl rfl (by decide) (rn_extract E rfl rfl rfl) ?_; clear E a; intro a E
  refine list_pure E rfl rfl (by decide) (rn_extract E rfl rfl rfl) ?_; clear E a; intro a E
  refine list_pure E rfl rfl (by decide) (rn_assign E rfl rfl) ?_; clear E a; intro a E
  refine list_pure E rfl rfl (by decide) (rn_assign E rfl rfl) ?_; clear E a; intro a E
  refine wpList_nil ?_
  refine then_k hK ?_; clear hK; clear K
  refine wp_ret ?_
  refine ret2 E rfl rfl rfl ?_
  exact ⟨_, rfl, x, C, rfl, hC, (S.del (A := [(b1, _)]) (by repeat (first | exact pk1 | apply pick_tail))).tr⟩
end Go.Proofs.YtjhmjdgdgpgcdaaDoor
