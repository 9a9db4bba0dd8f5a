/-
  Objects as blocks: Slots.
-/
import Derived.Test.YtkkibnnddllabaaTreeY
namespace Go.Proofs.Ytkkibnnddllabaa
open Go.Sl
set_option maxRecDepth 10000

theorem slots_ret (O : Chunk) (v : Value) (b : List UInt8) (hO : Rd O 1 v b.length (byt b)) (hbl : b.length ≤ 140737488355328) (hcap : ∃ ad c, v = .slice ad b.length c ∧ b.length ≤ c) (w0 : World) (H : Hp w0 [O]) :
    Ret Try.prog 23 #[v] w0 fun u w' => ∃ vc X, u = .tuple #[vc, .int .i64 (sltsE b)] ∧ Buf X 48 11 vc (sltsL b).length ((sltsL b).flatMap Slt.lay) ∧ Trs w0 w' [O] [X, O] := by
  have S := (St.begin H).addNil
  have hcap0 := hcap
  obtain ⟨ad, c, rfl, hcap⟩ := hcap
  refine enter1 70 Try.func23 rfl rfl (by decide) ?_; intro a E
  refine wp_seq_k ?_; intro K hK
  refine region_list ?_
  refine list_pure E rfl rfl (by decide) (rn_assign E rfl rfl) ?_; clear E a; intro a E
  refine list_pure E rfl rfl (by decide) (rn_assign E rfl rfl) ?_; clear E a; intro a E
  refine wpList_nil ?_
  refine then_k hK ?_; clear hK; clear K
  refine wp_seq_k ?_; intro K hK
  refine wp_seq_k ?_; intro K hK
  refine region_list ?_
  refine list_pure E rfl rfl (by decide) (rn_move E rfl rfl) ?_; clear E a; intro a E
  refine list_pure E rfl rfl (by decide) (by first | exact rn_len E rfl rfl rfl | exact rn_len_str E rfl rfl rfl | exact rn_len_string E rfl rfl rfl) ?_; clear E a; intro a E
  refine list_pure E rfl rfl (by decide) (rn_rem E rfl rfl rfl (by decide) (by first | exact wr_lit (y := 72) | exact rfl)) ?_; clear E a; intro a E
  refine list_pure E rfl rfl (by decide) (by first | exact rn_neq E rfl rfl rfl | exact rn_neq_ptr_nil E rfl rfl rfl rfl | exact rn_neq_bool E rfl rfl rfl rfl | exact rn_neq_string E rfl rfl rfl) ?_; clear E a; intro a E
  refine list_pure E rfl rfl (by decide) (rn_move E rfl rfl) ?_; clear E a; intro a E
  refine guard_split E (t := 16) rfl (fun hb16 => ?_) (fun hb16 => ?_)
  · have hb16n := hb16; first | with_reducible replace hb16n := n1 hb16n | with_reducible replace hb16n := n2 hb16n | with_reducible replace hb16n := n3 hb16n | with_reducible replace hb16n := n4 hb16n | with_reducible replace hb16n := n5 hb16n | with_reducible replace hb16n := n6 hb16n | replace hb16n := n1 hb16n | replace hb16n := n2 hb16n | replace hb16n := n3 hb16n | replace hb16n := n4 hb16n | replace hb16n := n5 hb16n | replace hb16n := n6 hb16n | skip
    refine list_guard_no E rfl rfl rfl rfl hb16 rfl (by decide) ?_; clear E a; intro a E
    refine list_guard_no E rfl rfl rfl rfl hb16 rfl (by decide) ?_; clear E a; intro a E
    refine list_guard_no E rfl rfl rfl rfl hb16 rfl (by decide) ?_; clear E a; intro a E
    refine list_pure E rfl rfl (by decide) (rn_pick_yes' E rfl rfl hb16 rfl) ?_; clear E a; intro a E
    refine wpList_nil ?_
    refine then_k hK ?_; clear hK; clear K
    refine if_true' E rfl rfl ?_
    refine wp_seq_k ?_; intro K hK
    refine region_list ?_
    refine list_pure E rfl rfl (by decide) (rn_assign E rfl rfl) ?_; clear E a; intro a E
    refine list_pure E rfl rfl (by decide) (rn_assign E rfl rfl) ?_; clear E a; intro a E
    refine wpList_nil ?_
    refine then_k hK ?_; clear hK; clear K
    refine wp_ret ?_
    refine then_ret ?_; clear hK; clear K
    refine ret2 E rfl rfl rfl ?_
    obtain ⟨q1, q2⟩ := slts_form (b := b) (by omega)
    exact ⟨_, rfl, _, [], by rw [q1], by rw [q2]; exact Buf.nil _ _, S.tr⟩
  · have hb16n := hb16; first | with_reducible replace hb16n := n1 hb16n | with_reducible replace hb16n := n2 hb16n | with_reducible replace hb16n := n3 hb16n | with_reducible replace hb16n := n4 hb16n | with_reducible replace hb16n := n5 hb16n | with_reducible replace hb16n := n6 hb16n | replace hb16n := n1 hb16n | replace hb16n := n2 hb16n | replace hb16n := n3 hb16n | replace hb16n := n4 hb16n | replace hb16n := n5 hb16n | replace hb16n := n6 hb16n | skip
    refine list_guard_yes E rfl rfl rfl rfl hb16 rfl (by decide) (rn_move E rfl rfl) ?_; clear E a; intro a E
    refine list_guard_yes E rfl rfl rfl rfl hb16 rfl (by decide) (by first | exact rn_len E rfl rfl rfl | exact rn_len_str E rfl rfl rfl | exact rn_len_string E rfl rfl rfl) ?_; clear E a; intro a E
    refine list_guard_yes E rfl rfl rfl rfl hb16 rfl (by decide) (rn_gtr E rfl rfl rfl) ?_; clear E a; intro a E
    refine list_pure E rfl rfl (by decide) (rn_pick_no' E rfl rfl hb16 rfl) ?_; clear E a; intro a E
    refine wpList_nil ?_
    refine then_k hK ?_; clear hK; clear K
    refine if_bool E rfl (fun hb => ?_) (fun hb => ?_)
    · first | with_reducible replace hb := n1 hb | with_reducible replace hb := n2 hb | with_reducible replace hb := n3 hb | with_reducible replace hb := n4 hb | with_reducible replace hb := n5 hb | with_reducible replace hb := n6 hb | replace hb := n1 hb | replace hb := n2 hb | replace hb := n3 hb | replace hb := n4 hb | replace hb := n5 hb | replace hb := n6 hb | skip
      refine wp_seq_k ?_; intro K hK
      refine region_list ?_
      refine list_pure E rfl rfl (by decide) (rn_assign E rfl rfl) ?_; clear E a; intro a E
      refine list_pure E rfl rfl (by decide) (rn_assign E rfl rfl) ?_; clear E a; intro a E
      refine wpList_nil ?_
      refine then_k hK ?_; clear hK; clear K
      refine wp_ret ?_
      refine then_ret ?_; clear hK; clear K
      refine ret2 E rfl rfl rfl ?_
      obtain ⟨q1, q2⟩ := slts_form (b := b) (by omega)
      exact ⟨_, rfl, _, [], by rw [q1], by rw [q2]; exact Buf.nil _ _, S.tr⟩
    · first | with_reducible replace hb := n1 hb | with_reducible replace hb := n2 hb | with_reducible replace hb := n3 hb | with_reducible replace hb := n4 hb | with_reducible replace hb := n5 hb | with_reducible replace hb := n6 hb | replace hb := n1 hb | replace hb := n2 hb | replace hb := n3 hb | replace hb := n4 hb | replace hb := n5 hb | replace hb := n6 hb | skip
      refine wp_skip ?_
      refine then_k hK ?_; clear hK; clear K
      refine wp_seq_k ?_; intro K hK
      have hf : ¬ (b.length % 72 ≠ 0 ∨ 8064 < b.length) := by omega
      refine region_list ?_
      refine list_pure E rfl rfl (by decide) (rn_assign E rfl rfl) ?_; clear E a; intro a E
      refine wpList_nil ?_
      refine then_k hK ?_; clear hK; clear K
      refine wp_seq_k ?_; intro K hK
      refine wp_seq_k ?_; intro K hK
      refine region_list ?_
      refine list_pure E rfl rfl (by decide) (rn_move E rfl rfl) ?_; clear E a; intro a E
      refine list_call E rfl rfl (by decide) rfl Try.func30 rfl (by kernel_rfl) rfl (pieces_ret O _ b hO hbl hcap0 72 (by omega) (by omega) _ (S.hp.sel (sel_cons (by first | exact pk1 | exact pk2 | exact pk3 | exact pk4 | exact pk5 | exact pk6 | exact pk7 | exact pk8 | exact pk9) (sel_nil _)))) ?_
      rintro v22 w ⟨C, D, hB, hT⟩; clear E a; intro a E
      have S := S.call3 (sel_cons (by first | exact pk1 | exact pk2 | exact pk3 | exact pk4 | exact pk5 | exact pk6 | exact pk7 | exact pk8 | exact pk9) (sel_nil _)) hT; obtain ⟨vs, hC, hD⟩ := hB; obtain ⟨adc, cc, rfl⟩ := hC.slice
      have hnl : (chop 72 b).length ≤ b.length := by rw [chop_length]; exact nch_le (by omega)
      refine list_pure E rfl rfl (by decide) (by first | exact rn_len E rfl rfl rfl | exact rn_len_str E rfl rfl rfl | exact rn_len_string E rfl rfl rfl) ?_; clear E a; intro a E
      refine list_pure E rfl rfl (by decide) (rn_move E rfl rfl) ?_; clear E a; intro a E
      refine wpList_nil ?_
      refine then_k hK ?_; clear hK; clear K
      refine wp_block ?_
      refine wp_loop_ghost (fun (m : Nat) (a : Act) (w' : World) => ∃ (i : Nat) (vo : Value) (X : Chunk), m = (chop 72 b).length - i ∧ i ≤ (chop 72 b).length ∧ (∀ x ∈ (chop 72 b).take i, slotOk x = true) ∧ Buf X 48 11 vo (((chop 72 b).take i).map sltAt).length ((((chop 72 b).take i).map sltAt).flatMap Slt.lay) ∧ St w0 [O] w' [X, C, D, O] ∧ Fr a 70 [(4, vo), (22, .slice adc (chop 72 b).length cc), (23, .int .i64 (chop 72 b).length), (24, .int .i64 i)]) ((chop 72 b).length - 0) ?_ ?_
      · exact ⟨0, _, [], rfl, by omega, by simp, Buf.nil _ _, S.only (Bs := [[], C, D, O]) (sel_cons (by first | exact pk1 | exact pk2 | exact pk3 | exact pk4 | exact pk5 | exact pk6 | exact pk7 | exact pk8 | exact pk9) (sel_cons (by first | exact pk1 | exact pk2 | exact pk3 | exact pk4 | exact pk5 | exact pk6 | exact pk7 | exact pk8 | exact pk9) (sel_cons (by first | exact pk1 | exact pk2 | exact pk3 | exact pk4 | exact pk5 | exact pk6 | exact pk7 | exact pk8 | exact pk9) (sel_cons (by first | exact pk1 | exact pk2 | exact pk3 | exact pk4 | exact pk5 | exact pk6 | exact pk7 | exact pk8 | exact pk9) (sel_nil _))))), E.keep (keep_cons rfl (keep_cons rfl (keep_cons rfl (keep_cons rfl keep_nil))))⟩
      clear E; clear a; rintro m a w ⟨i, vo, X, rfl, hi, hgood, hX, S, E⟩
      refine wp_seq_k ?_; intro K hK
      refine region_list ?_
      refine list_pure E rfl rfl (by decide) (rn_lss E rfl rfl rfl) ?_; clear E a; intro a E
      refine wpList_nil ?_
      refine then_k hK ?_; clear hK; clear K
      refine wp_seq_k ?_; intro K hK
      refine if_bool E rfl (fun hb => ?_) (fun hb => ?_)
      · first | with_reducible replace hb := n1 hb | with_reducible replace hb := n2 hb | with_reducible replace hb := n3 hb | with_reducible replace hb := n4 hb | with_reducible replace hb := n5 hb | with_reducible replace hb := n6 hb | replace hb := n1 hb | replace hb := n2 hb | replace hb := n3 hb | replace hb := n4 hb | replace hb := n5 hb | replace hb := n6 hb | skip
        refine wp_skip ?_
        refine then_k hK ?_; clear hK; clear K
        refine wp_seq_k ?_; intro K hK
        refine wp_block ?_
        refine wp_seq_k ?_; intro K hK
        have hib : i < (chop 72 b).length := by omega
        have hlt := chop_lt (by omega) hib
        obtain ⟨vi, hvi, hR⟩ := hD.rd hib
        obtain ⟨g, rfl⟩ := hC.addr (by omega)
        obtain ⟨P, hP⟩ : ∃ P, P = (chop 72 b)[i] := ⟨_, rfl⟩
        rw [← hP] at hR
        have hPm : P ∈ chop 72 b := hP ▸ List.getElem_mem hib
        have hPl : P.length = 72 := by rw [hP, chop_at hib, List.length_take, List.length_drop]; omega
        have hsn := sN_lt hPl
        have hn1 : nm P 0 1 < 256 := by have := nm_lt P 0 1; rwa [p1] at this
        refine region_list ?_
        refine list_pure E rfl rfl (by decide) (by first | exact rn_indexAddr1 E rfl rfl rfl rfl rfl rfl (by omega) | exact rn_indexAddr E rfl rfl rfl rfl rfl rfl (by omega) | exact rn_indexAddr_array E rfl rfl rfl rfl rfl rfl (by omega)) ?_; clear E a; intro a E
        refine list_pure E rfl rfl (by decide) (rn_loadc E rfl rfl rfl (hC.rd.cells (S.stab.at (by first | exact mm1 | exact mm2 | exact mm3 | exact mm4 | exact mm5 | exact mm6 | exact mm7 | exact mm8)) rfl i _ hvi)) ?_; clear E a; intro a E
        refine list_pure E rfl rfl (by decide) (rn_assign E rfl rfl) ?_; clear E a; intro a E
        refine wpList_nil ?_
        refine then_k hK ?_; clear hK; clear K
        refine wp_seq_k ?_; intro K hK
        refine region_list ?_
        refine list_pure E rfl rfl (by decide) (rn_move E rfl rfl) ?_; clear E a; intro a E
        refine list_call E rfl rfl (by decide) rfl Try.func48 rfl (by kernel_rfl) rfl (reader_ret D _ P _ hR (S.hp.sel (sel_cons (by first | exact pk1 | exact pk2 | exact pk3 | exact pk4 | exact pk5 | exact pk6 | exact pk7 | exact pk8 | exact pk9) (sel_nil _))) (by omega)) ?_
        rintro v29 w ⟨p, A, rfl, hA, hT⟩; clear E a; intro a E
        have S := S.call2 (sel_cons (by first | exact pk1 | exact pk2 | exact pk3 | exact pk4 | exact pk5 | exact pk6 | exact pk7 | exact pk8 | exact pk9) (sel_nil _)) hT
        refine list_pure E rfl rfl (by decide) (rn_assign E rfl rfl) ?_; clear E a; intro a E
        refine wpList_nil ?_
        refine then_k hK ?_; clear hK; clear K
        refine wp_seq_k ?_; intro K hK
        refine region_list ?_
        refine list_pure E rfl rfl (by decide) (rn_move E rfl rfl) ?_; clear E a; intro a E
        refine list_call E rfl rfl (by decide) rfl Try.func49 rfl (by kernel_rfl) rfl (rnum_fit p P 0 A _ hA (S.hp.sel (sel_cons (by first | exact pk1 | exact pk2 | exact pk3 | exact pk4 | exact pk5 | exact pk6 | exact pk7 | exact pk8 | exact pk9) (sel_nil _))) 1 (by omega) (by omega) (by omega)) ?_
        rintro v31 w ⟨A1, rfl, hA, hT⟩; clear E a; intro a E
        have S := S.call1 (sel_cons (by first | exact pk1 | exact pk2 | exact pk3 | exact pk4 | exact pk5 | exact pk6 | exact pk7 | exact pk8 | exact pk9) (sel_nil _)) hT; obtain ⟨nu, hnu⟩ : ∃ z, z = nm P 0 1 := ⟨_, rfl⟩; rw [show numOf ((P.drop 0).take 1) = nu from hnu.symm] at E
        refine list_pure E rfl rfl (by decide) (rn_assign E rfl rfl) ?_; clear E a; intro a E
        refine wpList_nil ?_
        refine then_k hK ?_; clear hK; clear K
        refine wp_seq_k ?_; intro K hK
        refine region_list ?_
        refine list_pure E rfl rfl (by decide) (rn_move E rfl rfl) ?_; clear E a; intro a E
        refine list_call E rfl rfl (by decide) rfl Try.func50 rfl (by kernel_rfl) rfl (rpad_ret p _ A1 _ hA (S.hp.sel (sel_cons (by first | exact pk1 | exact pk2 | exact pk3 | exact pk4 | exact pk5 | exact pk6 | exact pk7 | exact pk8 | exact pk9) (sel_nil _))) 4 (by omega)) ?_
        rintro v33 w ⟨A2, hA, hT⟩; clear E a; intro a E
        have S := S.call1 (sel_cons (by first | exact pk1 | exact pk2 | exact pk3 | exact pk4 | exact pk5 | exact pk6 | exact pk7 | exact pk8 | exact pk9) (sel_nil _)) hT; have hA : RdC 106 p (sR P) A2 := hA
        refine wpList_nil ?_
        refine then_k hK ?_; clear hK; clear K
        refine wp_seq_k ?_; intro K hK
        refine region_list ?_
        refine list_pure E rfl rfl (by decide) (rn_move E rfl rfl) ?_; clear E a; intro a E
        refine list_pure E rfl rfl (by decide) (by first | exact rn_eql E rfl rfl rfl | exact rn_eql_ptr_nil E rfl rfl rfl rfl | exact rn_eql_bool E rfl rfl rfl rfl | exact rn_eql_string E rfl rfl rfl) ?_; clear E a; intro a E
        refine list_pure E rfl rfl (by decide) (rn_move E rfl rfl) ?_; clear E a; intro a E
        refine list_call E rfl rfl (by decide) rfl Try.func49 rfl (by kernel_rfl) rfl (rnum_ret p _ A2 _ hA (S.hp.sel (sel_cons (by first | exact pk1 | exact pk2 | exact pk3 | exact pk4 | exact pk5 | exact pk6 | exact pk7 | exact pk8 | exact pk9) (sel_nil _))) 4) ?_
        rintro v37 w ⟨A3, rfl, hA, hT⟩; clear E a; intro a E
        have S := S.call1 (sel_cons (by first | exact pk1 | exact pk2 | exact pk3 | exact pk4 | exact pk5 | exact pk6 | exact pk7 | exact pk8 | exact pk9) (sel_nil _)) hT; have hA : RdC 106 p (sN P).2 A3 := hA; rw [show ((sR P).num 4).1 = (sN P).1 from rfl] at E
        refine list_pure E rfl rfl (by decide) (rn_convert E rfl rfl rfl rfl (w_nat (by omega))) ?_; clear E a; intro a E
        refine list_pure E rfl rfl (by decide) (rn_build (cells := [_, _, _, _, _, _, _, _, _, _, _]) E rfl rfl rfl) ?_; clear E a; intro a E
        refine list_wp rfl (wp_alloc E S rfl rfl (by decide) rfl rfl rfl ?_); clear E S a; intro a w b9 E S
        refine list_wp rfl (wp_storeN E S rfl rfl rfl rfl (by simp [Value.oneCell']) rfl (by first | exact pk1 | exact pk2 | exact pk3 | exact pk4 | exact pk5 | exact pk6 | exact pk7 | exact pk8 | exact pk9) (by simp) ?_); clear E S a; intro a w E S; simp only [List.take_succ_cons, List.take_zero, List.drop_succ_cons, List.drop_zero, List.cons_append, List.nil_append, List.append_nil, List.length_cons, List.length_nil, Nat.zero_add, Nat.add_zero] at S
        refine wpList_nil ?_
        refine then_k hK ?_; clear hK; clear K
        refine wp_seq_k ?_; intro K hK
        refine region_list ?_
        refine list_pure E rfl rfl (by decide) (rn_move E rfl rfl) ?_; clear E a; intro a E
        refine list_call E rfl rfl (by decide) rfl Try.func51 rfl (by kernel_rfl) rfl (rbytes_ret p _ A3 _ hA (S.hp.sel (sel_cons (by first | exact pk1 | exact pk2 | exact pk3 | exact pk4 | exact pk5 | exact pk6 | exact pk7 | exact pk8 | exact pk9) (sel_nil _))) 64 (by omega)) ?_
        rintro v42 w ⟨A4, B, hA, hT, hB⟩; clear E a; intro a E
        have S := S.call2 (sel_cons (by first | exact pk1 | exact pk2 | exact pk3 | exact pk4 | exact pk5 | exact pk6 | exact pk7 | exact pk8 | exact pk9) (sel_nil _)) hT; have hA : RdC 106 p (sB P).2 A4 := hA; have hB : Buf B 5 1 v42 (sB P).1.length (byt (sB P).1) := hB
        refine list_call E rfl rfl (by decide) rfl Try.func38 rfl (by kernel_rfl) rfl (ptdecode_ret B _ (sB P).1 hB.rd _ (S.hp.sel (sel_cons (by first | exact pk1 | exact pk2 | exact pk3 | exact pk4 | exact pk5 | exact pk6 | exact pk7 | exact pk8 | exact pk9) (sel_nil _)))) ?_
        rintro v43 w ⟨rfl, hT⟩; clear E a; intro a E
        have S := S.call1 (sel_cons (by first | exact pk1 | exact pk2 | exact pk3 | exact pk4 | exact pk5 | exact pk6 | exact pk7 | exact pk8 | exact pk9) (sel_nil _)) hT; obtain ⟨ze, hze⟩ : ∃ z, z = ptdecE (sB P).1 := ⟨_, rfl⟩; rw [← hze] at E
        refine list_pure E rfl rfl (by decide) (rn_move E rfl rfl) ?_; clear E a; intro a E
        refine list_pure E rfl rfl (by decide) (rn_extract E rfl rfl rfl) ?_; clear E a; intro a E
        refine list_pure E rfl rfl (by decide) (rn_extract E rfl rfl rfl) ?_; clear E a; intro a E
        refine list_wp rfl (wp_alloc E S rfl rfl (by decide) rfl rfl rfl ?_); clear E S a; intro a w b10 E S
        refine list_wp rfl (wp_storeN E S rfl rfl rfl rfl (by simp [Value.oneCell']) rfl (by first | exact pk1 | exact pk2 | exact pk3 | exact pk4 | exact pk5 | exact pk6 | exact pk7 | exact pk8 | exact pk9) (by simp) ?_); clear E S a; intro a w E S; simp only [List.take_succ_cons, List.take_zero, List.drop_succ_cons, List.drop_zero, List.cons_append, List.nil_append, List.append_nil, List.length_cons, List.length_nil, Nat.zero_add, Nat.add_zero] at S
        refine list_pure E rfl rfl (by decide) (rn_assign E rfl rfl) ?_; clear E a; intro a E
        refine wpList_nil ?_
        refine then_k hK ?_; clear hK; clear K
        refine wp_seq_k ?_; intro K hK
        refine region_list ?_
        refine list_pure E rfl rfl (by decide) (rn_load_blk (vs := [_, _, _, _, _, _, _, _, _]) E rfl rfl rfl (S.get (by first | exact pk1 | exact pk2 | exact pk3 | exact pk4 | exact pk5 | exact pk6 | exact pk7 | exact pk8 | exact pk9)) rfl rfl) ?_; clear E a; intro a E
        refine list_pure E rfl rfl (by decide) (by first | exact rn_fieldAddr0 (q := 2) E rfl rfl rfl | exact rn_fieldAddr (q := 2) E rfl rfl rfl) ?_; clear E a; intro a E
        refine list_wp rfl (wp_storeN E S rfl rfl rfl rfl (by simp [Value.oneCell']) rfl (by first | exact pk1 | exact pk2 | exact pk3 | exact pk4 | exact pk5 | exact pk6 | exact pk7 | exact pk8 | exact pk9) (by simp) ?_); clear E S a; intro a w E S; simp only [List.take_succ_cons, List.take_zero, List.drop_succ_cons, List.drop_zero, List.cons_append, List.nil_append, List.append_nil, List.length_cons, List.length_nil, Nat.zero_add, Nat.add_zero] at S
        refine wpList_nil ?_
        refine then_k hK ?_; clear hK; clear K
        refine wp_seq_k ?_; intro K hK
        refine wp_seq_k ?_; intro K hK
        refine region_list ?_
        refine list_pure E rfl rfl (by decide) (rn_move E rfl rfl) ?_; clear E a; intro a E
        refine list_pure E rfl rfl (by decide) (by first | exact rn_neq E rfl rfl rfl | exact rn_neq_ptr_nil E rfl rfl rfl rfl | exact rn_neq_bool E rfl rfl rfl rfl | exact rn_neq_string E rfl rfl rfl) ?_; clear E a; intro a E
        refine list_pure E rfl rfl (by decide) (rn_move E rfl rfl) ?_; clear E a; intro a E
        refine guard_split E (t := 50) rfl (fun hb50 => ?_) (fun hb50 => ?_)
        · have hb50n := hb50; first | with_reducible replace hb50n := n1 hb50n | with_reducible replace hb50n := n2 hb50n | with_reducible replace hb50n := n3 hb50n | with_reducible replace hb50n := n4 hb50n | with_reducible replace hb50n := n5 hb50n | with_reducible replace hb50n := n6 hb50n | replace hb50n := n1 hb50n | replace hb50n := n2 hb50n | replace hb50n := n3 hb50n | replace hb50n := n4 hb50n | replace hb50n := n5 hb50n | replace hb50n := n6 hb50n | skip
          refine list_guard_no E rfl rfl rfl rfl hb50 rfl (by decide) ?_; clear E a; intro a E
          refine list_guard_no E rfl rfl rfl rfl hb50 rfl (by decide) ?_; clear E a; intro a E
          refine list_guard_no E rfl rfl rfl rfl hb50 rfl (by decide) ?_; clear E a; intro a E
          refine list_pure E rfl rfl (by decide) (rn_pick_yes' E rfl rfl hb50 rfl) ?_; clear E a; intro a E
          refine list_pure E rfl rfl (by decide) (rn_move E rfl rfl) ?_; clear E a; intro a E
          refine list_guard_no E rfl rfl rfl rfl rfl rfl (by decide) ?_; clear E a; intro a E
          refine list_guard_no E rfl rfl rfl rfl rfl rfl (by decide) ?_; clear E a; intro a E
          refine list_pure E rfl rfl (by decide) (rn_pick_yes' E rfl rfl rfl rfl) ?_; clear E a; intro a E
          refine list_pure E rfl rfl (by decide) (rn_move E rfl rfl) ?_; clear E a; intro a E
          refine list_guard_no E rfl rfl rfl rfl rfl rfl (by decide) ?_; clear E a; intro a E
          refine list_guard_no E rfl rfl rfl rfl rfl rfl (by decide) ?_; clear E a; intro a E
          refine list_guard_no E rfl rfl rfl rfl rfl rfl (by decide) ?_; clear E a; intro a E
          refine list_pure E rfl rfl (by decide) (rn_pick_yes' E rfl rfl rfl rfl) ?_; clear E a; intro a E
          refine wpList_nil ?_
          refine then_k hK ?_; clear hK; clear K
          refine if_true' E rfl rfl ?_
          refine wp_seq_k ?_; intro K hK
          refine region_list ?_
          refine list_pure E rfl rfl (by decide) (rn_assign E rfl rfl) ?_; clear E a; intro a E
          refine list_pure E rfl rfl (by decide) (rn_assign E rfl rfl) ?_; clear E a; intro a E
          refine wpList_nil ?_
          refine then_k hK ?_; clear hK; clear K
          refine wp_ret ?_
          refine then_ret ?_; clear hK; clear K
          refine in_ret ?_
          refine then_ret ?_; clear hK; clear K
          refine then_ret ?_
          refine in_ret ?_
          refine then_ret ?_; clear hK; clear K
          refine ret2 E rfl rfl rfl ?_
          obtain ⟨q1, q2⟩ := slts_bad (b := b) hPm (s_bad hPl (by first | exact .inl (hze ▸ by assumption) | exact .inr (.inl (hzd ▸ by assumption)) | exact .inr (.inr (.inl (hnu ▸ by assumption))) | exact .inr (.inr (.inr (by rw [← hzm]; simp_all)))))
          exact ⟨_, rfl, _, [], by rw [q1], by rw [q2]; exact Buf.nil _ _, (S.only (Bs := [O]) (sel_cons (by first | exact pk1 | exact pk2 | exact pk3 | exact pk4 | exact pk5 | exact pk6 | exact pk7 | exact pk8 | exact pk9) (sel_nil _))).addNil.tr⟩
        · have hb50n := hb50; first | with_reducible replace hb50n := n1 hb50n | with_reducible replace hb50n := n2 hb50n | with_reducible replace hb50n := n3 hb50n | with_reducible replace hb50n := n4 hb50n | with_reducible replace hb50n := n5 hb50n | with_reducible replace hb50n := n6 hb50n | replace hb50n := n1 hb50n | replace hb50n := n2 hb50n | replace hb50n := n3 hb50n | replace hb50n := n4 hb50n | replace hb50n := n5 hb50n | replace hb50n := n6 hb50n | skip
          refine list_guard_yes E rfl rfl rfl rfl hb50 rfl (by decide) (rn_move E rfl rfl) ?_; clear E a; intro a E
          refine list_guard_wp E rfl rfl rfl rfl hb50 ?_; refine wp_call' E rfl (by decide) rfl Try.func52 rfl (by kernel_rfl) rfl (rdone_ret p (sB P).2 A4 _ hA (S.hp.sel (sel_cons (by first | exact pk1 | exact pk2 | exact pk3 | exact pk4 | exact pk5 | exact pk6 | exact pk7 | exact pk8 | exact pk9) (sel_nil _)))) ?_
          rintro v52 w ⟨rfl, hT⟩; clear E a; intro a E
          have S := S.call1 (sel_cons (by first | exact pk1 | exact pk2 | exact pk3 | exact pk4 | exact pk5 | exact pk6 | exact pk7 | exact pk8 | exact pk9) (sel_nil _)) hT; obtain ⟨zd, hzd⟩ : ∃ z, z = (sB P).2.done := ⟨_, rfl⟩; rw [← hzd] at E
          refine list_guard_yes E rfl rfl rfl rfl hb50 rfl (by decide) (by first | exact rn_neq E rfl rfl rfl | exact rn_neq_ptr_nil E rfl rfl rfl rfl | exact rn_neq_bool E rfl rfl rfl rfl | exact rn_neq_string E rfl rfl rfl) ?_; clear E a; intro a E
          refine list_pure E rfl rfl (by decide) (rn_pick_no' E rfl rfl hb50 rfl) ?_; clear E a; intro a E
          refine list_pure E rfl rfl (by decide) (rn_move E rfl rfl) ?_; clear E a; intro a E
          refine guard_split E (t := 55) rfl (fun hb55 => ?_) (fun hb55 => ?_)
          · have hb55n := hb55; first | with_reducible replace hb55n := n1 hb55n | with_reducible replace hb55n := n2 hb55n | with_reducible replace hb55n := n3 hb55n | with_reducible replace hb55n := n4 hb55n | with_reducible replace hb55n := n5 hb55n | with_reducible replace hb55n := n6 hb55n | replace hb55n := n1 hb55n | replace hb55n := n2 hb55n | replace hb55n := n3 hb55n | replace hb55n := n4 hb55n | replace hb55n := n5 hb55n | replace hb55n := n6 hb55n | skip
            refine list_guard_no E rfl rfl rfl rfl hb55 rfl (by decide) ?_; clear E a; intro a E
            refine list_guard_no E rfl rfl rfl rfl hb55 rfl (by decide) ?_; clear E a; intro a E
            refine list_pure E rfl rfl (by decide) (rn_pick_yes' E rfl rfl hb55 rfl) ?_; clear E a; intro a E
            refine list_pure E rfl rfl (by decide) (rn_move E rfl rfl) ?_; clear E a; intro a E
            refine list_guard_no E rfl rfl rfl rfl rfl rfl (by decide) ?_; clear E a; intro a E
            refine list_guard_no E rfl rfl rfl rfl rfl rfl (by decide) ?_; clear E a; intro a E
            refine list_guard_no E rfl rfl rfl rfl rfl rfl (by decide) ?_; clear E a; intro a E
            refine list_pure E rfl rfl (by decide) (rn_pick_yes' E rfl rfl rfl rfl) ?_; clear E a; intro a E
            refine wpList_nil ?_
            refine then_k hK ?_; clear hK; clear K
            refine if_true' E rfl rfl ?_
            refine wp_seq_k ?_; intro K hK
            refine region_list ?_
            refine list_pure E rfl rfl (by decide) (rn_assign E rfl rfl) ?_; clear E a; intro a E
            refine list_pure E rfl rfl (by decide) (rn_assign E rfl rfl) ?_; clear E a; intro a E
            refine wpList_nil ?_
            refine then_k hK ?_; clear hK; clear K
            refine wp_ret ?_
            refine then_ret ?_; clear hK; clear K
            refine in_ret ?_
            refine then_ret ?_; clear hK; clear K
            refine then_ret ?_
            refine in_ret ?_
            refine then_ret ?_; clear hK; clear K
            refine ret2 E rfl rfl rfl ?_
            obtain ⟨q1, q2⟩ := slts_bad (b := b) hPm (s_bad hPl (by first | exact .inl (hze ▸ by assumption) | exact .inr (.inl (hzd ▸ by assumption)) | exact .inr (.inr (.inl (hnu ▸ by assumption))) | exact .inr (.inr (.inr (by rw [← hzm]; simp_all)))))
            exact ⟨_, rfl, _, [], by rw [q1], by rw [q2]; exact Buf.nil _ _, (S.only (Bs := [O]) (sel_cons (by first | exact pk1 | exact pk2 | exact pk3 | exact pk4 | exact pk5 | exact pk6 | exact pk7 | exact pk8 | exact pk9) (sel_nil _))).addNil.tr⟩
          · have hb55n := hb55; first | with_reducible replace hb55n := n1 hb55n | with_reducible replace hb55n := n2 hb55n | with_reducible replace hb55n := n3 hb55n | with_reducible replace hb55n := n4 hb55n | with_reducible replace hb55n := n5 hb55n | with_reducible replace hb55n := n6 hb55n | replace hb55n := n1 hb55n | replace hb55n := n2 hb55n | replace hb55n := n3 hb55n | replace hb55n := n4 hb55n | replace hb55n := n5 hb55n | replace hb55n := n6 hb55n | skip
            refine list_guard_yes E rfl rfl rfl rfl hb55 rfl (by decide) (rn_move E rfl rfl) ?_; clear E a; intro a E
            refine list_guard_yes E rfl rfl rfl rfl hb55 rfl (by decide) (rn_gtr E rfl rfl rfl) ?_; clear E a; intro a E
            refine list_pure E rfl rfl (by decide) (rn_pick_no' E rfl rfl hb55 rfl) ?_; clear E a; intro a E
            refine list_pure E rfl rfl (by decide) (rn_move E rfl rfl) ?_; clear E a; intro a E
            refine guard_split E (t := 59) rfl (fun hb59 => ?_) (fun hb59 => ?_)
            · have hb59n := hb59; first | with_reducible replace hb59n := n1 hb59n | with_reducible replace hb59n := n2 hb59n | with_reducible replace hb59n := n3 hb59n | with_reducible replace hb59n := n4 hb59n | with_reducible replace hb59n := n5 hb59n | with_reducible replace hb59n := n6 hb59n | replace hb59n := n1 hb59n | replace hb59n := n2 hb59n | replace hb59n := n3 hb59n | replace hb59n := n4 hb59n | replace hb59n := n5 hb59n | replace hb59n := n6 hb59n | skip
              refine list_guard_no E rfl rfl rfl rfl hb59 rfl (by decide) ?_; clear E a; intro a E
              refine list_guard_no E rfl rfl rfl rfl hb59 rfl (by decide) ?_; clear E a; intro a E
              refine list_guard_no E rfl rfl rfl rfl hb59 rfl (by decide) ?_; clear E a; intro a E
              refine list_pure E rfl rfl (by decide) (rn_pick_yes' E rfl rfl hb59 rfl) ?_; clear E a; intro a E
              refine wpList_nil ?_
              refine then_k hK ?_; clear hK; clear K
              refine if_true' E rfl rfl ?_
              refine wp_seq_k ?_; intro K hK
              refine region_list ?_
              refine list_pure E rfl rfl (by decide) (rn_assign E rfl rfl) ?_; clear E a; intro a E
              refine list_pure E rfl rfl (by decide) (rn_assign E rfl rfl) ?_; clear E a; intro a E
              refine wpList_nil ?_
              refine then_k hK ?_; clear hK; clear K
              refine wp_ret ?_
              refine then_ret ?_; clear hK; clear K
              refine in_ret ?_
              refine then_ret ?_; clear hK; clear K
              refine then_ret ?_
              refine in_ret ?_
              refine then_ret ?_; clear hK; clear K
              refine ret2 E rfl rfl rfl ?_
              obtain ⟨q1, q2⟩ := slts_bad (b := b) hPm (s_bad hPl (by first | exact .inl (hze ▸ by assumption) | exact .inr (.inl (hzd ▸ by assumption)) | exact .inr (.inr (.inl (hnu ▸ by assumption))) | exact .inr (.inr (.inr (by rw [← hzm]; simp_all)))))
              exact ⟨_, rfl, _, [], by rw [q1], by rw [q2]; exact Buf.nil _ _, (S.only (Bs := [O]) (sel_cons (by first | exact pk1 | exact pk2 | exact pk3 | exact pk4 | exact pk5 | exact pk6 | exact pk7 | exact pk8 | exact pk9) (sel_nil _))).addNil.tr⟩
            · have hb59n := hb59; first | with_reducible replace hb59n := n1 hb59n | with_reducible replace hb59n := n2 hb59n | with_reducible replace hb59n := n3 hb59n | with_reducible replace hb59n := n4 hb59n | with_reducible replace hb59n := n5 hb59n | with_reducible replace hb59n := n6 hb59n | replace hb59n := n1 hb59n | replace hb59n := n2 hb59n | replace hb59n := n3 hb59n | replace hb59n := n4 hb59n | replace hb59n := n5 hb59n | replace hb59n := n6 hb59n | skip
              refine list_guard_yes E rfl rfl rfl rfl hb59 rfl (by decide) (rn_load_blk (vs := [_, _, _, _, _, _, _, _, _, _, _]) E rfl rfl rfl (S.get (by first | exact pk1 | exact pk2 | exact pk3 | exact pk4 | exact pk5 | exact pk6 | exact pk7 | exact pk8 | exact pk9)) rfl rfl) ?_; clear E a; intro a E
              refine list_guard_wp E rfl rfl rfl rfl hb59 ?_; refine wp_call' E rfl (by decide) rfl Try.func41 rfl (by kernel_rfl) rfl (maysl_ret ⟨((nu : Nat) : Int) == 1, (sN P).1, ptdec (sB P).1⟩ _) ?_
              rintro v61 w ⟨rfl, hT⟩; clear E a; intro a E
              have S := S.quiet hT; obtain ⟨zm, hzm⟩ : ∃ z, z = maySB (sltRd P) := ⟨_, rfl⟩; rw [show maySB ⟨((nu : Nat) : Int) == 1, (sN P).1, ptdec (sB P).1⟩ = zm by rw [hzm, sltRd, hnu]] at E
              refine list_guard_yes E rfl rfl rfl rfl hb59 rfl (by decide) (rn_not E rfl rfl) ?_; clear E a; intro a E
              refine list_pure E rfl rfl (by decide) (rn_pick_no' E rfl rfl hb59 rfl) ?_; clear E a; intro a E
              refine wpList_nil ?_
              refine then_k hK ?_; clear hK; clear K
              refine if_bool E rfl (fun hb => ?_) (fun hb => ?_)
              · first | with_reducible replace hb := n1 hb | with_reducible replace hb := n2 hb | with_reducible replace hb := n3 hb | with_reducible replace hb := n4 hb | with_reducible replace hb := n5 hb | with_reducible replace hb := n6 hb | replace hb := n1 hb | replace hb := n2 hb | replace hb := n3 hb | replace hb := n4 hb | replace hb := n5 hb | replace hb := n6 hb | skip
                refine wp_seq_k ?_; intro K hK
                refine region_list ?_
                refine list_pure E rfl rfl (by decide) (rn_assign E rfl rfl) ?_; clear E a; intro a E
                refine list_pure E rfl rfl (by decide) (rn_assign E rfl rfl) ?_; clear E a; intro a E
                refine wpList_nil ?_
                refine then_k hK ?_; clear hK; clear K
                refine wp_ret ?_
                refine then_ret ?_; clear hK; clear K
                refine in_ret ?_
                refine then_ret ?_; clear hK; clear K
                refine then_ret ?_
                refine in_ret ?_
                refine then_ret ?_; clear hK; clear K
                refine ret2 E rfl rfl rfl ?_
                obtain ⟨q1, q2⟩ := slts_bad (b := b) hPm (s_bad hPl (by first | exact .inl (hze ▸ by assumption) | exact .inr (.inl (hzd ▸ by assumption)) | exact .inr (.inr (.inl (hnu ▸ by assumption))) | exact .inr (.inr (.inr (by rw [← hzm]; simp_all)))))
                exact ⟨_, rfl, _, [], by rw [q1], by rw [q2]; exact Buf.nil _ _, (S.only (Bs := [O]) (sel_cons (by first | exact pk1 | exact pk2 | exact pk3 | exact pk4 | exact pk5 | exact pk6 | exact pk7 | exact pk8 | exact pk9) (sel_nil _))).addNil.tr⟩
              · first | with_reducible replace hb := n1 hb | with_reducible replace hb := n2 hb | with_reducible replace hb := n3 hb | with_reducible replace hb := n4 hb | with_reducible replace hb := n5 hb | with_reducible replace hb := n6 hb | replace hb := n1 hb | replace hb := n2 hb | replace hb := n3 hb | replace hb := n4 hb | replace hb := n5 hb | replace hb := n6 hb | skip
                refine wp_skip ?_
                refine then_k hK ?_; clear hK; clear K
                obtain ⟨hok, hsr⟩ := s_ok hPl (by rw [← hze]; assumption) (by rw [← hnu]; assumption) (by rw [← hzm]; simp_all)
                have hlm : (((chop 72 b).take i).map sltAt).length = i := by rw [List.length_map, List.length_take]; omega
                refine region_list ?_
                refine list_pure E rfl rfl (by decide) (rn_move E rfl rfl) ?_; clear E a; intro a E
                refine list_pure E rfl rfl (by decide) (rn_load_blk (vs := [_, _, _, _, _, _, _, _, _, _, _]) E rfl rfl rfl (S.get (by first | exact pk1 | exact pk2 | exact pk3 | exact pk4 | exact pk5 | exact pk6 | exact pk7 | exact pk8 | exact pk9)) rfl rfl) ?_; clear E a; intro a E
                refine list_wp rfl (wp_bslice (cells := [_, _, _, _, _, _, _, _, _, _, _]) E S rfl rfl (by decide) rfl rfl rfl rfl rfl (by decide) rfl ?_); clear E S a; intro a w b66 E S
                refine list_wp rfl (wp_append (by' := 88) E S rfl rfl (by decide) rfl rfl hX (by first | exact pk1 | exact pk2 | exact pk3 | exact pk4 | exact pk5 | exact pk6 | exact pk7 | exact pk8 | exact pk9) ((rd_cells (g := b66) (T := 48) (xs := Slt.lay ⟨((nu : Nat) : Int) == 1, (sN P).1, ptdec (sB P).1⟩) (s := 11) (m := 1) rfl (Slt.lay_one _) (by omega) 1).src (S.stab.at (by first | exact mm1 | exact mm2 | exact mm3 | exact mm4 | exact mm5 | exact mm6 | exact mm7 | exact mm8)) rfl) rfl rfl rfl rfl rfl rfl (by simp only [maxLen]; omega) (by omega) ?_); clear E S a; intro a w v67 C67 E S hB67
                refine list_pure E rfl rfl (by decide) (rn_assign E rfl rfl) ?_; clear E a; intro a E
                refine wpList_nil ?_
                refine in_normal ?_
                refine then_k hK ?_; clear hK; clear K
                refine region_list ?_
                refine list_pure E rfl rfl (by decide) (rn_add E rfl rfl rfl (by first | exact wa_lit (y := 1) (by omega) | exact w_in (by omega) | exact w_inu (by omega) | exact rfl)) ?_; clear E a; intro a E
                refine list_pure E rfl rfl (by decide) (rn_move E rfl rfl) ?_; clear E a; intro a E
                refine wpList_nil ?_
                refine then_normal ?_
                have ht : ((chop 72 b).take (i + 1)).map sltAt = ((chop 72 b).take i).map sltAt ++ [sltAt P] := by rw [List.take_add_one, List.getElem?_eq_getElem hib, ← hP, List.map_append]; rfl
                exact ⟨_, by omega, i + 1, v67, C67, rfl, by omega, mem_take_succ hib hgood (hP ▸ hok), by rw [ht, List.length_append, List.flatMap_append, flat_one, ← hsr, sltRd, ← hnu]; exact hB67, S.only (Bs := [C67, C, D, O]) (sel_cons (by first | exact pk1 | exact pk2 | exact pk3 | exact pk4 | exact pk5 | exact pk6 | exact pk7 | exact pk8 | exact pk9) (sel_cons (by first | exact pk1 | exact pk2 | exact pk3 | exact pk4 | exact pk5 | exact pk6 | exact pk7 | exact pk8 | exact pk9) (sel_cons (by first | exact pk1 | exact pk2 | exact pk3 | exact pk4 | exact pk5 | exact pk6 | exact pk7 | exact pk8 | exact pk9) (sel_cons (by first | exact pk1 | exact pk2 | exact pk3 | exact pk4 | exact pk5 | exact pk6 | exact pk7 | exact pk8 | exact pk9) (sel_nil _))))), E.keep (keep_cons rfl (keep_cons rfl (keep_cons rfl (keep_cons rfl keep_nil))))⟩
      · first | with_reducible replace hb := n1 hb | with_reducible replace hb := n2 hb | with_reducible replace hb := n3 hb | with_reducible replace hb := n4 hb | with_reducible replace hb := n5 hb | with_reducible replace hb := n6 hb | replace hb := n1 hb | replace hb := n2 hb | replace hb := n3 hb | replace hb := n4 hb | replace hb := n5 hb | replace hb := n6 hb | skip
        refine wp_exit ?_
        refine then_exit ?_; clear hK; clear K
        refine then_exit ?_
        refine in_exit ?_
        refine then_k hK ?_; clear hK; clear K
        refine wp_seq_k ?_; intro K hK
        refine region_list ?_
        refine list_pure E rfl rfl (by decide) (rn_move E rfl rfl) ?_; clear E a; intro a E
        refine list_pure E rfl rfl (by decide) (rn_assign E rfl rfl) ?_; clear E a; intro a E
        refine list_pure E rfl rfl (by decide) (rn_assign E rfl rfl) ?_; clear E a; intro a E
        refine wpList_nil ?_
        refine then_k hK ?_; clear hK; clear K
        refine wp_ret ?_
        refine ret2 E rfl rfl rfl ?_
        obtain rfl : i = (chop 72 b).length := by omega
        rw [List.take_length] at hgood hX
        obtain ⟨q1, q2⟩ := slts_good (b := b) hf hgood
        exact ⟨_, rfl, _, X, by rw [q1], by rw [q2]; exact hX, (S.only (Bs := [X, O]) (sel_cons (by first | exact pk1 | exact pk2 | exact pk3 | exact pk4 | exact pk5 | exact pk6 | exact pk7 | exact pk8 | exact pk9) (sel_cons (by first | exact pk1 | exact pk2 | exact pk3 | exact pk4 | exact pk5 | exact pk6 | exact pk7 | exact pk8 | exact pk9) (sel_nil _)))).tr⟩

theorem dslots_ret (O : Chunk) (v : Value) (b : List UInt8) (hO : Rd O 1 v b.length (byt b)) (hbl : b.length ≤ 140737488355328) (hcap : ∃ ad c, v = .slice ad b.length c ∧ b.length ≤ c) (w0 : World) (H : Hp w0 [O]) :
    Ret Try.prog 24 #[v] w0 fun u w' => ∃ vc X, u = .tuple #[vc, .int .i64 (sltsE b)] ∧ Buf X 48 11 vc (sltsL b).length ((sltsL b).flatMap Slt.lay) ∧ Trs w0 w' [O] [X, O] := by
  have S := (St.begin H).addNil
  obtain ⟨ad, c, rfl, hcap⟩ := hcap
  refine enter1 97 Try.func24 rfl rfl (by decide) ?_; intro a E
  refine wp_seq_k ?_; intro K hK
  refine region_list ?_
  refine list_pure E rfl rfl (by decide) (rn_assign E rfl rfl) ?_; clear E a; intro a E
  refine list_pure E rfl rfl (by decide) (rn_assign E rfl rfl) ?_; clear E a; intro a E
  refine wpList_nil ?_
  refine then_k hK ?_; clear hK; clear K
  refine wp_seq_k ?_; intro K hK
  refine wp_seq_k ?_; intro K hK
  refine region_list ?_
  refine list_pure E rfl rfl (by decide) (rn_move E rfl rfl) ?_; clear E a; intro a E
  refine list_pure E rfl rfl (by decide) (by first | exact rn_len E rfl rfl rfl | exact rn_len_str E rfl rfl rfl | exact rn_len_string E rfl rfl rfl) ?_; clear E a; intro a E
  refine list_pure E rfl rfl (by decide) (rn_rem E rfl rfl rfl (by decide) (by first | exact wr_lit (y := 72) | exact rfl)) ?_; clear E a; intro a E
  refine list_pure E rfl rfl (by decide) (by first | exact rn_neq E rfl rfl rfl | exact rn_neq_ptr_nil E rfl rfl rfl rfl | exact rn_neq_bool E rfl rfl rfl rfl | exact rn_neq_string E rfl rfl rfl) ?_; clear E a; intro a E
  refine list_pure E rfl rfl (by decide) (rn_move E rfl rfl) ?_; clear E a; intro a E
  refine guard_split E (t := 15) rfl (fun hb15 => ?_) (fun hb15 => ?_)
  · have hb15n := hb15; first | with_reducible replace hb15n := n1 hb15n | with_reducible replace hb15n := n2 hb15n | with_reducible replace hb15n := n3 hb15n | with_reducible replace hb15n := n4 hb15n | with_reducible replace hb15n := n5 hb15n | with_reducible replace hb15n := n6 hb15n | replace hb15n := n1 hb15n | replace hb15n := n2 hb15n | replace hb15n := n3 hb15n | replace hb15n := n4 hb15n | replace hb15n := n5 hb15n | replace hb15n := n6 hb15n | skip
    refine list_guard_no E rfl rfl rfl rfl hb15 rfl (by decide) ?_; clear E a; intro a E
    refine list_guard_no E rfl rfl rfl rfl hb15 rfl (by decide) ?_; clear E a; intro a E
    refine list_guard_no E rfl rfl rfl rfl hb15 rfl (by decide) ?_; clear E a; intro a E
    refine list_pure E rfl rfl (by decide) (rn_pick_yes' E rfl rfl hb15 rfl) ?_; clear E a; intro a E
    refine wpList_nil ?_
    refine then_k hK ?_; clear hK; clear K
    refine if_true' E rfl rfl ?_
    refine wp_seq_k ?_; intro K hK
    refine region_list ?_
    refine list_pure E rfl rfl (by decide) (rn_assign E rfl rfl) ?_; clear E a; intro a E
    refine list_pure E rfl rfl (by decide) (rn_assign E rfl rfl) ?_; clear E a; intro a E
    refine wpList_nil ?_
    refine then_k hK ?_; clear hK; clear K
    refine wp_ret ?_
    refine then_ret ?_; clear hK; clear K
    refine ret2 E rfl rfl rfl ?_
    obtain ⟨q1, q2⟩ := slts_form (b := b) (by omega)
    exact ⟨_, rfl, _, [], by rw [q1], by rw [q2]; exact Buf.nil _ _, S.tr⟩
  · have hb15n := hb15; first | with_reducible replace hb15n := n1 hb15n | with_reducible replace hb15n := n2 hb15n | with_reducible replace hb15n := n3 hb15n | with_reducible replace hb15n := n4 hb15n | with_reducible replace hb15n := n5 hb15n | with_reducible replace hb15n := n6 hb15n | replace hb15n := n1 hb15n | replace hb15n := n2 hb15n | replace hb15n := n3 hb15n | replace hb15n := n4 hb15n | replace hb15n := n5 hb15n | replace hb15n := n6 hb15n | skip
    refine list_guard_yes E rfl rfl rfl rfl hb15 rfl (by decide) (rn_move E rfl rfl) ?_; clear E a; intro a E
    refine list_guard_yes E rfl rfl rfl rfl hb15 rfl (by decide) (by first | exact rn_len E rfl rfl rfl | exact rn_len_str E rfl rfl rfl | exact rn_len_string E rfl rfl rfl) ?_; clear E a; intro a E
    refine list_guard_yes E rfl rfl rfl rfl hb15 rfl (by decide) (rn_gtr E rfl rfl rfl) ?_; clear E a; intro a E
    refine list_pure E rfl rfl (by decide) (rn_pick_no' E rfl rfl hb15 rfl) ?_; clear E a; intro a E
    refine wpList_nil ?_
    refine then_k hK ?_; clear hK; clear K
    refine if_bool E rfl (fun hb => ?_) (fun hb => ?_)
    · first | with_reducible replace hb := n1 hb | with_reducible replace hb := n2 hb | with_reducible replace hb := n3 hb | with_reducible replace hb := n4 hb | with_reducible replace hb := n5 hb | with_reducible replace hb := n6 hb | replace hb := n1 hb | replace hb := n2 hb | replace hb := n3 hb | replace hb := n4 hb | replace hb := n5 hb | replace hb := n6 hb | skip
      refine wp_seq_k ?_; intro K hK
      refine region_list ?_
      refine list_pure E rfl rfl (by decide) (rn_assign E rfl rfl) ?_; clear E a; intro a E
      refine list_pure E rfl rfl (by decide) (rn_assign E rfl rfl) ?_; clear E a; intro a E
      refine wpList_nil ?_
      refine then_k hK ?_; clear hK; clear K
      refine wp_ret ?_
      refine then_ret ?_; clear hK; clear K
      refine ret2 E rfl rfl rfl ?_
      obtain ⟨q1, q2⟩ := slts_form (b := b) (by omega)
      exact ⟨_, rfl, _, [], by rw [q1], by rw [q2]; exact Buf.nil _ _, S.tr⟩
    · first | with_reducible replace hb := n1 hb | with_reducible replace hb := n2 hb | with_reducible replace hb := n3 hb | with_reducible replace hb := n4 hb | with_reducible replace hb := n5 hb | with_reducible replace hb := n6 hb | replace hb := n1 hb | replace hb := n2 hb | replace hb := n3 hb | replace hb := n4 hb | replace hb := n5 hb | replace hb := n6 hb | skip
      refine wp_skip ?_
      refine then_k hK ?_; clear hK; clear K
      refine wp_seq_k ?_; intro K hK
      have hf : ¬ (b.length % 72 ≠ 0 ∨ 8064 < b.length) := by omega
      refine region_list ?_
      refine list_pure E rfl rfl (by decide) (rn_assign E rfl rfl) ?_; clear E a; intro a E
      refine wpList_nil ?_
      refine then_k hK ?_; clear hK; clear K
      refine wp_seq_k ?_; intro K hK
      refine wp_seq_k ?_; intro K hK
      refine region_list ?_
      refine list_pure E rfl rfl (by decide) (rn_assign E rfl rfl) ?_; clear E a; intro a E
      refine wpList_nil ?_
      refine then_k hK ?_; clear hK; clear K
      refine wp_block ?_
      refine wp_loop_ghost (fun (m : Nat) (a : Act) (w' : World) => ∃ (i : Nat) (vo : Value) (X : Chunk), m = b.length - i * 72 ∧ i * 72 ≤ b.length ∧ (∀ x ∈ chopN 72 b i, slotOk x = true) ∧ Buf X 48 11 vo ((chopN 72 b i).map sltAt).length (((chopN 72 b i).map sltAt).flatMap Slt.lay) ∧ St w0 [O] w' [X, O] ∧ Fr a 97 [(0, .slice ad b.length c), (4, vo), (5, .int .i64 (i * 72 : Nat))]) (b.length - 0 * 72) ?_ ?_
      · exact ⟨0, _, [], rfl, by omega, by simp [chopN], Buf.nil _ _, S, E.keep (keep_cons rfl (keep_cons rfl (keep_cons rfl keep_nil)))⟩
      clear E; clear a; rintro m a w ⟨i, vo, X, rfl, hi, hgood, hX, S, E⟩
      refine wp_seq_k ?_; intro K hK
      refine wp_seq_k ?_; intro K hK
      refine region_list ?_
      refine list_pure E rfl rfl (by decide) (rn_move E rfl rfl) ?_; clear E a; intro a E
      refine list_pure E rfl rfl (by decide) (rn_move E rfl rfl) ?_; clear E a; intro a E
      refine list_pure E rfl rfl (by decide) (by first | exact rn_len E rfl rfl rfl | exact rn_len_str E rfl rfl rfl | exact rn_len_string E rfl rfl rfl) ?_; clear E a; intro a E
      refine list_pure E rfl rfl (by decide) (rn_lss E rfl rfl rfl) ?_; clear E a; intro a E
      refine wpList_nil ?_
      refine then_k hK ?_; clear hK; clear K
      refine if_bool E rfl (fun hb => ?_) (fun hb => ?_)
      · first | with_reducible replace hb := n1 hb | with_reducible replace hb := n2 hb | with_reducible replace hb := n3 hb | with_reducible replace hb := n4 hb | with_reducible replace hb := n5 hb | with_reducible replace hb := n6 hb | replace hb := n1 hb | replace hb := n2 hb | replace hb := n3 hb | replace hb := n4 hb | replace hb := n5 hb | replace hb := n6 hb | skip
        refine wp_skip ?_
        refine then_k hK ?_; clear hK; clear K
        refine wp_seq_k ?_; intro K hK
        refine wp_block ?_
        refine wp_seq_k ?_; intro K hK
        have hib : i * 72 + 72 ≤ b.length := by omega
        obtain ⟨q, hq⟩ : ∃ q, q = i * 72 := ⟨_, rfl⟩
        rw [← hq] at E hib hi
        obtain ⟨P, hP⟩ : ∃ P, P = (b.drop q).take 72 := ⟨_, rfl⟩
        obtain ⟨g, off, rfl⟩ := hO.addr (by omega)
        have hPl : P.length = 72 := by rw [hP, List.length_take, List.length_drop]; omega
        refine region_list ?_
        refine list_pure E rfl rfl (by decide) (rn_move E rfl rfl) ?_; clear E a; intro a E
        refine list_pure E rfl rfl (by decide) (rn_move E rfl rfl) ?_; clear E a; intro a E
        refine list_pure E rfl rfl (by decide) (rn_add E rfl rfl rfl (by first | exact wa_lit (y := 4) (by omega) | exact w_in (by omega) | exact w_inu (by omega) | exact rfl)) ?_; clear E a; intro a E
        refine list_pure E rfl rfl (by decide) (rn_move E rfl rfl) ?_; clear E a; intro a E
        refine list_pure E rfl rfl (by decide) (rn_add E rfl rfl rfl (by first | exact wa_lit (y := 8) (by omega) | exact w_in (by omega) | exact w_inu (by omega) | exact rfl)) ?_; clear E a; intro a E
        refine list_pure E rfl rfl (by decide) (rn_slice_lh (s := 1) (lo := q + 4) (hi := q + 8) E rfl rfl rfl rfl rfl rfl rfl rfl (by omega) (by omega)) ?_; clear E a; intro a E
        have hR1 : Rd O 1 (sliced (some ⟨g, off, none⟩) (q + 4) (q + 8) c 1) ((P.drop 4).take 4).length (byt ((P.drop 4).take 4)) := by
          have h := hO.bytes (lo := q + 4) (hi := q + 8) (mx := c) (by omega) (by omega) (by omega)
          rw [show q + 8 - (q + 4) = 4 by omega] at h
          rw [hP, sub_take b (by omega)]; exact h
        refine list_call E rfl rfl (by decide) rfl Try.func53 rfl (by kernel_rfl) rfl (uopen_ret O _ ((P.drop 4).take 4) _ hR1 (S.hp.sel (sel_cons (by first | exact pk1 | exact pk2 | exact pk3 | exact pk4 | exact pk5 | exact pk6 | exact pk7 | exact pk8 | exact pk9) (sel_nil _))) (by rw [List.length_take]; omega)) ?_
        rintro v32 w ⟨p, A, rfl, hA, hT⟩; clear E a; intro a E
        have S := S.call2 (sel_cons (by first | exact pk1 | exact pk2 | exact pk3 | exact pk4 | exact pk5 | exact pk6 | exact pk7 | exact pk8 | exact pk9) (sel_nil _)) hT
        refine list_pure E rfl rfl (by decide) (rn_assign E rfl rfl) ?_; clear E a; intro a E
        refine wpList_nil ?_
        refine then_k hK ?_; clear hK; clear K
        refine wp_seq_k ?_; intro K hK
        refine region_list ?_
        refine list_pure E rfl rfl (by decide) (rn_move E rfl rfl) ?_; clear E a; intro a E
        refine list_pure E rfl rfl (by decide) (rn_move E rfl rfl) ?_; clear E a; intro a E
        refine list_pure E rfl rfl (by decide) (rn_add E rfl rfl rfl (by first | exact wa_lit (y := 8) (by omega) | exact w_in (by omega) | exact w_inu (by omega) | exact rfl)) ?_; clear E a; intro a E
        refine list_pure E rfl rfl (by decide) (rn_move E rfl rfl) ?_; clear E a; intro a E
        refine list_pure E rfl rfl (by decide) (rn_add E rfl rfl rfl (by first | exact wa_lit (y := 72) (by omega) | exact w_in (by omega) | exact w_inu (by omega) | exact rfl)) ?_; clear E a; intro a E
        refine list_pure E rfl rfl (by decide) (rn_slice_lh (s := 1) (lo := q + 8) (hi := q + 72) E rfl rfl rfl rfl rfl rfl rfl rfl (by omega) (by omega)) ?_; clear E a; intro a E
        have hR2 : Rd O 1 (sliced (some ⟨g, off, none⟩) (q + 8) (q + 72) c 1) ((P.drop 8).take 64).length (byt ((P.drop 8).take 64)) := by
          have h := hO.bytes (lo := q + 8) (hi := q + 72) (mx := c) (by omega) (by omega) (by omega)
          rw [show q + 72 - (q + 8) = 64 by omega] at h
          rw [hP, sub_take b (by omega)]; exact h
        refine list_call E rfl rfl (by decide) rfl Try.func39 rfl (by kernel_rfl) rfl (dptdecode_ret O _ ((P.drop 8).take 64) hR2 (by rw [List.length_take]; omega) _ (S.hp.sel (sel_cons (by first | exact pk1 | exact pk2 | exact pk3 | exact pk4 | exact pk5 | exact pk6 | exact pk7 | exact pk8 | exact pk9) (sel_nil _)))) ?_
        rintro v40 w ⟨rfl, hT⟩; clear E a; intro a E
        have S := S.call1 (sel_cons (by first | exact pk1 | exact pk2 | exact pk3 | exact pk4 | exact pk5 | exact pk6 | exact pk7 | exact pk8 | exact pk9) (sel_nil _)) hT; obtain ⟨ze, hze⟩ : ∃ z, z = ptdecE ((P.drop 8).take 64) := ⟨_, rfl⟩; obtain ⟨zp, hzp⟩ : ∃ z, z = ptdec ((P.drop 8).take 64) := ⟨_, rfl⟩; rw [← hze, ← hzp] at E
        refine list_pure E rfl rfl (by decide) (rn_move E rfl rfl) ?_; clear E a; intro a E
        refine list_pure E rfl rfl (by decide) (rn_extract E rfl rfl rfl) ?_; clear E a; intro a E
        refine list_pure E rfl rfl (by decide) (rn_extract E rfl rfl rfl) ?_; clear E a; intro a E
        refine list_wp rfl (wp_alloc E S rfl rfl (by decide) rfl rfl rfl ?_); clear E S a; intro a w b7 E S
        refine list_wp rfl (wp_storeN E S rfl rfl rfl rfl (by simp [Value.oneCell']) rfl (by first | exact pk1 | exact pk2 | exact pk3 | exact pk4 | exact pk5 | exact pk6 | exact pk7 | exact pk8 | exact pk9) (by simp) ?_); clear E S a; intro a w E S; simp only [List.take_succ_cons, List.take_zero, List.drop_succ_cons, List.drop_zero, List.cons_append, List.nil_append, List.append_nil, List.length_cons, List.length_nil, Nat.zero_add, Nat.add_zero] at S
        refine list_pure E rfl rfl (by decide) (rn_assign E rfl rfl) ?_; clear E a; intro a E
        refine wpList_nil ?_
        refine then_k hK ?_; clear hK; clear K
        refine wp_seq_k ?_; intro K hK
        have hbn (j : Nat) (hj : j < 72) : (((b[q + j]'(by omega)).toNat : Nat) : Int) = ((nm P j 1 : Nat) : Int) := by rw [hP, nm_sub b (by omega), nm_one b (by omega)]
        obtain ⟨nu, hnu⟩ : ∃ z, z = nm P 0 1 := ⟨_, rfl⟩
        obtain ⟨z1, hz1⟩ : ∃ z, z = nm P 1 1 := ⟨_, rfl⟩
        obtain ⟨z2, hz2⟩ : ∃ z, z = nm P 2 1 := ⟨_, rfl⟩
        obtain ⟨z3, hz3⟩ : ∃ z, z = nm P 3 1 := ⟨_, rfl⟩
        obtain ⟨z4, hz4⟩ : ∃ z, z = nm P 4 4 := ⟨_, rfl⟩
        have hz4l : z4 < 4294967296 := by have := nm_lt P 4 4; rw [p4] at this; omega
        have hb0 : (((b[q]'(by omega)).toNat : Nat) : Int) = (nu : Int) := by rw [hnu]; exact hbn 0 (by omega)
        have hb1 := hbn 1 (by omega)
        have hb2 := hbn 2 (by omega)
        have hb3 := hbn 3 (by omega)
        rw [← hz1] at hb1
        rw [← hz2] at hb2
        rw [← hz3] at hb3
        have hnum : (Rdr.mk ((P.drop 4).take 4) 0 0).num 4 = (z4, ⟨(P.drop 4).take 4, 4, 0⟩) := by
          have h := rnum_at ((P.drop 4).take 4) (q := 0) (k := 4) (by omega) (by omega) (by rw [List.length_take, List.length_drop]; omega)
          rw [List.drop_zero, List.take_take, Nat.min_self] at h
          rw [hz4]; exact h
        refine wp_join (fun (a : Act) (w' : World) => ∃ b9 Ls, St w0 [O] w' ([(b9, cel (Slt.lay ⟨(nu : Int) == 1, z4, zp⟩) 48)] :: X :: O :: Ls) ∧ Fr a 97 [(0, .slice (some ⟨g, off, none⟩) b.length c), (4, vo), (5, .int .i64 q), (8, .int .i64 ze), (9, ptr b9)]) ?_ ?_
        · skip
          refine region_mix S (.cons (0, 0) (.cons (1, 0) (.cons (2, 0) (.cons (3, 0) (.cons (4, 0) (.cons (5, 0) (.cons (8, 0) (.fork 6 (.ofL [(7, 0), (9, 0), (10, 1), (11, 3)]) 10 (.ofL [(6, 1), (7, 0), (9, 0), (11, 3)]))))))))) [[(b7, cel [.int .i64 zp.top, .int .i64 zp.at_, .int .i64 zp.bytes, .int .u64 zp.birth, .int .i64 zp.kind, .int .u64 zp.a, .int .u64 zp.b, .int .u64 zp.c, .int .u64 zp.d] 40)], O] (fun h => h.sub (by first | (simp; done) | (simp +contextual; done))) (by kernel_rfl) (by kernel_rfl) ?_
          clear S; intro w S
          refine mix_pure E rfl rfl rfl (by decide) (fun w h => rn_move E rfl rfl) ?_; clear E a; intro a E
          refine mix_pure E rfl rfl rfl (by decide) (fun w h => rn_move E rfl rfl) ?_; clear E a; intro a E
          refine mix_pure E rfl rfl rfl (by decide) (fun w h => by first | exact rn_indexAddr1 E rfl rfl rfl rfl rfl rfl (by omega) | exact rn_indexAddr E rfl rfl rfl rfl rfl rfl (by omega) | exact rn_indexAddr_array E rfl rfl rfl rfl rfl rfl (by omega)) ?_; clear E a; intro a E
          refine mix_pure E rfl rfl rfl (by decide) (fun w h => rn_loadc E rfl rfl rfl (hO.byte (h.at (by first | exact mm1 | exact mm2 | exact mm3 | exact mm4 | exact mm5 | exact mm6 | exact mm7 | exact mm8)) (i := q) (by omega))) ?_; clear E a; intro a E
          rw [hb0] at E
          refine mix_pure E rfl rfl rfl (by decide) (fun w h => by first | exact rn_eql E rfl rfl rfl | exact rn_eql_ptr_nil E rfl rfl rfl rfl | exact rn_eql_bool E rfl rfl rfl rfl | exact rn_eql_string E rfl rfl rfl) ?_; clear E a; intro a E
          refine mix_pure E rfl rfl rfl (by decide) (fun w h => rn_move E rfl rfl) ?_; clear E a; intro a E
          refine mix_pure E rfl rfl rfl (by decide) (fun w h => rn_load_blk (vs := [_, _, _, _, _, _, _, _, _]) E rfl rfl rfl (h.one (by first | exact mm1 | exact mm2 | exact mm3 | exact mm4 | exact mm5 | exact mm6 | exact mm7 | exact mm8)) rfl rfl) ?_; clear E a; intro a E
          refine ⟨?_, ?_⟩
          · skip
            refine mix_call E rfl rfl rfl (by decide) rfl Try.func54 rfl (by kernel_rfl) rfl (unum_ret p _ A _ hA (S.hp.sel (sel_cons (by first | exact pk1 | exact pk2 | exact pk3 | exact pk4 | exact pk5 | exact pk6 | exact pk7 | exact pk8 | exact pk9) (sel_nil _))) 4) ?_
            rintro v49 w ⟨A1, rfl, -, hT⟩; clear E a; intro a E
            have S := S.call1 (sel_cons (by first | exact pk1 | exact pk2 | exact pk3 | exact pk4 | exact pk5 | exact pk6 | exact pk7 | exact pk8 | exact pk9) (sel_nil _)) hT; rw [hnum] at E
            refine ⟨S.stab.sub (by first | (simp; done) | (simp +contextual; done)), ?_⟩
            refine mix_pure E rfl rfl rfl (by decide) (fun w h => rn_convert E rfl rfl rfl rfl (w_nat (by omega))) ?_; clear E a; intro a E
            refine mix_pure E rfl rfl rfl (by decide) (fun w h => rn_build (cells := [_, _, _, _, _, _, _, _, _, _, _]) E rfl rfl rfl) ?_; clear E a; intro a E
            refine mix_act rfl rfl (wp_alloc E S rfl rfl (by decide) rfl rfl rfl ?_); clear E S a; intro a w b9 E S; refine ⟨S.stab.sub (by first | (simp; done) | (simp +contextual; done)), ?_⟩
            refine mix_last rfl rfl (wp_storeN E S rfl rfl rfl rfl (by simp [Value.oneCell']) rfl (by first | exact pk1 | exact pk2 | exact pk3 | exact pk4 | exact pk5 | exact pk6 | exact pk7 | exact pk8 | exact pk9) (by simp) ?_); clear E S a; intro a w E S; simp only [List.take_succ_cons, List.take_zero, List.drop_succ_cons, List.drop_zero, List.cons_append, List.nil_append, List.append_nil, List.length_cons, List.length_nil, Nat.zero_add, Nat.add_zero] at S
            refine mix_nil ?_
            refine joined_here ?_
            exact ⟨_, _, S.front3 (by first | exact pk1 | exact pk2 | exact pk3 | exact pk4 | exact pk5 | exact pk6 | exact pk7 | exact pk8 | exact pk9) (B := X) (by first | exact pk1 | exact pk2 | exact pk3 | exact pk4 | exact pk5 | exact pk6 | exact pk7 | exact pk8 | exact pk9) (C := O) (by first | exact pk1 | exact pk2 | exact pk3 | exact pk4 | exact pk5 | exact pk6 | exact pk7 | exact pk8 | exact pk9), E.keep (keep_cons rfl (keep_cons rfl (keep_cons rfl (keep_cons rfl (keep_cons rfl keep_nil)))))⟩
          · skip
            refine mix_act rfl rfl (wp_alloc E S rfl rfl (by decide) rfl rfl rfl ?_); clear E S a; intro a w b9 E S; refine ⟨S.stab.sub (by first | (simp; done) | (simp +contextual; done)), ?_⟩
            refine mix_call E rfl rfl rfl (by decide) rfl Try.func54 rfl (by kernel_rfl) rfl (unum_ret p _ A _ hA (S.hp.sel (sel_cons (by first | exact pk1 | exact pk2 | exact pk3 | exact pk4 | exact pk5 | exact pk6 | exact pk7 | exact pk8 | exact pk9) (sel_nil _))) 4) ?_
            rintro v49 w ⟨A1, rfl, -, hT⟩; clear E a; intro a E
            have S := S.call1 (sel_cons (by first | exact pk1 | exact pk2 | exact pk3 | exact pk4 | exact pk5 | exact pk6 | exact pk7 | exact pk8 | exact pk9) (sel_nil _)) hT; rw [hnum] at E
            refine ⟨S.stab.sub (by first | (simp; done) | (simp +contextual; done)), ?_⟩
            refine mix_pure E rfl rfl rfl (by decide) (fun w h => rn_convert E rfl rfl rfl rfl (w_nat (by omega))) ?_; clear E a; intro a E
            refine mix_pure E rfl rfl rfl (by decide) (fun w h => rn_build (cells := [_, _, _, _, _, _, _, _, _, _, _]) E rfl rfl rfl) ?_; clear E a; intro a E
            refine mix_last rfl rfl (wp_storeN E S rfl rfl rfl rfl (by simp [Value.oneCell']) rfl (by first | exact pk1 | exact pk2 | exact pk3 | exact pk4 | exact pk5 | exact pk6 | exact pk7 | exact pk8 | exact pk9) (by simp) ?_); clear E S a; intro a w E S; simp only [List.take_succ_cons, List.take_zero, List.drop_succ_cons, List.drop_zero, List.cons_append, List.nil_append, List.append_nil, List.length_cons, List.length_nil, Nat.zero_add, Nat.add_zero] at S
            refine mix_nil ?_
            refine joined_here ?_
            exact ⟨_, _, S.front3 (by first | exact pk1 | exact pk2 | exact pk3 | exact pk4 | exact pk5 | exact pk6 | exact pk7 | exact pk8 | exact pk9) (B := X) (by first | exact pk1 | exact pk2 | exact pk3 | exact pk4 | exact pk5 | exact pk6 | exact pk7 | exact pk8 | exact pk9) (C := O) (by first | exact pk1 | exact pk2 | exact pk3 | exact pk4 | exact pk5 | exact pk6 | exact pk7 | exact pk8 | exact pk9), E.keep (keep_cons rfl (keep_cons rfl (keep_cons rfl (keep_cons rfl (keep_cons rfl keep_nil)))))⟩
        · clear E S a; intro a w J; obtain ⟨b9, Ls, S, E⟩ := J
          refine then_k hK ?_; clear hK; clear K
          refine wp_seq_k ?_; intro K hK
          refine region_list ?_
          refine list_pure E rfl rfl (by decide) (rn_load_blk (vs := [_, _, _, _, _, _, _, _, _, _, _]) E rfl rfl rfl (S.get (by first | exact pk1 | exact pk2 | exact pk3 | exact pk4 | exact pk5 | exact pk6 | exact pk7 | exact pk8 | exact pk9)) rfl rfl) ?_; clear E a; intro a E
          refine list_call E rfl rfl (by decide) rfl Try.func46 rfl (by kernel_rfl) rfl (dmaysl_ret ⟨(nu : Int) == 1, z4, zp⟩ _) ?_
          rintro v54 w ⟨rfl, hT⟩; clear E a; intro a E
          have S := S.quiet hT; obtain ⟨zm, hzm⟩ : ∃ z, z = maySB ⟨(nu : Int) == 1, z4, zp⟩ := ⟨_, rfl⟩; rw [← hzm] at E
          refine list_pure E rfl rfl (by decide) (rn_assign E rfl rfl) ?_; clear E a; intro a E
          refine wpList_nil ?_
          refine then_k hK ?_; clear hK; clear K
          refine wp_seq_k ?_; intro K hK
          refine wp_seq_k ?_; intro K hK
          have hst : sltAt P = ⟨(nu : Int) == 1, z4, zp⟩ := by rw [sltAt, ← hnu, ← hz4, ← hzp]
          have hs : slotOk P = decide (ze = 0 ∧ zm = true ∧ nu ≤ 1 ∧ z1 = 0 ∧ z2 = 0 ∧ z3 = 0) := by rw [slotOk, hst, ← hze, ← hzm, ← hnu, ← hz1, ← hz2, ← hz3]
          refine region_list ?_
          refine list_pure E rfl rfl (by decide) (rn_move E rfl rfl) ?_; clear E a; intro a E
          refine list_pure E rfl rfl (by decide) (by first | exact rn_neq E rfl rfl rfl | exact rn_neq_ptr_nil E rfl rfl rfl rfl | exact rn_neq_bool E rfl rfl rfl rfl | exact rn_neq_string E rfl rfl rfl) ?_; clear E a; intro a E
          refine list_pure E rfl rfl (by decide) (rn_move E rfl rfl) ?_; clear E a; intro a E
          refine guard_split E (t := 57) rfl (fun hb57 => ?_) (fun hb57 => ?_)
          · have hb57n := hb57; first | with_reducible replace hb57n := n1 hb57n | with_reducible replace hb57n := n2 hb57n | with_reducible replace hb57n := n3 hb57n | with_reducible replace hb57n := n4 hb57n | with_reducible replace hb57n := n5 hb57n | with_reducible replace hb57n := n6 hb57n | replace hb57n := n1 hb57n | replace hb57n := n2 hb57n | replace hb57n := n3 hb57n | replace hb57n := n4 hb57n | replace hb57n := n5 hb57n | replace hb57n := n6 hb57n | skip
            refine list_guard_no E rfl rfl rfl rfl hb57 rfl (by decide) ?_; clear E a; intro a E
            refine list_guard_no E rfl rfl rfl rfl hb57 rfl (by decide) ?_; clear E a; intro a E
            refine list_pure E rfl rfl (by decide) (rn_pick_yes' E rfl rfl hb57 rfl) ?_; clear E a; intro a E
            refine list_pure E rfl rfl (by decide) (rn_move E rfl rfl) ?_; clear E a; intro a E
            refine list_guard_no E rfl rfl rfl rfl rfl rfl (by decide) ?_; clear E a; intro a E
            refine list_guard_no E rfl rfl rfl rfl rfl rfl (by decide) ?_; clear E a; intro a E
            refine list_guard_no E rfl rfl rfl rfl rfl rfl (by decide) ?_; clear E a; intro a E
            refine list_guard_no E rfl rfl rfl rfl rfl rfl (by decide) ?_; clear E a; intro a E
            refine list_guard_no E rfl rfl rfl rfl rfl rfl (by decide) ?_; clear E a; intro a E
            refine list_pure E rfl rfl (by decide) (rn_pick_yes' E rfl rfl rfl rfl) ?_; clear E a; intro a E
            refine list_pure E rfl rfl (by decide) (rn_move E rfl rfl) ?_; clear E a; intro a E
            refine list_guard_no E rfl rfl rfl rfl rfl rfl (by decide) ?_; clear E a; intro a E
            refine list_guard_no E rfl rfl rfl rfl rfl rfl (by decide) ?_; clear E a; intro a E
            refine list_guard_no E rfl rfl rfl rfl rfl rfl (by decide) ?_; clear E a; intro a E
            refine list_guard_no E rfl rfl rfl rfl rfl rfl (by decide) ?_; clear E a; intro a E
            refine list_guard_no E rfl rfl rfl rfl rfl rfl (by decide) ?_; clear E a; intro a E
            refine list_guard_no E rfl rfl rfl rfl rfl rfl (by decide) ?_; clear E a; intro a E
            refine list_pure E rfl rfl (by decide) (rn_pick_yes' E rfl rfl rfl rfl) ?_; clear E a; intro a E
            refine list_pure E rfl rfl (by decide) (rn_move E rfl rfl) ?_; clear E a; intro a E
            refine list_guard_no E rfl rfl rfl rfl rfl rfl (by decide) ?_; clear E a; intro a E
            refine list_guard_no E rfl rfl rfl rfl rfl rfl (by decide) ?_; clear E a; intro a E
            refine list_guard_no E rfl rfl rfl rfl rfl rfl (by decide) ?_; clear E a; intro a E
            refine list_guard_no E rfl rfl rfl rfl rfl rfl (by decide) ?_; clear E a; intro a E
            refine list_guard_no E rfl rfl rfl rfl rfl rfl (by decide) ?_; clear E a; intro a E
            refine list_guard_no E rfl rfl rfl rfl rfl rfl (by decide) ?_; clear E a; intro a E
            refine list_pure E rfl rfl (by decide) (rn_pick_yes' E rfl rfl rfl rfl) ?_; clear E a; intro a E
            refine list_pure E rfl rfl (by decide) (rn_move E rfl rfl) ?_; clear E a; intro a E
            refine list_guard_no E rfl rfl rfl rfl rfl rfl (by decide) ?_; clear E a; intro a E
            refine list_guard_no E rfl rfl rfl rfl rfl rfl (by decide) ?_; clear E a; intro a E
            refine list_guard_no E rfl rfl rfl rfl rfl rfl (by decide) ?_; clear E a; intro a E
            refine list_guard_no E rfl rfl rfl rfl rfl rfl (by decide) ?_; clear E a; intro a E
            refine list_guard_no E rfl rfl rfl rfl rfl rfl (by decide) ?_; clear E a; intro a E
            refine list_guard_no E rfl rfl rfl rfl rfl rfl (by decide) ?_; clear E a; intro a E
            refine list_pure E rfl rfl (by decide) (rn_pick_yes' E rfl rfl rfl rfl) ?_; clear E a; intro a E
            refine wpList_nil ?_
            refine then_k hK ?_; clear hK; clear K
            refine if_true' E rfl rfl ?_
            refine wp_seq_k ?_; intro K hK
            refine region_list ?_
            refine list_pure E rfl rfl (by decide) (rn_assign E rfl rfl) ?_; clear E a; intro a E
            refine list_pure E rfl rfl (by decide) (rn_assign E rfl rfl) ?_; clear E a; intro a E
            refine wpList_nil ?_
            refine then_k hK ?_; clear hK; clear K
            refine wp_ret ?_
            refine then_ret ?_; clear hK; clear K
            refine in_ret ?_
            refine then_ret ?_; clear hK; clear K
            refine then_ret ?_
            refine in_ret ?_
            refine then_ret ?_; clear hK; clear K
            refine ret2 E rfl rfl rfl ?_
            have hlt : i < (chop 72 b).length := by rw [chop_length]; have := nch_cover b.length (k := 72) (by omega); omega
            have hPm : P ∈ chop 72 b := by have := chop_at hlt; rw [← hq, ← hP] at this; rw [← this]; exact List.getElem_mem hlt
            obtain ⟨q1, q2⟩ := slts_bad (b := b) hPm (by rw [hs, decide_eq_false_iff_not]; rintro ⟨h1, h2, h3, h4, h5, h6⟩; first | omega | (have := h2; simp [this] at hb61n) | exact absurd h2 (by simpa using hb61))
            exact ⟨_, rfl, _, [], by rw [q1], by rw [q2]; exact Buf.nil _ _, (S.only (Bs := [O]) (sel_cons (by first | exact pk1 | exact pk2 | exact pk3 | exact pk4 | exact pk5 | exact pk6 | exact pk7 | exact pk8 | exact pk9) (sel_nil _))).addNil.tr⟩
          · have hb57n := hb57; first | with_reducible replace hb57n := n1 hb57n | with_reducible replace hb57n := n2 hb57n | with_reducible replace hb57n := n3 hb57n | with_reducible replace hb57n := n4 hb57n | with_reducible replace hb57n := n5 hb57n | with_reducible replace hb57n := n6 hb57n | replace hb57n := n1 hb57n | replace hb57n := n2 hb57n | replace hb57n := n3 hb57n | replace hb57n := n4 hb57n | replace hb57n := n5 hb57n | replace hb57n := n6 hb57n | skip
            refine list_guard_yes E rfl rfl rfl rfl hb57 rfl (by decide) (rn_move E rfl rfl) ?_; clear E a; intro a E
            refine list_guard_yes E rfl rfl rfl rfl hb57 rfl (by decide) (rn_not E rfl rfl) ?_; clear E a; intro a E
            refine list_pure E rfl rfl (by decide) (rn_pick_no' E rfl rfl hb57 rfl) ?_; clear E a; intro a E
            refine list_pure E rfl rfl (by decide) (rn_move E rfl rfl) ?_; clear E a; intro a E
            refine guard_split E (t := 61) rfl (fun hb61 => ?_) (fun hb61 => ?_)
            · have hb61n := hb61; first | with_reducible replace hb61n := n1 hb61n | with_reducible replace hb61n := n2 hb61n | with_reducible replace hb61n := n3 hb61n | with_reducible replace hb61n := n4 hb61n | with_reducible replace hb61n := n5 hb61n | with_reducible replace hb61n := n6 hb61n | replace hb61n := n1 hb61n | replace hb61n := n2 hb61n | replace hb61n := n3 hb61n | replace hb61n := n4 hb61n | replace hb61n := n5 hb61n | replace hb61n := n6 hb61n | skip
              refine list_guard_no E rfl rfl rfl rfl hb61 rfl (by decide) ?_; clear E a; intro a E
              refine list_guard_no E rfl rfl rfl rfl hb61 rfl (by decide) ?_; clear E a; intro a E
              refine list_guard_no E rfl rfl rfl rfl hb61 rfl (by decide) ?_; clear E a; intro a E
              refine list_guard_no E rfl rfl rfl rfl hb61 rfl (by decide) ?_; clear E a; intro a E
              refine list_guard_no E rfl rfl rfl rfl hb61 rfl (by decide) ?_; clear E a; intro a E
              refine list_pure E rfl rfl (by decide) (rn_pick_yes' E rfl rfl hb61 rfl) ?_; clear E a; intro a E
              refine list_pure E rfl rfl (by decide) (rn_move E rfl rfl) ?_; clear E a; intro a E
              refine list_guard_no E rfl rfl rfl rfl rfl rfl (by decide) ?_; clear E a; intro a E
              refine list_guard_no E rfl rfl rfl rfl rfl rfl (by decide) ?_; clear E a; intro a E
              refine list_guard_no E rfl rfl rfl rfl rfl rfl (by decide) ?_; clear E a; intro a E
              refine list_guard_no E rfl rfl rfl rfl rfl rfl (by decide) ?_; clear E a; intro a E
              refine list_guard_no E rfl rfl rfl rfl rfl rfl (by decide) ?_; clear E a; intro a E
              refine list_guard_no E rfl rfl rfl rfl rfl rfl (by decide) ?_; clear E a; intro a E
              refine list_pure E rfl rfl (by decide) (rn_pick_yes' E rfl rfl rfl rfl) ?_; clear E a; intro a E
              refine list_pure E rfl rfl (by decide) (rn_move E rfl rfl) ?_; clear E a; intro a E
              refine list_guard_no E rfl rfl rfl rfl rfl rfl (by decide) ?_; clear E a; intro a E
              refine list_guard_no E rfl rfl rfl rfl rfl rfl (by decide) ?_; clear E a; intro a E
              refine list_guard_no E rfl rfl rfl rfl rfl rfl (by decide) ?_; clear E a; intro a E
              refine list_guard_no E rfl rfl rfl rfl rfl rfl (by decide) ?_; clear E a; intro a E
              refine list_guard_no E rfl rfl rfl rfl rfl rfl (by decide) ?_; clear E a; intro a E
              refine list_guard_no E rfl rfl rfl rfl rfl rfl (by decide) ?_; clear E a; intro a E
              refine list_pure E rfl rfl (by decide) (rn_pick_yes' E rfl rfl rfl rfl) ?_; clear E a; intro a E
              refine list_pure E rfl rfl (by decide) (rn_move E rfl rfl) ?_; clear E a; intro a E
              refine list_guard_no E rfl rfl rfl rfl rfl rfl (by decide) ?_; clear E a; intro a E
              refine list_guard_no E rfl rfl rfl rfl rfl rfl (by decide) ?_; clear E a; intro a E
              refine list_guard_no E rfl rfl rfl rfl rfl rfl (by decide) ?_; clear E a; intro a E
              refine list_guard_no E rfl rfl rfl rfl rfl rfl (by decide) ?_; clear E a; intro a E
              refine list_guard_no E rfl rfl rfl rfl rfl rfl (by decide) ?_; clear E a; intro a E
              refine list_guard_no E rfl rfl rfl rfl rfl rfl (by decide) ?_; clear E a; intro a E
              refine list_pure E rfl rfl (by decide) (rn_pick_yes' E rfl rfl rfl rfl) ?_; clear E a; intro a E
              refine wpList_nil ?_
              refine then_k hK ?_; clear hK; clear K
              refine if_true' E rfl rfl ?_
              refine wp_seq_k ?_; intro K hK
              refine region_list ?_
              refine list_pure E rfl rfl (by decide) (rn_assign E rfl rfl) ?_; clear E a; intro a E
              refine list_pure E rfl rfl (by decide) (rn_assign E rfl rfl) ?_; clear E a; intro a E
              refine wpList_nil ?_
              refine then_k hK ?_; clear hK; clear K
              refine wp_ret ?_
              refine then_ret ?_; clear hK; clear K
              refine in_ret ?_
              refine then_ret ?_; clear hK; clear K
              refine then_ret ?_
              refine in_ret ?_
              refine then_ret ?_; clear hK; clear K
              refine ret2 E rfl rfl rfl ?_
              have hlt : i < (chop 72 b).length := by rw [chop_length]; have := nch_cover b.length (k := 72) (by omega); omega
              have hPm : P ∈ chop 72 b := by have := chop_at hlt; rw [← hq, ← hP] at this; rw [← this]; exact List.getElem_mem hlt
              obtain ⟨q1, q2⟩ := slts_bad (b := b) hPm (by rw [hs, decide_eq_false_iff_not]; rintro ⟨h1, h2, h3, h4, h5, h6⟩; first | omega | (have := h2; simp [this] at hb61n) | exact absurd h2 (by simpa using hb61))
              exact ⟨_, rfl, _, [], by rw [q1], by rw [q2]; exact Buf.nil _ _, (S.only (Bs := [O]) (sel_cons (by first | exact pk1 | exact pk2 | exact pk3 | exact pk4 | exact pk5 | exact pk6 | exact pk7 | exact pk8 | exact pk9) (sel_nil _))).addNil.tr⟩
            · have hb61n := hb61; first | with_reducible replace hb61n := n1 hb61n | with_reducible replace hb61n := n2 hb61n | with_reducible replace hb61n := n3 hb61n | with_reducible replace hb61n := n4 hb61n | with_reducible replace hb61n := n5 hb61n | with_reducible replace hb61n := n6 hb61n | replace hb61n := n1 hb61n | replace hb61n := n2 hb61n | replace hb61n := n3 hb61n | replace hb61n := n4 hb61n | replace hb61n := n5 hb61n | replace hb61n := n6 hb61n | skip
              refine list_guard_yes E rfl rfl rfl rfl hb61 rfl (by decide) (rn_move E rfl rfl) ?_; clear E a; intro a E
              refine list_guard_yes E rfl rfl rfl rfl hb61 rfl (by decide) (rn_move E rfl rfl) ?_; clear E a; intro a E
              refine list_guard_yes E rfl rfl rfl rfl hb61 rfl (by decide) (by first | exact rn_indexAddr1 E rfl rfl rfl rfl rfl rfl (by omega) | exact rn_indexAddr E rfl rfl rfl rfl rfl rfl (by omega) | exact rn_indexAddr_array E rfl rfl rfl rfl rfl rfl (by omega)) ?_; clear E a; intro a E
              refine list_guard_yes E rfl rfl rfl rfl hb61 rfl (by decide) (rn_loadc E rfl rfl rfl (hO.byte (S.stab.at (by first | exact mm1 | exact mm2 | exact mm3 | exact mm4 | exact mm5 | exact mm6 | exact mm7 | exact mm8)) (i := q) (by omega))) ?_; clear E a; intro a E
              rw [hb0] at E
              refine list_guard_yes E rfl rfl rfl rfl hb61 rfl (by decide) (rn_gtr E rfl rfl rfl) ?_; clear E a; intro a E
              refine list_pure E rfl rfl (by decide) (rn_pick_no' E rfl rfl hb61 rfl) ?_; clear E a; intro a E
              refine list_pure E rfl rfl (by decide) (rn_move E rfl rfl) ?_; clear E a; intro a E
              refine guard_split E (t := 68) rfl (fun hb68 => ?_) (fun hb68 => ?_)
              · have hb68n := hb68; first | with_reducible replace hb68n := n1 hb68n | with_reducible replace hb68n := n2 hb68n | with_reducible replace hb68n := n3 hb68n | with_reducible replace hb68n := n4 hb68n | with_reducible replace hb68n := n5 hb68n | with_reducible replace hb68n := n6 hb68n | replace hb68n := n1 hb68n | replace hb68n := n2 hb68n | replace hb68n := n3 hb68n | replace hb68n := n4 hb68n | replace hb68n := n5 hb68n | replace hb68n := n6 hb68n | skip
                refine list_guard_no E rfl rfl rfl rfl hb68 rfl (by decide) ?_; clear E a; intro a E
                refine list_guard_no E rfl rfl rfl rfl hb68 rfl (by decide) ?_; clear E a; intro a E
                refine list_guard_no E rfl rfl rfl rfl hb68 rfl (by decide) ?_; clear E a; intro a E
                refine list_guard_no E rfl rfl rfl rfl hb68 rfl (by decide) ?_; clear E a; intro a E
                refine list_guard_no E rfl rfl rfl rfl hb68 rfl (by decide) ?_; clear E a; intro a E
                refine list_guard_no E rfl rfl rfl rfl hb68 rfl (by decide) ?_; clear E a; intro a E
                refine list_pure E rfl rfl (by decide) (rn_pick_yes' E rfl rfl hb68 rfl) ?_; clear E a; intro a E
                refine list_pure E rfl rfl (by decide) (rn_move E rfl rfl) ?_; clear E a; intro a E
                refine list_guard_no E rfl rfl rfl rfl rfl rfl (by decide) ?_; clear E a; intro a E
                refine list_guard_no E rfl rfl rfl rfl rfl rfl (by decide) ?_; clear E a; intro a E
                refine list_guard_no E rfl rfl rfl rfl rfl rfl (by decide) ?_; clear E a; intro a E
                refine list_guard_no E rfl rfl rfl rfl rfl rfl (by decide) ?_; clear E a; intro a E
                refine list_guard_no E rfl rfl rfl rfl rfl rfl (by decide) ?_; clear E a; intro a E
                refine list_guard_no E rfl rfl rfl rfl rfl rfl (by decide) ?_; clear E a; intro a E
                refine list_pure E rfl rfl (by decide) (rn_pick_yes' E rfl rfl rfl rfl) ?_; clear E a; intro a E
                refine list_pure E rfl rfl (by decide) (rn_move E rfl rfl) ?_; clear E a; intro a E
                refine list_guard_no E rfl rfl rfl rfl rfl rfl (by decide) ?_; clear E a; intro a E
                refine list_guard_no E rfl rfl rfl rfl rfl rfl (by decide) ?_; clear E a; intro a E
                refine list_guard_no E rfl rfl rfl rfl rfl rfl (by decide) ?_; clear E a; intro a E
                refine list_guard_no E rfl rfl rfl rfl rfl rfl (by decide) ?_; clear E a; intro a E
                refine list_guard_no E rfl rfl rfl rfl rfl rfl (by decide) ?_; clear E a; intro a E
                refine list_guard_no E rfl rfl rfl rfl rfl rfl (by decide) ?_; clear E a; intro a E
                refine list_pure E rfl rfl (by decide) (rn_pick_yes' E rfl rfl rfl rfl) ?_; clear E a; intro a E
                refine wpList_nil ?_
                refine then_k hK ?_; clear hK; clear K
                refine if_true' E rfl rfl ?_
                refine wp_seq_k ?_; intro K hK
                refine region_list ?_
                refine list_pure E rfl rfl (by decide) (rn_assign E rfl rfl) ?_; clear E a; intro a E
                refine list_pure E rfl rfl (by decide) (rn_assign E rfl rfl) ?_; clear E a; intro a E
                refine wpList_nil ?_
                refine then_k hK ?_; clear hK; clear K
                refine wp_ret ?_
                refine then_ret ?_; clear hK; clear K
                refine in_ret ?_
                refine then_ret ?_; clear hK; clear K
                refine then_ret ?_
                refine in_ret ?_
                refine then_ret ?_; clear hK; clear K
                refine ret2 E rfl rfl rfl ?_
                have hlt : i < (chop 72 b).length := by rw [chop_length]; have := nch_cover b.length (k := 72) (by omega); omega
                have hPm : P ∈ chop 72 b := by have := chop_at hlt; rw [← hq, ← hP] at this; rw [← this]; exact List.getElem_mem hlt
                obtain ⟨q1, q2⟩ := slts_bad (b := b) hPm (by rw [hs, decide_eq_false_iff_not]; rintro ⟨h1, h2, h3, h4, h5, h6⟩; first | omega | (have := h2; simp [this] at hb61n) | exact absurd h2 (by simpa using hb61))
                exact ⟨_, rfl, _, [], by rw [q1], by rw [q2]; exact Buf.nil _ _, (S.only (Bs := [O]) (sel_cons (by first | exact pk1 | exact pk2 | exact pk3 | exact pk4 | exact pk5 | exact pk6 | exact pk7 | exact pk8 | exact pk9) (sel_nil _))).addNil.tr⟩
              · have hb68n := hb68; first | with_reducible replace hb68n := n1 hb68n | with_reducible replace hb68n := n2 hb68n | with_reducible replace hb68n := n3 hb68n | with_reducible replace hb68n := n4 hb68n | with_reducible replace hb68n := n5 hb68n | with_reducible replace hb68n := n6 hb68n | replace hb68n := n1 hb68n | replace hb68n := n2 hb68n | replace hb68n := n3 hb68n | replace hb68n := n4 hb68n | replace hb68n := n5 hb68n | replace hb68n := n6 hb68n | skip
                refine list_guard_yes E rfl rfl rfl rfl hb68 rfl (by decide) (rn_move E rfl rfl) ?_; clear E a; intro a E
                refine list_guard_yes E rfl rfl rfl rfl hb68 rfl (by decide) (rn_move E rfl rfl) ?_; clear E a; intro a E
                refine list_guard_yes E rfl rfl rfl rfl hb68 rfl (by decide) (rn_add E rfl rfl rfl (by first | exact wa_lit (y := 1) (by omega) | exact w_in (by omega) | exact w_inu (by omega) | exact rfl)) ?_; clear E a; intro a E
                refine list_guard_yes E rfl rfl rfl rfl hb68 rfl (by decide) (by first | exact rn_indexAddr1 E rfl rfl rfl rfl rfl rfl (by omega) | exact rn_indexAddr E rfl rfl rfl rfl rfl rfl (by omega) | exact rn_indexAddr_array E rfl rfl rfl rfl rfl rfl (by omega)) ?_; clear E a; intro a E
                refine list_guard_yes E rfl rfl rfl rfl hb68 rfl (by decide) (rn_loadc E rfl rfl rfl (hO.byte (S.stab.at (by first | exact mm1 | exact mm2 | exact mm3 | exact mm4 | exact mm5 | exact mm6 | exact mm7 | exact mm8)) (i := q + 1) (by omega))) ?_; clear E a; intro a E
                rw [hb1] at E
                refine list_guard_yes E rfl rfl rfl rfl hb68 rfl (by decide) (by first | exact rn_neq E rfl rfl rfl | exact rn_neq_ptr_nil E rfl rfl rfl rfl | exact rn_neq_bool E rfl rfl rfl rfl | exact rn_neq_string E rfl rfl rfl) ?_; clear E a; intro a E
                refine list_pure E rfl rfl (by decide) (rn_pick_no' E rfl rfl hb68 rfl) ?_; clear E a; intro a E
                refine list_pure E rfl rfl (by decide) (rn_move E rfl rfl) ?_; clear E a; intro a E
                refine guard_split E (t := 76) rfl (fun hb76 => ?_) (fun hb76 => ?_)
                · have hb76n := hb76; first | with_reducible replace hb76n := n1 hb76n | with_reducible replace hb76n := n2 hb76n | with_reducible replace hb76n := n3 hb76n | with_reducible replace hb76n := n4 hb76n | with_reducible replace hb76n := n5 hb76n | with_reducible replace hb76n := n6 hb76n | replace hb76n := n1 hb76n | replace hb76n := n2 hb76n | replace hb76n := n3 hb76n | replace hb76n := n4 hb76n | replace hb76n := n5 hb76n | replace hb76n := n6 hb76n | skip
                  refine list_guard_no E rfl rfl rfl rfl hb76 rfl (by decide) ?_; clear E a; intro a E
                  refine list_guard_no E rfl rfl rfl rfl hb76 rfl (by decide) ?_; clear E a; intro a E
                  refine list_guard_no E rfl rfl rfl rfl hb76 rfl (by decide) ?_; clear E a; intro a E
                  refine list_guard_no E rfl rfl rfl rfl hb76 rfl (by decide) ?_; clear E a; intro a E
                  refine list_guard_no E rfl rfl rfl rfl hb76 rfl (by decide) ?_; clear E a; intro a E
                  refine list_guard_no E rfl rfl rfl rfl hb76 rfl (by decide) ?_; clear E a; intro a E
                  refine list_pure E rfl rfl (by decide) (rn_pick_yes' E rfl rfl hb76 rfl) ?_; clear E a; intro a E
                  refine list_pure E rfl rfl (by decide) (rn_move E rfl rfl) ?_; clear E a; intro a E
                  refine list_guard_no E rfl rfl rfl rfl rfl rfl (by decide) ?_; clear E a; intro a E
                  refine list_guard_no E rfl rfl rfl rfl rfl rfl (by decide) ?_; clear E a; intro a E
                  refine list_guard_no E rfl rfl rfl rfl rfl rfl (by decide) ?_; clear E a; intro a E
                  refine list_guard_no E rfl rfl rfl rfl rfl rfl (by decide) ?_; clear E a; intro a E
                  refine list_guard_no E rfl rfl rfl rfl rfl rfl (by decide) ?_; clear E a; intro a E
                  refine list_guard_no E rfl rfl rfl rfl rfl rfl (by decide) ?_; clear E a; intro a E
                  refine list_pure E rfl rfl (by decide) (rn_pick_yes' E rfl rfl rfl rfl) ?_; clear E a; intro a E
                  refine wpList_nil ?_
                  refine then_k hK ?_; clear hK; clear K
                  refine if_true' E rfl rfl ?_
                  refine wp_seq_k ?_; intro K hK
                  refine region_list ?_
                  refine list_pure E rfl rfl (by decide) (rn_assign E rfl rfl) ?_; clear E a; intro a E
                  refine list_pure E rfl rfl (by decide) (rn_assign E rfl rfl) ?_; clear E a; intro a E
                  refine wpList_nil ?_
                  refine then_k hK ?_; clear hK; clear K
                  refine wp_ret ?_
                  refine then_ret ?_; clear hK; clear K
                  refine in_ret ?_
                  refine then_ret ?_; clear hK; clear K
                  refine then_ret ?_
                  refine in_ret ?_
                  refine then_ret ?_; clear hK; clear K
                  refine ret2 E rfl rfl rfl ?_
                  have hlt : i < (chop 72 b).length := by rw [chop_length]; have := nch_cover b.length (k := 72) (by omega); omega
                  have hPm : P ∈ chop 72 b := by have := chop_at hlt; rw [← hq, ← hP] at this; rw [← this]; exact List.getElem_mem hlt
                  obtain ⟨q1, q2⟩ := slts_bad (b := b) hPm (by rw [hs, decide_eq_false_iff_not]; rintro ⟨h1, h2, h3, h4, h5, h6⟩; first | omega | (have := h2; simp [this] at hb61n) | exact absurd h2 (by simpa using hb61))
                  exact ⟨_, rfl, _, [], by rw [q1], by rw [q2]; exact Buf.nil _ _, (S.only (Bs := [O]) (sel_cons (by first | exact pk1 | exact pk2 | exact pk3 | exact pk4 | exact pk5 | exact pk6 | exact pk7 | exact pk8 | exact pk9) (sel_nil _))).addNil.tr⟩
                · have hb76n := hb76; first | with_reducible replace hb76n := n1 hb76n | with_reducible replace hb76n := n2 hb76n | with_reducible replace hb76n := n3 hb76n | with_reducible replace hb76n := n4 hb76n | with_reducible replace hb76n := n5 hb76n | with_reducible replace hb76n := n6 hb76n | replace hb76n := n1 hb76n | replace hb76n := n2 hb76n | replace hb76n := n3 hb76n | replace hb76n := n4 hb76n | replace hb76n := n5 hb76n | replace hb76n := n6 hb76n | skip
                  refine list_guard_yes E rfl rfl rfl rfl hb76 rfl (by decide) (rn_move E rfl rfl) ?_; clear E a; intro a E
                  refine list_guard_yes E rfl rfl rfl rfl hb76 rfl (by decide) (rn_move E rfl rfl) ?_; clear E a; intro a E
                  refine list_guard_yes E rfl rfl rfl rfl hb76 rfl (by decide) (rn_add E rfl rfl rfl (by first | exact wa_lit (y := 2) (by omega) | exact w_in (by omega) | exact w_inu (by omega) | exact rfl)) ?_; clear E a; intro a E
                  refine list_guard_yes E rfl rfl rfl rfl hb76 rfl (by decide) (by first | exact rn_indexAddr1 E rfl rfl rfl rfl rfl rfl (by omega) | exact rn_indexAddr E rfl rfl rfl rfl rfl rfl (by omega) | exact rn_indexAddr_array E rfl rfl rfl rfl rfl rfl (by omega)) ?_; clear E a; intro a E
                  refine list_guard_yes E rfl rfl rfl rfl hb76 rfl (by decide) (rn_loadc E rfl rfl rfl (hO.byte (S.stab.at (by first | exact mm1 | exact mm2 | exact mm3 | exact mm4 | exact mm5 | exact mm6 | exact mm7 | exact mm8)) (i := q + 2) (by omega))) ?_; clear E a; intro a E
                  rw [hb2] at E
                  refine list_guard_yes E rfl rfl rfl rfl hb76 rfl (by decide) (by first | exact rn_neq E rfl rfl rfl | exact rn_neq_ptr_nil E rfl rfl rfl rfl | exact rn_neq_bool E rfl rfl rfl rfl | exact rn_neq_string E rfl rfl rfl) ?_; clear E a; intro a E
                  refine list_pure E rfl rfl (by decide) (rn_pick_no' E rfl rfl hb76 rfl) ?_; clear E a; intro a E
                  refine list_pure E rfl rfl (by decide) (rn_move E rfl rfl) ?_; clear E a; intro a E
                  refine guard_split E (t := 84) rfl (fun hb84 => ?_) (fun hb84 => ?_)
                  · have hb84n := hb84; first | with_reducible replace hb84n := n1 hb84n | with_reducible replace hb84n := n2 hb84n | with_reducible replace hb84n := n3 hb84n | with_reducible replace hb84n := n4 hb84n | with_reducible replace hb84n := n5 hb84n | with_reducible replace hb84n := n6 hb84n | replace hb84n := n1 hb84n | replace hb84n := n2 hb84n | replace hb84n := n3 hb84n | replace hb84n := n4 hb84n | replace hb84n := n5 hb84n | replace hb84n := n6 hb84n | skip
                    refine list_guard_no E rfl rfl rfl rfl hb84 rfl (by decide) ?_; clear E a; intro a E
                    refine list_guard_no E rfl rfl rfl rfl hb84 rfl (by decide) ?_; clear E a; intro a E
                    refine list_guard_no E rfl rfl rfl rfl hb84 rfl (by decide) ?_; clear E a; intro a E
                    refine list_guard_no E rfl rfl rfl rfl hb84 rfl (by decide) ?_; clear E a; intro a E
                    refine list_guard_no E rfl rfl rfl rfl hb84 rfl (by decide) ?_; clear E a; intro a E
                    refine list_guard_no E rfl rfl rfl rfl hb84 rfl (by decide) ?_; clear E a; intro a E
                    refine list_pure E rfl rfl (by decide) (rn_pick_yes' E rfl rfl hb84 rfl) ?_; clear E a; intro a E
                    refine wpList_nil ?_
                    refine then_k hK ?_; clear hK; clear K
                    refine if_true' E rfl rfl ?_
                    refine wp_seq_k ?_; intro K hK
                    refine region_list ?_
                    refine list_pure E rfl rfl (by decide) (rn_assign E rfl rfl) ?_; clear E a; intro a E
                    refine list_pure E rfl rfl (by decide) (rn_assign E rfl rfl) ?_; clear E a; intro a E
                    refine wpList_nil ?_
                    refine then_k hK ?_; clear hK; clear K
                    refine wp_ret ?_
                    refine then_ret ?_; clear hK; clear K
                    refine in_ret ?_
                    refine then_ret ?_; clear hK; clear K
                    refine then_ret ?_
                    refine in_ret ?_
                    refine then_ret ?_; clear hK; clear K
                    refine ret2 E rfl rfl rfl ?_
                    have hlt : i < (chop 72 b).length := by rw [chop_length]; have := nch_cover b.length (k := 72) (by omega); omega
                    have hPm : P ∈ chop 72 b := by have := chop_at hlt; rw [← hq, ← hP] at this; rw [← this]; exact List.getElem_mem hlt
                    obtain ⟨q1, q2⟩ := slts_bad (b := b) hPm (by rw [hs, decide_eq_false_iff_not]; rintro ⟨h1, h2, h3, h4, h5, h6⟩; first | omega | (have := h2; simp [this] at hb61n) | exact absurd h2 (by simpa using hb61))
                    exact ⟨_, rfl, _, [], by rw [q1], by rw [q2]; exact Buf.nil _ _, (S.only (Bs := [O]) (sel_cons (by first | exact pk1 | exact pk2 | exact pk3 | exact pk4 | exact pk5 | exact pk6 | exact pk7 | exact pk8 | exact pk9) (sel_nil _))).addNil.tr⟩
                  · have hb84n := hb84; first | with_reducible replace hb84n := n1 hb84n | with_reducible replace hb84n := n2 hb84n | with_reducible replace hb84n := n3 hb84n | with_reducible replace hb84n := n4 hb84n | with_reducible replace hb84n := n5 hb84n | with_reducible replace hb84n := n6 hb84n | replace hb84n := n1 hb84n | replace hb84n := n2 hb84n | replace hb84n := n3 hb84n | replace hb84n := n4 hb84n | replace hb84n := n5 hb84n | replace hb84n := n6 hb84n | skip
                    refine list_guard_yes E rfl rfl rfl rfl hb84 rfl (by decide) (rn_move E rfl rfl) ?_; clear E a; intro a E
                    refine list_guard_yes E rfl rfl rfl rfl hb84 rfl (by decide) (rn_move E rfl rfl) ?_; clear E a; intro a E
                    refine list_guard_yes E rfl rfl rfl rfl hb84 rfl (by decide) (rn_add E rfl rfl rfl (by first | exact wa_lit (y := 3) (by omega) | exact w_in (by omega) | exact w_inu (by omega) | exact rfl)) ?_; clear E a; intro a E
                    refine list_guard_yes E rfl rfl rfl rfl hb84 rfl (by decide) (by first | exact rn_indexAddr1 E rfl rfl rfl rfl rfl rfl (by omega) | exact rn_indexAddr E rfl rfl rfl rfl rfl rfl (by omega) | exact rn_indexAddr_array E rfl rfl rfl rfl rfl rfl (by omega)) ?_; clear E a; intro a E
                    refine list_guard_yes E rfl rfl rfl rfl hb84 rfl (by decide) (rn_loadc E rfl rfl rfl (hO.byte (S.stab.at (by first | exact mm1 | exact mm2 | exact mm3 | exact mm4 | exact mm5 | exact mm6 | exact mm7 | exact mm8)) (i := q + 3) (by omega))) ?_; clear E a; intro a E
                    rw [hb3] at E
                    refine list_guard_yes E rfl rfl rfl rfl hb84 rfl (by decide) (by first | exact rn_neq E rfl rfl rfl | exact rn_neq_ptr_nil E rfl rfl rfl rfl | exact rn_neq_bool E rfl rfl rfl rfl | exact rn_neq_string E rfl rfl rfl) ?_; clear E a; intro a E
                    refine list_pure E rfl rfl (by decide) (rn_pick_no' E rfl rfl hb84 rfl) ?_; clear E a; intro a E
                    refine wpList_nil ?_
                    refine then_k hK ?_; clear hK; clear K
                    refine if_bool E rfl (fun hb => ?_) (fun hb => ?_)
                    · first | with_reducible replace hb := n1 hb | with_reducible replace hb := n2 hb | with_reducible replace hb := n3 hb | with_reducible replace hb := n4 hb | with_reducible replace hb := n5 hb | with_reducible replace hb := n6 hb | replace hb := n1 hb | replace hb := n2 hb | replace hb := n3 hb | replace hb := n4 hb | replace hb := n5 hb | replace hb := n6 hb | skip
                      refine wp_seq_k ?_; intro K hK
                      refine region_list ?_
                      refine list_pure E rfl rfl (by decide) (rn_assign E rfl rfl) ?_; clear E a; intro a E
                      refine list_pure E rfl rfl (by decide) (rn_assign E rfl rfl) ?_; clear E a; intro a E
                      refine wpList_nil ?_
                      refine then_k hK ?_; clear hK; clear K
                      refine wp_ret ?_
                      refine then_ret ?_; clear hK; clear K
                      refine in_ret ?_
                      refine then_ret ?_; clear hK; clear K
                      refine then_ret ?_
                      refine in_ret ?_
                      refine then_ret ?_; clear hK; clear K
                      refine ret2 E rfl rfl rfl ?_
                      have hlt : i < (chop 72 b).length := by rw [chop_length]; have := nch_cover b.length (k := 72) (by omega); omega
                      have hPm : P ∈ chop 72 b := by have := chop_at hlt; rw [← hq, ← hP] at this; rw [← this]; exact List.getElem_mem hlt
                      obtain ⟨q1, q2⟩ := slts_bad (b := b) hPm (by rw [hs, decide_eq_false_iff_not]; rintro ⟨h1, h2, h3, h4, h5, h6⟩; first | omega | (have := h2; simp [this] at hb61n) | exact absurd h2 (by simpa using hb61))
                      exact ⟨_, rfl, _, [], by rw [q1], by rw [q2]; exact Buf.nil _ _, (S.only (Bs := [O]) (sel_cons (by first | exact pk1 | exact pk2 | exact pk3 | exact pk4 | exact pk5 | exact pk6 | exact pk7 | exact pk8 | exact pk9) (sel_nil _))).addNil.tr⟩
                    · first | with_reducible replace hb := n1 hb | with_reducible replace hb := n2 hb | with_reducible replace hb := n3 hb | with_reducible replace hb := n4 hb | with_reducible replace hb := n5 hb | with_reducible replace hb := n6 hb | replace hb := n1 hb | replace hb := n2 hb | replace hb := n3 hb | replace hb := n4 hb | replace hb := n5 hb | replace hb := n6 hb | skip
                      refine wp_skip ?_
                      refine then_k hK ?_; clear hK; clear K
                      have hok : slotOk P = true := by rw [hs, decide_eq_true_eq]; refine ⟨by omega, by simpa using hb61, by omega, by omega, by omega, by omega⟩
                      have hlm : ((chopN 72 b i).map sltAt).length = i := by rw [List.length_map, chopN_length]
                      refine region_list ?_
                      refine list_pure E rfl rfl (by decide) (rn_move E rfl rfl) ?_; clear E a; intro a E
                      refine list_pure E rfl rfl (by decide) (rn_load_blk (vs := [_, _, _, _, _, _, _, _, _, _, _]) E rfl rfl rfl (S.get (by first | exact pk1 | exact pk2 | exact pk3 | exact pk4 | exact pk5 | exact pk6 | exact pk7 | exact pk8 | exact pk9)) rfl rfl) ?_; clear E a; intro a E
                      refine list_wp rfl (wp_bslice (cells := [_, _, _, _, _, _, _, _, _, _, _]) E S rfl rfl (by decide) rfl rfl rfl rfl rfl (by decide) rfl ?_); clear E S a; intro a w b94 E S
                      refine list_wp rfl (wp_append (by' := 88) E S rfl rfl (by decide) rfl rfl hX (by first | exact pk1 | exact pk2 | exact pk3 | exact pk4 | exact pk5 | exact pk6 | exact pk7 | exact pk8 | exact pk9) ((rd_cells (g := b94) (T := 48) (xs := Slt.lay ⟨(nu : Int) == 1, z4, zp⟩) (s := 11) (m := 1) rfl (Slt.lay_one _) (by omega) 1).src (S.stab.at (by first | exact mm1 | exact mm2 | exact mm3 | exact mm4 | exact mm5 | exact mm6 | exact mm7 | exact mm8)) rfl) rfl rfl rfl rfl rfl rfl (by simp only [maxLen]; omega) (by omega) ?_); clear E S a; intro a w v95 C95 E S hB95
                      refine list_pure E rfl rfl (by decide) (rn_assign E rfl rfl) ?_; clear E a; intro a E
                      refine wpList_nil ?_
                      refine in_normal ?_
                      refine then_k hK ?_; clear hK; clear K
                      refine region_list ?_
                      refine list_pure E rfl rfl (by decide) (rn_move E rfl rfl) ?_; clear E a; intro a E
                      refine list_pure E rfl rfl (by decide) (rn_add E rfl rfl rfl (by first | exact wa_lit (y := 72) (by omega) | exact w_in (by omega) | exact w_inu (by omega) | exact rfl)) ?_; clear E a; intro a E
                      refine list_pure E rfl rfl (by decide) (rn_assign E rfl rfl) ?_; clear E a; intro a E
                      refine wpList_nil ?_
                      refine then_normal ?_
                      have ht : (chopN 72 b (i + 1)).map sltAt = (chopN 72 b i).map sltAt ++ [sltAt P] := by rw [chopN_succ, ← hq, ← hP, List.map_append]; rfl
                      rw [show q + 72 = (i + 1) * 72 by omega] at E
                      exact ⟨_, by omega, i + 1, v95, C95, rfl, by omega, by rw [chopN_succ, ← hq, ← hP]; exact fun x hx => (List.mem_append.1 hx).elim (hgood x) (fun h => by rw [List.mem_singleton.1 h]; exact hok), by rw [ht, List.length_append, List.flatMap_append, flat_one, hst]; exact hB95, S.only (Bs := [C95, O]) (sel_cons (by first | exact pk1 | exact pk2 | exact pk3 | exact pk4 | exact pk5 | exact pk6 | exact pk7 | exact pk8 | exact pk9) (sel_cons (by first | exact pk1 | exact pk2 | exact pk3 | exact pk4 | exact pk5 | exact pk6 | exact pk7 | exact pk8 | exact pk9) (sel_nil _))), E.keep (keep_cons rfl (keep_cons rfl (keep_cons rfl keep_nil)))⟩
      · first | with_reducible replace hb := n1 hb | with_reducible replace hb := n2 hb | with_reducible replace hb := n3 hb | with_reducible replace hb := n4 hb | with_reducible replace hb := n5 hb | with_reducible replace hb := n6 hb | replace hb := n1 hb | replace hb := n2 hb | replace hb := n3 hb | replace hb := n4 hb | replace hb := n5 hb | replace hb := n6 hb | skip
        refine wp_exit ?_
        refine then_exit ?_; clear hK; clear K
        refine then_exit ?_
        refine in_exit ?_
        refine then_k hK ?_; clear hK; clear K
        refine wp_seq_k ?_; intro K hK
        refine region_list ?_
        refine list_pure E rfl rfl (by decide) (rn_move E rfl rfl) ?_; clear E a; intro a E
        refine list_pure E rfl rfl (by decide) (rn_assign E rfl rfl) ?_; clear E a; intro a E
        refine list_pure E rfl rfl (by decide) (rn_assign E rfl rfl) ?_; clear E a; intro a E
        refine wpList_nil ?_
        refine then_k hK ?_; clear hK; clear K
        refine wp_ret ?_
        refine ret2 E rfl rfl rfl ?_
        have hd := chop_done (k := 72) (l := b) (i := i) (by omega) (by omega)
        rw [hd] at hgood hX
        obtain ⟨q1, q2⟩ := slts_good (b := b) hf hgood
        exact ⟨_, rfl, _, X, by rw [q1], by rw [q2]; exact hX, (S.only (Bs := [X, O]) (sel_cons (by first | exact pk1 | exact pk2 | exact pk3 | exact pk4 | exact pk5 | exact pk6 | exact pk7 | exact pk8 | exact pk9) (sel_cons (by first | exact pk1 | exact pk2 | exact pk3 | exact pk4 | exact pk5 | exact pk6 | exact pk7 | exact pk8 | exact pk9) (sel_nil _)))).tr⟩
end Go.Proofs.Ytkkibnnddllabaa
