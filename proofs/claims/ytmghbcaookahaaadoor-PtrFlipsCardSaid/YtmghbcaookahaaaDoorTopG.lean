/-
  Labels: read by the document.
-/
import Derived.Test.YtmghbcaookahaaaDoorTopF
namespace Go.Proofs.YtmghbcaookahaaaDoor
open Go.Sl
set_option maxRecDepth 10000

theorem dlbdecode_ret (O : Chunk) (v : Value) (b : List UInt8) (hO : Rd O 1 v b.length (byt b)) (hbl : b.length ≤ 140737488355328) (hcap : ∃ ad c, v = .slice ad b.length c ∧ b.length ≤ c) (w0 : World) (H : Hp w0 [O]) :
    Ret Tryd.prog 27 #[v] w0 fun u w' => ∃ v' C, u = .tuple #[lbagg (lbdec b) v', .int .i64 (lbdecE b)] ∧ Buf C 39 3 v' (lbdec b).tops.length ((lbdec b).tops.flatMap Tp.lay) ∧ Trs w0 w' [O] [C, O] := by
  have S := St.begin H
  obtain ⟨ad, c, rfl, hc⟩ := hcap
  have e1 := p1
  have e4 := p4
  obtain ⟨mn, hmn⟩ : ∃ mn, mn = nm b 14 1 := ⟨_, rfl⟩
  by_cases hl : b.length ≠ 128
  · have h43 := lbdec_short hl
    refine enter1 78 Tryd.func27 rfl rfl (by decide) ?_; intro a E
    refine wp_seq_k ?_; intro K hK
    refine region_list ?_
    refine list_wp rfl (wp_alloc E S rfl rfl (by decide) rfl rfl rfl ?_); clear E S a; intro a w b2 E S
    refine list_pure E rfl rfl (by decide) (rn_assign E rfl rfl) ?_; clear E a; intro a E
    refine wpList_nil ?_
    refine then_k hK ?_; clear hK; clear K
    refine wp_seq_k ?_; intro K hK
    refine wp_seq_k ?_; intro K hK
    refine region_list ?_
    refine list_pure E rfl rfl (by decide) (rn_move E rfl rfl) ?_; clear E a; intro a E
    refine list_pure E rfl rfl (by decide) (by first | exact rn_len E rfl rfl rfl | exact rn_len_str E rfl rfl rfl | exact rn_len_string E rfl rfl rfl) ?_; clear E a; intro a E
    refine list_pure E rfl rfl (by decide) (by first | exact rn_neq E rfl rfl rfl | exact rn_neq_ptr_nil E rfl rfl rfl rfl | exact rn_neq_bool E rfl rfl rfl rfl | exact rn_neq_string E rfl rfl rfl) ?_; clear E a; intro a E
    refine wpList_nil ?_
    refine then_k hK ?_; clear hK; clear K
    refine if_true' E rfl ((by simp; omega)) ?_
    refine wp_seq_k ?_; intro K hK
    refine region_list ?_
    refine list_pure E rfl rfl (by decide) (rn_build (cells := [_, _, _, _]) E rfl rfl rfl) ?_; clear E a; intro a E
    refine list_wp rfl (wp_storeN E S rfl rfl rfl rfl (by simp [Value.oneCell']) rfl (by repeat (first | exact pk1 | apply pick_tail)) (by simp) ?_); clear E S a; intro a w E S; simp only [List.take_succ_cons, List.take_zero, List.drop_succ_cons, List.drop_zero, List.cons_append, List.nil_append, List.append_nil, List.length_cons, List.length_nil, Nat.zero_add, Nat.add_zero] at S
    refine list_pure E rfl rfl (by decide) (rn_assign E rfl rfl) ?_; clear E a; intro a E
    refine wpList_nil ?_
    refine then_k hK ?_; clear hK; clear K
    refine wp_ret ?_
    refine then_ret ?_; clear hK; clear K
    refine ret_ct E rfl rfl rfl (S.get (by repeat (first | exact pk1 | apply pick_tail))) rfl ?_
    exact ⟨_, rfl, .slice none 0 0, [], by rw [h43, lbdec_none (by rw [h43]; decide)]; rfl, by rw [lbdec_none (by rw [h43]; decide)]; exact Buf.nil _ _, (S.addNil.only (Bs := [[], O]) (sel_cons (by repeat (first | exact pk1 | apply pick_tail)) (sel_cons (by repeat (first | exact pk1 | apply pick_tail)) (sel_nil _)))).tr⟩
  have hl : b.length = 128 := by omega
  obtain ⟨g, off, rfl⟩ := hO.addr (by omega)
  have hm8 : mn < 256 := by rw [hmn]; have := nm_lt b 14 1; omega
  refine enter1 78 Tryd.func27 rfl rfl (by decide) ?_; intro a E
  refine wp_seq_k ?_; intro K hK
  refine region_list ?_
  refine list_wp rfl (wp_alloc E S rfl rfl (by decide) rfl rfl rfl ?_); clear E S a; intro a w b2 E S
  refine list_pure E rfl rfl (by decide) (rn_assign E rfl rfl) ?_; clear E a; intro a E
  refine wpList_nil ?_
  refine then_k hK ?_; clear hK; clear K
  refine wp_seq_k ?_; intro K hK
  refine wp_seq_k ?_; intro K hK
  refine region_list ?_
  refine list_pure E rfl rfl (by decide) (rn_move E rfl rfl) ?_; clear E a; intro a E
  refine list_pure E rfl rfl (by decide) (by first | exact rn_len E rfl rfl rfl | exact rn_len_str E rfl rfl rfl | exact rn_len_string E rfl rfl rfl) ?_; clear E a; intro a E
  refine list_pure E rfl rfl (by decide) (by first | exact rn_neq E rfl rfl rfl | exact rn_neq_ptr_nil E rfl rfl rfl rfl | exact rn_neq_bool E rfl rfl rfl rfl | exact rn_neq_string E rfl rfl rfl) ?_; clear E a; intro a E
  refine wpList_nil ?_
  refine then_k hK ?_; clear hK; clear K
  refine if_false' E rfl ((by simp; omega)) ?_
  refine wp_skip ?_
  refine then_k hK ?_; clear hK; clear K
  refine wp_seq_k ?_; intro K hK
  refine region_list ?_
  refine list_pure E rfl rfl (by decide) (rn_move E rfl rfl) ?_; clear E a; intro a E
  refine list_pure E rfl rfl (by decide) (rn_indexAddr1 (i := 14) E rfl rfl rfl rfl rfl rfl (by omega)) ?_; clear E a; intro a E
  refine list_pure E rfl rfl (by decide) (rn_loadc E rfl rfl rfl (hO.byte (S.stab.at (by repeat (first | exact mm1 | apply List.Mem.tail))) (i := 14) (by omega))) ?_; clear E a; intro a E
  rw [← nm_one b (by omega), ← hmn] at E
  refine list_pure E rfl rfl (by decide) (by first | exact rn_convert E rfl rfl rfl rfl (by first | exact wu8 _ | exact w_nat (by omega) | exact w_natu (by omega) | exact w_in (by omega) | exact w_inu (by omega) | exact rfl) | exact rn_string E rfl rfl rfl rfl rfl (by assumption) (S.stab.at (by simp))) ?_; clear E a; intro a E
  refine list_pure E rfl rfl (by decide) (rn_assign E rfl rfl) ?_; clear E a; intro a E
  refine wpList_nil ?_
  refine then_k hK ?_; clear hK; clear K
  refine wp_seq_k ?_; intro K hK
  refine wp_join (fun (a : Act) (w' : World) => ∃ bt : Bool, (bt = true ↔ mn ≤ 4 ∧ formB b lLet (15 + 6 * mn) = true) ∧ St w0 [O] w' [O, [(b2, cel [.int .u64 0, .slice none 0 0, .int .i64 0, .int .i64 0] 37)]] ∧ Fr a 78 [(0, .slice (some ⟨g, off, none⟩) b.length c), (2, ptr b2), (4, .int .i64 mn), (5, .bool bt)]) ?_ ?_
  · skip
    refine region_list ?_
    refine list_pure E rfl rfl (by decide) (rn_move E rfl rfl) ?_; clear E a; intro a E
    refine list_pure E rfl rfl (by decide) (rn_leq E rfl rfl rfl) ?_; clear E a; intro a E
    refine list_pure E rfl rfl (by decide) (rn_move E rfl rfl) ?_; clear E a; intro a E
    refine guard_split E (t := 20) rfl (fun hb20 => ?_) (fun hb20 => ?_)
    · have hb20n := hb20; replace hb20n := Nrm.nrm hb20n
      refine list_guard_yes E rfl rfl rfl rfl hb20 rfl (by decide) (rn_move E rfl rfl) ?_; clear E a; intro a E
      refine list_guard_yes E rfl rfl rfl rfl hb20 rfl (by decide) (rn_move E rfl rfl) ?_; clear E a; intro a E
      refine list_guard_yes E rfl rfl rfl rfl hb20 rfl (by decide) (rn_mul E rfl rfl rfl (by first | exact wm_lit (x := 6) (by omega) | exact wm_litu (x := 6) (by omega) | exact w_in (by omega) | exact rfl)) ?_; clear E a; intro a E
      refine list_guard_yes E rfl rfl rfl rfl hb20 rfl (by decide) (rn_add E rfl rfl rfl (by first | exact wa_lit2 (x := 15) (by omega) | exact w_in (by omega) | exact w_inu (by omega) | exact rfl)) ?_; clear E a; intro a E
      refine list_guard_wp E rfl rfl rfl rfl hb20 ?_; refine wp_call' E rfl (by decide) rfl Tryd.func53 rfl (by kernel_rfl) rfl (formed_ret O _ b lLet (15 + 6 * mn) hO ⟨_, c, rfl, hc⟩ _ (S.hp.sel (sel_cons (by repeat (first | exact pk1 | apply pick_tail)) (sel_nil _)))) ?_
      rintro v25 w ⟨rfl, hT⟩; clear E a; intro a E
      have S := S.call1 (sel_cons (by repeat (first | exact pk1 | apply pick_tail)) (sel_nil _)) hT
      refine list_pure E rfl rfl (by decide) (rn_pick_yes' E rfl rfl hb20 rfl) ?_; clear E a; intro a E
      refine list_pure E rfl rfl (by decide) (rn_assign E rfl rfl) ?_; clear E a; intro a E
      refine wpList_nil ?_
      refine joined_here ?_
      exact ⟨_, ⟨fun q => ⟨by omega, q⟩, fun q => q.2⟩, S.front2 (A := O) (by repeat (first | exact pk1 | apply pick_tail)) (B := [(b2, _)]) (by repeat (first | exact pk1 | apply pick_tail)), E.keep (keep_cons rfl (keep_cons rfl (keep_cons rfl (keep_cons rfl keep_nil))))⟩
    · have hb20n := hb20; replace hb20n := Nrm.nrm hb20n
      refine list_guard_no E rfl rfl rfl rfl hb20 rfl (by decide) ?_; clear E a; intro a E
      refine list_guard_no E rfl rfl rfl rfl hb20 rfl (by decide) ?_; clear E a; intro a E
      refine list_guard_no E rfl rfl rfl rfl hb20 rfl (by decide) ?_; clear E a; intro a E
      refine list_guard_no E rfl rfl rfl rfl hb20 rfl (by decide) ?_; clear E a; intro a E
      refine list_guard_no E rfl rfl rfl rfl hb20 rfl (by decide) ?_; clear E a; intro a E
      refine list_pure E rfl rfl (by decide) (rn_pick_no' E rfl rfl hb20 rfl) ?_; clear E a; intro a E
      refine list_pure E rfl rfl (by decide) (rn_assign E rfl rfl) ?_; clear E a; intro a E
      refine wpList_nil ?_
      refine joined_here ?_
      exact ⟨_, ⟨fun q => (by cases q), fun q => by omega⟩, S.front2 (A := O) (by repeat (first | exact pk1 | apply pick_tail)) (B := [(b2, _)]) (by repeat (first | exact pk1 | apply pick_tail)), E.keep (keep_cons rfl (keep_cons rfl (keep_cons rfl (keep_cons rfl keep_nil))))⟩
  · clear E S a; intro a w J; obtain ⟨bt, hbt, S, E⟩ := J
    refine then_k hK ?_; clear hK; clear K
    refine wp_seq_k ?_; intro K hK
    refine wp_seq_k ?_; intro K hK
    refine region_list ?_
    refine list_pure E rfl rfl (by decide) (rn_move E rfl rfl) ?_; clear E a; intro a E
    refine list_pure E rfl rfl (by decide) (rn_not E rfl rfl) ?_; clear E a; intro a E
    refine wpList_nil ?_
    refine then_k hK ?_; clear hK; clear K
    refine if_bool E rfl (fun hb => ?_) (fun hb => ?_)
    · replace hb := Nrm.nrm hb
      have h43 : lbdecE b = 43 := lbdec_noform (fun q => by rw [hbt.2 ⟨by rw [hmn]; exact q.1, by rw [hmn]; exact q.2⟩] at hb; cases hb)
      refine wp_seq_k ?_; intro K hK
      refine region_list ?_
      refine list_pure E rfl rfl (by decide) (rn_build (cells := [_, _, _, _]) E rfl rfl rfl) ?_; clear E a; intro a E
      refine list_wp rfl (wp_storeN E S rfl rfl rfl rfl (by simp [Value.oneCell']) rfl (by repeat (first | exact pk1 | apply pick_tail)) (by simp) ?_); clear E S a; intro a w E S; simp only [List.take_succ_cons, List.take_zero, List.drop_succ_cons, List.drop_zero, List.cons_append, List.nil_append, List.append_nil, List.length_cons, List.length_nil, Nat.zero_add, Nat.add_zero] at S
      refine list_pure E rfl rfl (by decide) (rn_assign E rfl rfl) ?_; clear E a; intro a E
      refine wpList_nil ?_
      refine then_k hK ?_; clear hK; clear K
      refine wp_ret ?_
      refine then_ret ?_; clear hK; clear K
      refine ret_ct E rfl rfl rfl (S.get (by repeat (first | exact pk1 | apply pick_tail))) rfl ?_
      exact ⟨_, rfl, .slice none 0 0, [], by rw [h43, lbdec_none (by rw [h43]; decide)]; rfl, by rw [lbdec_none (by rw [h43]; decide)]; exact Buf.nil _ _, (S.addNil.only (Bs := [[], O]) (sel_cons (by repeat (first | exact pk1 | apply pick_tail)) (sel_cons (by repeat (first | exact pk1 | apply pick_tail)) (sel_nil _)))).tr⟩
    · replace hb := Nrm.nrm hb
      obtain ⟨hm4, hf⟩ := hbt.1 (by simpa using hb)
      refine wp_skip ?_
      refine then_k hK ?_; clear hK; clear K
      refine wp_seq_k ?_; intro K hK
      refine wp_join (fun (a : Act) (w' : World) => ∃ b6 Ls, St w0 [O] w' ([(b6, cel [.int .u64 (nm b 4 8), .slice none 0 0, .int .i64 (nm b 12 1), .int .i64 (nm b 13 1)] 37)] :: O :: [(b2, cel [.int .u64 0, .slice none 0 0, .int .i64 0, .int .i64 0] 37)] :: Ls) ∧ Fr a 78 [(0, .slice (some ⟨g, off, none⟩) b.length c), (2, ptr b2), (4, .int .i64 mn), (6, ptr b6)]) ?_ ?_
      · skip
        refine region_mix0 S (.cons (0, 0) (.cons (2, 0) (.cons (3, 0) (.cons (4, 0) (.cons (5, 0) (.cons (6, 0) (.cons (7, 0) (.cons (8, 0) (.cons (9, 0) (.fork 1 (.ofL [(10, 0), (11, 1), (12, 3)]) 11 (.ofL [(1, 1), (10, 0), (12, 3)]))))))))))) (by kernel_rfl) (by kernel_rfl) ?_
        clear S; intro w S
        refine mix_pure E rfl rfl rfl (by decide) (fun w h => rn_move E rfl rfl) ?_; clear E a; intro a E
        refine mix_pure E rfl rfl rfl (by decide) (fun w h => rn_move E rfl rfl) ?_; clear E a; intro a E
        refine mix_pure E rfl rfl rfl (by decide) (fun w h => rn_indexAddr1 (i := 12) E rfl rfl rfl rfl rfl rfl (by omega)) ?_; clear E a; intro a E
        refine mix_pure E rfl rfl rfl (by decide) (fun w h => rn_loadc E rfl rfl rfl (hO.byte (h.at (by repeat (first | exact mm1 | apply List.Mem.tail))) (i := 12) (by omega))) ?_; clear E a; intro a E
        refine mix_pure E rfl rfl rfl (by decide) (fun w h => rn_convert E rfl rfl rfl rfl (wi8 _)) ?_; clear E a; intro a E
        rw [← nm_one b (by omega)] at E
        refine mix_pure E rfl rfl rfl (by decide) (fun w h => rn_move E rfl rfl) ?_; clear E a; intro a E
        refine mix_pure E rfl rfl rfl (by decide) (fun w h => rn_indexAddr1 (i := 13) E rfl rfl rfl rfl rfl rfl (by omega)) ?_; clear E a; intro a E
        refine mix_pure E rfl rfl rfl (by decide) (fun w h => rn_loadc E rfl rfl rfl (hO.byte (h.at (by repeat (first | exact mm1 | apply List.Mem.tail))) (i := 13) (by omega))) ?_; clear E a; intro a E
        refine mix_pure E rfl rfl rfl (by decide) (fun w h => rn_convert E rfl rfl rfl rfl (wi8 _)) ?_; clear E a; intro a E
        rw [← nm_one b (by omega)] at E
        refine ⟨?_, ?_⟩
        · skip
          refine mix_call E rfl rfl rfl (by decide) rfl Tryd.func48 rfl (by kernel_rfl) rfl (dat_ret O _ b hO 4 8 (by omega) (by omega) (by omega) hbl _ (S.hp.sel (sel_cons (by repeat (first | exact pk1 | apply pick_tail)) (sel_nil _)))) ?_
          rintro v31 w ⟨rfl, hT⟩; clear E a; intro a E
          have S := S.call1 (sel_cons (by repeat (first | exact pk1 | apply pick_tail)) (sel_nil _)) hT
          refine ⟨S.stab.sub (by first | (simp; done) | (simp +contextual; done)), ?_⟩
          refine mix_pure E rfl rfl rfl (by decide) (fun w h => rn_build (cells := [_, _, _, _]) E rfl rfl rfl) ?_; clear E a; intro a E
          refine mix_act rfl rfl (wp_alloc E S rfl rfl (by decide) rfl rfl rfl ?_); clear E S a; intro a w b6 E S; refine ⟨S.stab.sub (by first | (simp; done) | (simp +contextual; done)), ?_⟩
          refine mix_last rfl rfl (wp_storeN E S rfl rfl rfl rfl (by simp [Value.oneCell']) rfl (by repeat (first | exact pk1 | apply pick_tail)) (by simp) ?_); clear E S a; intro a w E S; simp only [List.take_succ_cons, List.take_zero, List.drop_succ_cons, List.drop_zero, List.cons_append, List.nil_append, List.append_nil, List.length_cons, List.length_nil, Nat.zero_add, Nat.add_zero] at S
          refine mix_nil ?_
          refine joined_here ?_
          exact ⟨_, _, S.front3 (by repeat (first | exact pk1 | apply pick_tail)) (B := O) (by repeat (first | exact pk1 | apply pick_tail)) (C := [(b2, _)]) (by repeat (first | exact pk1 | apply pick_tail)), E.keep (keep_cons rfl (keep_cons rfl (keep_cons rfl (keep_cons rfl keep_nil))))⟩
        · skip
          refine mix_act rfl rfl (wp_alloc E S rfl rfl (by decide) rfl rfl rfl ?_); clear E S a; intro a w b6 E S; refine ⟨S.stab.sub (by first | (simp; done) | (simp +contextual; done)), ?_⟩
          refine mix_call E rfl rfl rfl (by decide) rfl Tryd.func48 rfl (by kernel_rfl) rfl (dat_ret O _ b hO 4 8 (by omega) (by omega) (by omega) hbl _ (S.hp.sel (sel_cons (by repeat (first | exact pk1 | apply pick_tail)) (sel_nil _)))) ?_
          rintro v31 w ⟨rfl, hT⟩; clear E a; intro a E
          have S := S.call1 (sel_cons (by repeat (first | exact pk1 | apply pick_tail)) (sel_nil _)) hT
          refine ⟨S.stab.sub (by first | (simp; done) | (simp +contextual; done)), ?_⟩
          refine mix_pure E rfl rfl rfl (by decide) (fun w h => rn_build (cells := [_, _, _, _]) E rfl rfl rfl) ?_; clear E a; intro a E
          refine mix_last rfl rfl (wp_storeN E S rfl rfl rfl rfl (by simp [Value.oneCell']) rfl (by repeat (first | exact pk1 | apply pick_tail)) (by simp) ?_); clear E S a; intro a w E S; simp only [List.take_succ_cons, List.take_zero, List.drop_succ_cons, List.drop_zero, List.cons_append, List.nil_append, List.append_nil, List.length_cons, List.length_nil, Nat.zero_add, Nat.add_zero] at S
          refine mix_nil ?_
          refine joined_here ?_
          exact ⟨_, _, S.front3 (by repeat (first | exact pk1 | apply pick_tail)) (B := O) (by repeat (first | exact pk1 | apply pick_tail)) (C := [(b2, _)]) (by repeat (first | exact pk1 | apply pick_tail)), E.keep (keep_cons rfl (keep_cons rfl (keep_cons rfl (keep_cons rfl keep_nil))))⟩
      · clear E S a; intro a w J; obtain ⟨b6, Ls, S, E⟩ := J
        refine then_k hK ?_; clear hK; clear K
        refine wp_seq_k ?_; intro K hK
        refine wp_seq_k ?_; intro K hK
        refine region_list ?_
        refine list_pure E rfl rfl (by decide) (rn_assign E rfl rfl) ?_; clear E a; intro a E
        refine wpList_nil ?_
        refine then_k hK ?_; clear hK; clear K
        refine wp_block ?_
        refine wp_loop_ghost (fun (m : Nat) (a : Act) (w' : World) => ∃ (i : Nat) (v : Value) (C : Chunk), m = mn - i ∧ i ≤ mn ∧ Buf C 39 3 v i ((topsAt b i).flatMap Tp.lay) ∧ (∃ Ls, St w0 [O] w' ([(b6, cel [.int .u64 (nm b 4 8), v, .int .i64 (nm b 12 1), .int .i64 (nm b 13 1)] 37)] :: O :: [(b2, cel [.int .u64 0, .slice none 0 0, .int .i64 0, .int .i64 0] 37)] :: C :: Ls)) ∧ Fr a 78 [(0, .slice (some ⟨g, off, none⟩) b.length c), (2, ptr b2), (4, .int .i64 mn), (6, ptr b6), (7, .int .i64 i)]) (mn - 0) ?_ ?_
        · exact ⟨0, _, [], rfl, by omega, Buf.nil _ _, ⟨_, (S.addNil).front4 (A := [(b6, _)]) (by repeat (first | exact pk1 | apply pick_tail)) (B := O) (by repeat (first | exact pk1 | apply pick_tail)) (C := [(b2, _)]) (by repeat (first | exact pk1 | apply pick_tail)) (D := []) (by repeat (first | exact pk1 | apply pick_tail))⟩, E.keep (keep_cons rfl (keep_cons rfl (keep_cons rfl (keep_cons rfl (keep_cons rfl keep_nil)))))⟩
        clear E; clear a; (try clear S); rintro m a w ⟨i, v, C, rfl, hi, hC, ⟨Ls, S⟩, E⟩
        refine wp_seq_k ?_; intro K hK
        refine wp_seq_k ?_; intro K hK
        refine region_list ?_
        refine list_pure E rfl rfl (by decide) (rn_move E rfl rfl) ?_; clear E a; intro a E
        refine list_pure E rfl rfl (by decide) (rn_move E rfl rfl) ?_; clear E a; intro a E
        refine list_pure E rfl rfl (by decide) (rn_lss E rfl rfl rfl) ?_; clear E a; intro a E
        refine wpList_nil ?_
        refine then_k hK ?_; clear hK; clear K
        refine if_bool E rfl (fun hb => ?_) (fun hb => ?_)
        · replace hb := Nrm.nrm hb
          refine wp_skip ?_
          refine then_k hK ?_; clear hK; clear K
          refine wp_seq_k ?_; intro K hK
          refine wp_block ?_
          refine wp_seq_k ?_; intro K hK
          refine region_list ?_
          refine list_pure E rfl rfl (by decide) (rn_move E rfl rfl) ?_; clear E a; intro a E
          refine list_pure E rfl rfl (by decide) (rn_mul E rfl rfl rfl (by first | exact wm_lit (x := 6) (by omega) | exact wm_litu (x := 6) (by omega) | exact w_in (by omega) | exact rfl)) ?_; clear E a; intro a E
          refine list_pure E rfl rfl (by decide) (rn_add E rfl rfl rfl (by first | exact wa_lit2 (x := 15) (by omega) | exact w_in (by omega) | exact w_inu (by omega) | exact rfl)) ?_; clear E a; intro a E
          refine list_pure E rfl rfl (by decide) (rn_assign E rfl rfl) ?_; clear E a; intro a E
          refine wpList_nil ?_
          refine then_k hK ?_; clear hK; clear K
          have d3 : numOf ((b.drop (15 + 6 * i + 2)).take 4) < 256 ^ 4 := nm_lt b (15 + 6 * i + 2) 4
          refine region_mix S (.ofL [(0, 0), (1, 0), (2, 0), (3, 0), (4, 0), (5, 0), (6, 0), (7, 0), (8, 0), (9, 0), (10, 0), (11, 0), (12, 0), (13, 0), (14, 0), (15, 0), (16, 1), (17, 0), (18, 0), (19, 1), (20, 1), (21, 0), (22, 3)]) [[(b6, cel [.int .u64 (nm b 4 8), v, .int .i64 (nm b 12 1), .int .i64 (nm b 13 1)] 37)], O] (fun h => h.sub (by first | (simp; done) | (simp +contextual; done))) (by kernel_rfl) (by kernel_rfl) ?_
          clear S; intro w S
          refine mix_pure E rfl rfl rfl (by decide) (fun w h => by first | exact rn_fieldAddr0 (q := 1) E rfl rfl rfl | exact rn_fieldAddr (q := 1) E rfl rfl rfl) ?_; clear E a; intro a E
          refine mix_pure E rfl rfl rfl (by decide) (fun w h => by first | exact rn_load E rfl rfl rfl (h.one (by repeat (first | exact mm1 | apply List.Mem.tail))) rfl | exact rn_loadc E rfl rfl rfl (by assumption)) ?_; clear E a; intro a E
          refine mix_pure E rfl rfl rfl (by decide) (fun w h => rn_move E rfl rfl) ?_; clear E a; intro a E
          refine mix_pure E rfl rfl rfl (by decide) (fun w h => rn_move E rfl rfl) ?_; clear E a; intro a E
          refine mix_pure E rfl rfl rfl (by decide) (fun w h => rn_indexAddr1 (i := 15 + 6 * i) E rfl rfl rfl rfl rfl rfl (by omega)) ?_; clear E a; intro a E
          refine mix_pure E rfl rfl rfl (by decide) (fun w h => rn_loadc E rfl rfl rfl (hO.byte (h.at (by repeat (first | exact mm1 | apply List.Mem.tail))) (i := 15 + 6 * i) (by omega))) ?_; clear E a; intro a E
          refine mix_pure E rfl rfl rfl (by decide) (fun w h => rn_convert E rfl rfl rfl rfl (wi8 _)) ?_; clear E a; intro a E
          rw [← nm_one b (q := 15 + 6 * i) (by omega)] at E
          refine mix_pure E rfl rfl rfl (by decide) (fun w h => rn_move E rfl rfl) ?_; clear E a; intro a E
          refine mix_pure E rfl rfl rfl (by decide) (fun w h => rn_move E rfl rfl) ?_; clear E a; intro a E
          refine mix_pure E rfl rfl rfl (by decide) (fun w h => rn_add E rfl rfl rfl (by first | exact wa_lit (y := 1) (by omega) | exact w_in (by omega) | exact w_inu (by omega) | exact rfl)) ?_; clear E a; intro a E
          refine mix_pure E rfl rfl rfl (by decide) (fun w h => rn_indexAddr1 (i := 15 + 6 * i + 1) E rfl rfl rfl rfl rfl rfl (by omega)) ?_; clear E a; intro a E
          refine mix_pure E rfl rfl rfl (by decide) (fun w h => rn_loadc E rfl rfl rfl (hO.byte (h.at (by repeat (first | exact mm1 | apply List.Mem.tail))) (i := 15 + 6 * i + 1) (by omega))) ?_; clear E a; intro a E
          refine mix_pure E rfl rfl rfl (by decide) (fun w h => rn_convert E rfl rfl rfl rfl (wi8 _)) ?_; clear E a; intro a E
          rw [← nm_one b (q := 15 + 6 * i + 1) (by omega)] at E
          refine mix_pure E rfl rfl rfl (by decide) (fun w h => rn_move E rfl rfl) ?_; clear E a; intro a E
          refine mix_pure E rfl rfl rfl (by decide) (fun w h => rn_move E rfl rfl) ?_; clear E a; intro a E
          refine mix_pure E rfl rfl rfl (by decide) (fun w h => rn_add E rfl rfl rfl (by first | exact wa_lit (y := 2) (by omega) | exact w_in (by omega) | exact w_inu (by omega) | exact rfl)) ?_; clear E a; intro a E
          refine mix_call E rfl rfl rfl (by decide) rfl Tryd.func48 rfl (by kernel_rfl) rfl (dat_ret O _ b hO (15 + 6 * i + 2) 4 (by omega) (by omega) (by omega) hbl _ (S.hp.sel (sel_cons (by repeat (first | exact pk1 | apply pick_tail)) (sel_nil _)))) ?_
          rintro v65 w ⟨rfl, hT⟩; clear E a; intro a E
          have S := S.call1 (sel_cons (by repeat (first | exact pk1 | apply pick_tail)) (sel_nil _)) hT
          refine ⟨S.stab.sub (by first | (simp; done) | (simp +contextual; done)), ?_⟩
          refine mix_pure E rfl rfl rfl (by decide) (fun w h => rn_convert E rfl rfl rfl rfl (w_nat (by have := nm_lt b (15 + 6 * i + 2) 4; omega))) ?_; clear E a; intro a E
          refine mix_pure E rfl rfl rfl (by decide) (fun w h => rn_build (cells := [_, _, _]) E rfl rfl rfl) ?_; clear E a; intro a E
          refine mix_act rfl rfl (wp_bslice (cells := [_, _, _]) E S rfl rfl (by decide) rfl rfl rfl rfl rfl (by decide) rfl ?_); clear E S a; intro a w b68 E S; refine ⟨S.stab.sub (by first | (simp; done) | (simp +contextual; done)), ?_⟩
          refine mix_act rfl rfl (wp_append (by' := 24) E S rfl rfl (by decide) rfl rfl hC (by repeat (first | exact pk1 | apply pick_tail)) ((rd_cells (g := b68) (T := 39) (xs := (tpAt b (15 + 6 * i)).lay) (s := 3) (m := 1) rfl (Tp.lay_one _) (by omega) 1).src (S.stab.at (by repeat (first | exact mm1 | apply List.Mem.tail))) rfl) rfl rfl rfl rfl rfl rfl (by simp only [maxLen]; omega) (by omega) ?_); clear E S a; intro a w v69 C69 E S hB69; refine ⟨S.stab.sub (by first | (simp; done) | (simp +contextual; done)), ?_⟩
          rw [← flat_snoc, ← topsAt_succ] at hB69
          obtain ⟨ad4, c4', rfl⟩ := hB69.slice
          refine mix_pure E rfl rfl rfl (by decide) (fun w h => by first | exact rn_fieldAddr0 (q := 1) E rfl rfl rfl | exact rn_fieldAddr (q := 1) E rfl rfl rfl) ?_; clear E a; intro a E
          refine mix_last rfl rfl (wp_store1 E S rfl rfl rfl rfl rfl rfl (by repeat (first | exact pk1 | apply pick_tail)) (by first | exact Nat.le_of_ble_eq_true rfl | (simp; done) | (simp; omega)) ?_); clear E S a; intro a w E S; try dsimp only [List.set] at S
          refine mix_nil ?_
          refine in_normal ?_
          refine then_k hK ?_; clear hK; clear K
          refine region_list ?_
          refine list_pure E rfl rfl (by decide) (rn_move E rfl rfl) ?_; clear E a; intro a E
          refine list_pure E rfl rfl (by decide) (rn_add E rfl rfl rfl (by first | exact wa_lit (y := 1) (by omega) | exact w_in (by omega) | exact w_inu (by omega) | exact rfl)) ?_; clear E a; intro a E
          refine list_pure E rfl rfl (by decide) (rn_assign E rfl rfl) ?_; clear E a; intro a E
          refine wpList_nil ?_
          refine then_normal ?_
          exact ⟨_, by omega, i + 1, _, C69, rfl, by omega, hB69, ⟨_, S.front4 (A := [(b6, _)]) (by repeat (first | exact pk1 | apply pick_tail)) (B := O) (by repeat (first | exact pk1 | apply pick_tail)) (C := [(b2, _)]) (by repeat (first | exact pk1 | apply pick_tail)) (D := C69) (by repeat (first | exact pk1 | apply pick_tail))⟩, E.keep (keep_cons rfl (keep_cons rfl (keep_cons rfl (keep_cons rfl (keep_cons rfl keep_nil)))))⟩
        · replace hb := Nrm.nrm hb
          refine wp_exit ?_
          refine then_exit ?_; clear hK; clear K
          refine then_exit ?_
          refine in_exit ?_
          refine then_k hK ?_; clear hK; clear K
          refine wp_seq_k ?_; intro K hK
          obtain rfl : i = mn := by omega
          obtain ⟨adv, cv, rfl⟩ := hC.slice
          have hE := lbdec_form (b := b) (by omega) (by rw [← hmn]; exact hf)
          rw [← hmn] at hE
          have htl := topsAt_length b i
          have hC2 : Buf C 39 3 (.slice adv i cv) (topsAt b i).length ((topsAt b i).flatMap Tp.lay) := by rw [htl]; exact hC
          refine region_list ?_
          refine list_pure E rfl rfl (by decide) (rn_load_blk (vs := [_, _, _, _]) E rfl rfl rfl (S.get (by repeat (first | exact pk1 | apply pick_tail))) rfl rfl) ?_; clear E a; intro a E
          refine list_call E rfl rfl (by decide) rfl Tryd.func19 rfl (by kernel_rfl) rfl (dlbcheck_ret C _ ⟨nm b 4 8, topsAt b i, nm b 12 1, nm b 13 1⟩ hC2.rd _ (S.hp.sel (sel_cons (by repeat (first | exact pk1 | apply pick_tail)) (sel_nil _)))) ?_
          rintro v72 w ⟨rfl, hT⟩; clear E a; intro a E
          have S := S.call1 (sel_cons (by repeat (first | exact pk1 | apply pick_tail)) (sel_nil _)) hT; rw [← hE] at E
          refine list_pure E rfl rfl (by decide) (rn_assign E rfl rfl) ?_; clear E a; intro a E
          refine wpList_nil ?_
          refine then_k hK ?_; clear hK; clear K
          refine wp_seq_k ?_; intro K hK
          refine wp_seq_k ?_; intro K hK
          refine region_list ?_
          refine list_pure E rfl rfl (by decide) (rn_move E rfl rfl) ?_; clear E a; intro a E
          refine list_pure E rfl rfl (by decide) (by first | exact rn_neq E rfl rfl rfl | exact rn_neq_ptr_nil E rfl rfl rfl rfl | exact rn_neq_bool E rfl rfl rfl rfl | exact rn_neq_string E rfl rfl rfl) ?_; clear E a; intro a E
          refine wpList_nil ?_
          refine then_k hK ?_; clear hK; clear K
          refine if_bool E rfl (fun hb => ?_) (fun hb => ?_)
          · replace hb := Nrm.nrm hb
            refine wp_seq_k ?_; intro K hK
            refine region_list ?_
            refine list_pure E rfl rfl (by decide) (rn_build (cells := [_, _, _, _]) E rfl rfl rfl) ?_; clear E a; intro a E
            refine list_pure E rfl rfl (by decide) (rn_move E rfl rfl) ?_; clear E a; intro a E
            refine list_wp rfl (wp_storeN E S rfl rfl rfl rfl (by simp [Value.oneCell']) rfl (by repeat (first | exact pk1 | apply pick_tail)) (by simp) ?_); clear E S a; intro a w E S; simp only [List.take_succ_cons, List.take_zero, List.drop_succ_cons, List.drop_zero, List.cons_append, List.nil_append, List.append_nil, List.length_cons, List.length_nil, Nat.zero_add, Nat.add_zero] at S
            refine list_pure E rfl rfl (by decide) (rn_assign E rfl rfl) ?_; clear E a; intro a E
            refine wpList_nil ?_
            refine then_k hK ?_; clear hK; clear K
            refine wp_ret ?_
            refine then_ret ?_; clear hK; clear K
            refine ret_ct E rfl rfl rfl (S.get (by repeat (first | exact pk1 | apply pick_tail))) rfl ?_
            exact ⟨_, rfl, .slice none 0 0, [], by rw [lbdec_none hb]; rfl, by rw [lbdec_none hb]; exact Buf.nil _ _, (S.addNil.only (Bs := [[], O]) (sel_cons (by repeat (first | exact pk1 | apply pick_tail)) (sel_cons (by repeat (first | exact pk1 | apply pick_tail)) (sel_nil _)))).tr⟩
          · replace hb := Nrm.nrm hb
            refine wp_skip ?_
            refine then_k hK ?_; clear hK; clear K
            refine wp_seq_k ?_; intro K hK
            refine region_list ?_
            refine list_pure E rfl rfl (by decide) (rn_load_blk (vs := [_, _, _, _]) E rfl rfl rfl (S.get (by repeat (first | exact pk1 | apply pick_tail))) rfl rfl) ?_; clear E a; intro a E
            refine list_wp rfl (wp_storeN E S rfl rfl rfl rfl (by simp [Value.oneCell']) rfl (by repeat (first | exact pk1 | apply pick_tail)) (by simp) ?_); clear E S a; intro a w E S; simp only [List.take_succ_cons, List.take_zero, List.drop_succ_cons, List.drop_zero, List.cons_append, List.nil_append, List.append_nil, List.length_cons, List.length_nil, Nat.zero_add, Nat.add_zero] at S
            refine list_pure E rfl rfl (by decide) (rn_assign E rfl rfl) ?_; clear E a; intro a E
            refine wpList_nil ?_
            refine then_k hK ?_; clear hK; clear K
            refine wp_ret ?_
            refine ret_ct E rfl rfl rfl (S.get (by repeat (first | exact pk1 | apply pick_tail))) rfl ?_
            have hv := lbdec_form_val (b := b) (by omega) hb
            rw [← hmn] at hv
            exact ⟨_, rfl, _, C, by rw [hb, hv], by rw [hv]; exact hC2, (S.only (Bs := [C, O]) (sel_cons (by repeat (first | exact pk1 | apply pick_tail)) (sel_cons (by repeat (first | exact pk1 | apply pick_tail)) (sel_nil _)))).tr⟩
end Go.Proofs.YtmghbcaookahaaaDoor
