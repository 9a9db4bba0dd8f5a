/-
  Objects as blocks: TreeBack.
-/
import Derived.Test.YtkkibnnddllabaaTreeH
namespace Go.Sl
theorem zeros_pt (n : Nat) : zeros ptZero.lay.toArray (n * 9) = (List.replicate n ptZero).flatMap Pt.lay := by
  have h := made_flat (.agg ptZero.lay.toArray) n
  have h2 : zeros ptZero.lay.toArray (n * 9) = (List.replicate n ptZero.lay).flatten := by
    unfold zeros madeCells
    have := congrArg Array.toList h
    simpa [Value.cells, Pt.lay] using this
  rw [h2, List.flatMap, List.map_replicate]
theorem zeros_pt_one (n : Nat) : ∀ u ∈ zeros ptZero.lay.toArray (n * 9), u.oneCell' = true := fun u hu => by
  rw [zeros_pt] at hu
  obtain ⟨p, -, hp⟩ := List.mem_flatMap.1 hu
  exact p.lay_one u hp
theorem tabL_length (l : List Slt) : (tabL l).length ≤ 8064 := by
  unfold tabL
  split
  · rename_i h
    unfold tabE at h
    split at h
    · cases h
    · rw [tabB_length]; omega
  · simp
theorem byt_zeros (n : Nat) : byt (List.replicate n 0) = List.replicate n (.int .u8 0) := by simp [byt]
end Go.Sl
namespace Go.Proofs.Ytkkibnnddllabaa
open Go.Sl
set_option maxRecDepth 10000

theorem back_walk (O : Chunk) (v : Value) (b : List UInt8) (hO : Rd O 1 v b.length (byt b)) (hbl : b.length ≤ 140737488351232) (hcap : ∃ ad c, v = .slice ad b.length c ∧ b.length ≤ c)
    (vl : Value) (l : List Pt) (hL : Rd O 9 vl l.length (l.flatMap Pt.lay)) (hgl : ∀ p ∈ l, p.Ok) (hll : l.length ≤ 140737488351232) (hcapl : ∃ ad c, vl = .slice ad l.length c ∧ l.length ≤ c)
    (vs : Value) (slots : List Slt) (hS : Rd O 11 vs slots.length (slots.flatMap Slt.lay)) (hgs : ∀ s ∈ slots, s.Ok) (hls : slots.length ≤ 140737488351232) (w0 : World) (H : Hp w0 [O]) :
    Ret Try.prog 7 #[v, vl, vs] w0 fun u w' => u = .bool true ∧ Trs w0 w' [O] [O] := by
  have S := St.begin H
  have hcap0 := hcap
  have hcapl0 := hcapl
  obtain ⟨ad, c, rfl, hcap⟩ := hcap
  obtain ⟨adl, cl, rfl, hcapl⟩ := hcapl
  obtain ⟨ads, cs, rfl⟩ := hS.slice
  have hsl : (splitL b).length = (b.length + 1023) / 1024 := by rw [splitL, List.length_map, chop_length]; rfl
  refine enter3 185 Try.func7 rfl rfl (by decide) ?_; intro a E
  refine wp_seq_k ?_; intro K hK
  refine region_list ?_
  refine list_pure E rfl rfl (by decide) (rn_assign E rfl rfl) ?_; clear E a; intro a E
  refine wpList_nil ?_
  refine then_k hK ?_; clear hK; clear K
  refine wp_seq_k ?_; intro K hK
  refine region_list ?_
  refine list_call E rfl rfl (by decide) rfl Try.func9 rfl (by kernel_rfl) rfl (awake_ret _) ?_
  rintro v25 w ⟨rfl, hT⟩; clear E a; intro a E
  have S := S.quiet hT
  refine list_pure E rfl rfl (by decide) (rn_assign E rfl rfl) ?_; clear E a; intro a E
  refine wpList_nil ?_
  refine then_k hK ?_; clear hK; clear K
  refine wp_seq_k ?_; intro K hK
  refine region_list ?_
  refine list_pure E rfl rfl (by decide) (rn_move E rfl rfl) ?_; clear E a; intro a E
  refine list_call E rfl rfl (by decide) rfl Try.func11 rfl (by kernel_rfl) rfl (split_ret O _ b hO (by omega) hcap0 _ (S.hp.sel (sel_cons (by first | exact pk1 | exact pk2 | exact pk3 | exact pk4 | exact pk5 | exact pk6 | exact pk7 | exact pk8 | exact pk9) (sel_nil _)))) ?_
  rintro v27 w ⟨C, D, hB, hT⟩; clear E a; intro a E
  have S := S.call3 (sel_cons (by first | exact pk1 | exact pk2 | exact pk3 | exact pk4 | exact pk5 | exact pk6 | exact pk7 | exact pk8 | exact pk9) (sel_nil _)) hT; obtain ⟨us, hC, hD⟩ := hB; obtain ⟨adc, cc, rfl⟩ := hC.slice
  refine list_pure E rfl rfl (by decide) (rn_assign E rfl rfl) ?_; clear E a; intro a E
  refine wpList_nil ?_
  refine then_k hK ?_; clear hK; clear K
  refine wp_seq_k ?_; intro K hK
  refine wp_seq_k ?_; intro K hK
  refine region_list ?_
  refine list_pure E rfl rfl (by decide) (rn_move E rfl rfl) ?_; clear E a; intro a E
  refine list_pure E rfl rfl (by decide) (by first | exact rn_len E rfl rfl rfl | exact rn_len_str E rfl rfl rfl | exact rn_len_string E rfl rfl rfl) ?_; clear E a; intro a E
  refine list_pure E rfl rfl (by decide) (rn_move E rfl rfl) ?_; clear E a; intro a E
  refine list_pure E rfl rfl (by decide) (by first | exact rn_len E rfl rfl rfl | exact rn_len_str E rfl rfl rfl | exact rn_len_string E rfl rfl rfl) ?_; clear E a; intro a E
  refine list_pure E rfl rfl (by decide) (rn_add E rfl rfl rfl (by first | exact wa_lit (y := 1023) (by omega) | exact w_in (by omega) | exact w_inu (by omega) | exact rfl)) ?_; clear E a; intro a E
  refine list_pure E rfl rfl (by decide) (rn_quo E rfl rfl rfl (by decide) (by first | exact wq_lit (y := 1024) (by omega) | exact wq_litu (y := 1024) (by omega) | exact rfl)) ?_; clear E a; intro a E
  refine list_pure E rfl rfl (by decide) (by first | exact rn_neq E rfl rfl rfl | exact rn_neq_ptr_nil E rfl rfl rfl rfl | exact rn_neq_bool E rfl rfl rfl rfl | exact rn_neq_string E rfl rfl rfl) ?_; clear E a; intro a E
  refine wpList_nil ?_
  refine then_k hK ?_; clear hK; clear K
  refine if_bool E rfl (fun hb => ?_) (fun hb => ?_)
  · first | with_reducible replace hb := n1 hb | with_reducible replace hb := n2 hb | with_reducible replace hb := n3 hb | with_reducible replace hb := n4 hb | with_reducible replace hb := n5 hb | with_reducible replace hb := n6 hb | replace hb := n1 hb | replace hb := n2 hb | replace hb := n3 hb | replace hb := n4 hb | replace hb := n5 hb | replace hb := n6 hb | skip
    exfalso; omega
  · first | with_reducible replace hb := n1 hb | with_reducible replace hb := n2 hb | with_reducible replace hb := n3 hb | with_reducible replace hb := n4 hb | with_reducible replace hb := n5 hb | with_reducible replace hb := n6 hb | replace hb := n1 hb | replace hb := n2 hb | replace hb := n3 hb | replace hb := n4 hb | replace hb := n5 hb | replace hb := n6 hb | skip
    refine wp_skip ?_
    refine then_k hK ?_; clear hK; clear K
    refine wp_seq_k ?_; intro K hK
    have S := S.addNil
    refine region_list ?_
    refine list_pure E rfl rfl (by decide) (rn_assign E rfl rfl) ?_; clear E a; intro a E
    refine wpList_nil ?_
    refine then_k hK ?_; clear hK; clear K
    refine wp_seq_k ?_; intro K hK
    refine wp_seq_k ?_; intro K hK
    refine region_list ?_
    refine list_pure E rfl rfl (by decide) (rn_assign E rfl rfl) ?_; clear E a; intro a E
    refine wpList_nil ?_
    refine then_k hK ?_; clear hK; clear K
    refine wp_block ?_
    refine wp_loop_ghost (fun (m : Nat) (a : Act) (w' : World) => ∃ (i : Nat) (vz : Value) (Z : Chunk), m = (splitL b).length - i ∧ i ≤ (splitL b).length ∧ Buf Z 5 1 vz (b.take (i * 1024)).length (byt (b.take (i * 1024))) ∧ St w0 [O] w' [Z, C, D, O] ∧ Fr a 185 [(0, .slice ad b.length c), (1, .slice adl l.length cl), (2, .slice ads slots.length cs), (7, .bool true), (8, .slice adc (splitL b).length cc), (9, vz), (10, .int .i64 i)]) ((splitL b).length - 0) ?_ ?_
    · exact ⟨0, _, [], rfl, by omega, by rw [Nat.zero_mul, List.take_zero]; exact Buf.nil _ _, S, E.keep (keep_cons rfl (keep_cons rfl (keep_cons rfl (keep_cons rfl (keep_cons rfl (keep_cons rfl (keep_cons rfl keep_nil)))))))⟩
    clear E; clear a; rintro m a w ⟨i, vz, Z, rfl, hi, hZ, S, E⟩
    refine wp_seq_k ?_; intro K hK
    refine wp_seq_k ?_; intro K hK
    refine region_list ?_
    refine list_pure E rfl rfl (by decide) (rn_move E rfl rfl) ?_; clear E a; intro a E
    refine list_pure E rfl rfl (by decide) (rn_move E rfl rfl) ?_; clear E a; intro a E
    refine list_pure E rfl rfl (by decide) (by first | exact rn_len E rfl rfl rfl | exact rn_len_str E rfl rfl rfl | exact rn_len_string E rfl rfl rfl) ?_; clear E a; intro a E
    refine list_pure E rfl rfl (by decide) (rn_lss E rfl rfl rfl) ?_; clear E a; intro a E
    refine wpList_nil ?_
    refine then_k hK ?_; clear hK; clear K
    refine if_bool E rfl (fun hb => ?_) (fun hb => ?_)
    · first | with_reducible replace hb := n1 hb | with_reducible replace hb := n2 hb | with_reducible replace hb := n3 hb | with_reducible replace hb := n4 hb | with_reducible replace hb := n5 hb | with_reducible replace hb := n6 hb | replace hb := n1 hb | replace hb := n2 hb | replace hb := n3 hb | replace hb := n4 hb | replace hb := n5 hb | replace hb := n6 hb | skip
      refine wp_skip ?_
      refine then_k hK ?_; clear hK; clear K
      refine wp_seq_k ?_; intro K hK
      refine wp_block ?_
      refine wp_seq_k ?_; intro K hK
      have hib : i < (splitL b).length := by omega
      obtain ⟨P, hP⟩ : ∃ P, P = (b.drop (i * 1024)).take 1024 := ⟨_, rfl⟩
      have hx : (splitL b)[i] = thinB P := by
        have hc : i < (chop 1024 b).length := by rw [splitL, List.length_map] at hib; exact hib
        have h2 : (splitL b)[i] = thinB (chop 1024 b)[i] := List.getElem_map _
        rw [h2, chop_at hc, ← hP]
      have hPl : P.length = min 1024 (b.length - i * 1024) := by rw [hP, List.length_take, List.length_drop]
      have hil : i * 1024 < b.length := by omega
      have hzl : (b.take (i * 1024)).length ≤ b.length := by rw [List.length_take]; omega
      obtain ⟨adx, cx, hvi, -, hR⟩ := hD.get hib
      rw [hx] at hvi hR
      obtain ⟨gc, rfl⟩ := hC.addr (by omega)
      refine region_list ?_
      refine list_pure E rfl rfl (by decide) (rn_move E rfl rfl) ?_; clear E a; intro a E
      refine list_pure E rfl rfl (by decide) (rn_move E rfl rfl) ?_; clear E a; intro a E
      refine list_pure E rfl rfl (by decide) (by first | exact rn_indexAddr1 E rfl rfl rfl rfl rfl rfl (by omega) | exact rn_indexAddr E rfl rfl rfl rfl rfl rfl (by omega) | exact rn_indexAddr_array E rfl rfl rfl rfl rfl rfl (by omega)) ?_; clear E a; intro a E
      refine list_pure E rfl rfl (by decide) (rn_loadc E rfl rfl rfl (hC.rd.cells (S.stab.at (by first | exact mm1 | exact mm2 | exact mm3 | exact mm4 | exact mm5 | exact mm6 | exact mm7 | exact mm8)) rfl i _ hvi)) ?_; clear E a; intro a E
      refine list_pure E rfl rfl (by decide) (rn_assign E rfl rfl) ?_; clear E a; intro a E
      refine wpList_nil ?_
      refine then_k hK ?_; clear hK; clear K
      refine wp_seq_k ?_; intro K hK
      refine wp_seq_k ?_; intro K hK
      refine region_list ?_
      refine list_pure E rfl rfl (by decide) (rn_move E rfl rfl) ?_; clear E a; intro a E
      refine list_pure E rfl rfl (by decide) (by first | exact rn_len E rfl rfl rfl | exact rn_len_str E rfl rfl rfl | exact rn_len_string E rfl rfl rfl) ?_; clear E a; intro a E
      refine list_pure E rfl rfl (by decide) (by first | exact rn_eql E rfl rfl rfl | exact rn_eql_ptr_nil E rfl rfl rfl rfl | exact rn_eql_bool E rfl rfl rfl rfl | exact rn_eql_string E rfl rfl rfl) ?_; clear E a; intro a E
      refine wpList_nil ?_
      refine then_k hK ?_; clear hK; clear K
      refine wp_join (fun (a : Act) (w' : World) => ∃ vx X, Rd (X ++ D) 1 vx P.length (byt P) ∧ St w0 [O] w' [X, Z, C, D, O] ∧ Fr a 185 [(0, .slice ad b.length c), (1, .slice adl l.length cl), (2, .slice ads slots.length cs), (7, .bool true), (8, .slice (some ⟨gc, 0, none⟩) (splitL b).length cc), (9, vz), (10, .int .i64 i), (11, vx)]) ?_ ?_
      · skip
        refine if_bool E rfl (fun hb => ?_) (fun hb => ?_)
        · first | with_reducible replace hb := n1 hb | with_reducible replace hb := n2 hb | with_reducible replace hb := n3 hb | with_reducible replace hb := n4 hb | with_reducible replace hb := n5 hb | with_reducible replace hb := n6 hb | replace hb := n1 hb | replace hb := n2 hb | replace hb := n3 hb | replace hb := n4 hb | replace hb := n5 hb | replace hb := n6 hb | skip
          refine wp_seq_k ?_; intro K hK
          have hbk := thin_blank (x := P) (by omega)
          refine region_list ?_
          refine list_pure E rfl rfl (by decide) (rn_move E rfl rfl) ?_; clear E a; intro a E
          refine list_pure E rfl rfl (by decide) (by first | exact rn_len E rfl rfl rfl | exact rn_len_str E rfl rfl rfl | exact rn_len_string E rfl rfl rfl) ?_; clear E a; intro a E
          refine list_pure E rfl rfl (by decide) (rn_move E rfl rfl) ?_; clear E a; intro a E
          refine list_pure E rfl rfl (by decide) (rn_mul E rfl rfl rfl (by first | exact wm_lit (x := 1024) (by omega) | exact wm_litu (x := 1024) (by omega) | exact w_in (by omega) | exact rfl)) ?_; clear E a; intro a E
          refine list_pure E rfl rfl (by decide) (rn_sub E rfl rfl rfl (by first | exact ws1 (by omega) (by omega) | exact w_in (by omega) | exact w_inu (by omega) | exact rfl)) ?_; clear E a; intro a E
          refine list_pure E rfl rfl (by decide) (rn_assign E rfl rfl) ?_; clear E a; intro a E
          refine wpList_nil ?_
          refine then_k hK ?_; clear hK; clear K
          refine wp_seq_k ?_; intro K hK
          refine wp_seq_k ?_; intro K hK
          refine region_list ?_
          refine list_pure E rfl rfl (by decide) (rn_move E rfl rfl) ?_; clear E a; intro a E
          refine list_pure E rfl rfl (by decide) (rn_gtr E rfl rfl rfl) ?_; clear E a; intro a E
          refine wpList_nil ?_
          refine then_k hK ?_; clear hK; clear K
          refine wp_join (fun (a : Act) (w' : World) => ∃ n : Nat, n = P.length ∧ St w0 [O] w' [Z, C, D, O] ∧ Fr a 185 [(0, .slice ad b.length c), (1, .slice adl l.length cl), (2, .slice ads slots.length cs), (7, .bool true), (8, .slice (some ⟨gc, 0, none⟩) (splitL b).length cc), (9, vz), (10, .int .i64 i), (12, .int .i64 n)]) ?_ ?_
          · skip
            refine if_bool E rfl (fun hb => ?_) (fun hb => ?_)
            · first | with_reducible replace hb := n1 hb | with_reducible replace hb := n2 hb | with_reducible replace hb := n3 hb | with_reducible replace hb := n4 hb | with_reducible replace hb := n5 hb | with_reducible replace hb := n6 hb | replace hb := n1 hb | replace hb := n2 hb | replace hb := n3 hb | replace hb := n4 hb | replace hb := n5 hb | replace hb := n6 hb | skip
              refine region_list ?_
              refine list_pure E rfl rfl (by decide) (rn_assign E rfl rfl) ?_; clear E a; intro a E
              refine wpList_nil ?_
              refine joined_here ?_
              exact ⟨1024, by omega, S, E.keep (keep_cons rfl (keep_cons rfl (keep_cons rfl (keep_cons rfl (keep_cons rfl (keep_cons rfl (keep_cons rfl (keep_cons rfl keep_nil))))))))⟩
            · first | with_reducible replace hb := n1 hb | with_reducible replace hb := n2 hb | with_reducible replace hb := n3 hb | with_reducible replace hb := n4 hb | with_reducible replace hb := n5 hb | with_reducible replace hb := n6 hb | replace hb := n1 hb | replace hb := n2 hb | replace hb := n3 hb | replace hb := n4 hb | replace hb := n5 hb | replace hb := n6 hb | skip
              refine wp_skip ?_
              refine joined_here ?_
              exact ⟨b.length - 1024 * i, by omega, S, E.keep (keep_cons rfl (keep_cons rfl (keep_cons rfl (keep_cons rfl (keep_cons rfl (keep_cons rfl (keep_cons rfl (keep_cons rfl keep_nil))))))))⟩
          · clear S E a; intro a w J; obtain ⟨n, hn, S, E⟩ := J
            refine then_k hK ?_; clear hK; clear K
            refine region_list ?_
            refine list_pure E rfl rfl (by decide) (rn_move E rfl rfl) ?_; clear E a; intro a E
            refine list_wp rfl (wp_make1 (by' := 1) E S rfl rfl (by decide) rfl rfl rfl rfl rfl rfl rfl rfl rfl rfl rfl (by first | exact mkb (by omega) | exact mkb8 (by omega) | exact mkbn rfl (by omega)) (by simp only [maxLen]; omega) ?_); clear E S a; intro a w g56 E S
            refine list_pure E rfl rfl (by decide) (rn_assign E rfl rfl) ?_; clear E a; intro a E
            refine wpList_nil ?_
            refine joined_here ?_
            have hX : Rd [(g56, cel (List.replicate n (.int .u8 0)) 5)] 1 (.slice (some ⟨g56, 0, none⟩) n n) n (byt (List.replicate n 0)) := by rw [byt_zeros]; exact (rep_buf g56 n 5 (by omega)).rd
            exact ⟨_, [(g56, _)], (by rw [hbk, List.length_replicate, ← hn]; exact hX.sub fun x hx => List.mem_append_left _ hx), S, E.keep (keep_cons rfl (keep_cons rfl (keep_cons rfl (keep_cons rfl (keep_cons rfl (keep_cons rfl (keep_cons rfl (keep_cons rfl keep_nil))))))))⟩
        · first | with_reducible replace hb := n1 hb | with_reducible replace hb := n2 hb | with_reducible replace hb := n3 hb | with_reducible replace hb := n4 hb | with_reducible replace hb := n5 hb | with_reducible replace hb := n6 hb | replace hb := n1 hb | replace hb := n2 hb | replace hb := n3 hb | replace hb := n4 hb | replace hb := n5 hb | replace hb := n6 hb | skip
          refine wp_skip ?_
          refine joined_here ?_
          rw [thin_full (by omega)] at hR E
          exact ⟨_, [], hR, S.addNil, E.keep (keep_cons rfl (keep_cons rfl (keep_cons rfl (keep_cons rfl (keep_cons rfl (keep_cons rfl (keep_cons rfl (keep_cons rfl keep_nil))))))))⟩
      · clear S E a; intro a w J; obtain ⟨vx, X, hX, S, E⟩ := J
        refine then_k hK ?_; clear hK; clear K
        refine region_list ?_
        refine list_pure E rfl rfl (by decide) (rn_move E rfl rfl) ?_; clear E a; intro a E
        refine list_pure E rfl rfl (by decide) (rn_move E rfl rfl) ?_; clear E a; intro a E
        refine list_wp rfl (wp_append (by' := 1) E S rfl rfl (by decide) rfl rfl hZ (by first | exact pk1 | exact pk2 | exact pk3 | exact pk4 | exact pk5 | exact pk6 | exact pk7 | exact pk8 | exact pk9) (hX.src (fun x hx => (List.mem_append.1 hx).elim (S.stab.at (by first | exact mm1 | exact mm2 | exact mm3 | exact mm4 | exact mm5 | exact mm6 | exact mm7 | exact mm8) x) (S.stab.at (by first | exact mm1 | exact mm2 | exact mm3 | exact mm4 | exact mm5 | exact mm6 | exact mm7 | exact mm8) x)) rfl) rfl rfl rfl rfl rfl rfl (by simp only [maxLen]; omega) (by omega) ?_); clear E S a; intro a w v59 C59 E S hB59
        refine list_pure E rfl rfl (by decide) (rn_assign E rfl rfl) ?_; clear E a; intro a E
        refine wpList_nil ?_
        refine in_normal ?_
        refine then_k hK ?_; clear hK; clear K
        refine region_list ?_
        refine list_pure E rfl rfl (by decide) (rn_move E rfl rfl) ?_; clear E a; intro a E
        refine list_pure E rfl rfl (by decide) (rn_add E rfl rfl rfl (by first | exact wa_lit (y := 1) (by omega) | exact w_in (by omega) | exact w_inu (by omega) | exact rfl)) ?_; clear E a; intro a E
        refine list_pure E rfl rfl (by decide) (rn_assign E rfl rfl) ?_; clear E a; intro a E
        refine wpList_nil ?_
        refine then_normal ?_
        have ht : b.take ((i + 1) * 1024) = b.take (i * 1024) ++ P := by rw [Nat.succ_mul, List.take_add, ← hP]
        exact ⟨_, by omega, i + 1, v59, C59, rfl, by omega, by rw [ht, List.length_append, byt_append]; exact hB59, S.only (Bs := [C59, C, D, O]) (sel_cons (by first | exact pk1 | exact pk2 | exact pk3 | exact pk4 | exact pk5 | exact pk6 | exact pk7 | exact pk8 | exact pk9) (sel_cons (by first | exact pk1 | exact pk2 | exact pk3 | exact pk4 | exact pk5 | exact pk6 | exact pk7 | exact pk8 | exact pk9) (sel_cons (by first | exact pk1 | exact pk2 | exact pk3 | exact pk4 | exact pk5 | exact pk6 | exact pk7 | exact pk8 | exact pk9) (sel_cons (by first | exact pk1 | exact pk2 | exact pk3 | exact pk4 | exact pk5 | exact pk6 | exact pk7 | exact pk8 | exact pk9) (sel_nil _))))), E.keep (keep_cons rfl (keep_cons rfl (keep_cons rfl (keep_cons rfl (keep_cons rfl (keep_cons rfl (keep_cons rfl keep_nil)))))))⟩
    · first | with_reducible replace hb := n1 hb | with_reducible replace hb := n2 hb | with_reducible replace hb := n3 hb | with_reducible replace hb := n4 hb | with_reducible replace hb := n5 hb | with_reducible replace hb := n6 hb | replace hb := n1 hb | replace hb := n2 hb | replace hb := n3 hb | replace hb := n4 hb | replace hb := n5 hb | replace hb := n6 hb | skip
      refine wp_exit ?_
      refine then_exit ?_; clear hK; clear K
      refine then_exit ?_
      refine in_exit ?_
      refine then_k hK ?_; clear hK; clear K
      refine wp_seq_k ?_; intro K hK
      refine wp_seq_k ?_; intro K hK
      obtain rfl : i = (splitL b).length := by omega
      have hall : b.take ((splitL b).length * 1024) = b := List.take_of_length_le (by omega)
      rw [hall] at hZ
      refine region_list ?_
      refine list_pure E rfl rfl (by decide) (rn_move E rfl rfl) ?_; clear E a; intro a E
      refine list_pure E rfl rfl (by decide) (rn_not E rfl rfl) ?_; clear E a; intro a E
      refine list_pure E rfl rfl (by decide) (rn_move E rfl rfl) ?_; clear E a; intro a E
      refine guard_false E (t := 62) rfl (rfl) (fun hb62 => ?_)
      refine list_guard_yes E rfl rfl rfl rfl hb62 rfl (by decide) (rn_move E rfl rfl) ?_; clear E a; intro a E
      refine list_guard_yes E rfl rfl rfl rfl hb62 rfl (by decide) (rn_string E rfl rfl rfl rfl rfl hZ.rd (S.stab.at (by first | exact mm1 | exact mm2 | exact mm3 | exact mm4 | exact mm5 | exact mm6 | exact mm7 | exact mm8))) ?_; clear E a; intro a E
      refine list_guard_yes E rfl rfl rfl rfl hb62 rfl (by decide) (rn_move E rfl rfl) ?_; clear E a; intro a E
      refine list_guard_yes E rfl rfl rfl rfl hb62 rfl (by decide) (rn_string E rfl rfl rfl rfl rfl hO (S.stab.at (by first | exact mm1 | exact mm2 | exact mm3 | exact mm4 | exact mm5 | exact mm6 | exact mm7 | exact mm8))) ?_; clear E a; intro a E
      refine list_guard_yes E rfl rfl rfl rfl hb62 rfl (by decide) (by first | exact rn_neq E rfl rfl rfl | exact rn_neq_ptr_nil E rfl rfl rfl rfl | exact rn_neq_bool E rfl rfl rfl rfl | exact rn_neq_string E rfl rfl rfl) ?_; clear E a; intro a E
      refine list_pure E rfl rfl (by decide) (rn_pick_no' E rfl rfl hb62 rfl) ?_; clear E a; intro a E
      refine wpList_nil ?_
      refine then_k hK ?_; clear hK; clear K
      refine if_false' E rfl ((by simp)) ?_
      refine wp_skip ?_
      refine then_k hK ?_; clear hK; clear K
      refine wp_seq_k ?_; intro K hK
      refine region_list ?_
      refine list_pure E rfl rfl (by decide) (rn_move E rfl rfl) ?_; clear E a; intro a E
      refine list_call E rfl rfl (by decide) rfl Try.func17 rfl (by kernel_rfl) rfl (pack_ret O _ l hL hgl (by omega) hcapl0 _ (S.hp.sel (sel_cons (by first | exact pk1 | exact pk2 | exact pk3 | exact pk4 | exact pk5 | exact pk6 | exact pk7 | exact pk8 | exact pk9) (sel_nil _)))) ?_
      rintro v71 w ⟨vp, X, Y, rfl, hB, hT⟩; clear E a; intro a E
      have S := S.call3 (sel_cons (by first | exact pk1 | exact pk2 | exact pk3 | exact pk4 | exact pk5 | exact pk6 | exact pk7 | exact pk8 | exact pk9) (sel_nil _)) hT; obtain ⟨xs, hX, hY⟩ := hB; obtain ⟨adx, cx, rfl⟩ := hX.slice; obtain ⟨ze, hze⟩ : ∃ z, z = packE l := ⟨_, rfl⟩; rw [← hze] at E
      refine list_pure E rfl rfl (by decide) (rn_move E rfl rfl) ?_; clear E a; intro a E
      refine list_pure E rfl rfl (by decide) (rn_extract E rfl rfl rfl) ?_; clear E a; intro a E
      refine list_pure E rfl rfl (by decide) (rn_extract E rfl rfl rfl) ?_; clear E a; intro a E
      refine list_pure E rfl rfl (by decide) (rn_assign E rfl rfl) ?_; clear E a; intro a E
      refine list_pure E rfl rfl (by decide) (rn_assign E rfl rfl) ?_; clear E a; intro a E
      refine wpList_nil ?_
      refine then_k hK ?_; clear hK; clear K
      refine wp_seq_k ?_; intro K hK
      refine wp_seq_k ?_; intro K hK
      replace E := E.keep (e' := [(1, _), (2, _), (13, _), (14, _)]) (keep_cons rfl (keep_cons rfl (keep_cons rfl (keep_cons rfl (keep_nil)))))
      have hpl : ze = 0 → (packL l).length = (l.length + 15) / 16 := fun h => by
        rw [(pack_ok (hze.symm.trans h)).2.2, List.length_map, List.length_map, chop_length]; rfl
      refine wp_join (fun (a : Act) (w' : World) => ∃ bt : Bool, bt = false ∧ St w0 [O] w' [X, Y, O] ∧ Fr a 185 [(1, .slice adl l.length cl), (2, .slice ads slots.length cs), (13, .slice adx (packL l).length cx), (14, .int .i64 ze), (84, .bool bt)]) ?_ ?_
      · skip
        refine region_list ?_
        refine list_pure E rfl rfl (by decide) (rn_move E rfl rfl) ?_; clear E a; intro a E
        refine list_pure E rfl rfl (by decide) (by first | exact rn_eql E rfl rfl rfl | exact rn_eql_ptr_nil E rfl rfl rfl rfl | exact rn_eql_bool E rfl rfl rfl rfl | exact rn_eql_string E rfl rfl rfl) ?_; clear E a; intro a E
        refine list_pure E rfl rfl (by decide) (rn_move E rfl rfl) ?_; clear E a; intro a E
        refine guard_split E (t := 76) rfl (fun hb76 => ?_) (fun hb76 => ?_)
        · have hb76n := hb76; first | with_reducible replace hb76n := n1 hb76n | with_reducible replace hb76n := n2 hb76n | with_reducible replace hb76n := n3 hb76n | with_reducible replace hb76n := n4 hb76n | with_reducible replace hb76n := n5 hb76n | with_reducible replace hb76n := n6 hb76n | replace hb76n := n1 hb76n | replace hb76n := n2 hb76n | replace hb76n := n3 hb76n | replace hb76n := n4 hb76n | replace hb76n := n5 hb76n | replace hb76n := n6 hb76n | skip
          refine list_guard_yes E rfl rfl rfl rfl hb76 rfl (by decide) (rn_move E rfl rfl) ?_; clear E a; intro a E
          refine list_guard_yes E rfl rfl rfl rfl hb76 rfl (by decide) (by first | exact rn_len E rfl rfl rfl | exact rn_len_str E rfl rfl rfl | exact rn_len_string E rfl rfl rfl) ?_; clear E a; intro a E
          refine list_guard_yes E rfl rfl rfl rfl hb76 rfl (by decide) (rn_move E rfl rfl) ?_; clear E a; intro a E
          refine list_guard_yes E rfl rfl rfl rfl hb76 rfl (by decide) (by first | exact rn_len E rfl rfl rfl | exact rn_len_str E rfl rfl rfl | exact rn_len_string E rfl rfl rfl) ?_; clear E a; intro a E
          refine list_guard_yes E rfl rfl rfl rfl hb76 rfl (by decide) (rn_add E rfl rfl rfl (by first | exact wa_lit (y := 15) (by omega) | exact w_in (by omega) | exact w_inu (by omega) | exact rfl)) ?_; clear E a; intro a E
          refine list_guard_yes E rfl rfl rfl rfl hb76 rfl (by decide) (rn_quo E rfl rfl rfl (by decide) (by first | exact wq_lit (y := 16) (by omega) | exact wq_litu (y := 16) (by omega) | exact rfl)) ?_; clear E a; intro a E
          refine list_guard_yes E rfl rfl rfl rfl hb76 rfl (by decide) (by first | exact rn_neq E rfl rfl rfl | exact rn_neq_ptr_nil E rfl rfl rfl rfl | exact rn_neq_bool E rfl rfl rfl rfl | exact rn_neq_string E rfl rfl rfl) ?_; clear E a; intro a E
          refine list_pure E rfl rfl (by decide) (rn_pick_yes' E rfl rfl hb76 rfl) ?_; clear E a; intro a E
          refine wpList_nil ?_
          refine joined_here ?_
          exact ⟨_, by first | rfl | (have := hpl (by assumption); simp; omega), S.only (Bs := [X, Y, O]) (sel_cons (by first | exact pk1 | exact pk2 | exact pk3 | exact pk4 | exact pk5 | exact pk6 | exact pk7 | exact pk8 | exact pk9) (sel_cons (by first | exact pk1 | exact pk2 | exact pk3 | exact pk4 | exact pk5 | exact pk6 | exact pk7 | exact pk8 | exact pk9) (sel_cons (by first | exact pk1 | exact pk2 | exact pk3 | exact pk4 | exact pk5 | exact pk6 | exact pk7 | exact pk8 | exact pk9) (sel_nil _)))), E.keep (keep_cons rfl (keep_cons rfl (keep_cons rfl (keep_cons rfl (keep_cons rfl keep_nil)))))⟩
        · have hb76n := hb76; first | with_reducible replace hb76n := n1 hb76n | with_reducible replace hb76n := n2 hb76n | with_reducible replace hb76n := n3 hb76n | with_reducible replace hb76n := n4 hb76n | with_reducible replace hb76n := n5 hb76n | with_reducible replace hb76n := n6 hb76n | replace hb76n := n1 hb76n | replace hb76n := n2 hb76n | replace hb76n := n3 hb76n | replace hb76n := n4 hb76n | replace hb76n := n5 hb76n | replace hb76n := n6 hb76n | skip
          refine list_guard_no E rfl rfl rfl rfl hb76 rfl (by decide) ?_; clear E a; intro a E
          refine list_guard_no E rfl rfl rfl rfl hb76 rfl (by decide) ?_; clear E a; intro a E
          refine list_guard_no E rfl rfl rfl rfl hb76 rfl (by decide) ?_; clear E a; intro a E
          refine list_guard_no E rfl rfl rfl rfl hb76 rfl (by decide) ?_; clear E a; intro a E
          refine list_guard_no E rfl rfl rfl rfl hb76 rfl (by decide) ?_; clear E a; intro a E
          refine list_guard_no E rfl rfl rfl rfl hb76 rfl (by decide) ?_; clear E a; intro a E
          refine list_guard_no E rfl rfl rfl rfl hb76 rfl (by decide) ?_; clear E a; intro a E
          refine list_pure E rfl rfl (by decide) (rn_pick_no' E rfl rfl hb76 rfl) ?_; clear E a; intro a E
          refine wpList_nil ?_
          refine joined_here ?_
          exact ⟨_, by first | rfl | (have := hpl (by assumption); simp; omega), S.only (Bs := [X, Y, O]) (sel_cons (by first | exact pk1 | exact pk2 | exact pk3 | exact pk4 | exact pk5 | exact pk6 | exact pk7 | exact pk8 | exact pk9) (sel_cons (by first | exact pk1 | exact pk2 | exact pk3 | exact pk4 | exact pk5 | exact pk6 | exact pk7 | exact pk8 | exact pk9) (sel_cons (by first | exact pk1 | exact pk2 | exact pk3 | exact pk4 | exact pk5 | exact pk6 | exact pk7 | exact pk8 | exact pk9) (sel_nil _)))), E.keep (keep_cons rfl (keep_cons rfl (keep_cons rfl (keep_cons rfl (keep_cons rfl keep_nil)))))⟩
      · clear E S a; intro a w J; obtain ⟨bt, hbt, S, E⟩ := J
        refine then_k hK ?_; clear hK; clear K
        refine if_false' E rfl (hbt) ?_
        refine wp_skip ?_
        refine then_k hK ?_; clear hK; clear K
        refine wp_seq_k ?_; intro K hK
        refine wp_seq_k ?_; intro K hK
        refine region_list ?_
        refine list_pure E rfl rfl (by decide) (rn_assign E rfl rfl) ?_; clear E a; intro a E
        refine wpList_nil ?_
        refine then_k hK ?_; clear hK; clear K
        refine wp_block ?_
        refine wp_loop_ghost (fun (m : Nat) (a : Act) (w' : World) => ∃ (i : Nat), m = (packL l).length - i ∧ i ≤ (packL l).length ∧ St w0 [O] w' [X, Y, O] ∧ Fr a 185 [(1, .slice adl l.length cl), (2, .slice ads slots.length cs), (13, .slice adx (packL l).length cx), (14, .int .i64 ze), (15, .int .i64 i)]) ((packL l).length - 0) ?_ ?_
        · exact ⟨0, rfl, by omega, S, E.keep (keep_cons rfl (keep_cons rfl (keep_cons rfl (keep_cons rfl (keep_cons rfl keep_nil)))))⟩
        clear E; clear a; rintro m a w ⟨i, rfl, hi, S, E⟩
        refine wp_seq_k ?_; intro K hK
        refine wp_seq_k ?_; intro K hK
        have hmx : (packL l).length ≤ l.length := packL_length l
        refine wp_join (fun (a : Act) (w' : World) => ∃ bt : Bool, (bt = true → i < (packL l).length ∧ ze = 0) ∧ St w0 [O] w' [X, Y, O] ∧ Fr a 185 [(1, .slice adl l.length cl), (2, .slice ads slots.length cs), (13, .slice adx (packL l).length cx), (14, .int .i64 ze), (15, .int .i64 i), (92, .bool bt)]) ?_ ?_
        · skip
          refine region_list ?_
          refine list_pure E rfl rfl (by decide) (rn_move E rfl rfl) ?_; clear E a; intro a E
          refine list_pure E rfl rfl (by decide) (rn_move E rfl rfl) ?_; clear E a; intro a E
          refine list_pure E rfl rfl (by decide) (by first | exact rn_len E rfl rfl rfl | exact rn_len_str E rfl rfl rfl | exact rn_len_string E rfl rfl rfl) ?_; clear E a; intro a E
          refine list_pure E rfl rfl (by decide) (rn_lss E rfl rfl rfl) ?_; clear E a; intro a E
          refine list_pure E rfl rfl (by decide) (rn_move E rfl rfl) ?_; clear E a; intro a E
          refine guard_split E (t := 89) rfl (fun hb89 => ?_) (fun hb89 => ?_)
          · have hb89n := hb89; first | with_reducible replace hb89n := n1 hb89n | with_reducible replace hb89n := n2 hb89n | with_reducible replace hb89n := n3 hb89n | with_reducible replace hb89n := n4 hb89n | with_reducible replace hb89n := n5 hb89n | with_reducible replace hb89n := n6 hb89n | replace hb89n := n1 hb89n | replace hb89n := n2 hb89n | replace hb89n := n3 hb89n | replace hb89n := n4 hb89n | replace hb89n := n5 hb89n | replace hb89n := n6 hb89n | skip
            refine list_guard_yes E rfl rfl rfl rfl hb89 rfl (by decide) (rn_move E rfl rfl) ?_; clear E a; intro a E
            refine list_guard_yes E rfl rfl rfl rfl hb89 rfl (by decide) (by first | exact rn_eql E rfl rfl rfl | exact rn_eql_ptr_nil E rfl rfl rfl rfl | exact rn_eql_bool E rfl rfl rfl rfl | exact rn_eql_string E rfl rfl rfl) ?_; clear E a; intro a E
            refine list_pure E rfl rfl (by decide) (rn_pick_yes' E rfl rfl hb89 rfl) ?_; clear E a; intro a E
            refine wpList_nil ?_
            refine joined_here ?_
            exact ⟨_, by first | (intro h; cases h; done) | (intro h; exact ⟨by omega, eq_of_beq h⟩), S, E.keep (keep_cons rfl (keep_cons rfl (keep_cons rfl (keep_cons rfl (keep_cons rfl (keep_cons rfl keep_nil))))))⟩
          · have hb89n := hb89; first | with_reducible replace hb89n := n1 hb89n | with_reducible replace hb89n := n2 hb89n | with_reducible replace hb89n := n3 hb89n | with_reducible replace hb89n := n4 hb89n | with_reducible replace hb89n := n5 hb89n | with_reducible replace hb89n := n6 hb89n | replace hb89n := n1 hb89n | replace hb89n := n2 hb89n | replace hb89n := n3 hb89n | replace hb89n := n4 hb89n | replace hb89n := n5 hb89n | replace hb89n := n6 hb89n | skip
            refine list_guard_no E rfl rfl rfl rfl hb89 rfl (by decide) ?_; clear E a; intro a E
            refine list_guard_no E rfl rfl rfl rfl hb89 rfl (by decide) ?_; clear E a; intro a E
            refine list_pure E rfl rfl (by decide) (rn_pick_no' E rfl rfl hb89 rfl) ?_; clear E a; intro a E
            refine wpList_nil ?_
            refine joined_here ?_
            exact ⟨_, by first | (intro h; cases h; done) | (intro h; exact ⟨by omega, eq_of_beq h⟩), S, E.keep (keep_cons rfl (keep_cons rfl (keep_cons rfl (keep_cons rfl (keep_cons rfl (keep_cons rfl keep_nil))))))⟩
        · clear E S a; intro a w J; obtain ⟨bt, hbt, S, E⟩ := J
          refine then_k hK ?_; clear hK; clear K
          refine if_bool E rfl (fun hb => ?_) (fun hb => ?_)
          · first | with_reducible replace hb := n1 hb | with_reducible replace hb := n2 hb | with_reducible replace hb := n3 hb | with_reducible replace hb := n4 hb | with_reducible replace hb := n5 hb | with_reducible replace hb := n6 hb | replace hb := n1 hb | replace hb := n2 hb | replace hb := n3 hb | replace hb := n4 hb | replace hb := n5 hb | replace hb := n6 hb | skip
            refine wp_skip ?_
            refine then_k hK ?_; clear hK; clear K
            refine wp_seq_k ?_; intro K hK
            refine wp_block ?_
            refine wp_seq_k ?_; intro K hK
            obtain ⟨hib, hz0⟩ := hbt hb
            obtain ⟨h4, hg0, hpk⟩ := pack_ok (hze.symm.trans hz0)
            have hic : i < (chop 16 l).length := by rw [hpk, List.length_map, List.length_map] at hib; exact hib
            have hil := chop_lt (by omega) hic
            obtain ⟨P, hP⟩ : ∃ P, P = (l.drop (i * 16)).take 16 := ⟨_, rfl⟩
            have hx : (packL l)[i] = thinB (encs P) := by
              have h2 : (packL l)[i] = thinB (encs (chop 16 l)[i]) := by simp only [hpk, List.getElem_map]
              rw [h2, chop_at hic, ← hP]
            have hPl : P.length = min 16 (l.length - i * 16) := by rw [hP, List.length_take, List.length_drop]
            have hPm : ∀ p ∈ P, p ∈ l := fun p hp => List.mem_of_mem_drop (List.mem_of_mem_take (hP ▸ hp))
            have hPg : ∀ p ∈ P, ptE p = 0 := fun p hp => hg0 p (hPm p hp)
            have hPo : ∀ p ∈ P, p.Ok := fun p hp => hgl p (hPm p hp)
            obtain ⟨adu, cu, hvi, hcu, hU⟩ := hY.get hib
            rw [hx] at hvi hU hcu
            obtain ⟨gx, rfl⟩ := hX.addr (by omega)
            refine region_list ?_
            refine list_pure E rfl rfl (by decide) (rn_move E rfl rfl) ?_; clear E a; intro a E
            refine list_pure E rfl rfl (by decide) (by first | exact rn_len E rfl rfl rfl | exact rn_len_str E rfl rfl rfl | exact rn_len_string E rfl rfl rfl) ?_; clear E a; intro a E
            refine list_pure E rfl rfl (by decide) (rn_move E rfl rfl) ?_; clear E a; intro a E
            refine list_pure E rfl rfl (by decide) (rn_mul E rfl rfl rfl (by first | exact wm_lit (x := 16) (by omega) | exact wm_litu (x := 16) (by omega) | exact w_in (by omega) | exact rfl)) ?_; clear E a; intro a E
            refine list_pure E rfl rfl (by decide) (rn_sub E rfl rfl rfl (by first | exact ws1 (by omega) (by omega) | exact w_in (by omega) | exact w_inu (by omega) | exact rfl)) ?_; clear E a; intro a E
            refine list_pure E rfl rfl (by decide) (rn_assign E rfl rfl) ?_; clear E a; intro a E
            refine wpList_nil ?_
            refine then_k hK ?_; clear hK; clear K
            refine wp_seq_k ?_; intro K hK
            refine wp_seq_k ?_; intro K hK
            refine region_list ?_
            refine list_pure E rfl rfl (by decide) (rn_move E rfl rfl) ?_; clear E a; intro a E
            refine list_pure E rfl rfl (by decide) (rn_gtr E rfl rfl rfl) ?_; clear E a; intro a E
            refine wpList_nil ?_
            refine then_k hK ?_; clear hK; clear K
            refine wp_join (fun (a : Act) (w' : World) => ∃ n : Nat, n = P.length ∧ St w0 [O] w' [X, Y, O] ∧ Fr a 185 [(1, .slice adl l.length cl), (2, .slice ads slots.length cs), (13, .slice (some ⟨gx, 0, none⟩) (packL l).length cx), (14, .int .i64 ze), (15, .int .i64 i), (16, .int .i64 n)]) ?_ ?_
            · skip
              refine if_bool E rfl (fun hb => ?_) (fun hb => ?_)
              · first | with_reducible replace hb := n1 hb | with_reducible replace hb := n2 hb | with_reducible replace hb := n3 hb | with_reducible replace hb := n4 hb | with_reducible replace hb := n5 hb | with_reducible replace hb := n6 hb | replace hb := n1 hb | replace hb := n2 hb | replace hb := n3 hb | replace hb := n4 hb | replace hb := n5 hb | replace hb := n6 hb | skip
                refine region_list ?_
                refine list_pure E rfl rfl (by decide) (rn_assign E rfl rfl) ?_; clear E a; intro a E
                refine wpList_nil ?_
                refine joined_here ?_
                exact ⟨16, by omega, S, E.keep (keep_cons rfl (keep_cons rfl (keep_cons rfl (keep_cons rfl (keep_cons rfl (keep_cons rfl keep_nil))))))⟩
              · first | with_reducible replace hb := n1 hb | with_reducible replace hb := n2 hb | with_reducible replace hb := n3 hb | with_reducible replace hb := n4 hb | with_reducible replace hb := n5 hb | with_reducible replace hb := n6 hb | replace hb := n1 hb | replace hb := n2 hb | replace hb := n3 hb | replace hb := n4 hb | replace hb := n5 hb | replace hb := n6 hb | skip
                refine wp_skip ?_
                refine joined_here ?_
                exact ⟨l.length - 16 * i, by omega, S, E.keep (keep_cons rfl (keep_cons rfl (keep_cons rfl (keep_cons rfl (keep_cons rfl (keep_cons rfl keep_nil))))))⟩
            · clear S E a; intro a w J; obtain ⟨n, hn, S, E⟩ := J
              refine then_k hK ?_; clear hK; clear K
              refine wp_seq_k ?_; intro K hK
              refine region_list ?_
              refine list_pure E rfl rfl (by decide) (rn_move E rfl rfl) ?_; clear E a; intro a E
              refine list_wp rfl (wp_makeSlice E S rfl rfl (by decide) rfl rfl rfl rfl rfl rfl rfl (zeros_pt_one n) (by show 72 * n ≤ _; omega) (by simp only [maxLen]; omega) ?_); clear E S a; intro a w v103 C103 E S hB103 hv103
              refine list_pure E rfl rfl (by decide) (rn_assign E rfl rfl) ?_; clear E a; intro a E
              refine wpList_nil ?_
              refine then_k hK ?_; clear hK; clear K
              refine wp_seq_k ?_; intro K hK
              refine region_list ?_
              refine list_pure E rfl rfl (by decide) (rn_assign E rfl rfl) ?_; clear E a; intro a E
              refine wpList_nil ?_
              refine then_k hK ?_; clear hK; clear K
              refine wp_seq_k ?_; intro K hK
              refine wp_seq_k ?_; intro K hK
              have hM0 : Buf C103 40 9 v103 n ((List.replicate n ptZero).flatMap Pt.lay) := by rw [← zeros_pt]; exact hB103
              refine region_list ?_
              refine list_pure E rfl rfl (by decide) (rn_move E rfl rfl) ?_; clear E a; intro a E
              refine list_pure E rfl rfl (by decide) (rn_move E rfl rfl) ?_; clear E a; intro a E
              refine list_pure E rfl rfl (by decide) (by first | exact rn_indexAddr1 E rfl rfl rfl rfl rfl rfl (by omega) | exact rn_indexAddr E rfl rfl rfl rfl rfl rfl (by omega) | exact rn_indexAddr_array E rfl rfl rfl rfl rfl rfl (by omega)) ?_; clear E a; intro a E
              refine list_pure E rfl rfl (by decide) (rn_loadc E rfl rfl rfl (hX.rd.cells (S.stab.at (by first | exact mm1 | exact mm2 | exact mm3 | exact mm4 | exact mm5 | exact mm6 | exact mm7 | exact mm8)) rfl i _ hvi)) ?_; clear E a; intro a E
              refine list_pure E rfl rfl (by decide) (by first | exact rn_len E rfl rfl rfl | exact rn_len_str E rfl rfl rfl | exact rn_len_string E rfl rfl rfl) ?_; clear E a; intro a E
              refine list_pure E rfl rfl (by decide) (rn_gtr E rfl rfl rfl) ?_; clear E a; intro a E
              refine wpList_nil ?_
              refine then_k hK ?_; clear hK; clear K
              refine wp_join (fun (a : Act) (w' : World) => ∃ vm M, Buf M 40 9 vm P.length (P.flatMap Pt.lay) ∧ St w0 [O] w' [M, X, Y, O] ∧ Fr a 185 [(1, .slice adl l.length cl), (2, .slice ads slots.length cs), (13, .slice (some ⟨gx, 0, none⟩) (packL l).length cx), (14, .int .i64 ze), (15, .int .i64 i), (16, .int .i64 P.length), (17, vm), (18, .int .i64 0)]) ?_ ?_
              · skip
                refine if_bool E rfl (fun hb => ?_) (fun hb => ?_)
                · first | with_reducible replace hb := n1 hb | with_reducible replace hb := n2 hb | with_reducible replace hb := n3 hb | with_reducible replace hb := n4 hb | with_reducible replace hb := n5 hb | with_reducible replace hb := n6 hb | replace hb := n1 hb | replace hb := n2 hb | replace hb := n3 hb | replace hb := n4 hb | replace hb := n5 hb | replace hb := n6 hb | skip
                  have hfull : thinB (encs P) = encs P := thin_full (by omega)
                  rw [hfull] at hvi hU hcu
                  obtain ⟨u1, u2⟩ := unp_encs (P := P) (fun q => by rw [q] at hPl; simp only [List.length_nil] at hPl; omega) (by omega) hPg hPo
                  refine region_list ?_
                  refine list_pure E rfl rfl (by decide) (rn_move E rfl rfl) ?_; clear E a; intro a E
                  refine list_pure E rfl rfl (by decide) (rn_move E rfl rfl) ?_; clear E a; intro a E
                  refine list_pure E rfl rfl (by decide) (by first | exact rn_indexAddr1 E rfl rfl rfl rfl rfl rfl (by omega) | exact rn_indexAddr E rfl rfl rfl rfl rfl rfl (by omega) | exact rn_indexAddr_array E rfl rfl rfl rfl rfl rfl (by omega)) ?_; clear E a; intro a E
                  refine list_pure E rfl rfl (by decide) (rn_loadc E rfl rfl rfl (hX.rd.cells (S.stab.at (by first | exact mm1 | exact mm2 | exact mm3 | exact mm4 | exact mm5 | exact mm6 | exact mm7 | exact mm8)) rfl i _ hvi)) ?_; clear E a; intro a E
                  refine list_call E rfl rfl (by decide) rfl Try.func19 rfl (by kernel_rfl) rfl (unpack_ret Y _ (encs P) hU (by rw [encs_length]; omega) ⟨_, _, rfl, hcu⟩ _ (S.hp.sel (sel_cons (by first | exact pk1 | exact pk2 | exact pk3 | exact pk4 | exact pk5 | exact pk6 | exact pk7 | exact pk8 | exact pk9) (sel_nil _)))) ?_
                  rintro v115 w ⟨vm, M, rfl, hM, hT⟩; clear E a; intro a E
                  have S := S.call2 (sel_cons (by first | exact pk1 | exact pk2 | exact pk3 | exact pk4 | exact pk5 | exact pk6 | exact pk7 | exact pk8 | exact pk9) (sel_nil _)) hT; rw [u1] at E; rw [u2] at hM
                  refine list_pure E rfl rfl (by decide) (rn_move E rfl rfl) ?_; clear E a; intro a E
                  refine list_pure E rfl rfl (by decide) (rn_extract E rfl rfl rfl) ?_; clear E a; intro a E
                  refine list_pure E rfl rfl (by decide) (rn_extract E rfl rfl rfl) ?_; clear E a; intro a E
                  refine list_pure E rfl rfl (by decide) (rn_assign E rfl rfl) ?_; clear E a; intro a E
                  refine list_pure E rfl rfl (by decide) (rn_assign E rfl rfl) ?_; clear E a; intro a E
                  refine wpList_nil ?_
                  refine joined_here ?_
                  subst hn
                  exact ⟨_, M, hM, S.only (Bs := [M, X, Y, O]) (sel_cons (by first | exact pk1 | exact pk2 | exact pk3 | exact pk4 | exact pk5 | exact pk6 | exact pk7 | exact pk8 | exact pk9) (sel_cons (by first | exact pk1 | exact pk2 | exact pk3 | exact pk4 | exact pk5 | exact pk6 | exact pk7 | exact pk8 | exact pk9) (sel_cons (by first | exact pk1 | exact pk2 | exact pk3 | exact pk4 | exact pk5 | exact pk6 | exact pk7 | exact pk8 | exact pk9) (sel_cons (by first | exact pk1 | exact pk2 | exact pk3 | exact pk4 | exact pk5 | exact pk6 | exact pk7 | exact pk8 | exact pk9) (sel_nil _))))), E.keep (keep_cons rfl (keep_cons rfl (keep_cons rfl (keep_cons rfl (keep_cons rfl (keep_cons rfl (keep_cons rfl (keep_cons rfl keep_nil))))))))⟩
                · first | with_reducible replace hb := n1 hb | with_reducible replace hb := n2 hb | with_reducible replace hb := n3 hb | with_reducible replace hb := n4 hb | with_reducible replace hb := n5 hb | with_reducible replace hb := n6 hb | replace hb := n1 hb | replace hb := n2 hb | replace hb := n3 hb | replace hb := n4 hb | replace hb := n5 hb | replace hb := n6 hb | skip
                  refine wp_skip ?_
                  refine joined_here ?_
                  have hPz := encs_blank hPg hPo (by omega)
                  subst hn
                  exact ⟨_, C103, by rw [← hPz] at hM0; exact hM0, S.only (Bs := [C103, X, Y, O]) (sel_cons (by first | exact pk1 | exact pk2 | exact pk3 | exact pk4 | exact pk5 | exact pk6 | exact pk7 | exact pk8 | exact pk9) (sel_cons (by first | exact pk1 | exact pk2 | exact pk3 | exact pk4 | exact pk5 | exact pk6 | exact pk7 | exact pk8 | exact pk9) (sel_cons (by first | exact pk1 | exact pk2 | exact pk3 | exact pk4 | exact pk5 | exact pk6 | exact pk7 | exact pk8 | exact pk9) (sel_cons (by first | exact pk1 | exact pk2 | exact pk3 | exact pk4 | exact pk5 | exact pk6 | exact pk7 | exact pk8 | exact pk9) (sel_nil _))))), E.keep (keep_cons rfl (keep_cons rfl (keep_cons rfl (keep_cons rfl (keep_cons rfl (keep_cons rfl (keep_cons rfl (keep_cons rfl keep_nil))))))))⟩
              · clear S E a; intro a w J; obtain ⟨vm, M, hM, S, E⟩ := J
                refine then_k hK ?_; clear hK; clear K
                refine wp_seq_k ?_; intro K hK
                refine wp_seq_k ?_; intro K hK
                obtain ⟨adm, cm, rfl⟩ := hM.slice
                refine region_list ?_
                refine list_pure E rfl rfl (by decide) (rn_move E rfl rfl) ?_; clear E a; intro a E
                refine list_pure E rfl rfl (by decide) (by first | exact rn_neq E rfl rfl rfl | exact rn_neq_ptr_nil E rfl rfl rfl rfl | exact rn_neq_bool E rfl rfl rfl rfl | exact rn_neq_string E rfl rfl rfl) ?_; clear E a; intro a E
                refine list_pure E rfl rfl (by decide) (rn_move E rfl rfl) ?_; clear E a; intro a E
                refine guard_false E (t := 120) rfl (rfl) (fun hb120 => ?_)
                refine list_guard_yes E rfl rfl rfl rfl hb120 rfl (by decide) (rn_move E rfl rfl) ?_; clear E a; intro a E
                refine list_guard_yes E rfl rfl rfl rfl hb120 rfl (by decide) (by first | exact rn_len E rfl rfl rfl | exact rn_len_str E rfl rfl rfl | exact rn_len_string E rfl rfl rfl) ?_; clear E a; intro a E
                refine list_guard_yes E rfl rfl rfl rfl hb120 rfl (by decide) (rn_move E rfl rfl) ?_; clear E a; intro a E
                refine list_guard_yes E rfl rfl rfl rfl hb120 rfl (by decide) (by first | exact rn_neq E rfl rfl rfl | exact rn_neq_ptr_nil E rfl rfl rfl rfl | exact rn_neq_bool E rfl rfl rfl rfl | exact rn_neq_string E rfl rfl rfl) ?_; clear E a; intro a E
                refine list_pure E rfl rfl (by decide) (rn_pick_no' E rfl rfl hb120 rfl) ?_; clear E a; intro a E
                refine wpList_nil ?_
                refine then_k hK ?_; clear hK; clear K
                refine if_false' E rfl ((by simp)) ?_
                refine wp_skip ?_
                refine then_k hK ?_; clear hK; clear K
                refine wp_seq_k ?_; intro K hK
                refine region_list ?_
                refine list_pure E rfl rfl (by decide) (rn_assign E rfl rfl) ?_; clear E a; intro a E
                refine wpList_nil ?_
                refine then_k hK ?_; clear hK; clear K
                refine wp_block ?_
                refine wp_loop_ghost (fun (m : Nat) (a : Act) (w' : World) => ∃ (k : Nat), m = P.length - k ∧ k ≤ P.length ∧ St w0 [O] w' [M, X, Y, O] ∧ Fr a 185 [(1, .slice adl l.length cl), (2, .slice ads slots.length cs), (13, .slice (some ⟨gx, 0, none⟩) (packL l).length cx), (14, .int .i64 ze), (15, .int .i64 i), (16, .int .i64 P.length), (17, .slice adm P.length cm), (19, .int .i64 k)]) (P.length - 0) ?_ ?_
                · exact ⟨0, rfl, by omega, S, E.keep (keep_cons rfl (keep_cons rfl (keep_cons rfl (keep_cons rfl (keep_cons rfl (keep_cons rfl (keep_cons rfl (keep_cons rfl keep_nil))))))))⟩
                clear E; clear a; rintro m a w ⟨k, rfl, hk, S, E⟩
                refine wp_seq_k ?_; intro K hK
                refine wp_seq_k ?_; intro K hK
                refine region_list ?_
                refine list_pure E rfl rfl (by decide) (rn_move E rfl rfl) ?_; clear E a; intro a E
                refine list_pure E rfl rfl (by decide) (rn_move E rfl rfl) ?_; clear E a; intro a E
                refine list_pure E rfl rfl (by decide) (rn_lss E rfl rfl rfl) ?_; clear E a; intro a E
                refine wpList_nil ?_
                refine then_k hK ?_; clear hK; clear K
                refine if_bool E rfl (fun hb => ?_) (fun hb => ?_)
                · first | with_reducible replace hb := n1 hb | with_reducible replace hb := n2 hb | with_reducible replace hb := n3 hb | with_reducible replace hb := n4 hb | with_reducible replace hb := n5 hb | with_reducible replace hb := n6 hb | replace hb := n1 hb | replace hb := n2 hb | replace hb := n3 hb | replace hb := n4 hb | replace hb := n5 hb | replace hb := n6 hb | skip
                  refine wp_skip ?_
                  refine then_k hK ?_; clear hK; clear K
                  refine wp_seq_k ?_; intro K hK
                  refine wp_block ?_
                  refine wp_seq_k ?_; intro K hK
                  have hkb : k < P.length := by omega
                  have hkl : 16 * i + k < l.length := by omega
                  have hPk : l[16 * i + k] = P[k] := by subst hP; rw [List.getElem_take, List.getElem_drop]; congr 1; omega
                  obtain ⟨gm, rfl⟩ := hM.addr (by omega)
                  obtain ⟨gl, ol, rfl⟩ := hL.addr (by omega)
                  refine region_mix0 S (.ofL [(0, 0), (1, 0), (2, 0), (3, 0), (4, 0), (5, 0), (6, 0), (7, 0), (8, 0), (9, 0), (10, 0), (11, 0)]) (by kernel_rfl) (by kernel_rfl) ?_
                  clear S; intro w S
                  refine mix_pure E rfl rfl rfl (by decide) (fun w h => rn_move E rfl rfl) ?_; clear E a; intro a E
                  refine mix_pure E rfl rfl rfl (by decide) (fun w h => rn_move E rfl rfl) ?_; clear E a; intro a E
                  refine mix_pure E rfl rfl rfl (by decide) (fun w h => by first | exact rn_indexAddr1 E rfl rfl rfl rfl rfl rfl (by omega) | exact rn_indexAddr E rfl rfl rfl rfl rfl rfl (by omega) | exact rn_indexAddr_array E rfl rfl rfl rfl rfl rfl (by omega)) ?_; clear E a; intro a E
                  refine mix_pure E rfl rfl rfl (by decide) (fun w h => rn_load_aggc (vs := [_, _, _, _, _, _, _, _, _]) E rfl rfl rfl rfl (hM.rd.elem (lay := Pt.lay) Pt.lay_len (h.at (by first | exact mm1 | exact mm2 | exact mm3 | exact mm4 | exact mm5 | exact mm6 | exact mm7 | exact mm8)) (i := k) hkb)) ?_; clear E a; intro a E
                  refine mix_pure E rfl rfl rfl (by decide) (fun w h => rn_move E rfl rfl) ?_; clear E a; intro a E
                  refine mix_pure E rfl rfl rfl (by decide) (fun w h => rn_move E rfl rfl) ?_; clear E a; intro a E
                  refine mix_pure E rfl rfl rfl (by decide) (fun w h => rn_mul E rfl rfl rfl (by first | exact wm_lit (x := 16) (by omega) | exact wm_litu (x := 16) (by omega) | exact w_in (by omega) | exact rfl)) ?_; clear E a; intro a E
                  refine mix_pure E rfl rfl rfl (by decide) (fun w h => rn_move E rfl rfl) ?_; clear E a; intro a E
                  refine mix_pure E rfl rfl rfl (by decide) (fun w h => rn_add E rfl rfl rfl (by first | exact wa1 (by omega) | exact w_in (by omega) | exact w_inu (by omega) | exact rfl)) ?_; clear E a; intro a E
                  refine mix_pure E rfl rfl rfl (by decide) (fun w h => by first | exact rn_indexAddr1 E rfl rfl rfl rfl rfl rfl (by omega) | exact rn_indexAddr E rfl rfl rfl rfl rfl rfl (by omega) | exact rn_indexAddr_array E rfl rfl rfl rfl rfl rfl (by omega)) ?_; clear E a; intro a E
                  refine mix_pure E rfl rfl rfl (by decide) (fun w h => rn_load_aggc (vs := [_, _, _, _, _, _, _, _, _]) E rfl rfl rfl rfl (hPk ▸ hL.elem (lay := Pt.lay) Pt.lay_len (h.at (by first | exact mm1 | exact mm2 | exact mm3 | exact mm4 | exact mm5 | exact mm6 | exact mm7 | exact mm8)) (i := 16 * i + k) hkl)) ?_; clear E a; intro a E
                  refine mix_pure E rfl rfl rfl (by decide) (fun w h => by first | exact rn_neq_pair E rfl rfl rfl rfl (by kernel_rfl) (by kernel_rfl) rfl rfl rfl | exact rn_neq_cells E rfl rfl rfl rfl (by kernel_rfl) (by kernel_rfl) rfl) ?_; clear E a; intro a E
                  refine mix_nil ?_
                  refine then_k hK ?_; clear hK; clear K
                  refine if_bool E rfl (fun hb => ?_) (fun hb => ?_)
                  · first | with_reducible replace hb := n1 hb | with_reducible replace hb := n2 hb | with_reducible replace hb := n3 hb | with_reducible replace hb := n4 hb | with_reducible replace hb := n5 hb | with_reducible replace hb := n6 hb | replace hb := n1 hb | replace hb := n2 hb | replace hb := n3 hb | replace hb := n4 hb | replace hb := n5 hb | replace hb := n6 hb | skip
                    exfalso; simp at hb
                  · first | with_reducible replace hb := n1 hb | with_reducible replace hb := n2 hb | with_reducible replace hb := n3 hb | with_reducible replace hb := n4 hb | with_reducible replace hb := n5 hb | with_reducible replace hb := n6 hb | replace hb := n1 hb | replace hb := n2 hb | replace hb := n3 hb | replace hb := n4 hb | replace hb := n5 hb | replace hb := n6 hb | skip
                    refine wp_skip ?_
                    refine in_normal ?_
                    refine then_k hK ?_; clear hK; clear K
                    refine region_list ?_
                    refine list_pure E rfl rfl (by decide) (rn_move E rfl rfl) ?_; clear E a; intro a E
                    refine list_pure E rfl rfl (by decide) (rn_add E rfl rfl rfl (by first | exact wa_lit (y := 1) (by omega) | exact w_in (by omega) | exact w_inu (by omega) | exact rfl)) ?_; clear E a; intro a E
                    refine list_pure E rfl rfl (by decide) (rn_assign E rfl rfl) ?_; clear E a; intro a E
                    refine wpList_nil ?_
                    refine then_normal ?_
                    exact ⟨_, by omega, k + 1, rfl, by omega, S, E.keep (keep_cons rfl (keep_cons rfl (keep_cons rfl (keep_cons rfl (keep_cons rfl (keep_cons rfl (keep_cons rfl (keep_cons rfl keep_nil))))))))⟩
                · first | with_reducible replace hb := n1 hb | with_reducible replace hb := n2 hb | with_reducible replace hb := n3 hb | with_reducible replace hb := n4 hb | with_reducible replace hb := n5 hb | with_reducible replace hb := n6 hb | replace hb := n1 hb | replace hb := n2 hb | replace hb := n3 hb | replace hb := n4 hb | replace hb := n5 hb | replace hb := n6 hb | skip
                  refine wp_exit ?_
                  refine then_exit ?_; clear hK; clear K
                  refine then_exit ?_
                  refine in_exit ?_
                  refine in_normal ?_
                  refine then_k hK ?_; clear hK; clear K
                  refine region_list ?_
                  refine list_pure E rfl rfl (by decide) (rn_move E rfl rfl) ?_; clear E a; intro a E
                  refine list_pure E rfl rfl (by decide) (rn_add E rfl rfl rfl (by first | exact wa_lit (y := 1) (by omega) | exact w_in (by omega) | exact w_inu (by omega) | exact rfl)) ?_; clear E a; intro a E
                  refine list_pure E rfl rfl (by decide) (rn_assign E rfl rfl) ?_; clear E a; intro a E
                  refine wpList_nil ?_
                  refine then_normal ?_
                  exact ⟨_, by omega, i + 1, rfl, by omega, S.only (Bs := [X, Y, O]) (sel_cons (by first | exact pk1 | exact pk2 | exact pk3 | exact pk4 | exact pk5 | exact pk6 | exact pk7 | exact pk8 | exact pk9) (sel_cons (by first | exact pk1 | exact pk2 | exact pk3 | exact pk4 | exact pk5 | exact pk6 | exact pk7 | exact pk8 | exact pk9) (sel_cons (by first | exact pk1 | exact pk2 | exact pk3 | exact pk4 | exact pk5 | exact pk6 | exact pk7 | exact pk8 | exact pk9) (sel_nil _)))), E.keep (keep_cons rfl (keep_cons rfl (keep_cons rfl (keep_cons rfl (keep_cons rfl keep_nil)))))⟩
          · first | with_reducible replace hb := n1 hb | with_reducible replace hb := n2 hb | with_reducible replace hb := n3 hb | with_reducible replace hb := n4 hb | with_reducible replace hb := n5 hb | with_reducible replace hb := n6 hb | replace hb := n1 hb | replace hb := n2 hb | replace hb := n3 hb | replace hb := n4 hb | replace hb := n5 hb | replace hb := n6 hb | skip
            refine wp_exit ?_
            refine then_exit ?_; clear hK; clear K
            refine then_exit ?_
            refine in_exit ?_
            refine then_k hK ?_; clear hK; clear K
            refine wp_seq_k ?_; intro K hK
            refine region_list ?_
            refine list_pure E rfl rfl (by decide) (rn_move E rfl rfl) ?_; clear E a; intro a E
            refine list_call E rfl rfl (by decide) rfl Try.func21 rfl (by kernel_rfl) rfl (table_ret O _ slots hS hgs (by omega) _ (S.hp.sel (sel_cons (by first | exact pk1 | exact pk2 | exact pk3 | exact pk4 | exact pk5 | exact pk6 | exact pk7 | exact pk8 | exact pk9) (sel_nil _)))) ?_
            rintro v145 w ⟨vt, T, rfl, hT8, hT⟩; clear E a; intro a E
            have S := S.call2 (sel_cons (by first | exact pk1 | exact pk2 | exact pk3 | exact pk4 | exact pk5 | exact pk6 | exact pk7 | exact pk8 | exact pk9) (sel_nil _)) hT; obtain ⟨zg, hzg⟩ : ∃ z, z = tabE slots := ⟨_, rfl⟩; rw [← hzg] at E
            refine list_pure E rfl rfl (by decide) (rn_move E rfl rfl) ?_; clear E a; intro a E
            refine list_pure E rfl rfl (by decide) (rn_extract E rfl rfl rfl) ?_; clear E a; intro a E
            refine list_pure E rfl rfl (by decide) (rn_extract E rfl rfl rfl) ?_; clear E a; intro a E
            refine list_pure E rfl rfl (by decide) (rn_assign E rfl rfl) ?_; clear E a; intro a E
            refine list_pure E rfl rfl (by decide) (rn_assign E rfl rfl) ?_; clear E a; intro a E
            refine wpList_nil ?_
            refine then_k hK ?_; clear hK; clear K
            refine wp_seq_k ?_; intro K hK
            refine region_list ?_
            refine list_pure E rfl rfl (by decide) (rn_move E rfl rfl) ?_; clear E a; intro a E
            refine list_call E rfl rfl (by decide) rfl Try.func23 rfl (by kernel_rfl) rfl (slots_ret T vt (tabL slots) hT8.rd (by have := tabL_length slots; omega) hT8.hcap _ (S.hp.sel (sel_cons (by first | exact pk1 | exact pk2 | exact pk3 | exact pk4 | exact pk5 | exact pk6 | exact pk7 | exact pk8 | exact pk9) (sel_nil _)))) ?_
            rintro v150 w ⟨vn, N, rfl, hN, hT⟩; clear E a; intro a E
            have S := S.call2 (sel_cons (by first | exact pk1 | exact pk2 | exact pk3 | exact pk4 | exact pk5 | exact pk6 | exact pk7 | exact pk8 | exact pk9) (sel_nil _)) hT; obtain ⟨zh, hzh⟩ : ∃ z, z = sltsE (tabL slots) := ⟨_, rfl⟩; obtain ⟨SL, hSL⟩ : ∃ z, z = sltsL (tabL slots) := ⟨_, rfl⟩; rw [← hzh] at E; rw [← hSL] at hN; obtain ⟨adn, cn, rfl⟩ := hN.slice
            refine list_pure E rfl rfl (by decide) (rn_move E rfl rfl) ?_; clear E a; intro a E
            refine list_pure E rfl rfl (by decide) (rn_extract E rfl rfl rfl) ?_; clear E a; intro a E
            refine list_pure E rfl rfl (by decide) (rn_extract E rfl rfl rfl) ?_; clear E a; intro a E
            refine list_pure E rfl rfl (by decide) (rn_assign E rfl rfl) ?_; clear E a; intro a E
            refine list_pure E rfl rfl (by decide) (rn_assign E rfl rfl) ?_; clear E a; intro a E
            refine wpList_nil ?_
            refine then_k hK ?_; clear hK; clear K
            refine wp_seq_k ?_; intro K hK
            refine wp_seq_k ?_; intro K hK
            have hback : zg = 0 → zh = 0 ∧ SL = slots := fun h => by rw [hzh, hSL]; exact tab_ok (hzg.symm.trans h) hgs
            refine wp_join (fun (a : Act) (w' : World) => ∃ bt : Bool, bt = false ∧ St w0 [O] w' [N, O] ∧ Fr a 185 [(2, .slice ads slots.length cs), (21, .int .i64 zg), (22, .slice adn SL.length cn), (165, .bool bt)]) ?_ ?_
            · skip
              refine region_list ?_
              refine list_pure E rfl rfl (by decide) (rn_move E rfl rfl) ?_; clear E a; intro a E
              refine list_pure E rfl rfl (by decide) (by first | exact rn_eql E rfl rfl rfl | exact rn_eql_ptr_nil E rfl rfl rfl rfl | exact rn_eql_bool E rfl rfl rfl rfl | exact rn_eql_string E rfl rfl rfl) ?_; clear E a; intro a E
              refine list_pure E rfl rfl (by decide) (rn_move E rfl rfl) ?_; clear E a; intro a E
              refine guard_split E (t := 155) rfl (fun hb155 => ?_) (fun hb155 => ?_)
              · have hb155n := hb155; first | with_reducible replace hb155n := n1 hb155n | with_reducible replace hb155n := n2 hb155n | with_reducible replace hb155n := n3 hb155n | with_reducible replace hb155n := n4 hb155n | with_reducible replace hb155n := n5 hb155n | with_reducible replace hb155n := n6 hb155n | replace hb155n := n1 hb155n | replace hb155n := n2 hb155n | replace hb155n := n3 hb155n | replace hb155n := n4 hb155n | replace hb155n := n5 hb155n | replace hb155n := n6 hb155n | skip
                refine list_guard_yes E rfl rfl rfl rfl hb155 rfl (by decide) (rn_move E rfl rfl) ?_; clear E a; intro a E
                refine list_guard_yes E rfl rfl rfl rfl hb155 rfl (by decide) (by first | exact rn_neq E rfl rfl rfl | exact rn_neq_ptr_nil E rfl rfl rfl rfl | exact rn_neq_bool E rfl rfl rfl rfl | exact rn_neq_string E rfl rfl rfl) ?_; clear E a; intro a E
                refine list_guard_yes E rfl rfl rfl rfl hb155 rfl (by decide) (rn_move E rfl rfl) ?_; clear E a; intro a E
                refine guard_split E (t := 158) rfl (fun hb158 => ?_) (fun hb158 => ?_)
                · have hb158n := hb158; first | with_reducible replace hb158n := n1 hb158n | with_reducible replace hb158n := n2 hb158n | with_reducible replace hb158n := n3 hb158n | with_reducible replace hb158n := n4 hb158n | with_reducible replace hb158n := n5 hb158n | with_reducible replace hb158n := n6 hb158n | replace hb158n := n1 hb158n | replace hb158n := n2 hb158n | replace hb158n := n3 hb158n | replace hb158n := n4 hb158n | replace hb158n := n5 hb158n | replace hb158n := n6 hb158n | skip
                  refine list_guard_no E rfl rfl rfl rfl hb158 rfl (by decide) ?_; clear E a; intro a E
                  refine list_guard_no E rfl rfl rfl rfl hb158 rfl (by decide) ?_; clear E a; intro a E
                  refine list_guard_no E rfl rfl rfl rfl hb158 rfl (by decide) ?_; clear E a; intro a E
                  refine list_guard_no E rfl rfl rfl rfl hb158 rfl (by decide) ?_; clear E a; intro a E
                  refine list_guard_no E rfl rfl rfl rfl hb158 rfl (by decide) ?_; clear E a; intro a E
                  refine list_guard_yes E rfl rfl rfl rfl hb155 rfl (by decide) (rn_pick_yes' E rfl rfl hb158 rfl) ?_; clear E a; intro a E
                  refine list_pure E rfl rfl (by decide) (rn_pick_yes' E rfl rfl hb155 rfl) ?_; clear E a; intro a E
                  refine wpList_nil ?_
                  refine joined_here ?_
                  exact ⟨_, by first | rfl | exact absurd (hback (by assumption)).1 (by assumption) | (rw [(hback (by assumption)).2]; simp), S.only (Bs := [N, O]) (sel_cons (by first | exact pk1 | exact pk2 | exact pk3 | exact pk4 | exact pk5 | exact pk6 | exact pk7 | exact pk8 | exact pk9) (sel_cons (by first | exact pk1 | exact pk2 | exact pk3 | exact pk4 | exact pk5 | exact pk6 | exact pk7 | exact pk8 | exact pk9) (sel_nil _))), E.keep (keep_cons rfl (keep_cons rfl (keep_cons rfl (keep_cons rfl keep_nil))))⟩
                · have hb158n := hb158; first | with_reducible replace hb158n := n1 hb158n | with_reducible replace hb158n := n2 hb158n | with_reducible replace hb158n := n3 hb158n | with_reducible replace hb158n := n4 hb158n | with_reducible replace hb158n := n5 hb158n | with_reducible replace hb158n := n6 hb158n | replace hb158n := n1 hb158n | replace hb158n := n2 hb158n | replace hb158n := n3 hb158n | replace hb158n := n4 hb158n | replace hb158n := n5 hb158n | replace hb158n := n6 hb158n | skip
                  refine list_guard_yes E rfl rfl rfl rfl hb158 rfl (by decide) (rn_move E rfl rfl) ?_; clear E a; intro a E
                  refine list_guard_yes E rfl rfl rfl rfl hb158 rfl (by decide) (by first | exact rn_len E rfl rfl rfl | exact rn_len_str E rfl rfl rfl | exact rn_len_string E rfl rfl rfl) ?_; clear E a; intro a E
                  refine list_guard_yes E rfl rfl rfl rfl hb158 rfl (by decide) (rn_move E rfl rfl) ?_; clear E a; intro a E
                  refine list_guard_yes E rfl rfl rfl rfl hb158 rfl (by decide) (by first | exact rn_len E rfl rfl rfl | exact rn_len_str E rfl rfl rfl | exact rn_len_string E rfl rfl rfl) ?_; clear E a; intro a E
                  refine list_guard_yes E rfl rfl rfl rfl hb158 rfl (by decide) (by first | exact rn_neq E rfl rfl rfl | exact rn_neq_ptr_nil E rfl rfl rfl rfl | exact rn_neq_bool E rfl rfl rfl rfl | exact rn_neq_string E rfl rfl rfl) ?_; clear E a; intro a E
                  refine list_guard_yes E rfl rfl rfl rfl hb155 rfl (by decide) (rn_pick_no' E rfl rfl hb158 rfl) ?_; clear E a; intro a E
                  refine list_pure E rfl rfl (by decide) (rn_pick_yes' E rfl rfl hb155 rfl) ?_; clear E a; intro a E
                  refine wpList_nil ?_
                  refine joined_here ?_
                  exact ⟨_, by first | rfl | exact absurd (hback (by assumption)).1 (by assumption) | (rw [(hback (by assumption)).2]; simp), S.only (Bs := [N, O]) (sel_cons (by first | exact pk1 | exact pk2 | exact pk3 | exact pk4 | exact pk5 | exact pk6 | exact pk7 | exact pk8 | exact pk9) (sel_cons (by first | exact pk1 | exact pk2 | exact pk3 | exact pk4 | exact pk5 | exact pk6 | exact pk7 | exact pk8 | exact pk9) (sel_nil _))), E.keep (keep_cons rfl (keep_cons rfl (keep_cons rfl (keep_cons rfl keep_nil))))⟩
              · have hb155n := hb155; first | with_reducible replace hb155n := n1 hb155n | with_reducible replace hb155n := n2 hb155n | with_reducible replace hb155n := n3 hb155n | with_reducible replace hb155n := n4 hb155n | with_reducible replace hb155n := n5 hb155n | with_reducible replace hb155n := n6 hb155n | replace hb155n := n1 hb155n | replace hb155n := n2 hb155n | replace hb155n := n3 hb155n | replace hb155n := n4 hb155n | replace hb155n := n5 hb155n | replace hb155n := n6 hb155n | skip
                refine list_guard_no E rfl rfl rfl rfl hb155 rfl (by decide) ?_; clear E a; intro a E
                refine list_guard_no E rfl rfl rfl rfl hb155 rfl (by decide) ?_; clear E a; intro a E
                refine list_guard_no E rfl rfl rfl rfl hb155 rfl (by decide) ?_; clear E a; intro a E
                refine list_guard_undef E rfl rfl rfl rfl rfl (by decide) ?_; clear E a; intro a E
                refine list_guard_undef E rfl rfl rfl rfl rfl (by decide) ?_; clear E a; intro a E
                refine list_guard_undef E rfl rfl rfl rfl rfl (by decide) ?_; clear E a; intro a E
                refine list_guard_undef E rfl rfl rfl rfl rfl (by decide) ?_; clear E a; intro a E
                refine list_guard_undef E rfl rfl rfl rfl rfl (by decide) ?_; clear E a; intro a E
                refine list_guard_no E rfl rfl rfl rfl hb155 rfl (by decide) ?_; clear E a; intro a E
                refine list_pure E rfl rfl (by decide) (rn_pick_no' E rfl rfl hb155 rfl) ?_; clear E a; intro a E
                refine wpList_nil ?_
                refine joined_here ?_
                exact ⟨_, by first | rfl | exact absurd (hback (by assumption)).1 (by assumption) | (rw [(hback (by assumption)).2]; simp), S.only (Bs := [N, O]) (sel_cons (by first | exact pk1 | exact pk2 | exact pk3 | exact pk4 | exact pk5 | exact pk6 | exact pk7 | exact pk8 | exact pk9) (sel_cons (by first | exact pk1 | exact pk2 | exact pk3 | exact pk4 | exact pk5 | exact pk6 | exact pk7 | exact pk8 | exact pk9) (sel_nil _))), E.keep (keep_cons rfl (keep_cons rfl (keep_cons rfl (keep_cons rfl keep_nil))))⟩
            · clear E S a; intro a w J; obtain ⟨bt, hbt, S, E⟩ := J
              refine then_k hK ?_; clear hK; clear K
              refine if_false' E rfl (hbt) ?_
              refine wp_skip ?_
              refine then_k hK ?_; clear hK; clear K
              refine wp_seq_k ?_; intro K hK
              refine wp_seq_k ?_; intro K hK
              refine region_list ?_
              refine list_pure E rfl rfl (by decide) (rn_assign E rfl rfl) ?_; clear E a; intro a E
              refine wpList_nil ?_
              refine then_k hK ?_; clear hK; clear K
              refine wp_block ?_
              refine wp_loop_ghost (fun (m : Nat) (a : Act) (w' : World) => ∃ (i : Nat), m = slots.length - i ∧ i ≤ slots.length ∧ St w0 [O] w' [N, O] ∧ Fr a 185 [(2, .slice ads slots.length cs), (21, .int .i64 zg), (22, .slice adn SL.length cn), (24, .int .i64 i)]) (slots.length - 0) ?_ ?_
              · exact ⟨0, rfl, by omega, S, E.keep (keep_cons rfl (keep_cons rfl (keep_cons rfl (keep_cons rfl keep_nil))))⟩
              clear E; clear a; rintro m a w ⟨i, rfl, hi, S, E⟩
              refine wp_seq_k ?_; intro K hK
              refine wp_seq_k ?_; intro K hK
              refine wp_join (fun (a : Act) (w' : World) => ∃ bt : Bool, (bt = true → i < slots.length ∧ zg = 0) ∧ St w0 [O] w' [N, O] ∧ Fr a 185 [(2, .slice ads slots.length cs), (21, .int .i64 zg), (22, .slice adn SL.length cn), (24, .int .i64 i), (173, .bool bt)]) ?_ ?_
              · skip
                refine region_list ?_
                refine list_pure E rfl rfl (by decide) (rn_move E rfl rfl) ?_; clear E a; intro a E
                refine list_pure E rfl rfl (by decide) (rn_move E rfl rfl) ?_; clear E a; intro a E
                refine list_pure E rfl rfl (by decide) (by first | exact rn_len E rfl rfl rfl | exact rn_len_str E rfl rfl rfl | exact rn_len_string E rfl rfl rfl) ?_; clear E a; intro a E
                refine list_pure E rfl rfl (by decide) (rn_lss E rfl rfl rfl) ?_; clear E a; intro a E
                refine list_pure E rfl rfl (by decide) (rn_move E rfl rfl) ?_; clear E a; intro a E
                refine guard_split E (t := 170) rfl (fun hb170 => ?_) (fun hb170 => ?_)
                · have hb170n := hb170; first | with_reducible replace hb170n := n1 hb170n | with_reducible replace hb170n := n2 hb170n | with_reducible replace hb170n := n3 hb170n | with_reducible replace hb170n := n4 hb170n | with_reducible replace hb170n := n5 hb170n | with_reducible replace hb170n := n6 hb170n | replace hb170n := n1 hb170n | replace hb170n := n2 hb170n | replace hb170n := n3 hb170n | replace hb170n := n4 hb170n | replace hb170n := n5 hb170n | replace hb170n := n6 hb170n | skip
                  refine list_guard_yes E rfl rfl rfl rfl hb170 rfl (by decide) (rn_move E rfl rfl) ?_; clear E a; intro a E
                  refine list_guard_yes E rfl rfl rfl rfl hb170 rfl (by decide) (by first | exact rn_eql E rfl rfl rfl | exact rn_eql_ptr_nil E rfl rfl rfl rfl | exact rn_eql_bool E rfl rfl rfl rfl | exact rn_eql_string E rfl rfl rfl) ?_; clear E a; intro a E
                  refine list_pure E rfl rfl (by decide) (rn_pick_yes' E rfl rfl hb170 rfl) ?_; clear E a; intro a E
                  refine wpList_nil ?_
                  refine joined_here ?_
                  exact ⟨_, by first | (intro h; cases h; done) | (intro h; exact ⟨by omega, eq_of_beq h⟩), S, E.keep (keep_cons rfl (keep_cons rfl (keep_cons rfl (keep_cons rfl (keep_cons rfl keep_nil)))))⟩
                · have hb170n := hb170; first | with_reducible replace hb170n := n1 hb170n | with_reducible replace hb170n := n2 hb170n | with_reducible replace hb170n := n3 hb170n | with_reducible replace hb170n := n4 hb170n | with_reducible replace hb170n := n5 hb170n | with_reducible replace hb170n := n6 hb170n | replace hb170n := n1 hb170n | replace hb170n := n2 hb170n | replace hb170n := n3 hb170n | replace hb170n := n4 hb170n | replace hb170n := n5 hb170n | replace hb170n := n6 hb170n | skip
                  refine list_guard_no E rfl rfl rfl rfl hb170 rfl (by decide) ?_; clear E a; intro a E
                  refine list_guard_no E rfl rfl rfl rfl hb170 rfl (by decide) ?_; clear E a; intro a E
                  refine list_pure E rfl rfl (by decide) (rn_pick_no' E rfl rfl hb170 rfl) ?_; clear E a; intro a E
                  refine wpList_nil ?_
                  refine joined_here ?_
                  exact ⟨_, by first | (intro h; cases h; done) | (intro h; exact ⟨by omega, eq_of_beq h⟩), S, E.keep (keep_cons rfl (keep_cons rfl (keep_cons rfl (keep_cons rfl (keep_cons rfl keep_nil)))))⟩
              · clear E S a; intro a w J; obtain ⟨bt, hbt, S, E⟩ := J
                refine then_k hK ?_; clear hK; clear K
                refine if_bool E rfl (fun hb => ?_) (fun hb => ?_)
                · first | with_reducible replace hb := n1 hb | with_reducible replace hb := n2 hb | with_reducible replace hb := n3 hb | with_reducible replace hb := n4 hb | with_reducible replace hb := n5 hb | with_reducible replace hb := n6 hb | replace hb := n1 hb | replace hb := n2 hb | replace hb := n3 hb | replace hb := n4 hb | replace hb := n5 hb | replace hb := n6 hb | skip
                  refine wp_skip ?_
                  refine then_k hK ?_; clear hK; clear K
                  refine wp_seq_k ?_; intro K hK
                  refine wp_block ?_
                  refine wp_seq_k ?_; intro K hK
                  obtain ⟨hib, hz0⟩ := hbt hb
                  have he := (hback hz0).2
                  have hiS : i < SL.length := by rw [he]; exact hib
                  have hSi : SL[i] = slots[i] := by simp only [he]
                  obtain ⟨gn, rfl⟩ := hN.addr (by omega)
                  obtain ⟨gs, os, rfl⟩ := hS.addr (by omega)
                  refine region_mix0 S (.ofL [(0, 0), (1, 0), (2, 0), (3, 0), (4, 0), (5, 0), (6, 0), (7, 0), (8, 0)]) (by kernel_rfl) (by kernel_rfl) ?_
                  clear S; intro w S
                  refine mix_pure E rfl rfl rfl (by decide) (fun w h => rn_move E rfl rfl) ?_; clear E a; intro a E
                  refine mix_pure E rfl rfl rfl (by decide) (fun w h => rn_move E rfl rfl) ?_; clear E a; intro a E
                  refine mix_pure E rfl rfl rfl (by decide) (fun w h => by first | exact rn_indexAddr1 E rfl rfl rfl rfl rfl rfl (by omega) | exact rn_indexAddr E rfl rfl rfl rfl rfl rfl (by omega) | exact rn_indexAddr_array E rfl rfl rfl rfl rfl rfl (by omega)) ?_; clear E a; intro a E
                  refine mix_pure E rfl rfl rfl (by decide) (fun w h => rn_load_aggc (vs := [_, _, _, _, _, _, _, _, _, _, _]) E rfl rfl rfl rfl (hSi ▸ hN.rd.elem (lay := Slt.lay) Slt.lay_len (h.at (by first | exact mm1 | exact mm2 | exact mm3 | exact mm4 | exact mm5 | exact mm6 | exact mm7 | exact mm8)) (i := i) hiS)) ?_; clear E a; intro a E
                  refine mix_pure E rfl rfl rfl (by decide) (fun w h => rn_move E rfl rfl) ?_; clear E a; intro a E
                  refine mix_pure E rfl rfl rfl (by decide) (fun w h => rn_move E rfl rfl) ?_; clear E a; intro a E
                  refine mix_pure E rfl rfl rfl (by decide) (fun w h => by first | exact rn_indexAddr1 E rfl rfl rfl rfl rfl rfl (by omega) | exact rn_indexAddr E rfl rfl rfl rfl rfl rfl (by omega) | exact rn_indexAddr_array E rfl rfl rfl rfl rfl rfl (by omega)) ?_; clear E a; intro a E
                  refine mix_pure E rfl rfl rfl (by decide) (fun w h => rn_load_aggc (vs := [_, _, _, _, _, _, _, _, _, _, _]) E rfl rfl rfl rfl (hS.elem (lay := Slt.lay) Slt.lay_len (h.at (by first | exact mm1 | exact mm2 | exact mm3 | exact mm4 | exact mm5 | exact mm6 | exact mm7 | exact mm8)) (i := i) hib)) ?_; clear E a; intro a E
                  refine mix_pure E rfl rfl rfl (by decide) (fun w h => by first | exact rn_neq_pair E rfl rfl rfl rfl (by kernel_rfl) (by kernel_rfl) rfl rfl rfl | exact rn_neq_cells E rfl rfl rfl rfl (by kernel_rfl) (by kernel_rfl) rfl) ?_; clear E a; intro a E
                  refine mix_nil ?_
                  refine then_k hK ?_; clear hK; clear K
                  refine if_bool E rfl (fun hb => ?_) (fun hb => ?_)
                  · first | with_reducible replace hb := n1 hb | with_reducible replace hb := n2 hb | with_reducible replace hb := n3 hb | with_reducible replace hb := n4 hb | with_reducible replace hb := n5 hb | with_reducible replace hb := n6 hb | replace hb := n1 hb | replace hb := n2 hb | replace hb := n3 hb | replace hb := n4 hb | replace hb := n5 hb | replace hb := n6 hb | skip
                    exfalso; simp at hb
                  · first | with_reducible replace hb := n1 hb | with_reducible replace hb := n2 hb | with_reducible replace hb := n3 hb | with_reducible replace hb := n4 hb | with_reducible replace hb := n5 hb | with_reducible replace hb := n6 hb | replace hb := n1 hb | replace hb := n2 hb | replace hb := n3 hb | replace hb := n4 hb | replace hb := n5 hb | replace hb := n6 hb | skip
                    refine wp_skip ?_
                    refine in_normal ?_
                    refine then_k hK ?_; clear hK; clear K
                    refine region_list ?_
                    refine list_pure E rfl rfl (by decide) (rn_move E rfl rfl) ?_; clear E a; intro a E
                    refine list_pure E rfl rfl (by decide) (rn_add E rfl rfl rfl (by first | exact wa_lit (y := 1) (by omega) | exact w_in (by omega) | exact w_inu (by omega) | exact rfl)) ?_; clear E a; intro a E
                    refine list_pure E rfl rfl (by decide) (rn_assign E rfl rfl) ?_; clear E a; intro a E
                    refine wpList_nil ?_
                    refine then_normal ?_
                    exact ⟨_, by omega, i + 1, rfl, by omega, S, E.keep (keep_cons rfl (keep_cons rfl (keep_cons rfl (keep_cons rfl keep_nil))))⟩
                · first | with_reducible replace hb := n1 hb | with_reducible replace hb := n2 hb | with_reducible replace hb := n3 hb | with_reducible replace hb := n4 hb | with_reducible replace hb := n5 hb | with_reducible replace hb := n6 hb | replace hb := n1 hb | replace hb := n2 hb | replace hb := n3 hb | replace hb := n4 hb | replace hb := n5 hb | replace hb := n6 hb | skip
                  refine wp_exit ?_
                  refine then_exit ?_; clear hK; clear K
                  refine then_exit ?_
                  refine in_exit ?_
                  refine then_k hK ?_; clear hK; clear K
                  refine wp_seq_k ?_; intro K hK
                  refine region_list ?_
                  refine list_pure E rfl rfl (by decide) (rn_assign E rfl rfl) ?_; clear E a; intro a E
                  refine wpList_nil ?_
                  refine then_k hK ?_; clear hK; clear K
                  refine wp_ret ?_
                  refine ret1 E rfl rfl ?_
                  exact ⟨_, rfl, rfl, (S.only (Bs := [O]) (sel_cons (by first | exact pk1 | exact pk2 | exact pk3 | exact pk4 | exact pk5 | exact pk6 | exact pk7 | exact pk8 | exact pk9) (sel_nil _))).tr⟩
end Go.Proofs.Ytkkibnnddllabaa
