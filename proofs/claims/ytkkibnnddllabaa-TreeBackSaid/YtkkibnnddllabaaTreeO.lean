/-
  Objects as blocks: Since, Cost.
-/
import Derived.Test.YtkkibnnddllabaaTreeN
namespace Go.Sl
theorem take_succ_at {α : Type} (l : List α) {i : Nat} (hi : i < l.length) : l.take (i + 1) = l.take i ++ [l[i]] := by rw [List.take_append_getElem hi]
end Go.Sl
namespace Go.Proofs.Ytkkibnnddllabaa
open Go.Sl
set_option maxRecDepth 10000

theorem since_ret (O : Chunk) (v : Value) (size : Int) (hsz : -9223372036854775808 ≤ size ∧ size ≤ 9223372036854775807) (l : List Pt) (txg : Nat) (hO : Rd O 9 v l.length (l.flatMap Pt.lay)) (hbl : l.length ≤ 140737488355328 / 72) (w0 : World) (H : Hp w0 [O]) :
    Ret Try.prog 25 #[.int .i64 size, v, .int .u64 txg] w0 fun u w' => ∃ C, Buf C 54 2 u (sinc size l txg).length ((sinc size l txg).flatMap Sp.lay) ∧ Trs w0 w' [O] [C, O] := by
  have S := (St.begin H).addNil
  obtain ⟨ad, c, rfl⟩ := hO.slice
  refine enter3 75 Try.func25 rfl rfl (by decide) ?_; intro a E
  refine wp_seq_k ?_; intro K hK
  refine region_list ?_
  refine list_pure E rfl rfl (by decide) (rn_assign E rfl rfl) ?_; clear E a; intro a E
  refine wpList_nil ?_
  refine then_k hK ?_; clear hK; clear K
  refine wp_seq_k ?_; intro K hK
  refine region_list ?_
  refine list_pure E rfl rfl (by decide) (rn_assign E rfl rfl) ?_; clear E a; intro a E
  refine wpList_nil ?_
  refine then_k hK ?_; clear hK; clear K
  refine wp_seq_k ?_; intro K hK
  refine wp_seq_k ?_; intro K hK
  refine region_list ?_
  refine list_pure E rfl rfl (by decide) (rn_move E rfl rfl) ?_; clear E a; intro a E
  refine list_pure E rfl rfl (by decide) (by first | exact rn_len E rfl rfl rfl | exact rn_len_str E rfl rfl rfl | exact rn_len_string E rfl rfl rfl) ?_; clear E a; intro a E
  refine list_pure E rfl rfl (by decide) (rn_move E rfl rfl) ?_; clear E a; intro a E
  refine wpList_nil ?_
  refine then_k hK ?_; clear hK; clear K
  refine wp_block ?_
  refine wp_loop_ghost (fun (m : Nat) (a : Act) (w' : World) => ∃ (i : Nat) (vo : Value) (C : Chunk), m = l.length - i ∧ i ≤ l.length ∧ Buf C 54 2 vo (sincN size l txg i).length ((sincN size l txg i).flatMap Sp.lay) ∧ St w0 [O] w' [C, O] ∧ Fr a 75 [(0, .int .i64 size), (2, .int .u64 txg), (7, vo), (13, .slice ad l.length c), (14, .int .i64 l.length), (15, .int .i64 i)]) (l.length - 0) ?_ ?_
  · exact ⟨0, _, [], rfl, by omega, Buf.nil _ _, S, E.keep (keep_cons rfl (keep_cons rfl (keep_cons rfl (keep_cons rfl (keep_cons rfl (keep_cons rfl keep_nil))))))⟩
  clear E; clear a; rintro m a w ⟨i, vo, C, rfl, hi, hC, S, E⟩
  refine wp_seq_k ?_; intro K hK
  refine region_list ?_
  refine list_pure E rfl rfl (by decide) (rn_lss E rfl rfl rfl) ?_; clear E a; intro a E
  refine wpList_nil ?_
  refine then_k hK ?_; clear hK; clear K
  refine wp_seq_k ?_; intro K hK
  refine if_bool E rfl (fun hb => ?_) (fun hb => ?_)
  · first | with_reducible replace hb := n1 hb | with_reducible replace hb := n2 hb | with_reducible replace hb := n3 hb | with_reducible replace hb := n4 hb | with_reducible replace hb := n5 hb | with_reducible replace hb := n6 hb | replace hb := n1 hb | replace hb := n2 hb | replace hb := n3 hb | replace hb := n4 hb | replace hb := n5 hb | replace hb := n6 hb | skip
    refine wp_skip ?_
    refine then_k hK ?_; clear hK; clear K
    refine wp_seq_k ?_; intro K hK
    refine wp_block ?_
    refine wp_seq_k ?_; intro K hK
    have hib : i < l.length := by omega
    obtain ⟨g, off, rfl⟩ := hO.addr (by omega)
    obtain ⟨L, hL⟩ : ∃ L, L = sincN size l txg i := ⟨_, rfl⟩
    have hok := sincN_ok size l txg i
    rw [← hL] at hC hok
    have hlen := hok.len
    refine region_list ?_
    refine list_pure E rfl rfl (by decide) (rn_move E rfl rfl) ?_; clear E a; intro a E
    refine list_pure E rfl rfl (by decide) (by first | exact rn_indexAddr1 E rfl rfl rfl rfl rfl rfl (by omega) | exact rn_indexAddr E rfl rfl rfl rfl rfl rfl (by omega) | exact rn_indexAddr_array E rfl rfl rfl rfl rfl rfl (by omega)) ?_; clear E a; intro a E
    refine list_pure E rfl rfl (by decide) (rn_load_aggc (vs := [_, _, _, _, _, _, _, _, _]) E rfl rfl rfl rfl (hO.elem (lay := Pt.lay) Pt.lay_len (S.stab.at (by first | exact mm1 | exact mm2 | exact mm3 | exact mm4 | exact mm5 | exact mm6 | exact mm7 | exact mm8)) (i := i) hib)) ?_; clear E a; intro a E
    refine list_wp rfl (wp_alloc E S rfl rfl (by decide) rfl rfl rfl ?_); clear E S a; intro a w b9 E S
    refine list_pure E rfl rfl (by decide) (rn_assign E rfl rfl) ?_; clear E a; intro a E
    refine list_wp rfl (wp_storeN E S rfl rfl rfl rfl (by simp [Value.oneCell']) rfl (by first | exact pk1 | exact pk2 | exact pk3 | exact pk4 | exact pk5 | exact pk6 | exact pk7 | exact pk8 | exact pk9) (by simp) ?_); clear E S a; intro a w E S; simp only [List.take_succ_cons, List.take_zero, List.drop_succ_cons, List.drop_zero, List.cons_append, List.nil_append, List.append_nil, List.length_cons, List.length_nil, Nat.zero_add, Nat.add_zero] at S
    refine wpList_nil ?_
    refine then_k hK ?_; clear hK; clear K
    refine wp_seq_k ?_; intro K hK
    refine region_list ?_
    refine list_pure E rfl rfl (by decide) (rn_move E rfl rfl) ?_; clear E a; intro a E
    refine list_pure E rfl rfl (by decide) (rn_mul E rfl rfl rfl (by first | exact wm_lit2 (y := 1024) (by omega) | exact w_in (by omega) | exact rfl)) ?_; clear E a; intro a E
    refine list_pure E rfl rfl (by decide) (rn_assign E rfl rfl) ?_; clear E a; intro a E
    refine wpList_nil ?_
    refine then_k hK ?_; clear hK; clear K
    refine wp_seq_k ?_; intro K hK
    refine wp_seq_k ?_; intro K hK
    refine region_list ?_
    refine list_pure E rfl rfl (by decide) (rn_move E rfl rfl) ?_; clear E a; intro a E
    refine list_pure E rfl rfl (by decide) (rn_move E rfl rfl) ?_; clear E a; intro a E
    refine list_pure E rfl rfl (by decide) (rn_geq E rfl rfl rfl) ?_; clear E a; intro a E
    refine wpList_nil ?_
    refine then_k hK ?_; clear hK; clear K
    refine if_bool E rfl (fun hb => ?_) (fun hb => ?_)
    · first | with_reducible replace hb := n1 hb | with_reducible replace hb := n2 hb | with_reducible replace hb := n3 hb | with_reducible replace hb := n4 hb | with_reducible replace hb := n5 hb | with_reducible replace hb := n6 hb | replace hb := n1 hb | replace hb := n2 hb | replace hb := n3 hb | replace hb := n4 hb | replace hb := n5 hb | replace hb := n6 hb | skip
      refine wp_exit ?_
      refine then_exit ?_; clear hK; clear K
      refine in_exit_ne rfl ?_
      refine then_exit ?_; clear hK; clear K
      refine then_exit ?_
      refine in_exit ?_
      refine then_k hK ?_; clear hK; clear K
      refine wp_seq_k ?_; intro K hK
      refine region_list ?_
      refine list_pure E rfl rfl (by decide) (rn_move E rfl rfl) ?_; clear E a; intro a E
      refine list_pure E rfl rfl (by decide) (rn_assign E rfl rfl) ?_; clear E a; intro a E
      refine wpList_nil ?_
      refine then_k hK ?_; clear hK; clear K
      refine wp_ret ?_
      refine ret1 E rfl rfl ?_
      try rw [hL] at hC
      rw [sinc_done (size := size) hi (by omega)] at hC
      exact ⟨_, rfl, C, hC, (S.only (Bs := [C, O]) (sel_cons (by first | exact pk1 | exact pk2 | exact pk3 | exact pk4 | exact pk5 | exact pk6 | exact pk7 | exact pk8 | exact pk9) (sel_cons (by first | exact pk1 | exact pk2 | exact pk3 | exact pk4 | exact pk5 | exact pk6 | exact pk7 | exact pk8 | exact pk9) (sel_nil _)))).tr⟩
    · first | with_reducible replace hb := n1 hb | with_reducible replace hb := n2 hb | with_reducible replace hb := n3 hb | with_reducible replace hb := n4 hb | with_reducible replace hb := n5 hb | with_reducible replace hb := n6 hb | replace hb := n1 hb | replace hb := n2 hb | replace hb := n3 hb | replace hb := n4 hb | replace hb := n5 hb | replace hb := n6 hb | skip
      refine wp_skip ?_
      refine then_k hK ?_; clear hK; clear K
      refine wp_seq_k ?_; intro K hK
      refine wp_seq_k ?_; intro K hK
      refine region_list ?_
      refine list_pure E rfl rfl (by decide) (rn_load_blk (vs := [_, _, _, _, _, _, _, _, _]) E rfl rfl rfl (S.get (by first | exact pk1 | exact pk2 | exact pk3 | exact pk4 | exact pk5 | exact pk6 | exact pk7 | exact pk8 | exact pk9)) rfl rfl) ?_; clear E a; intro a E
      refine list_pure E rfl rfl (by decide) (rn_build (cells := [_, _, _, _, _, _, _, _, _]) E rfl rfl rfl) ?_; clear E a; intro a E
      refine list_pure E rfl rfl (by decide) (by first | exact rn_eql_pair E rfl rfl rfl rfl (by kernel_rfl) (by kernel_rfl) rfl rfl rfl | exact rn_eql_cells E rfl rfl rfl rfl (by kernel_rfl) (by kernel_rfl) rfl) ?_; clear E a; intro a E
      change Fr a 75 ((27, .bool (l[i].eqB ptZero)) :: _) at E
      obtain ⟨zb, hzb⟩ : ∃ z, z = l[i].eqB ptZero := ⟨_, rfl⟩
      rw [← hzb] at E
      refine list_pure E rfl rfl (by decide) (rn_move E rfl rfl) ?_; clear E a; intro a E
      refine guard_split E (t := 28) rfl (fun hb28 => ?_) (fun hb28 => ?_)
      · have hb28n := hb28; first | with_reducible replace hb28n := n1 hb28n | with_reducible replace hb28n := n2 hb28n | with_reducible replace hb28n := n3 hb28n | with_reducible replace hb28n := n4 hb28n | with_reducible replace hb28n := n5 hb28n | with_reducible replace hb28n := n6 hb28n | replace hb28n := n1 hb28n | replace hb28n := n2 hb28n | replace hb28n := n3 hb28n | replace hb28n := n4 hb28n | replace hb28n := n5 hb28n | replace hb28n := n6 hb28n | skip
        refine list_guard_no E rfl rfl rfl rfl hb28 rfl (by decide) ?_; clear E a; intro a E
        refine list_guard_no E rfl rfl rfl rfl hb28 rfl (by decide) ?_; clear E a; intro a E
        refine list_guard_no E rfl rfl rfl rfl hb28 rfl (by decide) ?_; clear E a; intro a E
        refine list_guard_no E rfl rfl rfl rfl hb28 rfl (by decide) ?_; clear E a; intro a E
        refine list_pure E rfl rfl (by decide) (rn_pick_yes' E rfl rfl hb28 rfl) ?_; clear E a; intro a E
        refine wpList_nil ?_
        refine then_k hK ?_; clear hK; clear K
        refine if_true' E rfl rfl ?_
        refine wp_exit ?_
        refine then_exit ?_; clear hK; clear K
        refine in_exit ?_
        refine then_k hK ?_; clear hK; clear K
        refine region_list ?_
        refine list_pure E rfl rfl (by decide) (rn_add E rfl rfl rfl (by first | exact wa_lit (y := 1) (by omega) | exact w_in (by omega) | exact w_inu (by omega) | exact rfl)) ?_; clear E a; intro a E
        refine list_pure E rfl rfl (by decide) (rn_move E rfl rfl) ?_; clear E a; intro a E
        refine wpList_nil ?_
        refine then_normal ?_
        exact ⟨_, by omega, i + 1, vo, C, rfl, by omega, by rw [sincN_skip hib (snSkip_zero (hzb ▸ hb28)), ← hL]; exact hC, S.only (Bs := [C, O]) (sel_cons (by first | exact pk1 | exact pk2 | exact pk3 | exact pk4 | exact pk5 | exact pk6 | exact pk7 | exact pk8 | exact pk9) (sel_cons (by first | exact pk1 | exact pk2 | exact pk3 | exact pk4 | exact pk5 | exact pk6 | exact pk7 | exact pk8 | exact pk9) (sel_nil _))), E.keep (keep_cons rfl (keep_cons rfl (keep_cons rfl (keep_cons rfl (keep_cons rfl (keep_cons rfl keep_nil))))))⟩
      · have hb28n := hb28; first | with_reducible replace hb28n := n1 hb28n | with_reducible replace hb28n := n2 hb28n | with_reducible replace hb28n := n3 hb28n | with_reducible replace hb28n := n4 hb28n | with_reducible replace hb28n := n5 hb28n | with_reducible replace hb28n := n6 hb28n | replace hb28n := n1 hb28n | replace hb28n := n2 hb28n | replace hb28n := n3 hb28n | replace hb28n := n4 hb28n | replace hb28n := n5 hb28n | replace hb28n := n6 hb28n | skip
        refine list_guard_yes E rfl rfl rfl rfl hb28 rfl (by decide) (by first | exact rn_fieldAddr0 (q := 3) E rfl rfl rfl | exact rn_fieldAddr (q := 3) E rfl rfl rfl) ?_; clear E a; intro a E
        refine list_guard_yes E rfl rfl rfl rfl hb28 rfl (by decide) (by first | exact rn_load E rfl rfl rfl (S.get (by first | exact pk1 | exact pk2 | exact pk3 | exact pk4 | exact pk5 | exact pk6 | exact pk7 | exact pk8 | exact pk9)) rfl | exact rn_loadc E rfl rfl rfl (by assumption)) ?_; clear E a; intro a E
        refine list_guard_yes E rfl rfl rfl rfl hb28 rfl (by decide) (rn_move E rfl rfl) ?_; clear E a; intro a E
        refine list_guard_yes E rfl rfl rfl rfl hb28 rfl (by decide) (rn_leq E rfl rfl rfl) ?_; clear E a; intro a E
        refine list_pure E rfl rfl (by decide) (rn_pick_no' E rfl rfl hb28 rfl) ?_; clear E a; intro a E
        refine wpList_nil ?_
        refine then_k hK ?_; clear hK; clear K
        refine if_bool E rfl (fun hb => ?_) (fun hb => ?_)
        · first | with_reducible replace hb := n1 hb | with_reducible replace hb := n2 hb | with_reducible replace hb := n3 hb | with_reducible replace hb := n4 hb | with_reducible replace hb := n5 hb | with_reducible replace hb := n6 hb | replace hb := n1 hb | replace hb := n2 hb | replace hb := n3 hb | replace hb := n4 hb | replace hb := n5 hb | replace hb := n6 hb | skip
          refine wp_exit ?_
          refine then_exit ?_; clear hK; clear K
          refine in_exit ?_
          refine then_k hK ?_; clear hK; clear K
          refine region_list ?_
          refine list_pure E rfl rfl (by decide) (rn_add E rfl rfl rfl (by first | exact wa_lit (y := 1) (by omega) | exact w_in (by omega) | exact w_inu (by omega) | exact rfl)) ?_; clear E a; intro a E
          refine list_pure E rfl rfl (by decide) (rn_move E rfl rfl) ?_; clear E a; intro a E
          refine wpList_nil ?_
          refine then_normal ?_
          exact ⟨_, by omega, i + 1, vo, C, rfl, by omega, by rw [sincN_skip hib (snSkip_birth (by omega)), ← hL]; exact hC, S.only (Bs := [C, O]) (sel_cons (by first | exact pk1 | exact pk2 | exact pk3 | exact pk4 | exact pk5 | exact pk6 | exact pk7 | exact pk8 | exact pk9) (sel_cons (by first | exact pk1 | exact pk2 | exact pk3 | exact pk4 | exact pk5 | exact pk6 | exact pk7 | exact pk8 | exact pk9) (sel_nil _))), E.keep (keep_cons rfl (keep_cons rfl (keep_cons rfl (keep_cons rfl (keep_cons rfl (keep_cons rfl keep_nil))))))⟩
        · first | with_reducible replace hb := n1 hb | with_reducible replace hb := n2 hb | with_reducible replace hb := n3 hb | with_reducible replace hb := n4 hb | with_reducible replace hb := n5 hb | with_reducible replace hb := n6 hb | replace hb := n1 hb | replace hb := n2 hb | replace hb := n3 hb | replace hb := n4 hb | replace hb := n5 hb | replace hb := n6 hb | skip
          refine wp_skip ?_
          refine then_k hK ?_; clear hK; clear K
          refine wp_seq_k ?_; intro K hK
          refine region_list ?_
          refine list_pure E rfl rfl (by decide) (rn_move E rfl rfl) ?_; clear E a; intro a E
          refine list_pure E rfl rfl (by decide) (rn_move E rfl rfl) ?_; clear E a; intro a E
          refine list_pure E rfl rfl (by decide) (rn_sub E rfl rfl rfl (by first | exact ws1 (by omega) (by omega) | exact w_in (by omega) | exact w_inu (by omega) | exact rfl)) ?_; clear E a; intro a E
          refine list_pure E rfl rfl (by decide) (rn_min E rfl rfl rfl) ?_; clear E a; intro a E
          refine list_pure E rfl rfl (by decide) (rn_assign E rfl rfl) ?_; clear E a; intro a E
          refine wpList_nil ?_
          refine then_k hK ?_; clear hK; clear K
          refine wp_seq_k ?_; intro K hK
          obtain ⟨ad7, c7, rfl⟩ := hC.slice
          have hsk : snSkip l[i] txg = false := snSkip_no (hzb ▸ hb28) (by omega)
          have hadd := sincN_add (size := size) hib (by omega) hsk
          rw [← hL] at hadd
          have hlast (h : L.length - 1 < L.length) := hok.each _ (List.getElem_mem h)
          simp only [Sp.fin] at hlast
          have hmin : min (1024 : Int) (size - ((i * 1024 : Nat) : Int)) = min 1024 (size - 1024 * (i : Int)) := by omega
          have hat : ((i * 1024 : Nat) : Int) = 1024 * (i : Int) := by omega
          rw [hmin, hat] at E
          refine region_list ?_
          refine list_pure E rfl rfl (by decide) (rn_move E rfl rfl) ?_; clear E a; intro a E
          refine list_pure E rfl rfl (by decide) (by first | exact rn_len E rfl rfl rfl | exact rn_len_str E rfl rfl rfl | exact rn_len_string E rfl rfl rfl) ?_; clear E a; intro a E
          refine list_pure E rfl rfl (by decide) (rn_sub E rfl rfl rfl (by first | exact ws_lit (y := 1) (by omega) (by omega) | exact w_in (by omega) | exact w_inu (by omega) | exact rfl)) ?_; clear E a; intro a E
          refine list_pure E rfl rfl (by decide) (rn_assign E rfl rfl) ?_; clear E a; intro a E
          refine wpList_nil ?_
          refine then_k hK ?_; clear hK; clear K
          refine wp_seq_k ?_; intro K hK
          refine region_mix0 S (.ofL [(0, 0), (1, 0), (2, 0), (3, 0), (4, 0), (5, 0), (6, 0), (7, 0), (8, 0), (9, 0), (10, 0), (11, 0), (12, 0), (13, 0), (14, 0), (15, 0), (16, 0)]) (by kernel_rfl) (by kernel_rfl) ?_
          clear S; intro w S
          refine mix_pure E rfl rfl rfl (by decide) (fun w h => rn_move E rfl rfl) ?_; clear E a; intro a E
          refine mix_pure E rfl rfl rfl (by decide) (fun w h => rn_geq E rfl rfl rfl) ?_; clear E a; intro a E
          refine mix_pure E rfl rfl rfl (by decide) (fun w h => rn_move E rfl rfl) ?_; clear E a; intro a E
          first | (have hpos : 0 < L.length := (by omega); obtain ⟨g7, rfl⟩ := hC.addr hpos; have hlt : L.length - 1 < L.length := (by omega); have hll := hlast hlt) | skip
          refine guard_split E (t := 43) rfl (fun hb43 => ?_) (fun hb43 => ?_)
          · have hb43n := hb43; first | with_reducible replace hb43n := n1 hb43n | with_reducible replace hb43n := n2 hb43n | with_reducible replace hb43n := n3 hb43n | with_reducible replace hb43n := n4 hb43n | with_reducible replace hb43n := n5 hb43n | with_reducible replace hb43n := n6 hb43n | replace hb43n := n1 hb43n | replace hb43n := n2 hb43n | replace hb43n := n3 hb43n | replace hb43n := n4 hb43n | replace hb43n := n5 hb43n | replace hb43n := n6 hb43n | skip
            first | (have hpos : 0 < L.length := (by omega); obtain ⟨g7, rfl⟩ := hC.addr hpos; have hlt : L.length - 1 < L.length := (by omega); have hll := hlast hlt) | skip
            refine mix_guard_yes E rfl rfl rfl rfl rfl hb43 rfl (by decide) (fun w h => rn_move E rfl rfl) ?_; clear E a; intro a E
            refine mix_guard_yes E rfl rfl rfl rfl rfl hb43 rfl (by decide) (fun w h => rn_move E rfl rfl) ?_; clear E a; intro a E
            refine mix_guard_yes E rfl rfl rfl rfl rfl hb43 rfl (by decide) (fun w h => (by exact rn_indexAddr (i := L.length - 1) E rfl rfl rfl rfl rfl (by omega) (by omega))) ?_; clear E a; intro a E
            refine mix_guard_yes E rfl rfl rfl rfl rfl hb43 rfl (by decide) (fun w h => by first | exact rn_fieldAddr0 (q := 0) E rfl rfl rfl | exact rn_fieldAddr (q := 0) E rfl rfl rfl) ?_; clear E a; intro a E
            refine mix_guard_yes E rfl rfl rfl rfl rfl hb43 rfl (by decide) (fun w h => rn_loadc E rfl rfl rfl (hC.rd.elem (lay := Sp.lay) Sp.lay_len (h.at (by first | exact mm1 | exact mm2 | exact mm3 | exact mm4 | exact mm5 | exact mm6 | exact mm7 | exact mm8)) (i := L.length - 1) hlt 0 _ rfl)) ?_; clear E a; intro a E
            refine mix_guard_yes E rfl rfl rfl rfl rfl hb43 rfl (by decide) (fun w h => rn_move E rfl rfl) ?_; clear E a; intro a E
            refine mix_guard_yes E rfl rfl rfl rfl rfl hb43 rfl (by decide) (fun w h => rn_move E rfl rfl) ?_; clear E a; intro a E
            refine mix_guard_yes E rfl rfl rfl rfl rfl hb43 rfl (by decide) (fun w h => (by exact rn_indexAddr (i := L.length - 1) E rfl rfl rfl rfl rfl (by omega) (by omega))) ?_; clear E a; intro a E
            refine mix_guard_yes E rfl rfl rfl rfl rfl hb43 rfl (by decide) (fun w h => by first | exact rn_fieldAddr0 (q := 1) E rfl rfl rfl | exact rn_fieldAddr (q := 1) E rfl rfl rfl) ?_; clear E a; intro a E
            refine mix_guard_yes E rfl rfl rfl rfl rfl hb43 rfl (by decide) (fun w h => rn_loadc E rfl rfl rfl (hC.rd.elem (lay := Sp.lay) Sp.lay_len (h.at (by first | exact mm1 | exact mm2 | exact mm3 | exact mm4 | exact mm5 | exact mm6 | exact mm7 | exact mm8)) (i := L.length - 1) hlt 1 _ rfl)) ?_; clear E a; intro a E
            refine mix_guard_yes E rfl rfl rfl rfl rfl hb43 rfl (by decide) (fun w h => rn_add E rfl rfl rfl (by first | exact wa1 (by omega) | exact w_in (by omega) | exact w_inu (by omega) | exact rfl)) ?_; clear E a; intro a E
            refine mix_guard_yes E rfl rfl rfl rfl rfl hb43 rfl (by decide) (fun w h => rn_move E rfl rfl) ?_; clear E a; intro a E
            refine mix_guard_yes E rfl rfl rfl rfl rfl hb43 rfl (by decide) (fun w h => by first | exact rn_eql E rfl rfl rfl | exact rn_eql_ptr_nil E rfl rfl rfl rfl | exact rn_eql_bool E rfl rfl rfl rfl | exact rn_eql_string E rfl rfl rfl) ?_; clear E a; intro a E
            refine mix_pure E rfl rfl rfl (by decide) (fun w h => rn_pick_yes' E rfl rfl hb43 rfl) ?_; clear E a; intro a E
            refine mix_nil ?_
            refine then_k hK ?_; clear hK; clear K
            refine if_bool E rfl (fun hb => ?_) (fun hb => ?_)
            · first | with_reducible replace hb := n1 hb | with_reducible replace hb := n2 hb | with_reducible replace hb := n3 hb | with_reducible replace hb := n4 hb | with_reducible replace hb := n5 hb | with_reducible replace hb := n6 hb | replace hb := n1 hb | replace hb := n2 hb | replace hb := n3 hb | replace hb := n4 hb | replace hb := n5 hb | replace hb := n6 hb | skip
              obtain ⟨ys, y, hys⟩ := (last_or L).resolve_left (fun q => by rw [q] at hpos; exact absurd hpos (by decide))
              have hyl : L[L.length - 1] = y := by subst hys; simp
              have hn1 : L.length = ys.length + 1 := by rw [hys]; simp
              rw [hyl] at hb hll
              refine region_list ?_
              refine list_pure E rfl rfl (by decide) (rn_move E rfl rfl) ?_; clear E a; intro a E
              refine list_pure E rfl rfl (by decide) (rn_move E rfl rfl) ?_; clear E a; intro a E
              refine list_pure E rfl rfl (by decide) ((by exact rn_indexAddr (i := L.length - 1) E rfl rfl rfl rfl rfl (by omega) (by omega))) ?_; clear E a; intro a E
              refine list_pure E rfl rfl (by decide) (by first | exact rn_fieldAddr0 (q := 1) E rfl rfl rfl | exact rn_fieldAddr (q := 1) E rfl rfl rfl) ?_; clear E a; intro a E
              refine list_pure E rfl rfl (by decide) (rn_loadc E rfl rfl rfl (hC.rd.elem (lay := Sp.lay) Sp.lay_len (S.stab.at (by first | exact mm1 | exact mm2 | exact mm3 | exact mm4 | exact mm5 | exact mm6 | exact mm7 | exact mm8)) (i := L.length - 1) hlt 1 _ rfl)) ?_; clear E a; intro a E
              rw [hyl] at E
              refine list_pure E rfl rfl (by decide) (rn_move E rfl rfl) ?_; clear E a; intro a E
              refine list_pure E rfl rfl (by decide) (rn_add E rfl rfl rfl (by first | exact wa1 (by omega) | exact w_in (by omega) | exact w_inu (by omega) | exact rfl)) ?_; clear E a; intro a E
              refine list_pure E rfl rfl (by decide) ((by exact rn_indexAddr (i := L.length - 1) E rfl rfl rfl rfl rfl (by omega) (by omega))) ?_; clear E a; intro a E
              refine list_pure E rfl rfl (by decide) (by first | exact rn_fieldAddr0 (q := 1) E rfl rfl rfl | exact rn_fieldAddr (q := 1) E rfl rfl rfl) ?_; clear E a; intro a E
              refine list_wp rfl (wp_elem1 E S rfl rfl rfl rfl rfl rfl hC (by first | exact pk1 | exact pk2 | exact pk3 | exact pk4 | exact pk5 | exact pk6 | exact pk7 | exact pk8 | exact pk9) (i := (L.length - 1) * 2 + 1) (by rw [hC.1]; omega) (by show 0 + (L.length - 1) * 2 + 1 = (L.length - 1) * 2 + 1; omega) ?_); clear E S a; intro a w Cs9 E hBs9 S
              refine wpList_nil ?_
              refine in_normal ?_
              refine then_k hK ?_; clear hK; clear K
              refine region_list ?_
              refine list_pure E rfl rfl (by decide) (rn_add E rfl rfl rfl (by first | exact wa_lit (y := 1) (by omega) | exact w_in (by omega) | exact w_inu (by omega) | exact rfl)) ?_; clear E a; intro a E
              refine list_pure E rfl rfl (by decide) (rn_move E rfl rfl) ?_; clear E a; intro a E
              refine wpList_nil ?_
              refine then_normal ?_
              have hnew : sincN size l txg (i + 1) = ys ++ [⟨y.at_, y.many + min 1024 (size - 1024 * i)⟩] := by rw [hadd, hys, snAdd_hit (by simp only [Sp.fin]; omega)]
              have hB2 : Buf Cs9 54 2 (.slice (some ⟨g7, 0, none⟩) L.length c7) (sincN size l txg (i + 1)).length ((sincN size l txg (i + 1)).flatMap Sp.lay) := by
                rw [hnew, List.length_append, List.length_singleton, ← hn1, List.flatMap_append, flat_one]
                rw [hn1, Nat.add_sub_cancel, hys, sp_set] at hBs9; exact hn1 ▸ hBs9
              exact ⟨_, by omega, i + 1, _, Cs9, rfl, by omega, hB2, S.only (Bs := [Cs9, O]) (sel_cons (by first | exact pk1 | exact pk2 | exact pk3 | exact pk4 | exact pk5 | exact pk6 | exact pk7 | exact pk8 | exact pk9) (sel_cons (by first | exact pk1 | exact pk2 | exact pk3 | exact pk4 | exact pk5 | exact pk6 | exact pk7 | exact pk8 | exact pk9) (sel_nil _))), E.keep (keep_cons rfl (keep_cons rfl (keep_cons rfl (keep_cons rfl (keep_cons rfl (keep_cons rfl keep_nil))))))⟩
            · first | with_reducible replace hb := n1 hb | with_reducible replace hb := n2 hb | with_reducible replace hb := n3 hb | with_reducible replace hb := n4 hb | with_reducible replace hb := n5 hb | with_reducible replace hb := n6 hb | replace hb := n1 hb | replace hb := n2 hb | replace hb := n3 hb | replace hb := n4 hb | replace hb := n5 hb | replace hb := n6 hb | skip
              refine region_list ?_
              refine list_pure E rfl rfl (by decide) (rn_move E rfl rfl) ?_; clear E a; intro a E
              refine list_pure E rfl rfl (by decide) (rn_move E rfl rfl) ?_; clear E a; intro a E
              refine list_pure E rfl rfl (by decide) (rn_move E rfl rfl) ?_; clear E a; intro a E
              refine list_pure E rfl rfl (by decide) (rn_build (cells := [_, _]) E rfl rfl rfl) ?_; clear E a; intro a E
              refine list_wp rfl (wp_bslice (cells := [_, _]) E S rfl rfl (by decide) rfl rfl rfl rfl rfl (by decide) rfl ?_); clear E S a; intro a w b71 E S
              refine list_wp rfl (wp_append (by' := 16) E S rfl rfl (by decide) rfl rfl hC (by first | exact pk1 | exact pk2 | exact pk3 | exact pk4 | exact pk5 | exact pk6 | exact pk7 | exact pk8 | exact pk9) ((rd_cells (g := b71) (T := 54) (xs := Sp.lay ⟨1024 * (i : Int), min 1024 (size - 1024 * i)⟩) (s := 2) (m := 1) rfl (Sp.lay_one _) (by omega) 1).src (S.stab.at (by first | exact mm1 | exact mm2 | exact mm3 | exact mm4 | exact mm5 | exact mm6 | exact mm7 | exact mm8)) rfl) rfl rfl rfl rfl rfl rfl (by simp only [maxLen]; omega) (by omega) ?_); clear E S a; intro a w v72 C72 E S hB72
              refine list_pure E rfl rfl (by decide) (rn_assign E rfl rfl) ?_; clear E a; intro a E
              refine wpList_nil ?_
              refine in_normal ?_
              refine then_k hK ?_; clear hK; clear K
              refine region_list ?_
              refine list_pure E rfl rfl (by decide) (rn_add E rfl rfl rfl (by first | exact wa_lit (y := 1) (by omega) | exact w_in (by omega) | exact w_inu (by omega) | exact rfl)) ?_; clear E a; intro a E
              refine list_pure E rfl rfl (by decide) (rn_move E rfl rfl) ?_; clear E a; intro a E
              refine wpList_nil ?_
              refine then_normal ?_
              obtain ⟨ys, y, hys⟩ := (last_or L).resolve_left (fun q => by rw [q] at hpos; exact absurd hpos (by decide))
              have hyl : L[L.length - 1] = y := by subst hys; simp
              rw [hyl] at hb hll
              have hnew : sincN size l txg (i + 1) = L ++ [⟨1024 * (i : Int), min 1024 (size - 1024 * i)⟩] := by rw [hadd, hys, snAdd_miss (by simp only [Sp.fin]; omega)]
              exact ⟨_, by omega, i + 1, _, C72, rfl, by omega, by rw [hnew, List.length_append, List.flatMap_append, flat_one]; exact hB72, S.only (Bs := [C72, O]) (sel_cons (by first | exact pk1 | exact pk2 | exact pk3 | exact pk4 | exact pk5 | exact pk6 | exact pk7 | exact pk8 | exact pk9) (sel_cons (by first | exact pk1 | exact pk2 | exact pk3 | exact pk4 | exact pk5 | exact pk6 | exact pk7 | exact pk8 | exact pk9) (sel_nil _))), E.keep (keep_cons rfl (keep_cons rfl (keep_cons rfl (keep_cons rfl (keep_cons rfl (keep_cons rfl keep_nil))))))⟩
          · have hb43n := hb43; first | with_reducible replace hb43n := n1 hb43n | with_reducible replace hb43n := n2 hb43n | with_reducible replace hb43n := n3 hb43n | with_reducible replace hb43n := n4 hb43n | with_reducible replace hb43n := n5 hb43n | with_reducible replace hb43n := n6 hb43n | replace hb43n := n1 hb43n | replace hb43n := n2 hb43n | replace hb43n := n3 hb43n | replace hb43n := n4 hb43n | replace hb43n := n5 hb43n | replace hb43n := n6 hb43n | skip
            first | (have hpos : 0 < L.length := (by omega); obtain ⟨g7, rfl⟩ := hC.addr hpos; have hlt : L.length - 1 < L.length := (by omega); have hll := hlast hlt) | skip
            refine mix_guard_no E rfl rfl rfl rfl rfl hb43 rfl (by decide) ?_; clear E a; intro a E
            refine mix_guard_no E rfl rfl rfl rfl rfl hb43 rfl (by decide) ?_; clear E a; intro a E
            refine mix_guard_no E rfl rfl rfl rfl rfl hb43 rfl (by decide) ?_; clear E a; intro a E
            refine mix_guard_no E rfl rfl rfl rfl rfl hb43 rfl (by decide) ?_; clear E a; intro a E
            refine mix_guard_no E rfl rfl rfl rfl rfl hb43 rfl (by decide) ?_; clear E a; intro a E
            refine mix_guard_no E rfl rfl rfl rfl rfl hb43 rfl (by decide) ?_; clear E a; intro a E
            refine mix_guard_no E rfl rfl rfl rfl rfl hb43 rfl (by decide) ?_; clear E a; intro a E
            refine mix_guard_no E rfl rfl rfl rfl rfl hb43 rfl (by decide) ?_; clear E a; intro a E
            refine mix_guard_no E rfl rfl rfl rfl rfl hb43 rfl (by decide) ?_; clear E a; intro a E
            refine mix_guard_no E rfl rfl rfl rfl rfl hb43 rfl (by decide) ?_; clear E a; intro a E
            refine mix_guard_no E rfl rfl rfl rfl rfl hb43 rfl (by decide) ?_; clear E a; intro a E
            refine mix_guard_no E rfl rfl rfl rfl rfl hb43 rfl (by decide) ?_; clear E a; intro a E
            refine mix_guard_no E rfl rfl rfl rfl rfl hb43 rfl (by decide) ?_; clear E a; intro a E
            refine mix_pure E rfl rfl rfl (by decide) (fun w h => rn_pick_no' E rfl rfl hb43 rfl) ?_; clear E a; intro a E
            refine mix_nil ?_
            refine then_k hK ?_; clear hK; clear K
            refine if_false' E rfl rfl ?_
            refine region_list ?_
            refine list_pure E rfl rfl (by decide) (rn_move E rfl rfl) ?_; clear E a; intro a E
            refine list_pure E rfl rfl (by decide) (rn_move E rfl rfl) ?_; clear E a; intro a E
            refine list_pure E rfl rfl (by decide) (rn_move E rfl rfl) ?_; clear E a; intro a E
            refine list_pure E rfl rfl (by decide) (rn_build (cells := [_, _]) E rfl rfl rfl) ?_; clear E a; intro a E
            refine list_wp rfl (wp_bslice (cells := [_, _]) E S rfl rfl (by decide) rfl rfl rfl rfl rfl (by decide) rfl ?_); clear E S a; intro a w b71 E S
            refine list_wp rfl (wp_append (by' := 16) E S rfl rfl (by decide) rfl rfl hC (by first | exact pk1 | exact pk2 | exact pk3 | exact pk4 | exact pk5 | exact pk6 | exact pk7 | exact pk8 | exact pk9) ((rd_cells (g := b71) (T := 54) (xs := Sp.lay ⟨1024 * (i : Int), min 1024 (size - 1024 * i)⟩) (s := 2) (m := 1) rfl (Sp.lay_one _) (by omega) 1).src (S.stab.at (by first | exact mm1 | exact mm2 | exact mm3 | exact mm4 | exact mm5 | exact mm6 | exact mm7 | exact mm8)) rfl) rfl rfl rfl rfl rfl rfl (by simp only [maxLen]; omega) (by omega) ?_); clear E S a; intro a w v72 C72 E S hB72
            refine list_pure E rfl rfl (by decide) (rn_assign E rfl rfl) ?_; clear E a; intro a E
            refine wpList_nil ?_
            refine in_normal ?_
            refine then_k hK ?_; clear hK; clear K
            refine region_list ?_
            refine list_pure E rfl rfl (by decide) (rn_add E rfl rfl rfl (by first | exact wa_lit (y := 1) (by omega) | exact w_in (by omega) | exact w_inu (by omega) | exact rfl)) ?_; clear E a; intro a E
            refine list_pure E rfl rfl (by decide) (rn_move E rfl rfl) ?_; clear E a; intro a E
            refine wpList_nil ?_
            refine then_normal ?_
            have hnew : sincN size l txg (i + 1) = L ++ [⟨1024 * (i : Int), min 1024 (size - 1024 * i)⟩] := by
              have h0 : L = [] := List.eq_nil_of_length_eq_zero (by omega)
              rw [hadd, h0, snAdd_nil]; rfl
            exact ⟨_, by omega, i + 1, _, C72, rfl, by omega, by rw [hnew, List.length_append, List.flatMap_append, flat_one]; exact hB72, S.only (Bs := [C72, O]) (sel_cons (by first | exact pk1 | exact pk2 | exact pk3 | exact pk4 | exact pk5 | exact pk6 | exact pk7 | exact pk8 | exact pk9) (sel_cons (by first | exact pk1 | exact pk2 | exact pk3 | exact pk4 | exact pk5 | exact pk6 | exact pk7 | exact pk8 | exact pk9) (sel_nil _))), E.keep (keep_cons rfl (keep_cons rfl (keep_cons rfl (keep_cons rfl (keep_cons rfl (keep_cons rfl keep_nil))))))⟩
  · first | with_reducible replace hb := n1 hb | with_reducible replace hb := n2 hb | with_reducible replace hb := n3 hb | with_reducible replace hb := n4 hb | with_reducible replace hb := n5 hb | with_reducible replace hb := n6 hb | replace hb := n1 hb | replace hb := n2 hb | replace hb := n3 hb | replace hb := n4 hb | replace hb := n5 hb | replace hb := n6 hb | skip
    refine wp_exit ?_
    refine then_exit ?_; clear hK; clear K
    refine then_exit ?_
    refine in_exit ?_
    refine then_k hK ?_; clear hK; clear K
    refine wp_seq_k ?_; intro K hK
    refine region_list ?_
    refine list_pure E rfl rfl (by decide) (rn_move E rfl rfl) ?_; clear E a; intro a E
    refine list_pure E rfl rfl (by decide) (rn_assign E rfl rfl) ?_; clear E a; intro a E
    refine wpList_nil ?_
    refine then_k hK ?_; clear hK; clear K
    refine wp_ret ?_
    refine ret1 E rfl rfl ?_
    try rw [hL] at hC
    rw [sinc_done (size := size) hi (by omega)] at hC
    exact ⟨_, rfl, C, hC, (S.only (Bs := [C, O]) (sel_cons (by first | exact pk1 | exact pk2 | exact pk3 | exact pk4 | exact pk5 | exact pk6 | exact pk7 | exact pk8 | exact pk9) (sel_cons (by first | exact pk1 | exact pk2 | exact pk3 | exact pk4 | exact pk5 | exact pk6 | exact pk7 | exact pk8 | exact pk9) (sel_nil _)))).tr⟩
theorem sngap_ret (O Q : Chunk) (v u : Value) (l k : List Sp) (hO : Rd O 2 v l.length (l.flatMap Sp.lay)) (hQ : Rd Q 2 u k.length (k.flatMap Sp.lay)) (w0 : World) (H : Hp w0 [O, Q]) :
    Ret Try.prog 27 #[v, u] w0 fun r w' => r = .bool (decide (l = k)) ∧ Trs w0 w' [O, Q] [O, Q] := by
  have S := St.begin H
  obtain ⟨ad, c, rfl⟩ := hO.slice
  obtain ⟨ad2, c2, rfl⟩ := hQ.slice
  have hln := hO.2.2.1
  have hlx : l.length ≤ 9223372036854775807 := hln
  refine enter2 26 Try.func27 rfl rfl (by decide) ?_; intro a E
  refine wp_seq_k ?_; intro K hK
  refine region_list ?_
  refine list_pure E rfl rfl (by decide) (rn_assign E rfl rfl) ?_; clear E a; intro a E
  refine wpList_nil ?_
  refine then_k hK ?_; clear hK; clear K
  refine wp_seq_k ?_; intro K hK
  refine wp_seq_k ?_; intro K hK
  refine region_list ?_
  refine list_pure E rfl rfl (by decide) (rn_move E rfl rfl) ?_; clear E a; intro a E
  refine list_pure E rfl rfl (by decide) (by first | exact rn_len E rfl rfl rfl | exact rn_len_str E rfl rfl rfl | exact rn_len_string E rfl rfl rfl) ?_; clear E a; intro a E
  refine list_pure E rfl rfl (by decide) (rn_move E rfl rfl) ?_; clear E a; intro a E
  refine list_pure E rfl rfl (by decide) (by first | exact rn_len E rfl rfl rfl | exact rn_len_str E rfl rfl rfl | exact rn_len_string E rfl rfl rfl) ?_; clear E a; intro a E
  refine list_pure E rfl rfl (by decide) (by first | exact rn_neq E rfl rfl rfl | exact rn_neq_ptr_nil E rfl rfl rfl rfl | exact rn_neq_bool E rfl rfl rfl rfl | exact rn_neq_string E rfl rfl rfl) ?_; clear E a; intro a E
  refine wpList_nil ?_
  refine then_k hK ?_; clear hK; clear K
  refine if_bool E rfl (fun hb => ?_) (fun hb => ?_)
  · first | with_reducible replace hb := n1 hb | with_reducible replace hb := n2 hb | with_reducible replace hb := n3 hb | with_reducible replace hb := n4 hb | with_reducible replace hb := n5 hb | with_reducible replace hb := n6 hb | replace hb := n1 hb | replace hb := n2 hb | replace hb := n3 hb | replace hb := n4 hb | replace hb := n5 hb | replace hb := n6 hb | skip
    refine wp_seq_k ?_; intro K hK
    refine region_list ?_
    refine list_pure E rfl rfl (by decide) (rn_assign E rfl rfl) ?_; clear E a; intro a E
    refine wpList_nil ?_
    refine then_k hK ?_; clear hK; clear K
    refine wp_ret ?_
    refine then_ret ?_; clear hK; clear K
    refine ret1 E rfl rfl ?_
    exact ⟨_, rfl, by simp; intro h; apply hb; rw [h], S.tr⟩
  · first | with_reducible replace hb := n1 hb | with_reducible replace hb := n2 hb | with_reducible replace hb := n3 hb | with_reducible replace hb := n4 hb | with_reducible replace hb := n5 hb | with_reducible replace hb := n6 hb | replace hb := n1 hb | replace hb := n2 hb | replace hb := n3 hb | replace hb := n4 hb | replace hb := n5 hb | replace hb := n6 hb | skip
    refine wp_skip ?_
    refine then_k hK ?_; clear hK; clear K
    refine wp_seq_k ?_; intro K hK
    refine wp_seq_k ?_; intro K hK
    have hlm : l.length = k.length := by omega
    refine region_list ?_
    refine list_pure E rfl rfl (by decide) (rn_assign E rfl rfl) ?_; clear E a; intro a E
    refine wpList_nil ?_
    refine then_k hK ?_; clear hK; clear K
    refine wp_block ?_
    refine wp_loop_ghost (fun (m : Nat) (a : Act) (w' : World) => ∃ i : Nat, m = l.length - i ∧ i ≤ l.length ∧ l.take i = k.take i ∧ St w0 [O, Q] w' [O, Q] ∧ Fr a 26 [(0, .slice ad l.length c), (1, .slice ad2 k.length c2), (5, .int .i64 i)]) (l.length - 0) ?_ ?_
    · exact ⟨0, rfl, by omega, by simp, S, E.keep (keep_cons rfl (keep_cons rfl (keep_cons rfl keep_nil)))⟩
    clear E; clear a; rintro m a w ⟨i, rfl, hi, hlt, S, E⟩
    refine wp_seq_k ?_; intro K hK
    refine wp_seq_k ?_; intro K hK
    refine region_list ?_
    refine list_pure E rfl rfl (by decide) (rn_move E rfl rfl) ?_; clear E a; intro a E
    refine list_pure E rfl rfl (by decide) (rn_move E rfl rfl) ?_; clear E a; intro a E
    refine list_pure E rfl rfl (by decide) (by first | exact rn_len E rfl rfl rfl | exact rn_len_str E rfl rfl rfl | exact rn_len_string E rfl rfl rfl) ?_; clear E a; intro a E
    refine list_pure E rfl rfl (by decide) (rn_lss E rfl rfl rfl) ?_; clear E a; intro a E
    refine wpList_nil ?_
    refine then_k hK ?_; clear hK; clear K
    refine if_bool E rfl (fun hb => ?_) (fun hb => ?_)
    · first | with_reducible replace hb := n1 hb | with_reducible replace hb := n2 hb | with_reducible replace hb := n3 hb | with_reducible replace hb := n4 hb | with_reducible replace hb := n5 hb | with_reducible replace hb := n6 hb | replace hb := n1 hb | replace hb := n2 hb | replace hb := n3 hb | replace hb := n4 hb | replace hb := n5 hb | replace hb := n6 hb | skip
      refine wp_skip ?_
      refine then_k hK ?_; clear hK; clear K
      refine wp_seq_k ?_; intro K hK
      refine wp_block ?_
      refine wp_seq_k ?_; intro K hK
      have hil : i < l.length := by omega
      obtain ⟨b, off, rfl⟩ := hO.addr (by omega)
      obtain ⟨b2, off2, rfl⟩ := hQ.addr (by omega)
      have hik : i < k.length := by omega
      refine region_mix0 S (.ofL [(0, 0), (1, 0), (2, 0), (3, 0), (4, 0), (5, 0), (6, 0), (7, 0), (8, 0)]) (by kernel_rfl) (by kernel_rfl) ?_
      clear S; intro w S
      refine mix_pure E rfl rfl rfl (by decide) (fun w h => rn_move E rfl rfl) ?_; clear E a; intro a E
      refine mix_pure E rfl rfl rfl (by decide) (fun w h => rn_move E rfl rfl) ?_; clear E a; intro a E
      refine mix_pure E rfl rfl rfl (by decide) (fun w h => by first | exact rn_indexAddr1 E rfl rfl rfl rfl rfl rfl (by omega) | exact rn_indexAddr E rfl rfl rfl rfl rfl rfl (by omega) | exact rn_indexAddr_array E rfl rfl rfl rfl rfl rfl (by omega)) ?_; clear E a; intro a E
      refine mix_pure E rfl rfl rfl (by decide) (fun w h => rn_load_aggc (vs := [_, _]) E rfl rfl rfl rfl (hO.elem (lay := Sp.lay) Sp.lay_len (h.at (by first | exact mm1 | exact mm2 | exact mm3 | exact mm4 | exact mm5 | exact mm6 | exact mm7 | exact mm8)) hil)) ?_; clear E a; intro a E
      refine mix_pure E rfl rfl rfl (by decide) (fun w h => rn_move E rfl rfl) ?_; clear E a; intro a E
      refine mix_pure E rfl rfl rfl (by decide) (fun w h => rn_move E rfl rfl) ?_; clear E a; intro a E
      refine mix_pure E rfl rfl rfl (by decide) (fun w h => by first | exact rn_indexAddr1 E rfl rfl rfl rfl rfl rfl (by omega) | exact rn_indexAddr E rfl rfl rfl rfl rfl rfl (by omega) | exact rn_indexAddr_array E rfl rfl rfl rfl rfl rfl (by omega)) ?_; clear E a; intro a E
      refine mix_pure E rfl rfl rfl (by decide) (fun w h => rn_load_aggc (vs := [_, _]) E rfl rfl rfl rfl (hQ.elem (lay := Sp.lay) Sp.lay_len (h.at (by first | exact mm1 | exact mm2 | exact mm3 | exact mm4 | exact mm5 | exact mm6 | exact mm7 | exact mm8)) hik)) ?_; clear E a; intro a E
      refine mix_pure E rfl rfl rfl (by decide) (fun w h => by first | exact rn_neq_pair E rfl rfl rfl rfl (by kernel_rfl) (by kernel_rfl) rfl rfl rfl | exact rn_neq_cells E rfl rfl rfl rfl (by kernel_rfl) (by kernel_rfl) rfl) ?_; clear E a; intro a E
      refine mix_nil ?_
      refine then_k hK ?_; clear hK; clear K
      refine if_bool E rfl (fun hb => ?_) (fun hb => ?_)
      · first | with_reducible replace hb := n1 hb | with_reducible replace hb := n2 hb | with_reducible replace hb := n3 hb | with_reducible replace hb := n4 hb | with_reducible replace hb := n5 hb | with_reducible replace hb := n6 hb | replace hb := n1 hb | replace hb := n2 hb | replace hb := n3 hb | replace hb := n4 hb | replace hb := n5 hb | replace hb := n6 hb | skip
        refine wp_seq_k ?_; intro K hK
        refine region_list ?_
        refine list_pure E rfl rfl (by decide) (rn_assign E rfl rfl) ?_; clear E a; intro a E
        refine wpList_nil ?_
        refine then_k hK ?_; clear hK; clear K
        refine wp_ret ?_
        refine in_ret ?_
        refine then_ret ?_; clear hK; clear K
        refine then_ret ?_
        refine in_ret ?_
        refine then_ret ?_; clear hK; clear K
        refine ret1 E rfl rfl ?_
        exact ⟨_, rfl, by simp; intro h; subst h; simp at hb, S.tr⟩
      · first | with_reducible replace hb := n1 hb | with_reducible replace hb := n2 hb | with_reducible replace hb := n3 hb | with_reducible replace hb := n4 hb | with_reducible replace hb := n5 hb | with_reducible replace hb := n6 hb | replace hb := n1 hb | replace hb := n2 hb | replace hb := n3 hb | replace hb := n4 hb | replace hb := n5 hb | replace hb := n6 hb | skip
        refine wp_skip ?_
        refine in_normal ?_
        refine then_k hK ?_; clear hK; clear K
        refine region_list ?_
        refine list_pure E rfl rfl (by decide) (rn_move E rfl rfl) ?_; clear E a; intro a E
        refine list_pure E rfl rfl (by decide) (rn_add E rfl rfl rfl (by first | exact wa_lit (y := 1) (by omega) | exact w_in (by omega) | exact w_inu (by omega) | exact rfl)) ?_; clear E a; intro a E
        refine list_pure E rfl rfl (by decide) (rn_assign E rfl rfl) ?_; clear E a; intro a E
        refine wpList_nil ?_
        refine then_normal ?_
        have he : l[i] = k[i] := by
          have h : (l[i].at_ == k[i].at_ && l[i].many == k[i].many) = true := by simpa using hb
          simp only [Bool.and_eq_true, beq_iff_eq] at h
          cases hl : l[i]; cases hk : k[i]; simp only [hl, hk] at h; rw [h.1, h.2]
        exact ⟨_, by omega, i + 1, rfl, by omega, by rw [take_succ_at l hil, take_succ_at k hik, hlt, he], S, E.keep (keep_cons rfl (keep_cons rfl (keep_cons rfl keep_nil)))⟩
    · first | with_reducible replace hb := n1 hb | with_reducible replace hb := n2 hb | with_reducible replace hb := n3 hb | with_reducible replace hb := n4 hb | with_reducible replace hb := n5 hb | with_reducible replace hb := n6 hb | replace hb := n1 hb | replace hb := n2 hb | replace hb := n3 hb | replace hb := n4 hb | replace hb := n5 hb | replace hb := n6 hb | skip
      refine wp_exit ?_
      refine then_exit ?_; clear hK; clear K
      refine then_exit ?_
      refine in_exit ?_
      refine then_k hK ?_; clear hK; clear K
      refine wp_seq_k ?_; intro K hK
      refine region_list ?_
      refine list_pure E rfl rfl (by decide) (rn_assign E rfl rfl) ?_; clear E a; intro a E
      refine wpList_nil ?_
      refine then_k hK ?_; clear hK; clear K
      refine wp_ret ?_
      refine ret1 E rfl rfl ?_
      obtain rfl : i = l.length := by omega
      rw [List.take_length, hlm, List.take_length] at hlt
      exact ⟨_, rfl, by simp [hlt], S.tr⟩

theorem dsince_ret (O : Chunk) (v : Value) (size : Int) (hsz : -9223372036854775808 ≤ size ∧ size ≤ 9223372036854775807) (l : List Pt) (txg : Nat) (hO : Rd O 9 v l.length (l.flatMap Pt.lay)) (hbl : l.length ≤ 140737488355328 / 72) (w0 : World) (H : Hp w0 [O]) :
    Ret Try.prog 26 #[.int .i64 size, v, .int .u64 txg] w0 fun u w' => ∃ C, Buf C 54 2 u (sinc size l txg).length ((sinc size l txg).flatMap Sp.lay) ∧ Trs w0 w' [O] [C, O] := by
  have S := (St.begin H).addNil
  obtain ⟨ad, c, rfl⟩ := hO.slice
  have hquo : 0 < size → IntKind.i64.wrap ((size - 1).tdiv 1024) = (size - 1) / 1024 := fun h => by
    rw [Int.tdiv_eq_ediv_of_nonneg (by omega)]; exact w_in (by omega)
  refine enter3 96 Try.func26 rfl rfl (by decide) ?_; intro a E
  refine wp_seq_k ?_; intro K hK
  refine region_list ?_
  refine list_pure E rfl rfl (by decide) (rn_assign E rfl rfl) ?_; clear E a; intro a E
  refine wpList_nil ?_
  refine then_k hK ?_; clear hK; clear K
  refine wp_seq_k ?_; intro K hK
  refine region_list ?_
  refine list_pure E rfl rfl (by decide) (rn_assign E rfl rfl) ?_; clear E a; intro a E
  refine wpList_nil ?_
  refine then_k hK ?_; clear hK; clear K
  refine wp_seq_k ?_; intro K hK
  refine wp_seq_k ?_; intro K hK
  refine region_list ?_
  refine list_pure E rfl rfl (by decide) (rn_assign E rfl rfl) ?_; clear E a; intro a E
  refine wpList_nil ?_
  refine then_k hK ?_; clear hK; clear K
  refine wp_block ?_
  refine wp_loop_ghost (fun (m : Nat) (a : Act) (w' : World) => ∃ (i : Nat) (vo : Value) (C : Chunk), m = l.length - i ∧ i ≤ l.length ∧ Buf C 54 2 vo (sincN size l txg i).length ((sincN size l txg i).flatMap Sp.lay) ∧ St w0 [O] w' [C, O] ∧ Fr a 96 [(0, .int .i64 size), (1, .slice ad l.length c), (2, .int .u64 txg), (7, vo), (8, .int .i64 i)]) (l.length - 0) ?_ ?_
  · exact ⟨0, _, [], rfl, by omega, Buf.nil _ _, S, E.keep (keep_cons rfl (keep_cons rfl (keep_cons rfl (keep_cons rfl (keep_cons rfl keep_nil)))))⟩
  clear E; clear a; rintro m a w ⟨i, vo, C, rfl, hi, hC, S, E⟩
  refine wp_seq_k ?_; intro K hK
  refine wp_seq_k ?_; intro K hK
  refine region_list ?_
  refine list_pure E rfl rfl (by decide) (rn_move E rfl rfl) ?_; clear E a; intro a E
  refine list_pure E rfl rfl (by decide) (rn_move E rfl rfl) ?_; clear E a; intro a E
  refine list_pure E rfl rfl (by decide) (by first | exact rn_len E rfl rfl rfl | exact rn_len_str E rfl rfl rfl | exact rn_len_string E rfl rfl rfl) ?_; clear E a; intro a E
  refine list_pure E rfl rfl (by decide) (rn_lss E rfl rfl rfl) ?_; clear E a; intro a E
  refine list_pure E rfl rfl (by decide) (rn_move E rfl rfl) ?_; clear E a; intro a E
  refine guard_split E (t := 15) rfl (fun hb15 => ?_) (fun hb15 => ?_)
  · have hb15n := hb15; first | with_reducible replace hb15n := n1 hb15n | with_reducible replace hb15n := n2 hb15n | with_reducible replace hb15n := n3 hb15n | with_reducible replace hb15n := n4 hb15n | with_reducible replace hb15n := n5 hb15n | with_reducible replace hb15n := n6 hb15n | replace hb15n := n1 hb15n | replace hb15n := n2 hb15n | replace hb15n := n3 hb15n | replace hb15n := n4 hb15n | replace hb15n := n5 hb15n | replace hb15n := n6 hb15n | skip
    refine list_guard_yes E rfl rfl rfl rfl hb15 rfl (by decide) (rn_move E rfl rfl) ?_; clear E a; intro a E
    refine list_guard_yes E rfl rfl rfl rfl hb15 rfl (by decide) (rn_gtr E rfl rfl rfl) ?_; clear E a; intro a E
    refine list_pure E rfl rfl (by decide) (rn_pick_yes' E rfl rfl hb15 rfl) ?_; clear E a; intro a E
    refine list_pure E rfl rfl (by decide) (rn_move E rfl rfl) ?_; clear E a; intro a E
    refine guard_split E (t := 19) rfl (fun hb19 => ?_) (fun hb19 => ?_)
    · have hb19n := hb19; first | with_reducible replace hb19n := n1 hb19n | with_reducible replace hb19n := n2 hb19n | with_reducible replace hb19n := n3 hb19n | with_reducible replace hb19n := n4 hb19n | with_reducible replace hb19n := n5 hb19n | with_reducible replace hb19n := n6 hb19n | replace hb19n := n1 hb19n | replace hb19n := n2 hb19n | replace hb19n := n3 hb19n | replace hb19n := n4 hb19n | replace hb19n := n5 hb19n | replace hb19n := n6 hb19n | skip
      refine list_guard_yes E rfl rfl rfl rfl hb19 rfl (by decide) (rn_move E rfl rfl) ?_; clear E a; intro a E
      refine list_guard_yes E rfl rfl rfl rfl hb19 rfl (by decide) (rn_move E rfl rfl) ?_; clear E a; intro a E
      refine list_guard_yes E rfl rfl rfl rfl hb19 rfl (by decide) (rn_sub E rfl rfl rfl (by first | exact ws_lit (y := 1) (by omega) (by omega) | exact w_in (by omega) | exact w_inu (by omega) | exact rfl)) ?_; clear E a; intro a E
      refine list_guard_yes E rfl rfl rfl rfl hb19 rfl (by decide) (rn_quo E rfl rfl rfl (by first | decide | omega) (hquo (by omega))) ?_; clear E a; intro a E
      refine list_guard_yes E rfl rfl rfl rfl hb19 rfl (by decide) (rn_leq E rfl rfl rfl) ?_; clear E a; intro a E
      refine list_pure E rfl rfl (by decide) (rn_pick_yes' E rfl rfl hb19 rfl) ?_; clear E a; intro a E
      refine wpList_nil ?_
      refine then_k hK ?_; clear hK; clear K
      refine if_bool E rfl (fun hb => ?_) (fun hb => ?_)
      · first | with_reducible replace hb := n1 hb | with_reducible replace hb := n2 hb | with_reducible replace hb := n3 hb | with_reducible replace hb := n4 hb | with_reducible replace hb := n5 hb | with_reducible replace hb := n6 hb | replace hb := n1 hb | replace hb := n2 hb | replace hb := n3 hb | replace hb := n4 hb | replace hb := n5 hb | replace hb := n6 hb | skip
        refine wp_skip ?_
        refine then_k hK ?_; clear hK; clear K
        refine wp_seq_k ?_; intro K hK
        refine wp_block ?_
        refine wp_seq_k ?_; intro K hK
        refine wp_seq_k ?_; intro K hK
        have hib : i < l.length := by omega
        have his : ¬ size ≤ 1024 * (i : Int) := by omega
        obtain ⟨g, off, rfl⟩ := hO.addr (by omega)
        obtain ⟨L, hL⟩ : ∃ L, L = sincN size l txg i := ⟨_, rfl⟩
        have hok := sincN_ok size l txg i
        rw [← hL] at hC hok
        have hlen := hok.len
        refine region_list ?_
        refine list_pure E rfl rfl (by decide) (rn_move E rfl rfl) ?_; clear E a; intro a E
        refine list_pure E rfl rfl (by decide) (rn_move E rfl rfl) ?_; clear E a; intro a E
        refine list_pure E rfl rfl (by decide) (by first | exact rn_indexAddr1 E rfl rfl rfl rfl rfl rfl (by omega) | exact rn_indexAddr E rfl rfl rfl rfl rfl rfl (by omega) | exact rn_indexAddr_array E rfl rfl rfl rfl rfl rfl (by omega)) ?_; clear E a; intro a E
        refine list_pure E rfl rfl (by decide) (rn_load_aggc (vs := [_, _, _, _, _, _, _, _, _]) E rfl rfl rfl rfl (hO.elem (lay := Pt.lay) Pt.lay_len (S.stab.at (by first | exact mm1 | exact mm2 | exact mm3 | exact mm4 | exact mm5 | exact mm6 | exact mm7 | exact mm8)) (i := i) hib)) ?_; clear E a; intro a E
        refine list_pure E rfl rfl (by decide) (rn_build (cells := [_, _, _, _, _, _, _, _, _]) E rfl rfl rfl) ?_; clear E a; intro a E
        refine list_pure E rfl rfl (by decide) (by first | exact rn_eql_pair E rfl rfl rfl rfl (by kernel_rfl) (by kernel_rfl) rfl rfl rfl | exact rn_eql_cells E rfl rfl rfl rfl (by kernel_rfl) (by kernel_rfl) rfl) ?_; clear E a; intro a E
        change Fr a 96 ((33, .bool (l[i].eqB ptZero)) :: _) at E
        obtain ⟨zb, hzb⟩ : ∃ z, z = l[i].eqB ptZero := ⟨_, rfl⟩
        rw [← hzb] at E
        refine list_pure E rfl rfl (by decide) (rn_move E rfl rfl) ?_; clear E a; intro a E
        refine guard_split E (t := 34) rfl (fun hb34 => ?_) (fun hb34 => ?_)
        · have hb34n := hb34; first | with_reducible replace hb34n := n1 hb34n | with_reducible replace hb34n := n2 hb34n | with_reducible replace hb34n := n3 hb34n | with_reducible replace hb34n := n4 hb34n | with_reducible replace hb34n := n5 hb34n | with_reducible replace hb34n := n6 hb34n | replace hb34n := n1 hb34n | replace hb34n := n2 hb34n | replace hb34n := n3 hb34n | replace hb34n := n4 hb34n | replace hb34n := n5 hb34n | replace hb34n := n6 hb34n | skip
          refine list_guard_no E rfl rfl rfl rfl hb34 rfl (by decide) ?_; clear E a; intro a E
          refine list_guard_no E rfl rfl rfl rfl hb34 rfl (by decide) ?_; clear E a; intro a E
          refine list_guard_no E rfl rfl rfl rfl hb34 rfl (by decide) ?_; clear E a; intro a E
          refine list_guard_no E rfl rfl rfl rfl hb34 rfl (by decide) ?_; clear E a; intro a E
          refine list_guard_no E rfl rfl rfl rfl hb34 rfl (by decide) ?_; clear E a; intro a E
          refine list_guard_no E rfl rfl rfl rfl hb34 rfl (by decide) ?_; clear E a; intro a E
          refine list_guard_no E rfl rfl rfl rfl hb34 rfl (by decide) ?_; clear E a; intro a E
          refine list_pure E rfl rfl (by decide) (rn_pick_yes' E rfl rfl hb34 rfl) ?_; clear E a; intro a E
          refine wpList_nil ?_
          refine then_k hK ?_; clear hK; clear K
          refine if_true' E rfl rfl ?_
          refine wp_exit ?_
          refine then_exit ?_; clear hK; clear K
          refine in_exit ?_
          refine then_k hK ?_; clear hK; clear K
          refine region_list ?_
          refine list_pure E rfl rfl (by decide) (rn_move E rfl rfl) ?_; clear E a; intro a E
          refine list_pure E rfl rfl (by decide) (rn_add E rfl rfl rfl (by first | exact wa_lit (y := 1) (by omega) | exact w_in (by omega) | exact w_inu (by omega) | exact rfl)) ?_; clear E a; intro a E
          refine list_pure E rfl rfl (by decide) (rn_assign E rfl rfl) ?_; clear E a; intro a E
          refine wpList_nil ?_
          refine then_normal ?_
          exact ⟨_, by omega, i + 1, vo, C, rfl, by omega, by rw [sincN_skip hib (snSkip_zero (hzb ▸ hb34)), ← hL]; exact hC, S, E.keep (keep_cons rfl (keep_cons rfl (keep_cons rfl (keep_cons rfl (keep_cons rfl keep_nil)))))⟩
        · have hb34n := hb34; first | with_reducible replace hb34n := n1 hb34n | with_reducible replace hb34n := n2 hb34n | with_reducible replace hb34n := n3 hb34n | with_reducible replace hb34n := n4 hb34n | with_reducible replace hb34n := n5 hb34n | with_reducible replace hb34n := n6 hb34n | replace hb34n := n1 hb34n | replace hb34n := n2 hb34n | replace hb34n := n3 hb34n | replace hb34n := n4 hb34n | replace hb34n := n5 hb34n | replace hb34n := n6 hb34n | skip
          refine list_guard_yes E rfl rfl rfl rfl hb34 rfl (by decide) (rn_move E rfl rfl) ?_; clear E a; intro a E
          refine list_guard_yes E rfl rfl rfl rfl hb34 rfl (by decide) (rn_move E rfl rfl) ?_; clear E a; intro a E
          refine list_guard_yes E rfl rfl rfl rfl hb34 rfl (by decide) (by first | exact rn_indexAddr1 E rfl rfl rfl rfl rfl rfl (by omega) | exact rn_indexAddr E rfl rfl rfl rfl rfl rfl (by omega) | exact rn_indexAddr_array E rfl rfl rfl rfl rfl rfl (by omega)) ?_; clear E a; intro a E
          refine list_guard_yes E rfl rfl rfl rfl hb34 rfl (by decide) (by first | exact rn_fieldAddr0 (q := 3) E rfl rfl rfl | exact rn_fieldAddr (q := 3) E rfl rfl rfl) ?_; clear E a; intro a E
          refine list_guard_yes E rfl rfl rfl rfl hb34 rfl (by decide) (rn_loadc E rfl rfl rfl (hO.elem (lay := Pt.lay) Pt.lay_len (S.stab.at (by first | exact mm1 | exact mm2 | exact mm3 | exact mm4 | exact mm5 | exact mm6 | exact mm7 | exact mm8)) (i := i) hib 3 _ rfl)) ?_; clear E a; intro a E
          refine list_guard_yes E rfl rfl rfl rfl hb34 rfl (by decide) (rn_move E rfl rfl) ?_; clear E a; intro a E
          refine list_guard_yes E rfl rfl rfl rfl hb34 rfl (by decide) (rn_leq E rfl rfl rfl) ?_; clear E a; intro a E
          refine list_pure E rfl rfl (by decide) (rn_pick_no' E rfl rfl hb34 rfl) ?_; clear E a; intro a E
          refine wpList_nil ?_
          refine then_k hK ?_; clear hK; clear K
          refine if_bool E rfl (fun hb => ?_) (fun hb => ?_)
          · first | with_reducible replace hb := n1 hb | with_reducible replace hb := n2 hb | with_reducible replace hb := n3 hb | with_reducible replace hb := n4 hb | with_reducible replace hb := n5 hb | with_reducible replace hb := n6 hb | replace hb := n1 hb | replace hb := n2 hb | replace hb := n3 hb | replace hb := n4 hb | replace hb := n5 hb | replace hb := n6 hb | skip
            refine wp_exit ?_
            refine then_exit ?_; clear hK; clear K
            refine in_exit ?_
            refine then_k hK ?_; clear hK; clear K
            refine region_list ?_
            refine list_pure E rfl rfl (by decide) (rn_move E rfl rfl) ?_; clear E a; intro a E
            refine list_pure E rfl rfl (by decide) (rn_add E rfl rfl rfl (by first | exact wa_lit (y := 1) (by omega) | exact w_in (by omega) | exact w_inu (by omega) | exact rfl)) ?_; clear E a; intro a E
            refine list_pure E rfl rfl (by decide) (rn_assign E rfl rfl) ?_; clear E a; intro a E
            refine wpList_nil ?_
            refine then_normal ?_
            exact ⟨_, by omega, i + 1, vo, C, rfl, by omega, by rw [sincN_skip hib (snSkip_birth (by omega)), ← hL]; exact hC, S, E.keep (keep_cons rfl (keep_cons rfl (keep_cons rfl (keep_cons rfl (keep_cons rfl keep_nil)))))⟩
          · first | with_reducible replace hb := n1 hb | with_reducible replace hb := n2 hb | with_reducible replace hb := n3 hb | with_reducible replace hb := n4 hb | with_reducible replace hb := n5 hb | with_reducible replace hb := n6 hb | replace hb := n1 hb | replace hb := n2 hb | replace hb := n3 hb | replace hb := n4 hb | replace hb := n5 hb | replace hb := n6 hb | skip
            refine wp_skip ?_
            refine then_k hK ?_; clear hK; clear K
            refine wp_seq_k ?_; intro K hK
            have hsk : snSkip l[i] txg = false := snSkip_no (hzb ▸ hb34) (by omega)
            have hadd := sincN_add (size := size) hib his hsk
            rw [← hL] at hadd
            have hlast (h : L.length - 1 < L.length) := hok.each _ (List.getElem_mem h)
            simp only [Sp.fin] at hlast
            obtain ⟨ad7, c7, rfl⟩ := hC.slice
            refine region_list ?_
            refine list_pure E rfl rfl (by decide) (rn_assign E rfl rfl) ?_; clear E a; intro a E
            refine wpList_nil ?_
            refine then_k hK ?_; clear hK; clear K
            refine wp_seq_k ?_; intro K hK
            refine wp_seq_k ?_; intro K hK
            refine region_list ?_
            refine list_pure E rfl rfl (by decide) (rn_move E rfl rfl) ?_; clear E a; intro a E
            refine list_pure E rfl rfl (by decide) (rn_move E rfl rfl) ?_; clear E a; intro a E
            refine list_pure E rfl rfl (by decide) (rn_mul E rfl rfl rfl (by first | exact wm_lit (x := 1024) (by omega) | exact wm_litu (x := 1024) (by omega) | exact w_in (by omega) | exact rfl)) ?_; clear E a; intro a E
            refine list_pure E rfl rfl (by decide) (rn_sub E rfl rfl rfl (by first | exact ws1 (by omega) (by omega) | exact w_in (by omega) | exact w_inu (by omega) | exact rfl)) ?_; clear E a; intro a E
            refine list_pure E rfl rfl (by decide) (rn_move E rfl rfl) ?_; clear E a; intro a E
            refine list_pure E rfl rfl (by decide) (rn_lss E rfl rfl rfl) ?_; clear E a; intro a E
            refine wpList_nil ?_
            refine then_k hK ?_; clear hK; clear K
            refine wp_join (fun (a : Act) (w' : World) => ∃ mm : Int, mm = min 1024 (size - 1024 * (i : Int)) ∧ St w0 [O] w' [C, O] ∧ Fr a 96 [(0, .int .i64 size), (1, .slice (some ⟨g, off, none⟩) l.length c), (2, .int .u64 txg), (7, .slice ad7 L.length c7), (8, .int .i64 i), (9, .int .i64 mm)]) ?_ ?_
            · skip
              refine if_bool E rfl (fun hb => ?_) (fun hb => ?_)
              · first | with_reducible replace hb := n1 hb | with_reducible replace hb := n2 hb | with_reducible replace hb := n3 hb | with_reducible replace hb := n4 hb | with_reducible replace hb := n5 hb | with_reducible replace hb := n6 hb | replace hb := n1 hb | replace hb := n2 hb | replace hb := n3 hb | replace hb := n4 hb | replace hb := n5 hb | replace hb := n6 hb | skip
                refine region_list ?_
                refine list_pure E rfl rfl (by decide) (rn_move E rfl rfl) ?_; clear E a; intro a E
                refine list_pure E rfl rfl (by decide) (rn_move E rfl rfl) ?_; clear E a; intro a E
                refine list_pure E rfl rfl (by decide) (rn_mul E rfl rfl rfl (by first | exact wm_lit (x := 1024) (by omega) | exact wm_litu (x := 1024) (by omega) | exact w_in (by omega) | exact rfl)) ?_; clear E a; intro a E
                refine list_pure E rfl rfl (by decide) (rn_sub E rfl rfl rfl (by first | exact ws1 (by omega) (by omega) | exact w_in (by omega) | exact w_inu (by omega) | exact rfl)) ?_; clear E a; intro a E
                refine list_pure E rfl rfl (by decide) (rn_assign E rfl rfl) ?_; clear E a; intro a E
                refine wpList_nil ?_
                refine joined_here ?_
                exact ⟨_, by omega, S, E.keep (keep_cons rfl (keep_cons rfl (keep_cons rfl (keep_cons rfl (keep_cons rfl (keep_cons rfl keep_nil))))))⟩
              · first | with_reducible replace hb := n1 hb | with_reducible replace hb := n2 hb | with_reducible replace hb := n3 hb | with_reducible replace hb := n4 hb | with_reducible replace hb := n5 hb | with_reducible replace hb := n6 hb | replace hb := n1 hb | replace hb := n2 hb | replace hb := n3 hb | replace hb := n4 hb | replace hb := n5 hb | replace hb := n6 hb | skip
                refine wp_skip ?_
                refine joined_here ?_
                exact ⟨_, by omega, S, E.keep (keep_cons rfl (keep_cons rfl (keep_cons rfl (keep_cons rfl (keep_cons rfl (keep_cons rfl keep_nil))))))⟩
            · clear S E a; intro a w J; obtain ⟨mm, hmm, S, E⟩ := J
              refine then_k hK ?_; clear hK; clear K
              refine wp_seq_k ?_; intro K hK
              refine region_list ?_
              refine list_pure E rfl rfl (by decide) (rn_move E rfl rfl) ?_; clear E a; intro a E
              refine list_pure E rfl rfl (by decide) (by first | exact rn_len E rfl rfl rfl | exact rn_len_str E rfl rfl rfl | exact rn_len_string E rfl rfl rfl) ?_; clear E a; intro a E
              refine list_pure E rfl rfl (by decide) (rn_assign E rfl rfl) ?_; clear E a; intro a E
              refine wpList_nil ?_
              refine then_k hK ?_; clear hK; clear K
              refine wp_seq_k ?_; intro K hK
              have hat : ((1024 * i : Nat) : Int) = 1024 * (i : Int) := by omega
              have hmr : mm ≤ 1024 := by omega
              refine region_mix0 S (.ofL [(0, 0), (1, 0), (2, 0), (3, 0), (4, 0), (5, 0), (6, 0), (7, 0), (8, 0), (9, 0), (10, 0), (11, 0), (12, 0), (13, 0), (14, 0), (15, 0), (16, 0), (17, 0), (18, 0), (19, 0)]) (by kernel_rfl) (by kernel_rfl) ?_
              clear S; intro w S
              refine mix_pure E rfl rfl rfl (by decide) (fun w h => rn_move E rfl rfl) ?_; clear E a; intro a E
              refine mix_pure E rfl rfl rfl (by decide) (fun w h => rn_gtr E rfl rfl rfl) ?_; clear E a; intro a E
              refine mix_pure E rfl rfl rfl (by decide) (fun w h => rn_move E rfl rfl) ?_; clear E a; intro a E
              first | (have hpos : 0 < L.length := (by omega); obtain ⟨g7, rfl⟩ := hC.addr hpos; have hlt : L.length - 1 < L.length := (by omega); have hll := hlast hlt) | skip
              refine guard_split E (t := 57) rfl (fun hb57 => ?_) (fun hb57 => ?_)
              · have hb57n := hb57; first | with_reducible replace hb57n := n1 hb57n | with_reducible replace hb57n := n2 hb57n | with_reducible replace hb57n := n3 hb57n | with_reducible replace hb57n := n4 hb57n | with_reducible replace hb57n := n5 hb57n | with_reducible replace hb57n := n6 hb57n | replace hb57n := n1 hb57n | replace hb57n := n2 hb57n | replace hb57n := n3 hb57n | replace hb57n := n4 hb57n | replace hb57n := n5 hb57n | replace hb57n := n6 hb57n | skip
                first | (have hpos : 0 < L.length := (by omega); obtain ⟨g7, rfl⟩ := hC.addr hpos; have hlt : L.length - 1 < L.length := (by omega); have hll := hlast hlt) | skip
                refine mix_guard_yes E rfl rfl rfl rfl rfl hb57 rfl (by decide) (fun w h => rn_move E rfl rfl) ?_; clear E a; intro a E
                refine mix_guard_yes E rfl rfl rfl rfl rfl hb57 rfl (by decide) (fun w h => rn_move E rfl rfl) ?_; clear E a; intro a E
                refine mix_guard_yes E rfl rfl rfl rfl rfl hb57 rfl (by decide) (fun w h => rn_sub E rfl rfl rfl (by first | exact ws_lit (y := 1) (by omega) (by omega) | exact w_in (by omega) | exact w_inu (by omega) | exact rfl)) ?_; clear E a; intro a E
                refine mix_guard_yes E rfl rfl rfl rfl rfl hb57 rfl (by decide) (fun w h => (by exact rn_indexAddr (i := L.length - 1) E rfl rfl rfl rfl rfl (by omega) (by omega))) ?_; clear E a; intro a E
                refine mix_guard_yes E rfl rfl rfl rfl rfl hb57 rfl (by decide) (fun w h => by first | exact rn_fieldAddr0 (q := 0) E rfl rfl rfl | exact rn_fieldAddr (q := 0) E rfl rfl rfl) ?_; clear E a; intro a E
                refine mix_guard_yes E rfl rfl rfl rfl rfl hb57 rfl (by decide) (fun w h => rn_loadc E rfl rfl rfl (hC.rd.elem (lay := Sp.lay) Sp.lay_len (h.at (by first | exact mm1 | exact mm2 | exact mm3 | exact mm4 | exact mm5 | exact mm6 | exact mm7 | exact mm8)) (i := L.length - 1) hlt 0 _ rfl)) ?_; clear E a; intro a E
                refine mix_guard_yes E rfl rfl rfl rfl rfl hb57 rfl (by decide) (fun w h => rn_move E rfl rfl) ?_; clear E a; intro a E
                refine mix_guard_yes E rfl rfl rfl rfl rfl hb57 rfl (by decide) (fun w h => rn_move E rfl rfl) ?_; clear E a; intro a E
                refine mix_guard_yes E rfl rfl rfl rfl rfl hb57 rfl (by decide) (fun w h => rn_sub E rfl rfl rfl (by first | exact ws_lit (y := 1) (by omega) (by omega) | exact w_in (by omega) | exact w_inu (by omega) | exact rfl)) ?_; clear E a; intro a E
                refine mix_guard_yes E rfl rfl rfl rfl rfl hb57 rfl (by decide) (fun w h => (by exact rn_indexAddr (i := L.length - 1) E rfl rfl rfl rfl rfl (by omega) (by omega))) ?_; clear E a; intro a E
                refine mix_guard_yes E rfl rfl rfl rfl rfl hb57 rfl (by decide) (fun w h => by first | exact rn_fieldAddr0 (q := 1) E rfl rfl rfl | exact rn_fieldAddr (q := 1) E rfl rfl rfl) ?_; clear E a; intro a E
                refine mix_guard_yes E rfl rfl rfl rfl rfl hb57 rfl (by decide) (fun w h => rn_loadc E rfl rfl rfl (hC.rd.elem (lay := Sp.lay) Sp.lay_len (h.at (by first | exact mm1 | exact mm2 | exact mm3 | exact mm4 | exact mm5 | exact mm6 | exact mm7 | exact mm8)) (i := L.length - 1) hlt 1 _ rfl)) ?_; clear E a; intro a E
                refine mix_guard_yes E rfl rfl rfl rfl rfl hb57 rfl (by decide) (fun w h => rn_add E rfl rfl rfl (by first | exact wa1 (by omega) | exact w_in (by omega) | exact w_inu (by omega) | exact rfl)) ?_; clear E a; intro a E
                refine mix_guard_yes E rfl rfl rfl rfl rfl hb57 rfl (by decide) (fun w h => rn_move E rfl rfl) ?_; clear E a; intro a E
                refine mix_guard_yes E rfl rfl rfl rfl rfl hb57 rfl (by decide) (fun w h => rn_mul E rfl rfl rfl (by first | exact wm_lit (x := 1024) (by omega) | exact wm_litu (x := 1024) (by omega) | exact w_in (by omega) | exact rfl)) ?_; clear E a; intro a E
                refine mix_guard_yes E rfl rfl rfl rfl rfl hb57 rfl (by decide) (fun w h => by first | exact rn_eql E rfl rfl rfl | exact rn_eql_ptr_nil E rfl rfl rfl rfl | exact rn_eql_bool E rfl rfl rfl rfl | exact rn_eql_string E rfl rfl rfl) ?_; clear E a; intro a E
                refine mix_pure E rfl rfl rfl (by decide) (fun w h => rn_pick_yes' E rfl rfl hb57 rfl) ?_; clear E a; intro a E
                refine mix_nil ?_
                refine then_k hK ?_; clear hK; clear K
                refine if_bool E rfl (fun hb => ?_) (fun hb => ?_)
                · first | with_reducible replace hb := n1 hb | with_reducible replace hb := n2 hb | with_reducible replace hb := n3 hb | with_reducible replace hb := n4 hb | with_reducible replace hb := n5 hb | with_reducible replace hb := n6 hb | replace hb := n1 hb | replace hb := n2 hb | replace hb := n3 hb | replace hb := n4 hb | replace hb := n5 hb | replace hb := n6 hb | skip
                  obtain ⟨ys, y, hys⟩ := (last_or L).resolve_left (fun q => by rw [q] at hpos; exact absurd hpos (by decide))
                  have hyl : L[L.length - 1] = y := by subst hys; simp
                  have hn1 : L.length = ys.length + 1 := by rw [hys]; simp
                  rw [hyl] at hb hll
                  refine region_list ?_
                  refine list_pure E rfl rfl (by decide) (rn_move E rfl rfl) ?_; clear E a; intro a E
                  refine list_pure E rfl rfl (by decide) (rn_move E rfl rfl) ?_; clear E a; intro a E
                  refine list_pure E rfl rfl (by decide) (rn_sub E rfl rfl rfl (by first | exact ws_lit (y := 1) (by omega) (by omega) | exact w_in (by omega) | exact w_inu (by omega) | exact rfl)) ?_; clear E a; intro a E
                  refine list_pure E rfl rfl (by decide) (rn_move E rfl rfl) ?_; clear E a; intro a E
                  refine list_pure E rfl rfl (by decide) (rn_move E rfl rfl) ?_; clear E a; intro a E
                  refine list_pure E rfl rfl (by decide) (rn_sub E rfl rfl rfl (by first | exact ws_lit (y := 1) (by omega) (by omega) | exact w_in (by omega) | exact w_inu (by omega) | exact rfl)) ?_; clear E a; intro a E
                  refine list_pure E rfl rfl (by decide) ((by exact rn_indexAddr (i := L.length - 1) E rfl rfl rfl rfl rfl (by omega) (by omega))) ?_; clear E a; intro a E
                  refine list_pure E rfl rfl (by decide) (by first | exact rn_fieldAddr0 (q := 1) E rfl rfl rfl | exact rn_fieldAddr (q := 1) E rfl rfl rfl) ?_; clear E a; intro a E
                  refine list_pure E rfl rfl (by decide) (rn_loadc E rfl rfl rfl (hC.rd.elem (lay := Sp.lay) Sp.lay_len (S.stab.at (by first | exact mm1 | exact mm2 | exact mm3 | exact mm4 | exact mm5 | exact mm6 | exact mm7 | exact mm8)) (i := L.length - 1) hlt 1 _ rfl)) ?_; clear E a; intro a E
                  rw [hyl] at E
                  refine list_pure E rfl rfl (by decide) (rn_move E rfl rfl) ?_; clear E a; intro a E
                  refine list_pure E rfl rfl (by decide) (rn_add E rfl rfl rfl (by first | exact wa1 (by omega) | exact w_in (by omega) | exact w_inu (by omega) | exact rfl)) ?_; clear E a; intro a E
                  refine list_pure E rfl rfl (by decide) ((by exact rn_indexAddr (i := L.length - 1) E rfl rfl rfl rfl rfl (by omega) (by omega))) ?_; clear E a; intro a E
                  refine list_pure E rfl rfl (by decide) (by first | exact rn_fieldAddr0 (q := 1) E rfl rfl rfl | exact rn_fieldAddr (q := 1) E rfl rfl rfl) ?_; clear E a; intro a E
                  refine list_wp rfl (wp_elem1 E S rfl rfl rfl rfl rfl rfl hC (by first | exact pk1 | exact pk2 | exact pk3 | exact pk4 | exact pk5 | exact pk6 | exact pk7 | exact pk8 | exact pk9) (i := (L.length - 1) * 2 + 1) (by rw [hC.1]; omega) (by show 0 + (L.length - 1) * 2 + 1 = (L.length - 1) * 2 + 1; omega) ?_); clear E S a; intro a w Cs13 E hBs13 S
                  refine wpList_nil ?_
                  refine in_normal ?_
                  refine then_k hK ?_; clear hK; clear K
                  refine region_list ?_
                  refine list_pure E rfl rfl (by decide) (rn_move E rfl rfl) ?_; clear E a; intro a E
                  refine list_pure E rfl rfl (by decide) (rn_add E rfl rfl rfl (by first | exact wa_lit (y := 1) (by omega) | exact w_in (by omega) | exact w_inu (by omega) | exact rfl)) ?_; clear E a; intro a E
                  refine list_pure E rfl rfl (by decide) (rn_assign E rfl rfl) ?_; clear E a; intro a E
                  refine wpList_nil ?_
                  refine then_normal ?_
                  have hnew : sincN size l txg (i + 1) = ys ++ [⟨y.at_, y.many + mm⟩] := by rw [hadd, hys, snAdd_hit (by simp only [Sp.fin]; omega), hmm]
                  have hB2 : Buf Cs13 54 2 (.slice (some ⟨g7, 0, none⟩) L.length c7) (sincN size l txg (i + 1)).length ((sincN size l txg (i + 1)).flatMap Sp.lay) := by
                    rw [hnew, List.length_append, List.length_singleton, ← hn1, List.flatMap_append, flat_one]
                    rw [hn1, Nat.add_sub_cancel, hys, sp_set] at hBs13; exact hn1 ▸ hBs13
                  exact ⟨_, by omega, i + 1, _, Cs13, rfl, by omega, hB2, S.only (Bs := [Cs13, O]) (sel_cons (by first | exact pk1 | exact pk2 | exact pk3 | exact pk4 | exact pk5 | exact pk6 | exact pk7 | exact pk8 | exact pk9) (sel_cons (by first | exact pk1 | exact pk2 | exact pk3 | exact pk4 | exact pk5 | exact pk6 | exact pk7 | exact pk8 | exact pk9) (sel_nil _))), E.keep (keep_cons rfl (keep_cons rfl (keep_cons rfl (keep_cons rfl (keep_cons rfl keep_nil)))))⟩
                · first | with_reducible replace hb := n1 hb | with_reducible replace hb := n2 hb | with_reducible replace hb := n3 hb | with_reducible replace hb := n4 hb | with_reducible replace hb := n5 hb | with_reducible replace hb := n6 hb | replace hb := n1 hb | replace hb := n2 hb | replace hb := n3 hb | replace hb := n4 hb | replace hb := n5 hb | replace hb := n6 hb | skip
                  refine region_list ?_
                  refine list_pure E rfl rfl (by decide) (rn_move E rfl rfl) ?_; clear E a; intro a E
                  refine list_pure E rfl rfl (by decide) (rn_move E rfl rfl) ?_; clear E a; intro a E
                  refine list_pure E rfl rfl (by decide) (rn_mul E rfl rfl rfl (by first | exact wm_lit (x := 1024) (by omega) | exact wm_litu (x := 1024) (by omega) | exact w_in (by omega) | exact rfl)) ?_; clear E a; intro a E
                  rw [hat] at E
                  refine list_pure E rfl rfl (by decide) (rn_move E rfl rfl) ?_; clear E a; intro a E
                  refine list_pure E rfl rfl (by decide) (rn_build (cells := [_, _]) E rfl rfl rfl) ?_; clear E a; intro a E
                  refine list_wp rfl (wp_bslice (cells := [_, _]) E S rfl rfl (by decide) rfl rfl rfl rfl rfl (by decide) rfl ?_); clear E S a; intro a w b93 E S
                  refine list_wp rfl (wp_append (by' := 16) E S rfl rfl (by decide) rfl rfl hC (by first | exact pk1 | exact pk2 | exact pk3 | exact pk4 | exact pk5 | exact pk6 | exact pk7 | exact pk8 | exact pk9) ((rd_cells (g := b93) (T := 54) (xs := Sp.lay ⟨1024 * (i : Int), mm⟩) (s := 2) (m := 1) rfl (Sp.lay_one _) (by omega) 1).src (S.stab.at (by first | exact mm1 | exact mm2 | exact mm3 | exact mm4 | exact mm5 | exact mm6 | exact mm7 | exact mm8)) rfl) rfl rfl rfl rfl rfl rfl (by simp only [maxLen]; omega) (by omega) ?_); clear E S a; intro a w v94 C94 E S hB94
                  refine list_pure E rfl rfl (by decide) (rn_assign E rfl rfl) ?_; clear E a; intro a E
                  refine wpList_nil ?_
                  refine in_normal ?_
                  refine then_k hK ?_; clear hK; clear K
                  refine region_list ?_
                  refine list_pure E rfl rfl (by decide) (rn_move E rfl rfl) ?_; clear E a; intro a E
                  refine list_pure E rfl rfl (by decide) (rn_add E rfl rfl rfl (by first | exact wa_lit (y := 1) (by omega) | exact w_in (by omega) | exact w_inu (by omega) | exact rfl)) ?_; clear E a; intro a E
                  refine list_pure E rfl rfl (by decide) (rn_assign E rfl rfl) ?_; clear E a; intro a E
                  refine wpList_nil ?_
                  refine then_normal ?_
                  obtain ⟨ys, y, hys⟩ := (last_or L).resolve_left (fun q => by rw [q] at hpos; exact absurd hpos (by decide))
                  have hyl : L[L.length - 1] = y := by subst hys; simp
                  rw [hyl] at hb hll
                  have hnew : sincN size l txg (i + 1) = L ++ [⟨1024 * (i : Int), mm⟩] := by rw [hadd, hys, snAdd_miss (by simp only [Sp.fin]; omega), hmm]
                  exact ⟨_, by omega, i + 1, _, C94, rfl, by omega, by rw [hnew, List.length_append, List.flatMap_append, flat_one]; exact hB94, S.only (Bs := [C94, O]) (sel_cons (by first | exact pk1 | exact pk2 | exact pk3 | exact pk4 | exact pk5 | exact pk6 | exact pk7 | exact pk8 | exact pk9) (sel_cons (by first | exact pk1 | exact pk2 | exact pk3 | exact pk4 | exact pk5 | exact pk6 | exact pk7 | exact pk8 | exact pk9) (sel_nil _))), E.keep (keep_cons rfl (keep_cons rfl (keep_cons rfl (keep_cons rfl (keep_cons rfl keep_nil)))))⟩
              · have hb57n := hb57; first | with_reducible replace hb57n := n1 hb57n | with_reducible replace hb57n := n2 hb57n | with_reducible replace hb57n := n3 hb57n | with_reducible replace hb57n := n4 hb57n | with_reducible replace hb57n := n5 hb57n | with_reducible replace hb57n := n6 hb57n | replace hb57n := n1 hb57n | replace hb57n := n2 hb57n | replace hb57n := n3 hb57n | replace hb57n := n4 hb57n | replace hb57n := n5 hb57n | replace hb57n := n6 hb57n | skip
                first | (have hpos : 0 < L.length := (by omega); obtain ⟨g7, rfl⟩ := hC.addr hpos; have hlt : L.length - 1 < L.length := (by omega); have hll := hlast hlt) | skip
                refine mix_guard_no E rfl rfl rfl rfl rfl hb57 rfl (by decide) ?_; clear E a; intro a E
                refine mix_guard_no E rfl rfl rfl rfl rfl hb57 rfl (by decide) ?_; clear E a; intro a E
                refine mix_guard_no E rfl rfl rfl rfl rfl hb57 rfl (by decide) ?_; clear E a; intro a E
                refine mix_guard_no E rfl rfl rfl rfl rfl hb57 rfl (by decide) ?_; clear E a; intro a E
                refine mix_guard_no E rfl rfl rfl rfl rfl hb57 rfl (by decide) ?_; clear E a; intro a E
                refine mix_guard_no E rfl rfl rfl rfl rfl hb57 rfl (by decide) ?_; clear E a; intro a E
                refine mix_guard_no E rfl rfl rfl rfl rfl hb57 rfl (by decide) ?_; clear E a; intro a E
                refine mix_guard_no E rfl rfl rfl rfl rfl hb57 rfl (by decide) ?_; clear E a; intro a E
                refine mix_guard_no E rfl rfl rfl rfl rfl hb57 rfl (by decide) ?_; clear E a; intro a E
                refine mix_guard_no E rfl rfl rfl rfl rfl hb57 rfl (by decide) ?_; clear E a; intro a E
                refine mix_guard_no E rfl rfl rfl rfl rfl hb57 rfl (by decide) ?_; clear E a; intro a E
                refine mix_guard_no E rfl rfl rfl rfl rfl hb57 rfl (by decide) ?_; clear E a; intro a E
                refine mix_guard_no E rfl rfl rfl rfl rfl hb57 rfl (by decide) ?_; clear E a; intro a E
                refine mix_guard_no E rfl rfl rfl rfl rfl hb57 rfl (by decide) ?_; clear E a; intro a E
                refine mix_guard_no E rfl rfl rfl rfl rfl hb57 rfl (by decide) ?_; clear E a; intro a E
                refine mix_guard_no E rfl rfl rfl rfl rfl hb57 rfl (by decide) ?_; clear E a; intro a E
                refine mix_pure E rfl rfl rfl (by decide) (fun w h => rn_pick_no' E rfl rfl hb57 rfl) ?_; clear E a; intro a E
                refine mix_nil ?_
                refine then_k hK ?_; clear hK; clear K
                refine if_false' E rfl rfl ?_
                refine region_list ?_
                refine list_pure E rfl rfl (by decide) (rn_move E rfl rfl) ?_; clear E a; intro a E
                refine list_pure E rfl rfl (by decide) (rn_move E rfl rfl) ?_; clear E a; intro a E
                refine list_pure E rfl rfl (by decide) (rn_mul E rfl rfl rfl (by first | exact wm_lit (x := 1024) (by omega) | exact wm_litu (x := 1024) (by omega) | exact w_in (by omega) | exact rfl)) ?_; clear E a; intro a E
                rw [hat] at E
                refine list_pure E rfl rfl (by decide) (rn_move E rfl rfl) ?_; clear E a; intro a E
                refine list_pure E rfl rfl (by decide) (rn_build (cells := [_, _]) E rfl rfl rfl) ?_; clear E a; intro a E
                refine list_wp rfl (wp_bslice (cells := [_, _]) E S rfl rfl (by decide) rfl rfl rfl rfl rfl (by decide) rfl ?_); clear E S a; intro a w b93 E S
                refine list_wp rfl (wp_append (by' := 16) E S rfl rfl (by decide) rfl rfl hC (by first | exact pk1 | exact pk2 | exact pk3 | exact pk4 | exact pk5 | exact pk6 | exact pk7 | exact pk8 | exact pk9) ((rd_cells (g := b93) (T := 54) (xs := Sp.lay ⟨1024 * (i : Int), mm⟩) (s := 2) (m := 1) rfl (Sp.lay_one _) (by omega) 1).src (S.stab.at (by first | exact mm1 | exact mm2 | exact mm3 | exact mm4 | exact mm5 | exact mm6 | exact mm7 | exact mm8)) rfl) rfl rfl rfl rfl rfl rfl (by simp only [maxLen]; omega) (by omega) ?_); clear E S a; intro a w v94 C94 E S hB94
                refine list_pure E rfl rfl (by decide) (rn_assign E rfl rfl) ?_; clear E a; intro a E
                refine wpList_nil ?_
                refine in_normal ?_
                refine then_k hK ?_; clear hK; clear K
                refine region_list ?_
                refine list_pure E rfl rfl (by decide) (rn_move E rfl rfl) ?_; clear E a; intro a E
                refine list_pure E rfl rfl (by decide) (rn_add E rfl rfl rfl (by first | exact wa_lit (y := 1) (by omega) | exact w_in (by omega) | exact w_inu (by omega) | exact rfl)) ?_; clear E a; intro a E
                refine list_pure E rfl rfl (by decide) (rn_assign E rfl rfl) ?_; clear E a; intro a E
                refine wpList_nil ?_
                refine then_normal ?_
                have hnew : sincN size l txg (i + 1) = L ++ [⟨1024 * (i : Int), mm⟩] := by
                  have h0 : L = [] := List.eq_nil_of_length_eq_zero (by omega)
                  rw [hadd, h0, snAdd_nil, hmm]; rfl
                exact ⟨_, by omega, i + 1, _, C94, rfl, by omega, by rw [hnew, List.length_append, List.flatMap_append, flat_one]; exact hB94, S.only (Bs := [C94, O]) (sel_cons (by first | exact pk1 | exact pk2 | exact pk3 | exact pk4 | exact pk5 | exact pk6 | exact pk7 | exact pk8 | exact pk9) (sel_cons (by first | exact pk1 | exact pk2 | exact pk3 | exact pk4 | exact pk5 | exact pk6 | exact pk7 | exact pk8 | exact pk9) (sel_nil _))), E.keep (keep_cons rfl (keep_cons rfl (keep_cons rfl (keep_cons rfl (keep_cons rfl keep_nil)))))⟩
      · first | with_reducible replace hb := n1 hb | with_reducible replace hb := n2 hb | with_reducible replace hb := n3 hb | with_reducible replace hb := n4 hb | with_reducible replace hb := n5 hb | with_reducible replace hb := n6 hb | replace hb := n1 hb | replace hb := n2 hb | replace hb := n3 hb | replace hb := n4 hb | replace hb := n5 hb | replace hb := n6 hb | skip
        refine wp_exit ?_
        refine then_exit ?_; clear hK; clear K
        refine then_exit ?_
        refine in_exit ?_
        refine then_k hK ?_; clear hK; clear K
        refine wp_seq_k ?_; intro K hK
        refine region_list ?_
        refine list_pure E rfl rfl (by decide) (rn_move E rfl rfl) ?_; clear E a; intro a E
        refine list_pure E rfl rfl (by decide) (rn_assign E rfl rfl) ?_; clear E a; intro a E
        refine wpList_nil ?_
        refine then_k hK ?_; clear hK; clear K
        refine wp_ret ?_
        refine ret1 E rfl rfl ?_
        rw [sinc_done (size := size) hi (by omega)] at hC
        exact ⟨_, rfl, C, hC, (S.only (Bs := [C, O]) (sel_cons (by first | exact pk1 | exact pk2 | exact pk3 | exact pk4 | exact pk5 | exact pk6 | exact pk7 | exact pk8 | exact pk9) (sel_cons (by first | exact pk1 | exact pk2 | exact pk3 | exact pk4 | exact pk5 | exact pk6 | exact pk7 | exact pk8 | exact pk9) (sel_nil _)))).tr⟩
    · have hb19n := hb19; first | with_reducible replace hb19n := n1 hb19n | with_reducible replace hb19n := n2 hb19n | with_reducible replace hb19n := n3 hb19n | with_reducible replace hb19n := n4 hb19n | with_reducible replace hb19n := n5 hb19n | with_reducible replace hb19n := n6 hb19n | replace hb19n := n1 hb19n | replace hb19n := n2 hb19n | replace hb19n := n3 hb19n | replace hb19n := n4 hb19n | replace hb19n := n5 hb19n | replace hb19n := n6 hb19n | skip
      refine list_guard_no E rfl rfl rfl rfl hb19 rfl (by decide) ?_; clear E a; intro a E
      refine list_guard_no E rfl rfl rfl rfl hb19 rfl (by decide) ?_; clear E a; intro a E
      refine list_guard_no E rfl rfl rfl rfl hb19 rfl (by decide) ?_; clear E a; intro a E
      refine list_guard_no E rfl rfl rfl rfl hb19 rfl (by decide) ?_; clear E a; intro a E
      refine list_guard_no E rfl rfl rfl rfl hb19 rfl (by decide) ?_; clear E a; intro a E
      refine list_pure E rfl rfl (by decide) (rn_pick_no' E rfl rfl hb19 rfl) ?_; clear E a; intro a E
      refine wpList_nil ?_
      refine then_k hK ?_; clear hK; clear K
      refine if_false' E rfl rfl ?_
      refine wp_exit ?_
      refine then_exit ?_; clear hK; clear K
      refine then_exit ?_
      refine in_exit ?_
      refine then_k hK ?_; clear hK; clear K
      refine wp_seq_k ?_; intro K hK
      refine region_list ?_
      refine list_pure E rfl rfl (by decide) (rn_move E rfl rfl) ?_; clear E a; intro a E
      refine list_pure E rfl rfl (by decide) (rn_assign E rfl rfl) ?_; clear E a; intro a E
      refine wpList_nil ?_
      refine then_k hK ?_; clear hK; clear K
      refine wp_ret ?_
      refine ret1 E rfl rfl ?_
      rw [sinc_done (size := size) hi (by omega)] at hC
      exact ⟨_, rfl, C, hC, (S.only (Bs := [C, O]) (sel_cons (by first | exact pk1 | exact pk2 | exact pk3 | exact pk4 | exact pk5 | exact pk6 | exact pk7 | exact pk8 | exact pk9) (sel_cons (by first | exact pk1 | exact pk2 | exact pk3 | exact pk4 | exact pk5 | exact pk6 | exact pk7 | exact pk8 | exact pk9) (sel_nil _)))).tr⟩
  · have hb15n := hb15; first | with_reducible replace hb15n := n1 hb15n | with_reducible replace hb15n := n2 hb15n | with_reducible replace hb15n := n3 hb15n | with_reducible replace hb15n := n4 hb15n | with_reducible replace hb15n := n5 hb15n | with_reducible replace hb15n := n6 hb15n | replace hb15n := n1 hb15n | replace hb15n := n2 hb15n | replace hb15n := n3 hb15n | replace hb15n := n4 hb15n | replace hb15n := n5 hb15n | replace hb15n := n6 hb15n | skip
    refine list_guard_no E rfl rfl rfl rfl hb15 rfl (by decide) ?_; clear E a; intro a E
    refine list_guard_no E rfl rfl rfl rfl hb15 rfl (by decide) ?_; clear E a; intro a E
    refine list_pure E rfl rfl (by decide) (rn_pick_no' E rfl rfl hb15 rfl) ?_; clear E a; intro a E
    refine list_pure E rfl rfl (by decide) (rn_move E rfl rfl) ?_; clear E a; intro a E
    refine list_guard_no E rfl rfl rfl rfl rfl rfl (by decide) ?_; clear E a; intro a E
    refine list_guard_no E rfl rfl rfl rfl rfl rfl (by decide) ?_; clear E a; intro a E
    refine list_guard_no E rfl rfl rfl rfl rfl rfl (by decide) ?_; clear E a; intro a E
    refine list_guard_no E rfl rfl rfl rfl rfl rfl (by decide) ?_; clear E a; intro a E
    refine list_guard_no E rfl rfl rfl rfl rfl rfl (by decide) ?_; clear E a; intro a E
    refine list_pure E rfl rfl (by decide) (rn_pick_no' E rfl rfl rfl rfl) ?_; clear E a; intro a E
    refine wpList_nil ?_
    refine then_k hK ?_; clear hK; clear K
    refine if_false' E rfl rfl ?_
    refine wp_exit ?_
    refine then_exit ?_; clear hK; clear K
    refine then_exit ?_
    refine in_exit ?_
    refine then_k hK ?_; clear hK; clear K
    refine wp_seq_k ?_; intro K hK
    refine region_list ?_
    refine list_pure E rfl rfl (by decide) (rn_move E rfl rfl) ?_; clear E a; intro a E
    refine list_pure E rfl rfl (by decide) (rn_assign E rfl rfl) ?_; clear E a; intro a E
    refine wpList_nil ?_
    refine then_k hK ?_; clear hK; clear K
    refine wp_ret ?_
    refine ret1 E rfl rfl ?_
    rw [sinc_done (size := size) hi (by omega)] at hC
    exact ⟨_, rfl, C, hC, (S.only (Bs := [C, O]) (sel_cons (by first | exact pk1 | exact pk2 | exact pk3 | exact pk4 | exact pk5 | exact pk6 | exact pk7 | exact pk8 | exact pk9) (sel_cons (by first | exact pk1 | exact pk2 | exact pk3 | exact pk4 | exact pk5 | exact pk6 | exact pk7 | exact pk8 | exact pk9) (sel_nil _)))).tr⟩

theorem up_ret (x y : Int) (hx : 1 ≤ x ∧ x ≤ 9223372036854775807) (hy : y = 1024 ∨ y = 16) (w0 : World) : Ret Try.prog 33 #[.int .i64 x, .int .i64 y] w0 fun u w' => u = .int .i64 ((x - 1) / y + 1) ∧ Trs w0 w' [] [] := by
  have S := St.begin (hp_nil w0)
  have hquo : IntKind.i64.wrap ((x - 1).tdiv y) = (x - 1) / y := by
    rw [Int.tdiv_eq_ediv_of_nonneg (by omega)]; exact w_in (by rcases hy with rfl | rfl <;> omega)
  refine enter2 10 Try.func33 rfl rfl (by decide) ?_; intro a E
  refine wp_seq_k ?_; intro K hK
  refine region_list ?_
  refine list_pure E rfl rfl (by decide) (rn_assign E rfl rfl) ?_; clear E a; intro a E
  refine wpList_nil ?_
  refine then_k hK ?_; clear hK; clear K
  refine wp_seq_k ?_; intro K hK
  refine region_list ?_
  refine list_pure E rfl rfl (by decide) (rn_move E rfl rfl) ?_; clear E a; intro a E
  refine list_pure E rfl rfl (by decide) (rn_sub E rfl rfl rfl (by first | exact ws_lit (y := 1) (by omega) (by omega) | exact w_in (by omega) | exact w_inu (by omega) | exact rfl)) ?_; clear E a; intro a E
  refine list_pure E rfl rfl (by decide) (rn_move E rfl rfl) ?_; clear E a; intro a E
  refine list_pure E rfl rfl (by decide) (rn_quo E rfl rfl rfl (by first | decide | omega) hquo) ?_; clear E a; intro a E
  refine list_pure E rfl rfl (by decide) (rn_add E rfl rfl rfl (w_in (by rcases hy with rfl | rfl <;> omega))) ?_; clear E a; intro a E
  refine list_pure E rfl rfl (by decide) (rn_assign E rfl rfl) ?_; clear E a; intro a E
  refine wpList_nil ?_
  refine then_k hK ?_; clear hK; clear K
  refine wp_ret ?_
  refine ret1 E rfl rfl ?_
  exact ⟨_, rfl, rfl, S.tr⟩
end Go.Proofs.Ytkkibnnddllabaa
namespace Go.Sl
def costI (x : Int) : Int := if x ≤ 0 then 0 else ((x - 1) / 1024 + 1) + (((x - 1) / 1024 + 1 - 1) / 16 + 1) + 1
end Go.Sl
namespace Go.Proofs.Ytkkibnnddllabaa
open Go.Sl
theorem cost_ret (x : Int) (hx : -9223372036854775808 ≤ x ∧ x ≤ 9223372036854775807) (w0 : World) : Ret Try.prog 15 #[.int .i64 x] w0 fun u w' => u = .int .i64 (costI x) ∧ Trs w0 w' [] [] := by
  have S := St.begin (hp_nil w0)
  refine enter1 13 Try.func15 rfl rfl (by decide) ?_; intro a E
  refine wp_seq_k ?_; intro K hK
  refine region_list ?_
  refine list_pure E rfl rfl (by decide) (rn_assign E rfl rfl) ?_; clear E a; intro a E
  refine wpList_nil ?_
  refine then_k hK ?_; clear hK; clear K
  refine wp_seq_k ?_; intro K hK
  refine wp_seq_k ?_; intro K hK
  refine region_list ?_
  refine list_pure E rfl rfl (by decide) (rn_move E rfl rfl) ?_; clear E a; intro a E
  refine list_pure E rfl rfl (by decide) (rn_leq E rfl rfl rfl) ?_; clear E a; intro a E
  refine wpList_nil ?_
  refine then_k hK ?_; clear hK; clear K
  refine if_bool E rfl (fun hb => ?_) (fun hb => ?_)
  · first | with_reducible replace hb := n1 hb | with_reducible replace hb := n2 hb | with_reducible replace hb := n3 hb | with_reducible replace hb := n4 hb | with_reducible replace hb := n5 hb | with_reducible replace hb := n6 hb | replace hb := n1 hb | replace hb := n2 hb | replace hb := n3 hb | replace hb := n4 hb | replace hb := n5 hb | replace hb := n6 hb | skip
    refine wp_seq_k ?_; intro K hK
    refine region_list ?_
    refine list_pure E rfl rfl (by decide) (rn_assign E rfl rfl) ?_; clear E a; intro a E
    refine wpList_nil ?_
    refine then_k hK ?_; clear hK; clear K
    refine wp_ret ?_
    refine then_ret ?_; clear hK; clear K
    refine ret1 E rfl rfl ?_
    exact ⟨_, rfl, by simp only [costI]; rw [if_pos (by omega)], S.tr⟩
  · first | with_reducible replace hb := n1 hb | with_reducible replace hb := n2 hb | with_reducible replace hb := n3 hb | with_reducible replace hb := n4 hb | with_reducible replace hb := n5 hb | with_reducible replace hb := n6 hb | replace hb := n1 hb | replace hb := n2 hb | replace hb := n3 hb | replace hb := n4 hb | replace hb := n5 hb | replace hb := n6 hb | skip
    refine wp_skip ?_
    refine then_k hK ?_; clear hK; clear K
    refine wp_seq_k ?_; intro K hK
    refine region_list ?_
    refine list_pure E rfl rfl (by decide) (rn_move E rfl rfl) ?_; clear E a; intro a E
    refine list_call E rfl rfl (by decide) rfl Try.func33 rfl (by kernel_rfl) rfl (up_ret x 1024 (by omega) (.inl rfl) _) ?_
    rintro v7 w ⟨rfl, hT⟩; clear E a; intro a E
    have S := S.quiet hT
    refine list_pure E rfl rfl (by decide) (rn_assign E rfl rfl) ?_; clear E a; intro a E
    refine wpList_nil ?_
    refine then_k hK ?_; clear hK; clear K
    refine wp_seq_k ?_; intro K hK
    refine region_list ?_
    refine list_pure E rfl rfl (by decide) (rn_move E rfl rfl) ?_; clear E a; intro a E
    refine list_pure E rfl rfl (by decide) (rn_move E rfl rfl) ?_; clear E a; intro a E
    refine list_call E rfl rfl (by decide) rfl Try.func33 rfl (by kernel_rfl) rfl (up_ret ((x - 1) / 1024 + 1) 16 (by omega) (.inr rfl) _) ?_
    rintro v10 w ⟨rfl, hT⟩; clear E a; intro a E
    have S := S.quiet hT
    refine list_pure E rfl rfl (by decide) (rn_add E rfl rfl rfl (w_in (by omega))) ?_; clear E a; intro a E
    refine list_pure E rfl rfl (by decide) (rn_add E rfl rfl rfl (w_in (by omega))) ?_; clear E a; intro a E
    refine list_pure E rfl rfl (by decide) (rn_assign E rfl rfl) ?_; clear E a; intro a E
    refine wpList_nil ?_
    refine then_k hK ?_; clear hK; clear K
    refine wp_ret ?_
    refine ret1 E rfl rfl ?_
    exact ⟨_, rfl, by simp only [costI]; rw [if_neg (by omega)], S.tr⟩
theorem dcost_ret (x : Int) (hx : -9223372036854775808 ≤ x ∧ x ≤ 9223372036854775807) (w0 : World) : Ret Try.prog 16 #[.int .i64 x] w0 fun u w' => u = .int .i64 (costI x) ∧ Trs w0 w' [] [] := by
  have S := St.begin (hp_nil w0)
  refine enter1 17 Try.func16 rfl rfl (by decide) ?_; intro a E
  refine wp_seq_k ?_; intro K hK
  refine region_list ?_
  refine list_pure E rfl rfl (by decide) (rn_assign E rfl rfl) ?_; clear E a; intro a E
  refine wpList_nil ?_
  refine then_k hK ?_; clear hK; clear K
  refine wp_seq_k ?_; intro K hK
  refine wp_seq_k ?_; intro K hK
  refine region_list ?_
  refine list_pure E rfl rfl (by decide) (rn_move E rfl rfl) ?_; clear E a; intro a E
  refine list_pure E rfl rfl (by decide) (rn_leq E rfl rfl rfl) ?_; clear E a; intro a E
  refine wpList_nil ?_
  refine then_k hK ?_; clear hK; clear K
  refine if_bool E rfl (fun hb => ?_) (fun hb => ?_)
  · first | with_reducible replace hb := n1 hb | with_reducible replace hb := n2 hb | with_reducible replace hb := n3 hb | with_reducible replace hb := n4 hb | with_reducible replace hb := n5 hb | with_reducible replace hb := n6 hb | replace hb := n1 hb | replace hb := n2 hb | replace hb := n3 hb | replace hb := n4 hb | replace hb := n5 hb | replace hb := n6 hb | skip
    refine wp_seq_k ?_; intro K hK
    refine region_list ?_
    refine list_pure E rfl rfl (by decide) (rn_assign E rfl rfl) ?_; clear E a; intro a E
    refine wpList_nil ?_
    refine then_k hK ?_; clear hK; clear K
    refine wp_ret ?_
    refine then_ret ?_; clear hK; clear K
    refine ret1 E rfl rfl ?_
    exact ⟨_, rfl, by simp only [costI]; rw [if_pos (by omega)], S.tr⟩
  · first | with_reducible replace hb := n1 hb | with_reducible replace hb := n2 hb | with_reducible replace hb := n3 hb | with_reducible replace hb := n4 hb | with_reducible replace hb := n5 hb | with_reducible replace hb := n6 hb | replace hb := n1 hb | replace hb := n2 hb | replace hb := n3 hb | replace hb := n4 hb | replace hb := n5 hb | replace hb := n6 hb | skip
    refine wp_skip ?_
    refine then_k hK ?_; clear hK; clear K
    refine wp_seq_k ?_; intro K hK
    refine region_list ?_
    refine list_pure E rfl rfl (by decide) (rn_move E rfl rfl) ?_; clear E a; intro a E
    refine list_pure E rfl rfl (by decide) (rn_sub E rfl rfl rfl (by first | exact ws_lit (y := 1) (by omega) (by omega) | exact w_in (by omega) | exact w_inu (by omega) | exact rfl)) ?_; clear E a; intro a E
    refine list_pure E rfl rfl (by decide) (rn_quo E rfl rfl rfl (by first | decide | omega) (show IntKind.i64.wrap ((x - 1).tdiv 1024) = (x - 1) / 1024 by rw [Int.tdiv_eq_ediv_of_nonneg (by omega)]; exact w_in (by omega))) ?_; clear E a; intro a E
    refine list_pure E rfl rfl (by decide) (rn_add E rfl rfl rfl (by first | exact wa_lit (y := 1) (by omega) | exact w_in (by omega) | exact w_inu (by omega) | exact rfl)) ?_; clear E a; intro a E
    refine list_pure E rfl rfl (by decide) (rn_assign E rfl rfl) ?_; clear E a; intro a E
    refine wpList_nil ?_
    refine then_k hK ?_; clear hK; clear K
    refine wp_seq_k ?_; intro K hK
    refine region_list ?_
    refine list_pure E rfl rfl (by decide) (rn_move E rfl rfl) ?_; clear E a; intro a E
    refine list_pure E rfl rfl (by decide) (rn_move E rfl rfl) ?_; clear E a; intro a E
    refine list_pure E rfl rfl (by decide) (rn_sub E rfl rfl rfl (by first | exact ws_lit (y := 1) (by omega) (by omega) | exact w_in (by omega) | exact w_inu (by omega) | exact rfl)) ?_; clear E a; intro a E
    refine list_pure E rfl rfl (by decide) (rn_quo E rfl rfl rfl (by first | decide | omega) (show IntKind.i64.wrap (((x - 1) / 1024 + 1 - 1).tdiv 16) = ((x - 1) / 1024 + 1 - 1) / 16 by rw [Int.tdiv_eq_ediv_of_nonneg (by omega)]; exact w_in (by omega))) ?_; clear E a; intro a E
    refine list_pure E rfl rfl (by decide) (rn_add E rfl rfl rfl (by first | exact wa1 (by omega) | exact w_in (by omega) | exact w_inu (by omega) | exact rfl)) ?_; clear E a; intro a E
    refine list_pure E rfl rfl (by decide) (rn_add E rfl rfl rfl (by first | exact wa_lit (y := 1) (by omega) | exact w_in (by omega) | exact w_inu (by omega) | exact rfl)) ?_; clear E a; intro a E
    refine list_pure E rfl rfl (by decide) (rn_add E rfl rfl rfl (by first | exact wa_lit (y := 1) (by omega) | exact w_in (by omega) | exact w_inu (by omega) | exact rfl)) ?_; clear E a; intro a E
    refine list_pure E rfl rfl (by decide) (rn_assign E rfl rfl) ?_; clear E a; intro a E
    refine wpList_nil ?_
    refine then_k hK ?_; clear hK; clear K
    refine wp_ret ?_
    refine ret1 E rfl rfl ?_
    exact ⟨_, rfl, by simp only [costI]; rw [if_neg (by omega)]; congr 1; omega, S.tr⟩
end Go.Proofs.Ytkkibnnddllabaa
