/-
  RangesOrder: the order in which spans are added does not matter; what is found is the first.
-/
import Derived.Test.YtogpohhhhjpmdaaRangeL
namespace Go.Proofs.Ytogpohhhhjpmdaa
open Go.Sl
set_option maxRecDepth 10000

set_option maxHeartbeats 4000000 in
theorem order_walk (O : Chunk) (v : Value) (l : List Sp) (hO : Rd O 2 v l.length (l.flatMap Sp.lay)) (_hg : ∀ o ∈ l, o.i64) (hl : l.length ≤ 140737488351232) (x : Sp) (_hx : x.i64) (n : Int) (hn : -9223372036854775808 ≤ n ∧ n ≤ 9223372036854775807) (f : Int) (hf : -9223372036854775808 ≤ f ∧ f ≤ 9223372036854775807) (w0 : World) (H : Hp w0 [O]) :
    Ret Try.prog 5 #[v, x.agg, .int .i64 n, .int .i64 f] w0 fun u w' => u = .bool true ∧ Trs w0 w' [O] [O] := by
  have S := St.begin H
  obtain ⟨ad, c, rfl⟩ := hO.slice
  refine enter4 204 Try.func5 rfl rfl (by decide) ?_; intro a E
  refine wp_seq_k ?_; intro K hK
  refine region_list ?_
  refine list_wp rfl (wp_box E S rfl rfl (by decide) rfl rfl ?_); clear E S a; intro a w b5 E S
  refine list_pure E rfl rfl (by decide) (rn_assign E rfl rfl) ?_; clear E a; intro a E
  refine wpList_nil ?_
  refine then_k hK ?_; clear hK; clear K
  refine wp_seq_k ?_; intro K hK
  refine region_list ?_
  refine list_call E rfl rfl (by decide) rfl Try.func6 rfl (by kernel_rfl) rfl (awake_ret _) ?_
  rintro v27 w ⟨rfl, hT⟩; clear E a; intro a E
  have S := S.quiet hT
  refine list_pure E rfl rfl (by decide) (rn_assign E rfl rfl) ?_; clear E a; intro a E
  refine wpList_nil ?_
  refine then_k hK ?_; clear hK; clear K
  refine wp_seq_k ?_; intro K hK
  refine region_list ?_
  refine list_call E rfl rfl (by decide) rfl Try.func7 rfl (by kernel_rfl) rfl (new_ret _) ?_
  rintro v28 w ⟨ps, A, rfl, hA, hT⟩; clear E a; intro a E
  have S := S.fresh hT
  refine list_pure E rfl rfl (by decide) (rn_assign E rfl rfl) ?_; clear E a; intro a E
  refine wpList_nil ?_
  refine then_k hK ?_; clear hK; clear K
  refine wp_seq_k ?_; intro K hK
  refine region_list ?_
  refine list_call E rfl rfl (by decide) rfl Try.func7 rfl (by kernel_rfl) rfl (new_ret _) ?_
  rintro v29 w ⟨pt, B, rfl, hB, hT⟩; clear E a; intro a E
  have S := S.fresh hT
  refine list_pure E rfl rfl (by decide) (rn_assign E rfl rfl) ?_; clear E a; intro a E
  refine wpList_nil ?_
  refine then_k hK ?_; clear hK; clear K
  refine wp_seq_k ?_; intro K hK
  refine wp_seq_k ?_; intro K hK
  refine region_list ?_
  refine list_pure E rfl rfl (by decide) (rn_move E rfl rfl) ?_; clear E a; intro a E
  refine list_pure E rfl rfl (by decide) (by first | exact rn_eql E rfl rfl rfl | exact rn_eql_ptr_nil E rfl rfl rfl rfl | exact rn_eql_bool E rfl rfl rfl rfl | exact rn_eql_string E rfl rfl rfl) ?_; clear E a; intro a E
  refine list_pure E rfl rfl (by decide) (rn_move E rfl rfl) ?_; clear E a; intro a E
  refine guard_false E (t := 32) rfl (rfl) (fun hb32 => ?_)
  refine list_guard_yes E rfl rfl rfl rfl hb32 rfl (by decide) (rn_move E rfl rfl) ?_; clear E a; intro a E
  refine list_guard_yes E rfl rfl rfl rfl hb32 rfl (by decide) (by first | exact rn_eql E rfl rfl rfl | exact rn_eql_ptr_nil E rfl rfl rfl rfl | exact rn_eql_bool E rfl rfl rfl rfl | exact rn_eql_string E rfl rfl rfl) ?_; clear E a; intro a E
  refine list_pure E rfl rfl (by decide) (rn_pick_no' E rfl rfl hb32 rfl) ?_; clear E a; intro a E
  refine list_pure E rfl rfl (by decide) (rn_move E rfl rfl) ?_; clear E a; intro a E
  refine guard_false E (t := 36) rfl (rfl) (fun hb36 => ?_)
  refine list_guard_yes E rfl rfl rfl rfl hb36 rfl (by decide) (rn_move E rfl rfl) ?_; clear E a; intro a E
  refine list_guard_yes E rfl rfl rfl rfl hb36 rfl (by decide) (rn_not E rfl rfl) ?_; clear E a; intro a E
  refine list_pure E rfl rfl (by decide) (rn_pick_no' E rfl rfl hb36 rfl) ?_; clear E a; intro a E
  refine wpList_nil ?_
  refine then_k hK ?_; clear hK; clear K
  refine if_false' E rfl (rfl) ?_
  refine wp_skip ?_
  refine then_k hK ?_; clear hK; clear K
  refine wp_seq_k ?_; intro K hK
  refine region_list ?_
  refine list_pure E rfl rfl (by decide) (rn_assign E rfl rfl) ?_; clear E a; intro a E
  refine wpList_nil ?_
  refine then_k hK ?_; clear hK; clear K
  refine wp_seq_k ?_; intro K hK
  refine wp_seq_k ?_; intro K hK
  refine region_list ?_
  refine list_pure E rfl rfl (by decide) (rn_assign E rfl rfl) ?_; clear E a; intro a E
  refine wpList_nil ?_
  refine then_k hK ?_; clear hK; clear K
  refine wp_block ?_
  refine wp_loop_ghost (fun (m : Nat) (a : Act) (w' : World) => ∃ (i : Nat) (k Z : List Sp) (A CK : Chunk) (vK : Value), m = l.length - i ∧ i ≤ l.length ∧ i ≤ 2000 ∧ Kept Z k ∧ Apart Z ∧ Z.length ≤ i ∧ SetC ps k (manyL k) A ∧ Buf CK 31 2 vK Z.length (Z.flatMap Sp.lay) ∧ St w0 [O] w' [A, B, CK, [(b5, cel [.int .i64 x.at_, .int .i64 x.many] 31)], O] ∧ Fr a 204 [(0, .slice ad l.length c), (2, .int .i64 n), (3, .int .i64 f), (5, .pointer (some ⟨b5, 0, none⟩)), (9, .bool true), (10, ptr ps), (11, ptr pt), (12, vK), (13, .int .i64 i)]) (l.length - 0) ?_ ?_
  · exact ⟨0, [], [], A, [], _, rfl, by omega, by omega, kept_nil, apart_nil, by simp, hA, Buf.nil _ _, S.addNil.front4 (by first | exact pk1 | exact pk2 | exact pk3 | exact pk4 | exact pk5 | exact pk6 | exact pk7 | exact pk8 | exact pk9) (by first | exact pk1 | exact pk2 | exact pk3 | exact pk4 | exact pk5 | exact pk6 | exact pk7 | exact pk8 | exact pk9) (by first | exact pk1 | exact pk2 | exact pk3 | exact pk4 | exact pk5 | exact pk6 | exact pk7 | exact pk8 | exact pk9) (by first | exact pk1 | exact pk2 | exact pk3 | exact pk4 | exact pk5 | exact pk6 | exact pk7 | exact pk8 | exact pk9), E.keep (keep_cons rfl (keep_cons rfl (keep_cons rfl (keep_cons rfl (keep_cons rfl (keep_cons rfl (keep_cons rfl (keep_cons rfl (keep_cons rfl keep_nil)))))))))⟩
  clear E; clear a; rintro m a w ⟨i, k, Z, A, CK, vK, rfl, hi, hi2, hZ, hP, hKl, hA, hCK, S, E⟩
  refine wp_seq_k ?_; intro K hK
  refine wp_seq_k ?_; intro K hK
  refine wp_join (fun (a : Act) (w' : World) => ∃ bt : Bool, (bt = true → i < l.length ∧ i < 2000) ∧ St w0 [O] w' [A, B, CK, [(b5, cel [.int .i64 x.at_, .int .i64 x.many] 31)], O] ∧ Fr a 204 [(0, .slice ad l.length c), (2, .int .i64 n), (3, .int .i64 f), (5, .pointer (some ⟨b5, 0, none⟩)), (9, .bool true), (10, ptr ps), (11, ptr pt), (12, vK), (13, .int .i64 i), (47, .bool bt)]) ?_ ?_
  · skip
    refine region_list ?_
    refine list_pure E rfl rfl (by decide) (rn_move E rfl rfl) ?_; clear E a; intro a E
    refine list_pure E rfl rfl (by decide) (rn_move E rfl rfl) ?_; clear E a; intro a E
    refine list_pure E rfl rfl (by decide) (by first | exact rn_len E rfl rfl rfl | exact rn_len_str E rfl rfl rfl | exact rn_len_string E rfl rfl rfl) ?_; clear E a; intro a E
    refine list_pure E rfl rfl (by decide) (rn_lss E rfl rfl rfl) ?_; clear E a; intro a E
    refine list_pure E rfl rfl (by decide) (rn_move E rfl rfl) ?_; clear E a; intro a E
    refine guard_split E (t := 44) rfl (fun hb44 => ?_) (fun hb44 => ?_)
    · have hb44n := hb44; first | replace hb44n := n1 hb44n | replace hb44n := n2 hb44n | replace hb44n := n3 hb44n | replace hb44n := n4 hb44n | replace hb44n := n5 hb44n | replace hb44n := n6 hb44n | skip
      refine list_guard_yes E rfl rfl rfl rfl hb44 rfl (by decide) (rn_move E rfl rfl) ?_; clear E a; intro a E
      refine list_guard_yes E rfl rfl rfl rfl hb44 rfl (by decide) (rn_lss E rfl rfl rfl) ?_; clear E a; intro a E
      refine list_pure E rfl rfl (by decide) (rn_pick_yes' E rfl rfl hb44 rfl) ?_; clear E a; intro a E
      refine wpList_nil ?_
      refine joined_here ?_
      exact ⟨_, fun h => by have := of_decide_eq_true h; omega, S, E.keep (keep_cons rfl (keep_cons rfl (keep_cons rfl (keep_cons rfl (keep_cons rfl (keep_cons rfl (keep_cons rfl (keep_cons rfl (keep_cons rfl (keep_cons rfl keep_nil))))))))))⟩
    · have hb44n := hb44; first | replace hb44n := n1 hb44n | replace hb44n := n2 hb44n | replace hb44n := n3 hb44n | replace hb44n := n4 hb44n | replace hb44n := n5 hb44n | replace hb44n := n6 hb44n | skip
      refine list_guard_no E rfl rfl rfl rfl hb44 rfl (by decide) ?_; clear E a; intro a E
      refine list_guard_no E rfl rfl rfl rfl hb44 rfl (by decide) ?_; clear E a; intro a E
      refine list_pure E rfl rfl (by decide) (rn_pick_no' E rfl rfl hb44 rfl) ?_; clear E a; intro a E
      refine wpList_nil ?_
      refine joined_here ?_
      exact ⟨false, fun h => (by cases h), S, E.keep (keep_cons rfl (keep_cons rfl (keep_cons rfl (keep_cons rfl (keep_cons rfl (keep_cons rfl (keep_cons rfl (keep_cons rfl (keep_cons rfl (keep_cons rfl keep_nil))))))))))⟩
  · clear E S a; intro a w J; obtain ⟨bt, hbt, S, E⟩ := J
    refine then_k hK ?_; clear hK; clear K
    refine if_bool E rfl (fun hb => ?_) (fun hb => ?_)
    · first | replace hb := n1 hb | replace hb := n2 hb | replace hb := n3 hb | replace hb := n4 hb | replace hb := n5 hb | replace hb := n6 hb | skip
      refine wp_skip ?_
      refine then_k hK ?_; clear hK; clear K
      refine wp_seq_k ?_; intro K hK
      refine wp_block ?_
      refine wp_seq_k ?_; intro K hK
      obtain ⟨hil, hi3⟩ := hbt hb
      have hkl := hZ.len
      have hG := hZ.gd.okl (by omega)
      obtain ⟨b, off, rfl⟩ := hO.addr (by omega)
      refine region_list ?_
      refine list_pure E rfl rfl (by decide) (rn_move E rfl rfl) ?_; clear E a; intro a E
      refine list_pure E rfl rfl (by decide) (rn_move E rfl rfl) ?_; clear E a; intro a E
      refine list_pure E rfl rfl (by decide) (rn_move E rfl rfl) ?_; clear E a; intro a E
      refine list_pure E rfl rfl (by decide) (by first | exact rn_indexAddr1 E rfl rfl rfl rfl rfl rfl (by omega) | exact rn_indexAddr E rfl rfl rfl rfl rfl rfl (by omega) | exact rn_indexAddr_array E rfl rfl rfl rfl rfl rfl (by omega)) ?_; clear E a; intro a E
      refine list_pure E rfl rfl (by decide) (rn_load_aggc (vs := [_, _]) E rfl rfl rfl rfl (hO.elem (lay := Sp.lay) Sp.lay_len (S.stab.at (by first | exact mm1 | exact mm2 | exact mm3 | exact mm4 | exact mm5 | exact mm6 | exact mm7 | exact mm8)) hil)) ?_; clear E a; intro a E
      refine list_call E rfl rfl (by decide) rfl Try.func8 rfl (by kernel_rfl) rfl (add_ret ps k (l[i]'hil) A _ hA hG (S.hp.sel (sel_cons (by first | exact pk1 | exact pk2 | exact pk3 | exact pk4 | exact pk5 | exact pk6 | exact pk7 | exact pk8 | exact pk9) (sel_nil _)))) ?_
      rintro v55 w ⟨rfl, A1, hA1, hT⟩; clear E a; intro a E
      have S := S.call1 (sel_cons (by first | exact pk1 | exact pk2 | exact pk3 | exact pk4 | exact pk5 | exact pk6 | exact pk7 | exact pk8 | exact pk9) (sel_nil _)) hT
      refine list_pure E rfl rfl (by decide) (rn_assign E rfl rfl) ?_; clear E a; intro a E
      refine wpList_nil ?_
      refine then_k hK ?_; clear hK; clear K
      refine wp_seq_k ?_; intro K hK
      refine region_list ?_
      refine list_pure E rfl rfl (by decide) (rn_move E rfl rfl) ?_; clear E a; intro a E
      refine list_pure E rfl rfl (by decide) (by first | exact rn_eql E rfl rfl rfl | exact rn_eql_ptr_nil E rfl rfl rfl rfl | exact rn_eql_bool E rfl rfl rfl rfl | exact rn_eql_string E rfl rfl rfl) ?_; clear E a; intro a E
      refine wpList_nil ?_
      refine then_k hK ?_; clear hK; clear K
      refine if_bool E rfl (fun hb => ?_) (fun hb => ?_)
      · first | replace hb := n1 hb | replace hb := n2 hb | replace hb := n3 hb | replace hb := n4 hb | replace hb := n5 hb | replace hb := n6 hb | skip
        obtain ⟨hK2, hP2⟩ := kept_add hZ hP hb
        refine region_list ?_
        refine list_pure E rfl rfl (by decide) (rn_move E rfl rfl) ?_; clear E a; intro a E
        refine list_pure E rfl rfl (by decide) (rn_move E rfl rfl) ?_; clear E a; intro a E
        refine list_pure E rfl rfl (by decide) (rn_move E rfl rfl) ?_; clear E a; intro a E
        refine list_pure E rfl rfl (by decide) (by first | exact rn_indexAddr1 E rfl rfl rfl rfl rfl rfl (by omega) | exact rn_indexAddr E rfl rfl rfl rfl rfl rfl (by omega) | exact rn_indexAddr_array E rfl rfl rfl rfl rfl rfl (by omega)) ?_; clear E a; intro a E
        refine list_pure E rfl rfl (by decide) (rn_load_aggc (vs := [_, _]) E rfl rfl rfl rfl (hO.elem (lay := Sp.lay) Sp.lay_len (S.stab.at (by first | exact mm1 | exact mm2 | exact mm3 | exact mm4 | exact mm5 | exact mm6 | exact mm7 | exact mm8)) hil)) ?_; clear E a; intro a E
        refine list_wp rfl (wp_bslice (cells := [_, _]) E S rfl rfl (by decide) rfl rfl rfl rfl rfl (by decide) rfl ?_); clear E S a; intro a w b63 E S
        refine list_wp rfl (wp_append (by' := 16) E S rfl rfl (by decide) rfl rfl hCK (by first | exact pk1 | exact pk2 | exact pk3 | exact pk4 | exact pk5 | exact pk6 | exact pk7 | exact pk8 | exact pk9) ((rd1 _ _ _ _).src (S.stab.at (by first | exact mm1 | exact mm2 | exact mm3 | exact mm4 | exact mm5 | exact mm6 | exact mm7 | exact mm8)) rfl) rfl rfl rfl rfl rfl rfl (by simp only [maxLen]; omega) (by omega) ?_); clear E S a; intro a w v64 C64 E S hB64
        refine list_pure E rfl rfl (by decide) (rn_assign E rfl rfl) ?_; clear E a; intro a E
        refine wpList_nil ?_
        refine in_normal ?_
        refine then_k hK ?_; clear hK; clear K
        refine region_list ?_
        refine list_pure E rfl rfl (by decide) (rn_move E rfl rfl) ?_; clear E a; intro a E
        refine list_pure E rfl rfl (by decide) (rn_add E rfl rfl rfl (by first | exact wa_lit (y := 1) (by omega) | exact w_in (by omega) | exact w_inu (by omega) | exact rfl)) ?_; clear E a; intro a E
        refine list_pure E rfl rfl (by decide) (rn_assign E rfl rfl) ?_; clear E a; intro a E
        refine wpList_nil ?_
        refine then_normal ?_
        exact ⟨_, by omega, i + 1, _, Z ++ [l[i]'hil], A1, C64, _, rfl, by omega, by omega, hK2, hP2, by simp; omega, hA1, by simpa [Sp.lay] using hB64, (S.only (Bs := [A1, B, C64, [(b5, cel [.int .i64 x.at_, .int .i64 x.many] 31)], O]) (sel_cons (by first | exact pk1 | exact pk2 | exact pk3 | exact pk4 | exact pk5 | exact pk6 | exact pk7 | exact pk8 | exact pk9) (sel_cons (by first | exact pk1 | exact pk2 | exact pk3 | exact pk4 | exact pk5 | exact pk6 | exact pk7 | exact pk8 | exact pk9) (sel_cons (by first | exact pk1 | exact pk2 | exact pk3 | exact pk4 | exact pk5 | exact pk6 | exact pk7 | exact pk8 | exact pk9) (sel_cons (by first | exact pk1 | exact pk2 | exact pk3 | exact pk4 | exact pk5 | exact pk6 | exact pk7 | exact pk8 | exact pk9) (sel_cons (by first | exact pk1 | exact pk2 | exact pk3 | exact pk4 | exact pk5 | exact pk6 | exact pk7 | exact pk8 | exact pk9) (sel_nil _))))))), E.keep (keep_cons rfl (keep_cons rfl (keep_cons rfl (keep_cons rfl (keep_cons rfl (keep_cons rfl (keep_cons rfl (keep_cons rfl (keep_cons rfl keep_nil)))))))))⟩
      · first | replace hb := n1 hb | replace hb := n2 hb | replace hb := n3 hb | replace hb := n4 hb | replace hb := n5 hb | replace hb := n6 hb | skip
        have hno := addS_no hb
        refine wp_skip ?_
        refine in_normal ?_
        refine then_k hK ?_; clear hK; clear K
        refine region_list ?_
        refine list_pure E rfl rfl (by decide) (rn_move E rfl rfl) ?_; clear E a; intro a E
        refine list_pure E rfl rfl (by decide) (rn_add E rfl rfl rfl (by first | exact wa_lit (y := 1) (by omega) | exact w_in (by omega) | exact w_inu (by omega) | exact rfl)) ?_; clear E a; intro a E
        refine list_pure E rfl rfl (by decide) (rn_assign E rfl rfl) ?_; clear E a; intro a E
        refine wpList_nil ?_
        refine then_normal ?_
        rw [hno] at hA1
        exact ⟨_, by omega, i + 1, k, Z, A1, CK, vK, rfl, by omega, by omega, hZ, hP, by omega, hA1, hCK, (S.only (Bs := [A1, B, CK, [(b5, cel [.int .i64 x.at_, .int .i64 x.many] 31)], O]) (sel_cons (by first | exact pk1 | exact pk2 | exact pk3 | exact pk4 | exact pk5 | exact pk6 | exact pk7 | exact pk8 | exact pk9) (sel_cons (by first | exact pk1 | exact pk2 | exact pk3 | exact pk4 | exact pk5 | exact pk6 | exact pk7 | exact pk8 | exact pk9) (sel_cons (by first | exact pk1 | exact pk2 | exact pk3 | exact pk4 | exact pk5 | exact pk6 | exact pk7 | exact pk8 | exact pk9) (sel_cons (by first | exact pk1 | exact pk2 | exact pk3 | exact pk4 | exact pk5 | exact pk6 | exact pk7 | exact pk8 | exact pk9) (sel_cons (by first | exact pk1 | exact pk2 | exact pk3 | exact pk4 | exact pk5 | exact pk6 | exact pk7 | exact pk8 | exact pk9) (sel_nil _))))))), E.keep (keep_cons rfl (keep_cons rfl (keep_cons rfl (keep_cons rfl (keep_cons rfl (keep_cons rfl (keep_cons rfl (keep_cons rfl (keep_cons rfl keep_nil)))))))))⟩
    · first | replace hb := n1 hb | replace hb := n2 hb | replace hb := n3 hb | replace hb := n4 hb | replace hb := n5 hb | replace hb := n6 hb | skip
      refine wp_exit ?_
      refine then_exit ?_; clear hK; clear K
      refine then_exit ?_
      refine in_exit ?_
      refine then_k hK ?_; clear hK; clear K
      refine wp_seq_k ?_; intro K hK
      refine wp_seq_k ?_; intro K hK
      obtain ⟨aK, cK, rfl⟩ := hCK.slice
      have hkl := hZ.len
      have hG := hZ.gd.okl (by omega)
      refine region_list ?_
      refine list_pure E rfl rfl (by decide) (rn_move E rfl rfl) ?_; clear E a; intro a E
      refine list_pure E rfl rfl (by decide) (by first | exact rn_len E rfl rfl rfl | exact rn_len_str E rfl rfl rfl | exact rn_len_string E rfl rfl rfl) ?_; clear E a; intro a E
      refine list_pure E rfl rfl (by decide) (rn_sub E rfl rfl rfl (w_in (by omega))) ?_; clear E a; intro a E
      refine list_pure E rfl rfl (by decide) (rn_assign E rfl rfl) ?_; clear E a; intro a E
      refine wpList_nil ?_
      refine then_k hK ?_; clear hK; clear K
      refine wp_block ?_
      refine wp_loop_ghost (fun (m : Nat) (a : Act) (w' : World) => ∃ (q : Nat) (t : List Sp) (B : Chunk), m = q + 0 ∧ q ≤ Z.length ∧ Kept (Z.drop q) t ∧ SetC pt t (manyL t) B ∧ St w0 [O] w' [A, B, CK, [(b5, cel [.int .i64 x.at_, .int .i64 x.many] 31)], O] ∧ Fr a 204 [(2, .int .i64 n), (3, .int .i64 f), (5, .pointer (some ⟨b5, 0, none⟩)), (9, .bool true), (10, ptr ps), (11, ptr pt), (12, .slice aK Z.length cK), (15, .int .i64 ((q : Int) - 1))]) (Z.length) ?_ ?_
      · exact ⟨Z.length, [], B, rfl, by omega, by rw [List.drop_length]; exact kept_nil, hB, S, E.keep (keep_cons rfl (keep_cons rfl (keep_cons rfl (keep_cons rfl (keep_cons rfl (keep_cons rfl (keep_cons rfl (keep_cons rfl keep_nil))))))))⟩
      clear E; clear a; rintro m a w ⟨q, t, B, hmq, hq, hT', hB, S, E⟩
      refine wp_seq_k ?_; intro K hK
      refine wp_seq_k ?_; intro K hK
      refine region_list ?_
      refine list_pure E rfl rfl (by decide) (rn_move E rfl rfl) ?_; clear E a; intro a E
      refine list_pure E rfl rfl (by decide) (rn_geq E rfl rfl rfl) ?_; clear E a; intro a E
      refine wpList_nil ?_
      refine then_k hK ?_; clear hK; clear K
      refine if_bool E rfl (fun hb => ?_) (fun hb => ?_)
      · first | replace hb := n1 hb | replace hb := n2 hb | replace hb := n3 hb | replace hb := n4 hb | replace hb := n5 hb | replace hb := n6 hb | skip
        refine wp_skip ?_
        refine then_k hK ?_; clear hK; clear K
        refine wp_seq_k ?_; intro K hK
        refine wp_block ?_
        refine wp_seq_k ?_; intro K hK
        obtain ⟨j, rfl⟩ : ∃ j, q = j + 1 := ⟨q - 1, by omega⟩
        rw [show ((j + 1 : Nat) : Int) - 1 = (j : Int) by omega] at E
        have hjl : j < Z.length := by omega
        obtain ⟨hb0, hb1⟩ := kept_back hjl hT' hP (by omega)
        have hlt := hT'.len
        rw [List.length_drop] at hlt
        obtain ⟨b, off, rfl⟩ := hCK.rd.addr (by omega)
        refine region_list ?_
        refine list_pure E rfl rfl (by decide) (rn_move E rfl rfl) ?_; clear E a; intro a E
        refine list_pure E rfl rfl (by decide) (rn_move E rfl rfl) ?_; clear E a; intro a E
        refine list_pure E rfl rfl (by decide) (rn_move E rfl rfl) ?_; clear E a; intro a E
        refine list_pure E rfl rfl (by decide) (by first | exact rn_indexAddr1 E rfl rfl rfl rfl rfl rfl (by omega) | exact rn_indexAddr E rfl rfl rfl rfl rfl rfl (by omega) | exact rn_indexAddr_array E rfl rfl rfl rfl rfl rfl (by omega)) ?_; clear E a; intro a E
        refine list_pure E rfl rfl (by decide) (rn_load_aggc (vs := [_, _]) E rfl rfl rfl rfl (hCK.rd.elem (lay := Sp.lay) Sp.lay_len (S.stab.at (by first | exact mm1 | exact mm2 | exact mm3 | exact mm4 | exact mm5 | exact mm6 | exact mm7 | exact mm8)) hjl)) ?_; clear E a; intro a E
        refine list_call E rfl rfl (by decide) rfl Try.func8 rfl (by kernel_rfl) rfl (add_ret pt t (Z[j]'hjl) B _ hB (hT'.gd.okl (by omega)) (S.hp.sel (sel_cons (by first | exact pk1 | exact pk2 | exact pk3 | exact pk4 | exact pk5 | exact pk6 | exact pk7 | exact pk8 | exact pk9) (sel_nil _)))) ?_
        rintro v77 w ⟨rfl, B1, hB1, hT⟩; clear E a; intro a E
        have S := S.call1 (sel_cons (by first | exact pk1 | exact pk2 | exact pk3 | exact pk4 | exact pk5 | exact pk6 | exact pk7 | exact pk8 | exact pk9) (sel_nil _)) hT; rw [hb0] at E
        refine list_pure E rfl rfl (by decide) (rn_assign E rfl rfl) ?_; clear E a; intro a E
        refine wpList_nil ?_
        refine then_k hK ?_; clear hK; clear K
        refine wp_seq_k ?_; intro K hK
        refine region_list ?_
        refine list_pure E rfl rfl (by decide) (rn_move E rfl rfl) ?_; clear E a; intro a E
        refine list_pure E rfl rfl (by decide) (by first | exact rn_neq E rfl rfl rfl | exact rn_neq_ptr_nil E rfl rfl rfl rfl | exact rn_neq_bool E rfl rfl rfl rfl | exact rn_neq_string E rfl rfl rfl) ?_; clear E a; intro a E
        refine wpList_nil ?_
        refine then_k hK ?_; clear hK; clear K
        refine if_false' E rfl (rfl) ?_
        refine wp_skip ?_
        refine in_normal ?_
        refine then_k hK ?_; clear hK; clear K
        refine region_list ?_
        refine list_pure E rfl rfl (by decide) (rn_move E rfl rfl) ?_; clear E a; intro a E
        refine list_pure E rfl rfl (by decide) (rn_sub E rfl rfl rfl (by first | exact ws_lit (y := 1) (by omega) (by omega) | exact w_in (by omega) | exact w_inu (by omega) | exact rfl)) ?_; clear E a; intro a E
        refine list_pure E rfl rfl (by decide) (rn_assign E rfl rfl) ?_; clear E a; intro a E
        refine wpList_nil ?_
        refine then_normal ?_
        exact ⟨j, by omega, j, _, B1, rfl, by omega, hb1, hB1, S.front2 (by first | exact pk1 | exact pk2 | exact pk3 | exact pk4 | exact pk5 | exact pk6 | exact pk7 | exact pk8 | exact pk9) (by first | exact pk1 | exact pk2 | exact pk3 | exact pk4 | exact pk5 | exact pk6 | exact pk7 | exact pk8 | exact pk9), E.keep (keep_cons rfl (keep_cons rfl (keep_cons rfl (keep_cons rfl (keep_cons rfl (keep_cons rfl (keep_cons rfl (keep_cons rfl keep_nil))))))))⟩
      · first | replace hb := n1 hb | replace hb := n2 hb | replace hb := n3 hb | replace hb := n4 hb | replace hb := n5 hb | replace hb := n6 hb | skip
        refine wp_exit ?_
        refine then_exit ?_; clear hK; clear K
        refine then_exit ?_
        refine in_exit ?_
        refine then_k hK ?_; clear hK; clear K
        refine wp_seq_k ?_; intro K hK
        obtain rfl : q = 0 := by omega
        rw [List.drop_zero] at hT'
        obtain rfl := kept_same hZ hT'
        refine region_list ?_
        refine list_pure E rfl rfl (by decide) (rn_move E rfl rfl) ?_; clear E a; intro a E
        refine list_call E rfl rfl (by decide) rfl Try.func21 rfl (by kernel_rfl) rfl (all_ret ps k _ A _ hA hG.len (S.hp.sel (sel_cons (by first | exact pk1 | exact pk2 | exact pk3 | exact pk4 | exact pk5 | exact pk6 | exact pk7 | exact pk8 | exact pk9) (sel_nil _)))) ?_
        rintro v81 w ⟨D, hD, hT⟩; clear E a; intro a E
        have S := S.call2 (sel_cons (by first | exact pk1 | exact pk2 | exact pk3 | exact pk4 | exact pk5 | exact pk6 | exact pk7 | exact pk8 | exact pk9) (sel_nil _)) hT
        refine list_pure E rfl rfl (by decide) (rn_assign E rfl rfl) ?_; clear E a; intro a E
        refine wpList_nil ?_
        refine then_k hK ?_; clear hK; clear K
        refine wp_seq_k ?_; intro K hK
        refine region_list ?_
        refine list_pure E rfl rfl (by decide) (rn_move E rfl rfl) ?_; clear E a; intro a E
        refine list_pure E rfl rfl (by decide) (rn_move E rfl rfl) ?_; clear E a; intro a E
        refine list_call E rfl rfl (by decide) rfl Try.func21 rfl (by kernel_rfl) rfl (all_ret pt k _ B _ hB hG.len (S.hp.sel (sel_cons (by first | exact pk1 | exact pk2 | exact pk3 | exact pk4 | exact pk5 | exact pk6 | exact pk7 | exact pk8 | exact pk9) (sel_nil _)))) ?_
        rintro v84 w ⟨D2, hD2, hT⟩; clear E a; intro a E
        have S := S.call2 (sel_cons (by first | exact pk1 | exact pk2 | exact pk3 | exact pk4 | exact pk5 | exact pk6 | exact pk7 | exact pk8 | exact pk9) (sel_nil _)) hT
        refine list_call E rfl rfl (by decide) rfl Try.func23 rfl (by kernel_rfl) rfl (same_ret D D2 _ _ k k hD.rd hD2.rd _ (S.hp.sel (sel_cons (by first | exact pk1 | exact pk2 | exact pk3 | exact pk4 | exact pk5 | exact pk6 | exact pk7 | exact pk8 | exact pk9) (sel_cons (by first | exact pk1 | exact pk2 | exact pk3 | exact pk4 | exact pk5 | exact pk6 | exact pk7 | exact pk8 | exact pk9) (sel_nil _))))) ?_
        rintro v85 w ⟨rfl, hT⟩; clear E a; intro a E
        have S := S.call2 (sel_cons (by first | exact pk1 | exact pk2 | exact pk3 | exact pk4 | exact pk5 | exact pk6 | exact pk7 | exact pk8 | exact pk9) (sel_cons (by first | exact pk1 | exact pk2 | exact pk3 | exact pk4 | exact pk5 | exact pk6 | exact pk7 | exact pk8 | exact pk9) (sel_nil _))) hT; rw [show decide (k = k) = true by simp] at E
        refine list_pure E rfl rfl (by decide) (rn_assign E rfl rfl) ?_; clear E a; intro a E
        refine wpList_nil ?_
        refine then_k hK ?_; clear hK; clear K
        refine wp_seq_k ?_; intro K hK
        refine region_list ?_
        refine list_pure E rfl rfl (by decide) (rn_move E rfl rfl) ?_; clear E a; intro a E
        refine list_pure E rfl rfl (by decide) (rn_load_blk (vs := [_, _]) E rfl rfl rfl (S.get (by first | exact pk1 | exact pk2 | exact pk3 | exact pk4 | exact pk5 | exact pk6 | exact pk7 | exact pk8 | exact pk9)) rfl rfl) ?_; clear E a; intro a E
        refine list_call E rfl rfl (by decide) rfl Try.func8 rfl (by kernel_rfl) rfl (add_ret pt k x B _ hB hG (S.hp.sel (sel_cons (by first | exact pk1 | exact pk2 | exact pk3 | exact pk4 | exact pk5 | exact pk6 | exact pk7 | exact pk8 | exact pk9) (sel_nil _)))) ?_
        rintro v88 w ⟨rfl, B1, hB1, hT⟩; clear E a; intro a E
        have S := S.call1 (sel_cons (by first | exact pk1 | exact pk2 | exact pk3 | exact pk4 | exact pk5 | exact pk6 | exact pk7 | exact pk8 | exact pk9) (sel_nil _)) hT
        refine list_pure E rfl rfl (by decide) (rn_assign E rfl rfl) ?_; clear E a; intro a E
        refine wpList_nil ?_
        refine then_k hK ?_; clear hK; clear K
        refine wp_seq_k ?_; intro K hK
        refine wp_seq_k ?_; intro K hK
        refine region_list ?_
        refine list_pure E rfl rfl (by decide) (rn_move E rfl rfl) ?_; clear E a; intro a E
        refine list_pure E rfl rfl (by decide) (by first | exact rn_eql E rfl rfl rfl | exact rn_eql_ptr_nil E rfl rfl rfl rfl | exact rn_eql_bool E rfl rfl rfl rfl | exact rn_eql_string E rfl rfl rfl) ?_; clear E a; intro a E
        refine wpList_nil ?_
        refine then_k hK ?_; clear hK; clear K
        refine if_bool E rfl (fun hb => ?_) (fun hb => ?_)
        · first | replace hb := n1 hb | replace hb := n2 hb | replace hb := n3 hb | replace hb := n4 hb | replace hb := n5 hb | replace hb := n6 hb | skip
          obtain ⟨hr1, hr2⟩ := add_rem hG.gd (by omega) hb
          refine wp_seq_k ?_; intro K hK
          replace E := E.keep (e' := [(2, _), (3, _), (5, _), (10, _), (11, _), (17, _), (18, _)]) (keep_cons rfl (keep_cons rfl (keep_cons rfl (keep_cons rfl (keep_cons rfl (keep_cons rfl (keep_cons rfl (keep_nil))))))))
          refine region_list ?_
          refine list_pure E rfl rfl (by decide) (rn_move E rfl rfl) ?_; clear E a; intro a E
          refine list_pure E rfl rfl (by decide) (rn_load_blk (vs := [_, _]) E rfl rfl rfl (S.get (by first | exact pk1 | exact pk2 | exact pk3 | exact pk4 | exact pk5 | exact pk6 | exact pk7 | exact pk8 | exact pk9)) rfl rfl) ?_; clear E a; intro a E
          refine list_call E rfl rfl (by decide) rfl Try.func10 rfl (by kernel_rfl) rfl (rem_ret pt (addS k x) x B1 _ hB1 (addS_gd hG x) (S.hp.sel (sel_cons (by first | exact pk1 | exact pk2 | exact pk3 | exact pk4 | exact pk5 | exact pk6 | exact pk7 | exact pk8 | exact pk9) (sel_nil _)))) ?_
          rintro v93 w ⟨rfl, B2, hB2, hT⟩; clear E a; intro a E
          have S := S.call1 (sel_cons (by first | exact pk1 | exact pk2 | exact pk3 | exact pk4 | exact pk5 | exact pk6 | exact pk7 | exact pk8 | exact pk9) (sel_nil _)) hT; rw [hr1] at E; rw [hr2] at hB2; clear hB1; have hB1 := hB2
          refine list_pure E rfl rfl (by decide) (rn_assign E rfl rfl) ?_; clear E a; intro a E
          refine wpList_nil ?_
          refine then_k hK ?_; clear hK; clear K
          refine wp_seq_k ?_; intro K hK
          refine region_list ?_
          refine list_pure E rfl rfl (by decide) (rn_move E rfl rfl) ?_; clear E a; intro a E
          refine list_pure E rfl rfl (by decide) (by first | exact rn_neq E rfl rfl rfl | exact rn_neq_ptr_nil E rfl rfl rfl rfl | exact rn_neq_bool E rfl rfl rfl rfl | exact rn_neq_string E rfl rfl rfl) ?_; clear E a; intro a E
          refine wpList_nil ?_
          refine then_k hK ?_; clear hK; clear K
          refine if_false' E rfl (rfl) ?_
          refine wp_skip ?_
          refine then_k hK ?_; clear hK; clear K
          refine wp_seq_k ?_; intro K hK
          refine region_list ?_
          refine list_pure E rfl rfl (by decide) (rn_move E rfl rfl) ?_; clear E a; intro a E
          refine list_call E rfl rfl (by decide) rfl Try.func21 rfl (by kernel_rfl) rfl (all_ret pt k _ _ _ hB1 hG.len (S.hp.sel (sel_cons (by first | exact pk1 | exact pk2 | exact pk3 | exact pk4 | exact pk5 | exact pk6 | exact pk7 | exact pk8 | exact pk9) (sel_nil _)))) ?_
          rintro v97 w ⟨D3, hD3, hT⟩; clear E a; intro a E
          have S := S.call2 (sel_cons (by first | exact pk1 | exact pk2 | exact pk3 | exact pk4 | exact pk5 | exact pk6 | exact pk7 | exact pk8 | exact pk9) (sel_nil _)) hT
          refine list_pure E rfl rfl (by decide) (rn_move E rfl rfl) ?_; clear E a; intro a E
          refine list_call E rfl rfl (by decide) rfl Try.func23 rfl (by kernel_rfl) rfl (same_ret D3 D _ _ k k hD3.rd hD.rd _ (S.hp.sel (sel_cons (by first | exact pk1 | exact pk2 | exact pk3 | exact pk4 | exact pk5 | exact pk6 | exact pk7 | exact pk8 | exact pk9) (sel_cons (by first | exact pk1 | exact pk2 | exact pk3 | exact pk4 | exact pk5 | exact pk6 | exact pk7 | exact pk8 | exact pk9) (sel_nil _))))) ?_
          rintro v99 w ⟨rfl, hT⟩; clear E a; intro a E
          have S := S.call2 (sel_cons (by first | exact pk1 | exact pk2 | exact pk3 | exact pk4 | exact pk5 | exact pk6 | exact pk7 | exact pk8 | exact pk9) (sel_cons (by first | exact pk1 | exact pk2 | exact pk3 | exact pk4 | exact pk5 | exact pk6 | exact pk7 | exact pk8 | exact pk9) (sel_nil _))) hT; rw [show decide (k = k) = true by simp] at E
          refine list_pure E rfl rfl (by decide) (rn_assign E rfl rfl) ?_; clear E a; intro a E
          refine wpList_nil ?_
          refine then_k hK ?_; clear hK; clear K
          refine wp_seq_k ?_; intro K hK
          refine region_list ?_
          refine list_pure E rfl rfl (by decide) (rn_move E rfl rfl) ?_; clear E a; intro a E
          refine list_pure E rfl rfl (by decide) (rn_move E rfl rfl) ?_; clear E a; intro a E
          refine list_pure E rfl rfl (by decide) (rn_move E rfl rfl) ?_; clear E a; intro a E
          refine list_call E rfl rfl (by decide) rfl Try.func16 rfl (by kernel_rfl) rfl (find_ret ps k _ n f A _ hA hG hn.2 hf.2 (S.hp.sel (sel_cons (by first | exact pk1 | exact pk2 | exact pk3 | exact pk4 | exact pk5 | exact pk6 | exact pk7 | exact pk8 | exact pk9) (sel_nil _)))) ?_
          rintro v104 w ⟨rfl, hT⟩; clear E a; intro a E
          have S := S.call1 (sel_cons (by first | exact pk1 | exact pk2 | exact pk3 | exact pk4 | exact pk5 | exact pk6 | exact pk7 | exact pk8 | exact pk9) (sel_nil _)) hT; obtain ⟨adD, cD, rfl⟩ := hD.slice
          refine list_pure E rfl rfl (by decide) (rn_move E rfl rfl) ?_; clear E a; intro a E
          refine list_pure E rfl rfl (by decide) (rn_extract E rfl rfl rfl) ?_; clear E a; intro a E
          refine list_pure E rfl rfl (by decide) (rn_extract E rfl rfl rfl) ?_; clear E a; intro a E
          refine list_pure E rfl rfl (by decide) (rn_assign E rfl rfl) ?_; clear E a; intro a E
          refine list_pure E rfl rfl (by decide) (rn_assign E rfl rfl) ?_; clear E a; intro a E
          refine wpList_nil ?_
          refine then_k hK ?_; clear hK; clear K
          refine wp_seq_k ?_; intro K hK
          replace E := E.keep (e' := [(2, _), (3, _), (10, _), (17, _), (18, _), (21, _), (22, _), (23, _)]) (keep_cons rfl (keep_cons rfl (keep_cons rfl (keep_cons rfl (keep_cons rfl (keep_cons rfl (keep_cons rfl (keep_cons rfl (keep_nil)))))))))
          obtain ⟨at', is', hfe⟩ : ∃ a b, findL k n f = (a, b) := ⟨_, _, rfl⟩
          rw [hfe] at E
          have S := S.front3 (A := A) (B := D) (C := O) (by first | exact pk1 | exact pk2 | exact pk3 | exact pk4 | exact pk5 | exact pk6 | exact pk7 | exact pk8 | exact pk9) (by first | exact pk1 | exact pk2 | exact pk3 | exact pk4 | exact pk5 | exact pk6 | exact pk7 | exact pk8 | exact pk9) (by first | exact pk1 | exact pk2 | exact pk3 | exact pk4 | exact pk5 | exact pk6 | exact pk7 | exact pk8 | exact pk9)
          refine wp_join (fun (a : Act) (w' : World) => (∃ Ls, St w0 [O] w' (A :: D :: O :: Ls)) ∧ Fr a 204 [(2, .int .i64 n), (3, .int .i64 f), (17, .slice adD k.length cD), (18, .bool true), (21, .bool true), (22, .int .i64 at'), (23, .bool is'), (24, .bool true)]) ?_ ?_
          · skip
            refine region_list ?_
            refine list_pure E rfl rfl (by decide) (rn_move E rfl rfl) ?_; clear E a; intro a E
            refine list_pure E rfl rfl (by decide) (rn_not E rfl rfl) ?_; clear E a; intro a E
            refine list_pure E rfl rfl (by decide) (rn_move E rfl rfl) ?_; clear E a; intro a E
            refine guard_split E (t := 109) rfl (fun hb109 => ?_) (fun hb109 => ?_)
            · have hb109n := hb109; first | replace hb109n := n1 hb109n | replace hb109n := n2 hb109n | replace hb109n := n3 hb109n | replace hb109n := n4 hb109n | replace hb109n := n5 hb109n | replace hb109n := n6 hb109n | skip
              skip
              refine list_guard_no E rfl rfl rfl rfl hb109 rfl (by decide) ?_; clear E a; intro a E
              refine list_guard_no E rfl rfl rfl rfl hb109 rfl (by decide) ?_; clear E a; intro a E
              refine list_guard_no E rfl rfl rfl rfl hb109 rfl (by decide) ?_; clear E a; intro a E
              refine list_guard_no E rfl rfl rfl rfl hb109 rfl (by decide) ?_; clear E a; intro a E
              refine list_guard_undef E rfl rfl rfl rfl rfl (by decide) ?_; clear E a; intro a E
              refine list_guard_undef E rfl rfl rfl rfl rfl (by decide) ?_; clear E a; intro a E
              refine list_guard_undef E rfl rfl rfl rfl rfl (by decide) ?_; clear E a; intro a E
              refine list_guard_undef E rfl rfl rfl rfl rfl (by decide) ?_; clear E a; intro a E
              refine list_guard_undef E rfl rfl rfl rfl rfl (by decide) ?_; clear E a; intro a E
              refine list_guard_no E rfl rfl rfl rfl hb109 rfl (by decide) ?_; clear E a; intro a E
              refine list_guard_no E rfl rfl rfl rfl hb109 rfl (by decide) ?_; clear E a; intro a E
              refine list_guard_undef E rfl rfl rfl rfl rfl (by decide) ?_; clear E a; intro a E
              refine list_guard_undef E rfl rfl rfl rfl rfl (by decide) ?_; clear E a; intro a E
              refine list_guard_undef E rfl rfl rfl rfl rfl (by decide) ?_; clear E a; intro a E
              refine list_guard_undef E rfl rfl rfl rfl rfl (by decide) ?_; clear E a; intro a E
              refine list_guard_undef E rfl rfl rfl rfl rfl (by decide) ?_; clear E a; intro a E
              refine list_guard_undef E rfl rfl rfl rfl rfl (by decide) ?_; clear E a; intro a E
              refine list_guard_undef E rfl rfl rfl rfl rfl (by decide) ?_; clear E a; intro a E
              refine list_guard_undef E rfl rfl rfl rfl rfl (by decide) ?_; clear E a; intro a E
              refine list_guard_undef E rfl rfl rfl rfl rfl (by decide) ?_; clear E a; intro a E
              refine list_guard_undef E rfl rfl rfl rfl rfl (by decide) ?_; clear E a; intro a E
              refine list_guard_undef E rfl rfl rfl rfl rfl (by decide) ?_; clear E a; intro a E
              refine list_guard_undef E rfl rfl rfl rfl rfl (by decide) ?_; clear E a; intro a E
              refine list_guard_no E rfl rfl rfl rfl hb109 rfl (by decide) ?_; clear E a; intro a E
              refine list_pure E rfl rfl (by decide) (rn_pick_yes' E rfl rfl hb109 rfl) ?_; clear E a; intro a E
              refine list_pure E rfl rfl (by decide) (rn_assign E rfl rfl) ?_; clear E a; intro a E
              refine wpList_nil ?_
              refine joined_here ?_
              exact ⟨⟨_, S⟩, E.keep (keep_cons rfl (keep_cons rfl (keep_cons rfl (keep_cons rfl (keep_cons rfl (keep_cons rfl (keep_cons rfl (keep_cons rfl keep_nil))))))))⟩
            · have hb109n := hb109; first | replace hb109n := n1 hb109n | replace hb109n := n2 hb109n | replace hb109n := n3 hb109n | replace hb109n := n4 hb109n | replace hb109n := n5 hb109n | replace hb109n := n6 hb109n | skip
              have hi : is' = true := (by simpa using hb109); subst hi; obtain ⟨hf1, hf2, hf3⟩ := find_spec hG.gd hfe; have hmy := Sp.may_iff.1 (has_may hf2)
              refine list_guard_yes E rfl rfl rfl rfl hb109 rfl (by decide) (rn_move E rfl rfl) ?_; clear E a; intro a E
              refine list_guard_yes E rfl rfl rfl rfl hb109 rfl (by decide) (rn_move E rfl rfl) ?_; clear E a; intro a E
              refine list_guard_yes E rfl rfl rfl rfl hb109 rfl (by decide) (rn_geq E rfl rfl rfl) ?_; clear E a; intro a E
              refine list_guard_yes E rfl rfl rfl rfl hb109 rfl (by decide) (rn_move E rfl rfl) ?_; clear E a; intro a E
              refine guard_true E (t := 113) rfl (decide_eq_true hf1) (fun hb113 => ?_)
              refine list_guard_yes E rfl rfl rfl rfl hb113 rfl (by decide) (rn_move E rfl rfl) ?_; clear E a; intro a E
              refine list_guard_yes E rfl rfl rfl rfl hb113 rfl (by decide) (rn_move E rfl rfl) ?_; clear E a; intro a E
              refine list_guard_yes E rfl rfl rfl rfl hb113 rfl (by decide) (rn_move E rfl rfl) ?_; clear E a; intro a E
              refine list_guard_yes E rfl rfl rfl rfl hb113 rfl (by decide) (rn_build (cells := [_, _]) E rfl rfl rfl) ?_; clear E a; intro a E
              refine list_guard_wp E rfl rfl rfl rfl hb113 ?_; refine wp_call' E rfl (by decide) rfl Try.func14 rfl (by kernel_rfl) rfl (has_ret ps k _ ⟨at', n⟩ A _ hA hG (S.hp.sel (sel_cons (by first | exact pk1 | exact pk2 | exact pk3 | exact pk4 | exact pk5 | exact pk6 | exact pk7 | exact pk8 | exact pk9) (sel_nil _)))) ?_
              rintro v118 w ⟨rfl, hT⟩; clear E a; intro a E
              have S := S.call1 (sel_cons (by first | exact pk1 | exact pk2 | exact pk3 | exact pk4 | exact pk5 | exact pk6 | exact pk7 | exact pk8 | exact pk9) (sel_nil _)) hT
              refine list_guard_yes E rfl rfl rfl rfl hb109 rfl (by decide) (rn_pick_yes' E rfl rfl hb113 rfl) ?_; clear E a; intro a E
              refine list_guard_yes E rfl rfl rfl rfl hb109 rfl (by decide) (rn_move E rfl rfl) ?_; clear E a; intro a E
              refine guard_true E (t := 120) rfl (hf2) (fun hb120 => ?_)
              refine list_guard_yes E rfl rfl rfl rfl hb120 rfl (by decide) (rn_move E rfl rfl) ?_; clear E a; intro a E
              refine list_guard_yes E rfl rfl rfl rfl hb120 rfl (by decide) (rn_move E rfl rfl) ?_; clear E a; intro a E
              refine list_guard_yes E rfl rfl rfl rfl hb120 rfl (by decide) (by first | exact rn_eql E rfl rfl rfl | exact rn_eql_ptr_nil E rfl rfl rfl rfl | exact rn_eql_bool E rfl rfl rfl rfl | exact rn_eql_string E rfl rfl rfl) ?_; clear E a; intro a E
              refine list_guard_yes E rfl rfl rfl rfl hb120 rfl (by decide) (rn_move E rfl rfl) ?_; clear E a; intro a E
              refine guard_split E (t := 124) rfl (fun hb124 => ?_) (fun hb124 => ?_)
              · have hb124n := hb124; first | replace hb124n := n1 hb124n | replace hb124n := n2 hb124n | replace hb124n := n3 hb124n | replace hb124n := n4 hb124n | replace hb124n := n5 hb124n | replace hb124n := n6 hb124n | skip
                refine list_guard_no E rfl rfl rfl rfl hb124 rfl (by decide) ?_; clear E a; intro a E
                refine list_guard_no E rfl rfl rfl rfl hb124 rfl (by decide) ?_; clear E a; intro a E
                refine list_guard_no E rfl rfl rfl rfl hb124 rfl (by decide) ?_; clear E a; intro a E
                refine list_guard_no E rfl rfl rfl rfl hb124 rfl (by decide) ?_; clear E a; intro a E
                refine list_guard_no E rfl rfl rfl rfl hb124 rfl (by decide) ?_; clear E a; intro a E
                refine list_guard_no E rfl rfl rfl rfl hb124 rfl (by decide) ?_; clear E a; intro a E
                refine list_guard_no E rfl rfl rfl rfl hb124 rfl (by decide) ?_; clear E a; intro a E
                refine list_guard_yes E rfl rfl rfl rfl hb120 rfl (by decide) (rn_pick_yes' E rfl rfl hb124 rfl) ?_; clear E a; intro a E
                refine list_guard_yes E rfl rfl rfl rfl hb109 rfl (by decide) (rn_pick_yes' E rfl rfl hb120 rfl) ?_; clear E a; intro a E
                refine list_pure E rfl rfl (by decide) (rn_pick_no' E rfl rfl hb109 rfl) ?_; clear E a; intro a E
                refine list_pure E rfl rfl (by decide) (rn_assign E rfl rfl) ?_; clear E a; intro a E
                refine wpList_nil ?_
                refine joined_here ?_
                exact ⟨⟨_, S⟩, E.keep (keep_cons rfl (keep_cons rfl (keep_cons rfl (keep_cons rfl (keep_cons rfl (keep_cons rfl (keep_cons rfl (keep_cons rfl keep_nil))))))))⟩
              · have hb124n := hb124; first | replace hb124n := n1 hb124n | replace hb124n := n2 hb124n | replace hb124n := n3 hb124n | replace hb124n := n4 hb124n | replace hb124n := n5 hb124n | replace hb124n := n6 hb124n | skip
                refine list_guard_yes E rfl rfl rfl rfl hb124 rfl (by decide) (rn_move E rfl rfl) ?_; clear E a; intro a E
                refine list_guard_yes E rfl rfl rfl rfl hb124 rfl (by decide) (rn_move E rfl rfl) ?_; clear E a; intro a E
                refine list_guard_yes E rfl rfl rfl rfl hb124 rfl (by decide) (rn_sub E rfl rfl rfl (w_in (by simp only at hmy; omega))) ?_; clear E a; intro a E
                refine list_guard_yes E rfl rfl rfl rfl hb124 rfl (by decide) (rn_move E rfl rfl) ?_; clear E a; intro a E
                refine list_guard_yes E rfl rfl rfl rfl hb124 rfl (by decide) (rn_build (cells := [_, _]) E rfl rfl rfl) ?_; clear E a; intro a E
                refine list_guard_wp E rfl rfl rfl rfl hb124 ?_; refine wp_call' E rfl (by decide) rfl Try.func14 rfl (by kernel_rfl) rfl (has_ret ps k _ ⟨at' - 1, n⟩ A _ hA hG (S.hp.sel (sel_cons (by first | exact pk1 | exact pk2 | exact pk3 | exact pk4 | exact pk5 | exact pk6 | exact pk7 | exact pk8 | exact pk9) (sel_nil _)))) ?_
                rintro v130 w ⟨rfl, hT⟩; clear E a; intro a E
                have S := S.call1 (sel_cons (by first | exact pk1 | exact pk2 | exact pk3 | exact pk4 | exact pk5 | exact pk6 | exact pk7 | exact pk8 | exact pk9) (sel_nil _)) hT; rw [hf3.resolve_left hb124n] at E
                refine list_guard_yes E rfl rfl rfl rfl hb124 rfl (by decide) (rn_not E rfl rfl) ?_; clear E a; intro a E
                refine list_guard_yes E rfl rfl rfl rfl hb120 rfl (by decide) (rn_pick_no' E rfl rfl hb124 rfl) ?_; clear E a; intro a E
                refine list_guard_yes E rfl rfl rfl rfl hb109 rfl (by decide) (rn_pick_yes' E rfl rfl hb120 rfl) ?_; clear E a; intro a E
                refine list_pure E rfl rfl (by decide) (rn_pick_no' E rfl rfl hb109 rfl) ?_; clear E a; intro a E
                refine list_pure E rfl rfl (by decide) (rn_assign E rfl rfl) ?_; clear E a; intro a E
                refine wpList_nil ?_
                refine joined_here ?_
                exact ⟨⟨_, S⟩, E.keep (keep_cons rfl (keep_cons rfl (keep_cons rfl (keep_cons rfl (keep_cons rfl (keep_cons rfl (keep_cons rfl (keep_cons rfl keep_nil))))))))⟩
          · clear E S a; intro a w J; obtain ⟨⟨Ls, S⟩, E⟩ := J
            refine then_k hK ?_; clear hK; clear K
            refine wp_seq_k ?_; intro K hK
            refine wp_seq_k ?_; intro K hK
            refine region_list ?_
            refine list_pure E rfl rfl (by decide) (rn_assign E rfl rfl) ?_; clear E a; intro a E
            refine wpList_nil ?_
            refine then_k hK ?_; clear hK; clear K
            refine wp_block ?_
            refine wp_loop_ghost (fun (m : Nat) (a : Act) (w' : World) => ∃ i : Nat, m = k.length - i ∧ i ≤ k.length ∧ (∃ Ls, St w0 [O] w' (A :: D :: O :: Ls)) ∧ Fr a 204 [(2, .int .i64 n), (3, .int .i64 f), (17, .slice adD k.length cD), (18, .bool true), (21, .bool true), (22, .int .i64 at'), (23, .bool is'), (24, .bool true), (25, .int .i64 i)]) (k.length - 0) ?_ ?_
            · exact ⟨0, rfl, by omega, ⟨_, S⟩, E.keep (keep_cons rfl (keep_cons rfl (keep_cons rfl (keep_cons rfl (keep_cons rfl (keep_cons rfl (keep_cons rfl (keep_cons rfl (keep_cons rfl keep_nil)))))))))⟩
            clear E; clear a; rintro m a w ⟨i, rfl, hi, ⟨Ls, S⟩, E⟩
            refine wp_seq_k ?_; intro K hK
            refine wp_seq_k ?_; intro K hK
            refine region_list ?_
            refine list_pure E rfl rfl (by decide) (rn_move E rfl rfl) ?_; clear E a; intro a E
            refine list_pure E rfl rfl (by decide) (rn_move E rfl rfl) ?_; clear E a; intro a E
            refine list_pure E rfl rfl (by decide) (by first | exact rn_len E rfl rfl rfl | exact rn_len_str E rfl rfl rfl | exact rn_len_string E rfl rfl rfl) ?_; clear E a; intro a E
            refine list_pure E rfl rfl (by decide) (rn_lss E rfl rfl rfl) ?_; clear E a; intro a E
            refine wpList_nil ?_
            refine then_k hK ?_; clear hK; clear K
            refine if_bool E rfl (fun hb => ?_) (fun hb => ?_)
            · first | replace hb := n1 hb | replace hb := n2 hb | replace hb := n3 hb | replace hb := n4 hb | replace hb := n5 hb | replace hb := n6 hb | skip
              refine wp_skip ?_
              refine then_k hK ?_; clear hK; clear K
              refine wp_seq_k ?_; intro K hK
              refine wp_block ?_
              refine wp_seq_k ?_; intro K hK
              have hil : i < k.length := by omega
              have hgl := hG.len
              obtain ⟨b, off, rfl⟩ := hD.rd.addr (by omega)
              have hat := hG.at hil
              have hfst := find_first (l := k) hG.gd (n := n) (f := f) (y := k[i]'hil)
              refine region_list ?_
              refine list_pure E rfl rfl (by decide) (rn_move E rfl rfl) ?_; clear E a; intro a E
              refine list_pure E rfl rfl (by decide) (rn_move E rfl rfl) ?_; clear E a; intro a E
              refine list_pure E rfl rfl (by decide) (by first | exact rn_indexAddr1 E rfl rfl rfl rfl rfl rfl (by omega) | exact rn_indexAddr E rfl rfl rfl rfl rfl rfl (by omega) | exact rn_indexAddr_array E rfl rfl rfl rfl rfl rfl (by omega)) ?_; clear E a; intro a E
              refine list_pure E rfl rfl (by decide) (by first | exact rn_fieldAddr0 (q := 0) E rfl rfl rfl | exact rn_fieldAddr (q := 0) E rfl rfl rfl) ?_; clear E a; intro a E
              refine list_pure E rfl rfl (by decide) (rn_loadc E rfl rfl rfl (hD.rd.elem (lay := Sp.lay) Sp.lay_len (S.stab.at (by first | exact mm1 | exact mm2 | exact mm3 | exact mm4 | exact mm5 | exact mm6 | exact mm7 | exact mm8)) hil 0 _ rfl)) ?_; clear E a; intro a E
              refine list_pure E rfl rfl (by decide) (rn_assign E rfl rfl) ?_; clear E a; intro a E
              refine wpList_nil ?_
              refine then_k hK ?_; clear hK; clear K
              refine wp_seq_k ?_; intro K hK
              refine wp_seq_k ?_; intro K hK
              refine region_list ?_
              refine list_pure E rfl rfl (by decide) (rn_move E rfl rfl) ?_; clear E a; intro a E
              refine list_pure E rfl rfl (by decide) (rn_move E rfl rfl) ?_; clear E a; intro a E
              refine list_pure E rfl rfl (by decide) (rn_gtr E rfl rfl rfl) ?_; clear E a; intro a E
              refine wpList_nil ?_
              refine then_k hK ?_; clear hK; clear K
              refine if_bool E rfl (fun hb => ?_) (fun hb => ?_)
              · first | replace hb := n1 hb | replace hb := n2 hb | replace hb := n3 hb | replace hb := n4 hb | replace hb := n5 hb | replace hb := n6 hb | skip
                have hmx : max (k[i]'hil).at_ f = f := (by omega)
                refine region_list ?_
                refine list_pure E rfl rfl (by decide) (rn_move E rfl rfl) ?_; clear E a; intro a E
                refine list_pure E rfl rfl (by decide) (rn_assign E rfl rfl) ?_; clear E a; intro a E
                refine wpList_nil ?_
                refine then_k hK ?_; clear hK; clear K
                refine wp_seq_k ?_; intro K hK
                skip
                refine wp_join (fun (a : Act) (w' : World) => (∃ Ls, St w0 [O] w' (A :: D :: O :: Ls)) ∧ Fr a 204 [(2, .int .i64 n), (3, .int .i64 f), (17, .slice (some ⟨b, off, none⟩) k.length cD), (18, .bool true), (21, .bool true), (22, .int .i64 at'), (23, .bool is'), (24, .bool true), (25, .int .i64 i), (196, .bool false)]) ?_ ?_
                · skip
                  refine region_mix0 S [(0, 0), (1, 0), (2, 0), (3, 0), (4, 0), (5, 0), (6, 0), (7, 0), (8, 0), (9, 0), (10, 0), (11, 0), (12, 0), (13, 0), (14, 0), (15, 0), (16, 0), (17, 0), (18, 0), (19, 0), (20, 0), (21, 0), (22, 0), (23, 0), (24, 0), (25, 0), (26, 0), (27, 0), (28, 0), (29, 0), (30, 0), (31, 0), (32, 0), (33, 0), (34, 0), (35, 0), (36, 0), (37, 0), (38, 0), (39, 0), (40, 0), (41, 0), (42, 0), (43, 0), (44, 0), (45, 0), (46, 0)] (by kernel_rfl) (by kernel_rfl) ?_
                  clear S; intro w S
                  refine mix_pure E rfl rfl rfl (by decide) (fun w h => rn_move E rfl rfl) ?_; clear E a; intro a E
                  refine mix_pure E rfl rfl rfl (by decide) (fun w h => rn_geq E rfl rfl rfl) ?_; clear E a; intro a E
                  refine mix_pure E rfl rfl rfl (by decide) (fun w h => rn_move E rfl rfl) ?_; clear E a; intro a E
                  refine guard_split E (t := 152) rfl (fun hb152 => ?_) (fun hb152 => ?_)
                  · have hb152n := hb152; first | replace hb152n := n1 hb152n | replace hb152n := n2 hb152n | replace hb152n := n3 hb152n | replace hb152n := n4 hb152n | replace hb152n := n5 hb152n | replace hb152n := n6 hb152n | skip
                    refine mix_guard_yes E rfl rfl rfl rfl rfl hb152 rfl (by decide) (fun w h => rn_move E rfl rfl) ?_; clear E a; intro a E
                    refine mix_guard_yes E rfl rfl rfl rfl rfl hb152 rfl (by decide) (fun w h => rn_geq E rfl rfl rfl) ?_; clear E a; intro a E
                    refine mix_pure E rfl rfl rfl (by decide) (fun w h => rn_pick_yes' E rfl rfl hb152 rfl) ?_; clear E a; intro a E
                    refine mix_pure E rfl rfl rfl (by decide) (fun w h => rn_move E rfl rfl) ?_; clear E a; intro a E
                    refine guard_split E (t := 156) rfl (fun hb156 => ?_) (fun hb156 => ?_)
                    · have hb156n := hb156; first | replace hb156n := n1 hb156n | replace hb156n := n2 hb156n | replace hb156n := n3 hb156n | replace hb156n := n4 hb156n | replace hb156n := n5 hb156n | replace hb156n := n6 hb156n | skip
                      refine mix_guard_yes E rfl rfl rfl rfl rfl hb156 rfl (by decide) (fun w h => rn_move E rfl rfl) ?_; clear E a; intro a E
                      refine mix_guard_yes E rfl rfl rfl rfl rfl hb156 rfl (by decide) (fun w h => rn_move E rfl rfl) ?_; clear E a; intro a E
                      refine mix_guard_yes E rfl rfl rfl rfl rfl hb156 rfl (by decide) (fun w h => rn_move E rfl rfl) ?_; clear E a; intro a E
                      refine mix_guard_yes E rfl rfl rfl rfl rfl hb156 rfl (by decide) (fun w h => by first | exact rn_indexAddr1 E rfl rfl rfl rfl rfl rfl (by omega) | exact rn_indexAddr E rfl rfl rfl rfl rfl rfl (by omega) | exact rn_indexAddr_array E rfl rfl rfl rfl rfl rfl (by omega)) ?_; clear E a; intro a E
                      refine mix_guard_yes E rfl rfl rfl rfl rfl hb156 rfl (by decide) (fun w h => by first | exact rn_fieldAddr0 (q := 0) E rfl rfl rfl | exact rn_fieldAddr (q := 0) E rfl rfl rfl) ?_; clear E a; intro a E
                      refine mix_guard_yes E rfl rfl rfl rfl rfl hb156 rfl (by decide) (fun w h => rn_loadc E rfl rfl rfl (hD.rd.elem (lay := Sp.lay) Sp.lay_len (h.at (by first | exact mm1 | exact mm2 | exact mm3 | exact mm4 | exact mm5 | exact mm6 | exact mm7 | exact mm8)) hil 0 _ rfl)) ?_; clear E a; intro a E
                      refine mix_guard_yes E rfl rfl rfl rfl rfl hb156 rfl (by decide) (fun w h => rn_move E rfl rfl) ?_; clear E a; intro a E
                      refine mix_guard_yes E rfl rfl rfl rfl rfl hb156 rfl (by decide) (fun w h => rn_move E rfl rfl) ?_; clear E a; intro a E
                      refine mix_guard_yes E rfl rfl rfl rfl rfl hb156 rfl (by decide) (fun w h => by first | exact rn_indexAddr1 E rfl rfl rfl rfl rfl rfl (by omega) | exact rn_indexAddr E rfl rfl rfl rfl rfl rfl (by omega) | exact rn_indexAddr_array E rfl rfl rfl rfl rfl rfl (by omega)) ?_; clear E a; intro a E
                      refine mix_guard_yes E rfl rfl rfl rfl rfl hb156 rfl (by decide) (fun w h => by first | exact rn_fieldAddr0 (q := 1) E rfl rfl rfl | exact rn_fieldAddr (q := 1) E rfl rfl rfl) ?_; clear E a; intro a E
                      refine mix_guard_yes E rfl rfl rfl rfl rfl hb156 rfl (by decide) (fun w h => rn_loadc E rfl rfl rfl (hD.rd.elem (lay := Sp.lay) Sp.lay_len (h.at (by first | exact mm1 | exact mm2 | exact mm3 | exact mm4 | exact mm5 | exact mm6 | exact mm7 | exact mm8)) hil 1 _ rfl)) ?_; clear E a; intro a E
                      refine mix_guard_yes E rfl rfl rfl rfl rfl hb156 rfl (by decide) (fun w h => rn_add E rfl rfl rfl (by first | exact wa1 (by omega) | exact w_in (by omega) | exact w_inu (by omega) | exact rfl)) ?_; clear E a; intro a E
                      refine mix_guard_yes E rfl rfl rfl rfl rfl hb156 rfl (by decide) (fun w h => rn_leq E rfl rfl rfl) ?_; clear E a; intro a E
                      refine mix_pure E rfl rfl rfl (by decide) (fun w h => rn_pick_yes' E rfl rfl hb156 rfl) ?_; clear E a; intro a E
                      refine mix_pure E rfl rfl rfl (by decide) (fun w h => rn_move E rfl rfl) ?_; clear E a; intro a E
                      refine guard_split E (t := 171) rfl (fun hb171 => ?_) (fun hb171 => ?_)
                      · have hb171n := hb171; first | replace hb171n := n1 hb171n | replace hb171n := n2 hb171n | replace hb171n := n3 hb171n | replace hb171n := n4 hb171n | replace hb171n := n5 hb171n | replace hb171n := n6 hb171n | skip
                        refine mix_guard_yes E rfl rfl rfl rfl rfl hb171 rfl (by decide) (fun w h => rn_move E rfl rfl) ?_; clear E a; intro a E
                        refine mix_guard_yes E rfl rfl rfl rfl rfl hb171 rfl (by decide) (fun w h => rn_move E rfl rfl) ?_; clear E a; intro a E
                        refine mix_guard_yes E rfl rfl rfl rfl rfl hb171 rfl (by decide) (fun w h => rn_move E rfl rfl) ?_; clear E a; intro a E
                        refine mix_guard_yes E rfl rfl rfl rfl rfl hb171 rfl (by decide) (fun w h => by first | exact rn_indexAddr1 E rfl rfl rfl rfl rfl rfl (by omega) | exact rn_indexAddr E rfl rfl rfl rfl rfl rfl (by omega) | exact rn_indexAddr_array E rfl rfl rfl rfl rfl rfl (by omega)) ?_; clear E a; intro a E
                        refine mix_guard_yes E rfl rfl rfl rfl rfl hb171 rfl (by decide) (fun w h => by first | exact rn_fieldAddr0 (q := 0) E rfl rfl rfl | exact rn_fieldAddr (q := 0) E rfl rfl rfl) ?_; clear E a; intro a E
                        refine mix_guard_yes E rfl rfl rfl rfl rfl hb171 rfl (by decide) (fun w h => rn_loadc E rfl rfl rfl (hD.rd.elem (lay := Sp.lay) Sp.lay_len (h.at (by first | exact mm1 | exact mm2 | exact mm3 | exact mm4 | exact mm5 | exact mm6 | exact mm7 | exact mm8)) hil 0 _ rfl)) ?_; clear E a; intro a E
                        refine mix_guard_yes E rfl rfl rfl rfl rfl hb171 rfl (by decide) (fun w h => rn_move E rfl rfl) ?_; clear E a; intro a E
                        refine mix_guard_yes E rfl rfl rfl rfl rfl hb171 rfl (by decide) (fun w h => rn_move E rfl rfl) ?_; clear E a; intro a E
                        refine mix_guard_yes E rfl rfl rfl rfl rfl hb171 rfl (by decide) (fun w h => by first | exact rn_indexAddr1 E rfl rfl rfl rfl rfl rfl (by omega) | exact rn_indexAddr E rfl rfl rfl rfl rfl rfl (by omega) | exact rn_indexAddr_array E rfl rfl rfl rfl rfl rfl (by omega)) ?_; clear E a; intro a E
                        refine mix_guard_yes E rfl rfl rfl rfl rfl hb171 rfl (by decide) (fun w h => by first | exact rn_fieldAddr0 (q := 1) E rfl rfl rfl | exact rn_fieldAddr (q := 1) E rfl rfl rfl) ?_; clear E a; intro a E
                        refine mix_guard_yes E rfl rfl rfl rfl rfl hb171 rfl (by decide) (fun w h => rn_loadc E rfl rfl rfl (hD.rd.elem (lay := Sp.lay) Sp.lay_len (h.at (by first | exact mm1 | exact mm2 | exact mm3 | exact mm4 | exact mm5 | exact mm6 | exact mm7 | exact mm8)) hil 1 _ rfl)) ?_; clear E a; intro a E
                        refine mix_guard_yes E rfl rfl rfl rfl rfl hb171 rfl (by decide) (fun w h => rn_add E rfl rfl rfl (by first | exact wa1 (by omega) | exact w_in (by omega) | exact w_inu (by omega) | exact rfl)) ?_; clear E a; intro a E
                        refine mix_guard_yes E rfl rfl rfl rfl rfl hb171 rfl (by decide) (fun w h => rn_move E rfl rfl) ?_; clear E a; intro a E
                        refine mix_guard_yes E rfl rfl rfl rfl rfl hb171 rfl (by decide) (fun w h => rn_sub E rfl rfl rfl (by first | exact ws1 (by omega) (by omega) | exact w_in (by omega) | exact w_inu (by omega) | exact rfl)) ?_; clear E a; intro a E
                        refine mix_guard_yes E rfl rfl rfl rfl rfl hb171 rfl (by decide) (fun w h => rn_leq E rfl rfl rfl) ?_; clear E a; intro a E
                        refine mix_pure E rfl rfl rfl (by decide) (fun w h => rn_pick_yes' E rfl rfl hb171 rfl) ?_; clear E a; intro a E
                        refine mix_pure E rfl rfl rfl (by decide) (fun w h => rn_move E rfl rfl) ?_; clear E a; intro a E
                        refine guard_split E (t := 188) rfl (fun hb188 => ?_) (fun hb188 => ?_)
                        · have hb188n := hb188; first | replace hb188n := n1 hb188n | replace hb188n := n2 hb188n | replace hb188n := n3 hb188n | replace hb188n := n4 hb188n | replace hb188n := n5 hb188n | replace hb188n := n6 hb188n | skip
                          obtain ⟨at2, hq1, hq2⟩ := hfst (by omega) (by omega) (List.getElem_mem hil) (by simp only [Sp.fin] at *; omega) (by simp only [Sp.fin] at *; omega); rw [hfe] at hq1; cases hq1
                          refine mix_guard_yes E rfl rfl rfl rfl rfl hb188 rfl (by decide) (fun w h => rn_move E rfl rfl) ?_; clear E a; intro a E
                          refine mix_guard_yes E rfl rfl rfl rfl rfl hb188 rfl (by decide) (fun w h => rn_not E rfl rfl) ?_; clear E a; intro a E
                          refine mix_guard_yes E rfl rfl rfl rfl rfl hb188 rfl (by decide) (fun w h => rn_move E rfl rfl) ?_; clear E a; intro a E
                          refine guard_false E (t := 191) rfl (rfl) (fun hb191 => ?_)
                          refine mix_guard_yes E rfl rfl rfl rfl rfl hb191 rfl (by decide) (fun w h => rn_move E rfl rfl) ?_; clear E a; intro a E
                          refine mix_guard_yes E rfl rfl rfl rfl rfl hb191 rfl (by decide) (fun w h => rn_move E rfl rfl) ?_; clear E a; intro a E
                          refine mix_guard_yes E rfl rfl rfl rfl rfl hb191 rfl (by decide) (fun w h => rn_gtr E rfl rfl rfl) ?_; clear E a; intro a E
                          refine mix_guard_yes E rfl rfl rfl rfl rfl hb188 rfl (by decide) (fun w h => rn_pick_no' E rfl rfl hb191 rfl) ?_; clear E a; intro a E
                          refine mix_pure E rfl rfl rfl (by decide) (fun w h => rn_pick_yes' E rfl rfl hb188 rfl) ?_; clear E a; intro a E
                          refine mix_nil ?_
                          refine joined_here ?_
                          first | (rw [decide_eq_false (show ¬ ((k[i]'hil).at_ < at') by omega)] at E; exact ⟨⟨_, S⟩, E.keep (keep_cons rfl (keep_cons rfl (keep_cons rfl (keep_cons rfl (keep_cons rfl (keep_cons rfl (keep_cons rfl (keep_cons rfl (keep_cons rfl (keep_cons rfl keep_nil))))))))))⟩) | (rw [decide_eq_false (show ¬ (f < at') by omega)] at E; exact ⟨⟨_, S⟩, E.keep (keep_cons rfl (keep_cons rfl (keep_cons rfl (keep_cons rfl (keep_cons rfl (keep_cons rfl (keep_cons rfl (keep_cons rfl (keep_cons rfl (keep_cons rfl keep_nil))))))))))⟩) | exact ⟨⟨_, S⟩, E.keep (keep_cons rfl (keep_cons rfl (keep_cons rfl (keep_cons rfl (keep_cons rfl (keep_cons rfl (keep_cons rfl (keep_cons rfl (keep_cons rfl (keep_cons rfl keep_nil))))))))))⟩
                        · have hb188n := hb188; first | replace hb188n := n1 hb188n | replace hb188n := n2 hb188n | replace hb188n := n3 hb188n | replace hb188n := n4 hb188n | replace hb188n := n5 hb188n | replace hb188n := n6 hb188n | skip
                          skip
                          refine mix_guard_no E rfl rfl rfl rfl rfl hb188 rfl (by decide) ?_; clear E a; intro a E
                          refine mix_guard_no E rfl rfl rfl rfl rfl hb188 rfl (by decide) ?_; clear E a; intro a E
                          refine mix_guard_no E rfl rfl rfl rfl rfl hb188 rfl (by decide) ?_; clear E a; intro a E
                          refine mix_guard_undef E rfl rfl rfl rfl rfl rfl (by decide) ?_; clear E a; intro a E
                          refine mix_guard_undef E rfl rfl rfl rfl rfl rfl (by decide) ?_; clear E a; intro a E
                          refine mix_guard_undef E rfl rfl rfl rfl rfl rfl (by decide) ?_; clear E a; intro a E
                          refine mix_guard_no E rfl rfl rfl rfl rfl hb188 rfl (by decide) ?_; clear E a; intro a E
                          refine mix_pure E rfl rfl rfl (by decide) (fun w h => rn_pick_no' E rfl rfl hb188 rfl) ?_; clear E a; intro a E
                          refine mix_nil ?_
                          refine joined_here ?_
                          first | (rw [decide_eq_false (show ¬ ((k[i]'hil).at_ < at') by omega)] at E; exact ⟨⟨_, S⟩, E.keep (keep_cons rfl (keep_cons rfl (keep_cons rfl (keep_cons rfl (keep_cons rfl (keep_cons rfl (keep_cons rfl (keep_cons rfl (keep_cons rfl (keep_cons rfl keep_nil))))))))))⟩) | (rw [decide_eq_false (show ¬ (f < at') by omega)] at E; exact ⟨⟨_, S⟩, E.keep (keep_cons rfl (keep_cons rfl (keep_cons rfl (keep_cons rfl (keep_cons rfl (keep_cons rfl (keep_cons rfl (keep_cons rfl (keep_cons rfl (keep_cons rfl keep_nil))))))))))⟩) | exact ⟨⟨_, S⟩, E.keep (keep_cons rfl (keep_cons rfl (keep_cons rfl (keep_cons rfl (keep_cons rfl (keep_cons rfl (keep_cons rfl (keep_cons rfl (keep_cons rfl (keep_cons rfl keep_nil))))))))))⟩
                      · have hb171n := hb171; first | replace hb171n := n1 hb171n | replace hb171n := n2 hb171n | replace hb171n := n3 hb171n | replace hb171n := n4 hb171n | replace hb171n := n5 hb171n | replace hb171n := n6 hb171n | skip
                        refine mix_guard_no E rfl rfl rfl rfl rfl hb171 rfl (by decide) ?_; clear E a; intro a E
                        refine mix_guard_no E rfl rfl rfl rfl rfl hb171 rfl (by decide) ?_; clear E a; intro a E
                        refine mix_guard_no E rfl rfl rfl rfl rfl hb171 rfl (by decide) ?_; clear E a; intro a E
                        refine mix_guard_no E rfl rfl rfl rfl rfl hb171 rfl (by decide) ?_; clear E a; intro a E
                        refine mix_guard_no E rfl rfl rfl rfl rfl hb171 rfl (by decide) ?_; clear E a; intro a E
                        refine mix_guard_no E rfl rfl rfl rfl rfl hb171 rfl (by decide) ?_; clear E a; intro a E
                        refine mix_guard_no E rfl rfl rfl rfl rfl hb171 rfl (by decide) ?_; clear E a; intro a E
                        refine mix_guard_no E rfl rfl rfl rfl rfl hb171 rfl (by decide) ?_; clear E a; intro a E
                        refine mix_guard_no E rfl rfl rfl rfl rfl hb171 rfl (by decide) ?_; clear E a; intro a E
                        refine mix_guard_no E rfl rfl rfl rfl rfl hb171 rfl (by decide) ?_; clear E a; intro a E
                        refine mix_guard_no E rfl rfl rfl rfl rfl hb171 rfl (by decide) ?_; clear E a; intro a E
                        refine mix_guard_no E rfl rfl rfl rfl rfl hb171 rfl (by decide) ?_; clear E a; intro a E
                        refine mix_guard_no E rfl rfl rfl rfl rfl hb171 rfl (by decide) ?_; clear E a; intro a E
                        refine mix_guard_no E rfl rfl rfl rfl rfl hb171 rfl (by decide) ?_; clear E a; intro a E
                        refine mix_guard_no E rfl rfl rfl rfl rfl hb171 rfl (by decide) ?_; clear E a; intro a E
                        refine mix_pure E rfl rfl rfl (by decide) (fun w h => rn_pick_no' E rfl rfl hb171 rfl) ?_; clear E a; intro a E
                        refine mix_pure E rfl rfl rfl (by decide) (fun w h => rn_move E rfl rfl) ?_; clear E a; intro a E
                        refine mix_guard_no E rfl rfl rfl rfl rfl rfl rfl (by decide) ?_; clear E a; intro a E
                        refine mix_guard_no E rfl rfl rfl rfl rfl rfl rfl (by decide) ?_; clear E a; intro a E
                        refine mix_guard_no E rfl rfl rfl rfl rfl rfl rfl (by decide) ?_; clear E a; intro a E
                        refine mix_guard_undef E rfl rfl rfl rfl rfl rfl (by decide) ?_; clear E a; intro a E
                        refine mix_guard_undef E rfl rfl rfl rfl rfl rfl (by decide) ?_; clear E a; intro a E
                        refine mix_guard_undef E rfl rfl rfl rfl rfl rfl (by decide) ?_; clear E a; intro a E
                        refine mix_guard_no E rfl rfl rfl rfl rfl rfl rfl (by decide) ?_; clear E a; intro a E
                        refine mix_pure E rfl rfl rfl (by decide) (fun w h => rn_pick_no' E rfl rfl rfl rfl) ?_; clear E a; intro a E
                        refine mix_nil ?_
                        refine joined_here ?_
                        first | (rw [decide_eq_false (show ¬ ((k[i]'hil).at_ < at') by omega)] at E; exact ⟨⟨_, S⟩, E.keep (keep_cons rfl (keep_cons rfl (keep_cons rfl (keep_cons rfl (keep_cons rfl (keep_cons rfl (keep_cons rfl (keep_cons rfl (keep_cons rfl (keep_cons rfl keep_nil))))))))))⟩) | (rw [decide_eq_false (show ¬ (f < at') by omega)] at E; exact ⟨⟨_, S⟩, E.keep (keep_cons rfl (keep_cons rfl (keep_cons rfl (keep_cons rfl (keep_cons rfl (keep_cons rfl (keep_cons rfl (keep_cons rfl (keep_cons rfl (keep_cons rfl keep_nil))))))))))⟩) | exact ⟨⟨_, S⟩, E.keep (keep_cons rfl (keep_cons rfl (keep_cons rfl (keep_cons rfl (keep_cons rfl (keep_cons rfl (keep_cons rfl (keep_cons rfl (keep_cons rfl (keep_cons rfl keep_nil))))))))))⟩
                    · have hb156n := hb156; first | replace hb156n := n1 hb156n | replace hb156n := n2 hb156n | replace hb156n := n3 hb156n | replace hb156n := n4 hb156n | replace hb156n := n5 hb156n | replace hb156n := n6 hb156n | skip
                      refine mix_guard_no E rfl rfl rfl rfl rfl hb156 rfl (by decide) ?_; clear E a; intro a E
                      refine mix_guard_no E rfl rfl rfl rfl rfl hb156 rfl (by decide) ?_; clear E a; intro a E
                      refine mix_guard_no E rfl rfl rfl rfl rfl hb156 rfl (by decide) ?_; clear E a; intro a E
                      refine mix_guard_no E rfl rfl rfl rfl rfl hb156 rfl (by decide) ?_; clear E a; intro a E
                      refine mix_guard_no E rfl rfl rfl rfl rfl hb156 rfl (by decide) ?_; clear E a; intro a E
                      refine mix_guard_no E rfl rfl rfl rfl rfl hb156 rfl (by decide) ?_; clear E a; intro a E
                      refine mix_guard_no E rfl rfl rfl rfl rfl hb156 rfl (by decide) ?_; clear E a; intro a E
                      refine mix_guard_no E rfl rfl rfl rfl rfl hb156 rfl (by decide) ?_; clear E a; intro a E
                      refine mix_guard_no E rfl rfl rfl rfl rfl hb156 rfl (by decide) ?_; clear E a; intro a E
                      refine mix_guard_no E rfl rfl rfl rfl rfl hb156 rfl (by decide) ?_; clear E a; intro a E
                      refine mix_guard_no E rfl rfl rfl rfl rfl hb156 rfl (by decide) ?_; clear E a; intro a E
                      refine mix_guard_no E rfl rfl rfl rfl rfl hb156 rfl (by decide) ?_; clear E a; intro a E
                      refine mix_guard_no E rfl rfl rfl rfl rfl hb156 rfl (by decide) ?_; clear E a; intro a E
                      refine mix_pure E rfl rfl rfl (by decide) (fun w h => rn_pick_no' E rfl rfl hb156 rfl) ?_; clear E a; intro a E
                      refine mix_pure E rfl rfl rfl (by decide) (fun w h => rn_move E rfl rfl) ?_; clear E a; intro a E
                      refine mix_guard_no E rfl rfl rfl rfl rfl rfl rfl (by decide) ?_; clear E a; intro a E
                      refine mix_guard_no E rfl rfl rfl rfl rfl rfl rfl (by decide) ?_; clear E a; intro a E
                      refine mix_guard_no E rfl rfl rfl rfl rfl rfl rfl (by decide) ?_; clear E a; intro a E
                      refine mix_guard_no E rfl rfl rfl rfl rfl rfl rfl (by decide) ?_; clear E a; intro a E
                      refine mix_guard_no E rfl rfl rfl rfl rfl rfl rfl (by decide) ?_; clear E a; intro a E
                      refine mix_guard_no E rfl rfl rfl rfl rfl rfl rfl (by decide) ?_; clear E a; intro a E
                      refine mix_guard_no E rfl rfl rfl rfl rfl rfl rfl (by decide) ?_; clear E a; intro a E
                      refine mix_guard_no E rfl rfl rfl rfl rfl rfl rfl (by decide) ?_; clear E a; intro a E
                      refine mix_guard_no E rfl rfl rfl rfl rfl rfl rfl (by decide) ?_; clear E a; intro a E
                      refine mix_guard_no E rfl rfl rfl rfl rfl rfl rfl (by decide) ?_; clear E a; intro a E
                      refine mix_guard_no E rfl rfl rfl rfl rfl rfl rfl (by decide) ?_; clear E a; intro a E
                      refine mix_guard_no E rfl rfl rfl rfl rfl rfl rfl (by decide) ?_; clear E a; intro a E
                      refine mix_guard_no E rfl rfl rfl rfl rfl rfl rfl (by decide) ?_; clear E a; intro a E
                      refine mix_guard_no E rfl rfl rfl rfl rfl rfl rfl (by decide) ?_; clear E a; intro a E
                      refine mix_guard_no E rfl rfl rfl rfl rfl rfl rfl (by decide) ?_; clear E a; intro a E
                      refine mix_pure E rfl rfl rfl (by decide) (fun w h => rn_pick_no' E rfl rfl rfl rfl) ?_; clear E a; intro a E
                      refine mix_pure E rfl rfl rfl (by decide) (fun w h => rn_move E rfl rfl) ?_; clear E a; intro a E
                      refine mix_guard_no E rfl rfl rfl rfl rfl rfl rfl (by decide) ?_; clear E a; intro a E
                      refine mix_guard_no E rfl rfl rfl rfl rfl rfl rfl (by decide) ?_; clear E a; intro a E
                      refine mix_guard_no E rfl rfl rfl rfl rfl rfl rfl (by decide) ?_; clear E a; intro a E
                      refine mix_guard_undef E rfl rfl rfl rfl rfl rfl (by decide) ?_; clear E a; intro a E
                      refine mix_guard_undef E rfl rfl rfl rfl rfl rfl (by decide) ?_; clear E a; intro a E
                      refine mix_guard_undef E rfl rfl rfl rfl rfl rfl (by decide) ?_; clear E a; intro a E
                      refine mix_guard_no E rfl rfl rfl rfl rfl rfl rfl (by decide) ?_; clear E a; intro a E
                      refine mix_pure E rfl rfl rfl (by decide) (fun w h => rn_pick_no' E rfl rfl rfl rfl) ?_; clear E a; intro a E
                      refine mix_nil ?_
                      refine joined_here ?_
                      first | (rw [decide_eq_false (show ¬ ((k[i]'hil).at_ < at') by omega)] at E; exact ⟨⟨_, S⟩, E.keep (keep_cons rfl (keep_cons rfl (keep_cons rfl (keep_cons rfl (keep_cons rfl (keep_cons rfl (keep_cons rfl (keep_cons rfl (keep_cons rfl (keep_cons rfl keep_nil))))))))))⟩) | (rw [decide_eq_false (show ¬ (f < at') by omega)] at E; exact ⟨⟨_, S⟩, E.keep (keep_cons rfl (keep_cons rfl (keep_cons rfl (keep_cons rfl (keep_cons rfl (keep_cons rfl (keep_cons rfl (keep_cons rfl (keep_cons rfl (keep_cons rfl keep_nil))))))))))⟩) | exact ⟨⟨_, S⟩, E.keep (keep_cons rfl (keep_cons rfl (keep_cons rfl (keep_cons rfl (keep_cons rfl (keep_cons rfl (keep_cons rfl (keep_cons rfl (keep_cons rfl (keep_cons rfl keep_nil))))))))))⟩
                  · have hb152n := hb152; first | replace hb152n := n1 hb152n | replace hb152n := n2 hb152n | replace hb152n := n3 hb152n | replace hb152n := n4 hb152n | replace hb152n := n5 hb152n | replace hb152n := n6 hb152n | skip
                    refine mix_guard_no E rfl rfl rfl rfl rfl hb152 rfl (by decide) ?_; clear E a; intro a E
                    refine mix_guard_no E rfl rfl rfl rfl rfl hb152 rfl (by decide) ?_; clear E a; intro a E
                    refine mix_pure E rfl rfl rfl (by decide) (fun w h => rn_pick_no' E rfl rfl hb152 rfl) ?_; clear E a; intro a E
                    refine mix_pure E rfl rfl rfl (by decide) (fun w h => rn_move E rfl rfl) ?_; clear E a; intro a E
                    refine mix_guard_no E rfl rfl rfl rfl rfl rfl rfl (by decide) ?_; clear E a; intro a E
                    refine mix_guard_no E rfl rfl rfl rfl rfl rfl rfl (by decide) ?_; clear E a; intro a E
                    refine mix_guard_no E rfl rfl rfl rfl rfl rfl rfl (by decide) ?_; clear E a; intro a E
                    refine mix_guard_no E rfl rfl rfl rfl rfl rfl rfl (by decide) ?_; clear E a; intro a E
                    refine mix_guard_no E rfl rfl rfl rfl rfl rfl rfl (by decide) ?_; clear E a; intro a E
                    refine mix_guard_no E rfl rfl rfl rfl rfl rfl rfl (by decide) ?_; clear E a; intro a E
                    refine mix_guard_no E rfl rfl rfl rfl rfl rfl rfl (by decide) ?_; clear E a; intro a E
                    refine mix_guard_no E rfl rfl rfl rfl rfl rfl rfl (by decide) ?_; clear E a; intro a E
                    refine mix_guard_no E rfl rfl rfl rfl rfl rfl rfl (by decide) ?_; clear E a; intro a E
                    refine mix_guard_no E rfl rfl rfl rfl rfl rfl rfl (by decide) ?_; clear E a; intro a E
                    refine mix_guard_no E rfl rfl rfl rfl rfl rfl rfl (by decide) ?_; clear E a; intro a E
                    refine mix_guard_no E rfl rfl rfl rfl rfl rfl rfl (by decide) ?_; clear E a; intro a E
                    refine mix_guard_no E rfl rfl rfl rfl rfl rfl rfl (by decide) ?_; clear E a; intro a E
                    refine mix_pure E rfl rfl rfl (by decide) (fun w h => rn_pick_no' E rfl rfl rfl rfl) ?_; clear E a; intro a E
                    refine mix_pure E rfl rfl rfl (by decide) (fun w h => rn_move E rfl rfl) ?_; clear E a; intro a E
                    refine mix_guard_no E rfl rfl rfl rfl rfl rfl rfl (by decide) ?_; clear E a; intro a E
                    refine mix_guard_no E rfl rfl rfl rfl rfl rfl rfl (by decide) ?_; clear E a; intro a E
                    refine mix_guard_no E rfl rfl rfl rfl rfl rfl rfl (by decide) ?_; clear E a; intro a E
                    refine mix_guard_no E rfl rfl rfl rfl rfl rfl rfl (by decide) ?_; clear E a; intro a E
                    refine mix_guard_no E rfl rfl rfl rfl rfl rfl rfl (by decide) ?_; clear E a; intro a E
                    refine mix_guard_no E rfl rfl rfl rfl rfl rfl rfl (by decide) ?_; clear E a; intro a E
                    refine mix_guard_no E rfl rfl rfl rfl rfl rfl rfl (by decide) ?_; clear E a; intro a E
                    refine mix_guard_no E rfl rfl rfl rfl rfl rfl rfl (by decide) ?_; clear E a; intro a E
                    refine mix_guard_no E rfl rfl rfl rfl rfl rfl rfl (by decide) ?_; clear E a; intro a E
                    refine mix_guard_no E rfl rfl rfl rfl rfl rfl rfl (by decide) ?_; clear E a; intro a E
                    refine mix_guard_no E rfl rfl rfl rfl rfl rfl rfl (by decide) ?_; clear E a; intro a E
                    refine mix_guard_no E rfl rfl rfl rfl rfl rfl rfl (by decide) ?_; clear E a; intro a E
                    refine mix_guard_no E rfl rfl rfl rfl rfl rfl rfl (by decide) ?_; clear E a; intro a E
                    refine mix_guard_no E rfl rfl rfl rfl rfl rfl rfl (by decide) ?_; clear E a; intro a E
                    refine mix_guard_no E rfl rfl rfl rfl rfl rfl rfl (by decide) ?_; clear E a; intro a E
                    refine mix_pure E rfl rfl rfl (by decide) (fun w h => rn_pick_no' E rfl rfl rfl rfl) ?_; clear E a; intro a E
                    refine mix_pure E rfl rfl rfl (by decide) (fun w h => rn_move E rfl rfl) ?_; clear E a; intro a E
                    refine mix_guard_no E rfl rfl rfl rfl rfl rfl rfl (by decide) ?_; clear E a; intro a E
                    refine mix_guard_no E rfl rfl rfl rfl rfl rfl rfl (by decide) ?_; clear E a; intro a E
                    refine mix_guard_no E rfl rfl rfl rfl rfl rfl rfl (by decide) ?_; clear E a; intro a E
                    refine mix_guard_undef E rfl rfl rfl rfl rfl rfl (by decide) ?_; clear E a; intro a E
                    refine mix_guard_undef E rfl rfl rfl rfl rfl rfl (by decide) ?_; clear E a; intro a E
                    refine mix_guard_undef E rfl rfl rfl rfl rfl rfl (by decide) ?_; clear E a; intro a E
                    refine mix_guard_no E rfl rfl rfl rfl rfl rfl rfl (by decide) ?_; clear E a; intro a E
                    refine mix_pure E rfl rfl rfl (by decide) (fun w h => rn_pick_no' E rfl rfl rfl rfl) ?_; clear E a; intro a E
                    refine mix_nil ?_
                    refine joined_here ?_
                    first | (rw [decide_eq_false (show ¬ ((k[i]'hil).at_ < at') by omega)] at E; exact ⟨⟨_, S⟩, E.keep (keep_cons rfl (keep_cons rfl (keep_cons rfl (keep_cons rfl (keep_cons rfl (keep_cons rfl (keep_cons rfl (keep_cons rfl (keep_cons rfl (keep_cons rfl keep_nil))))))))))⟩) | (rw [decide_eq_false (show ¬ (f < at') by omega)] at E; exact ⟨⟨_, S⟩, E.keep (keep_cons rfl (keep_cons rfl (keep_cons rfl (keep_cons rfl (keep_cons rfl (keep_cons rfl (keep_cons rfl (keep_cons rfl (keep_cons rfl (keep_cons rfl keep_nil))))))))))⟩) | exact ⟨⟨_, S⟩, E.keep (keep_cons rfl (keep_cons rfl (keep_cons rfl (keep_cons rfl (keep_cons rfl (keep_cons rfl (keep_cons rfl (keep_cons rfl (keep_cons rfl (keep_cons rfl keep_nil))))))))))⟩
                · clear E S a; intro a w J; obtain ⟨⟨Ls, S⟩, E⟩ := J
                  refine then_k hK ?_; clear hK; clear K
                  refine if_false' E rfl (rfl) ?_
                  refine wp_skip ?_
                  refine in_normal ?_
                  refine then_k hK ?_; clear hK; clear K
                  refine region_list ?_
                  refine list_pure E rfl rfl (by decide) (rn_move E rfl rfl) ?_; clear E a; intro a E
                  refine list_pure E rfl rfl (by decide) (rn_add E rfl rfl rfl (by first | exact wa_lit (y := 1) (by omega) | exact w_in (by omega) | exact w_inu (by omega) | exact rfl)) ?_; clear E a; intro a E
                  refine list_pure E rfl rfl (by decide) (rn_assign E rfl rfl) ?_; clear E a; intro a E
                  refine wpList_nil ?_
                  refine then_normal ?_
                  exact ⟨_, by omega, i + 1, rfl, by omega, ⟨_, S⟩, E.keep (keep_cons rfl (keep_cons rfl (keep_cons rfl (keep_cons rfl (keep_cons rfl (keep_cons rfl (keep_cons rfl (keep_cons rfl (keep_cons rfl keep_nil)))))))))⟩
              · first | replace hb := n1 hb | replace hb := n2 hb | replace hb := n3 hb | replace hb := n4 hb | replace hb := n5 hb | replace hb := n6 hb | skip
                have hmx : max (k[i]'hil).at_ f = (k[i]'hil).at_ := (by omega)
                refine wp_skip ?_
                refine then_k hK ?_; clear hK; clear K
                refine wp_seq_k ?_; intro K hK
                skip
                refine wp_join (fun (a : Act) (w' : World) => (∃ Ls, St w0 [O] w' (A :: D :: O :: Ls)) ∧ Fr a 204 [(2, .int .i64 n), (3, .int .i64 f), (17, .slice (some ⟨b, off, none⟩) k.length cD), (18, .bool true), (21, .bool true), (22, .int .i64 at'), (23, .bool is'), (24, .bool true), (25, .int .i64 i), (196, .bool false)]) ?_ ?_
                · skip
                  refine region_mix0 S [(0, 0), (1, 0), (2, 0), (3, 0), (4, 0), (5, 0), (6, 0), (7, 0), (8, 0), (9, 0), (10, 0), (11, 0), (12, 0), (13, 0), (14, 0), (15, 0), (16, 0), (17, 0), (18, 0), (19, 0), (20, 0), (21, 0), (22, 0), (23, 0), (24, 0), (25, 0), (26, 0), (27, 0), (28, 0), (29, 0), (30, 0), (31, 0), (32, 0), (33, 0), (34, 0), (35, 0), (36, 0), (37, 0), (38, 0), (39, 0), (40, 0), (41, 0), (42, 0), (43, 0), (44, 0), (45, 0), (46, 0)] (by kernel_rfl) (by kernel_rfl) ?_
                  clear S; intro w S
                  refine mix_pure E rfl rfl rfl (by decide) (fun w h => rn_move E rfl rfl) ?_; clear E a; intro a E
                  refine mix_pure E rfl rfl rfl (by decide) (fun w h => rn_geq E rfl rfl rfl) ?_; clear E a; intro a E
                  refine mix_pure E rfl rfl rfl (by decide) (fun w h => rn_move E rfl rfl) ?_; clear E a; intro a E
                  refine guard_split E (t := 152) rfl (fun hb152 => ?_) (fun hb152 => ?_)
                  · have hb152n := hb152; first | replace hb152n := n1 hb152n | replace hb152n := n2 hb152n | replace hb152n := n3 hb152n | replace hb152n := n4 hb152n | replace hb152n := n5 hb152n | replace hb152n := n6 hb152n | skip
                    refine mix_guard_yes E rfl rfl rfl rfl rfl hb152 rfl (by decide) (fun w h => rn_move E rfl rfl) ?_; clear E a; intro a E
                    refine mix_guard_yes E rfl rfl rfl rfl rfl hb152 rfl (by decide) (fun w h => rn_geq E rfl rfl rfl) ?_; clear E a; intro a E
                    refine mix_pure E rfl rfl rfl (by decide) (fun w h => rn_pick_yes' E rfl rfl hb152 rfl) ?_; clear E a; intro a E
                    refine mix_pure E rfl rfl rfl (by decide) (fun w h => rn_move E rfl rfl) ?_; clear E a; intro a E
                    refine guard_split E (t := 156) rfl (fun hb156 => ?_) (fun hb156 => ?_)
                    · have hb156n := hb156; first | replace hb156n := n1 hb156n | replace hb156n := n2 hb156n | replace hb156n := n3 hb156n | replace hb156n := n4 hb156n | replace hb156n := n5 hb156n | replace hb156n := n6 hb156n | skip
                      refine mix_guard_yes E rfl rfl rfl rfl rfl hb156 rfl (by decide) (fun w h => rn_move E rfl rfl) ?_; clear E a; intro a E
                      refine mix_guard_yes E rfl rfl rfl rfl rfl hb156 rfl (by decide) (fun w h => rn_move E rfl rfl) ?_; clear E a; intro a E
                      refine mix_guard_yes E rfl rfl rfl rfl rfl hb156 rfl (by decide) (fun w h => rn_move E rfl rfl) ?_; clear E a; intro a E
                      refine mix_guard_yes E rfl rfl rfl rfl rfl hb156 rfl (by decide) (fun w h => by first | exact rn_indexAddr1 E rfl rfl rfl rfl rfl rfl (by omega) | exact rn_indexAddr E rfl rfl rfl rfl rfl rfl (by omega) | exact rn_indexAddr_array E rfl rfl rfl rfl rfl rfl (by omega)) ?_; clear E a; intro a E
                      refine mix_guard_yes E rfl rfl rfl rfl rfl hb156 rfl (by decide) (fun w h => by first | exact rn_fieldAddr0 (q := 0) E rfl rfl rfl | exact rn_fieldAddr (q := 0) E rfl rfl rfl) ?_; clear E a; intro a E
                      refine mix_guard_yes E rfl rfl rfl rfl rfl hb156 rfl (by decide) (fun w h => rn_loadc E rfl rfl rfl (hD.rd.elem (lay := Sp.lay) Sp.lay_len (h.at (by first | exact mm1 | exact mm2 | exact mm3 | exact mm4 | exact mm5 | exact mm6 | exact mm7 | exact mm8)) hil 0 _ rfl)) ?_; clear E a; intro a E
                      refine mix_guard_yes E rfl rfl rfl rfl rfl hb156 rfl (by decide) (fun w h => rn_move E rfl rfl) ?_; clear E a; intro a E
                      refine mix_guard_yes E rfl rfl rfl rfl rfl hb156 rfl (by decide) (fun w h => rn_move E rfl rfl) ?_; clear E a; intro a E
                      refine mix_guard_yes E rfl rfl rfl rfl rfl hb156 rfl (by decide) (fun w h => by first | exact rn_indexAddr1 E rfl rfl rfl rfl rfl rfl (by omega) | exact rn_indexAddr E rfl rfl rfl rfl rfl rfl (by omega) | exact rn_indexAddr_array E rfl rfl rfl rfl rfl rfl (by omega)) ?_; clear E a; intro a E
                      refine mix_guard_yes E rfl rfl rfl rfl rfl hb156 rfl (by decide) (fun w h => by first | exact rn_fieldAddr0 (q := 1) E rfl rfl rfl | exact rn_fieldAddr (q := 1) E rfl rfl rfl) ?_; clear E a; intro a E
                      refine mix_guard_yes E rfl rfl rfl rfl rfl hb156 rfl (by decide) (fun w h => rn_loadc E rfl rfl rfl (hD.rd.elem (lay := Sp.lay) Sp.lay_len (h.at (by first | exact mm1 | exact mm2 | exact mm3 | exact mm4 | exact mm5 | exact mm6 | exact mm7 | exact mm8)) hil 1 _ rfl)) ?_; clear E a; intro a E
                      refine mix_guard_yes E rfl rfl rfl rfl rfl hb156 rfl (by decide) (fun w h => rn_add E rfl rfl rfl (by first | exact wa1 (by omega) | exact w_in (by omega) | exact w_inu (by omega) | exact rfl)) ?_; clear E a; intro a E
                      refine mix_guard_yes E rfl rfl rfl rfl rfl hb156 rfl (by decide) (fun w h => rn_leq E rfl rfl rfl) ?_; clear E a; intro a E
                      refine mix_pure E rfl rfl rfl (by decide) (fun w h => rn_pick_yes' E rfl rfl hb156 rfl) ?_; clear E a; intro a E
                      refine mix_pure E rfl rfl rfl (by decide) (fun w h => rn_move E rfl rfl) ?_; clear E a; intro a E
                      refine guard_split E (t := 171) rfl (fun hb171 => ?_) (fun hb171 => ?_)
                      · have hb171n := hb171; first | replace hb171n := n1 hb171n | replace hb171n := n2 hb171n | replace hb171n := n3 hb171n | replace hb171n := n4 hb171n | replace hb171n := n5 hb171n | replace hb171n := n6 hb171n | skip
                        refine mix_guard_yes E rfl rfl rfl rfl rfl hb171 rfl (by decide) (fun w h => rn_move E rfl rfl) ?_; clear E a; intro a E
                        refine mix_guard_yes E rfl rfl rfl rfl rfl hb171 rfl (by decide) (fun w h => rn_move E rfl rfl) ?_; clear E a; intro a E
                        refine mix_guard_yes E rfl rfl rfl rfl rfl hb171 rfl (by decide) (fun w h => rn_move E rfl rfl) ?_; clear E a; intro a E
                        refine mix_guard_yes E rfl rfl rfl rfl rfl hb171 rfl (by decide) (fun w h => by first | exact rn_indexAddr1 E rfl rfl rfl rfl rfl rfl (by omega) | exact rn_indexAddr E rfl rfl rfl rfl rfl rfl (by omega) | exact rn_indexAddr_array E rfl rfl rfl rfl rfl rfl (by omega)) ?_; clear E a; intro a E
                        refine mix_guard_yes E rfl rfl rfl rfl rfl hb171 rfl (by decide) (fun w h => by first | exact rn_fieldAddr0 (q := 0) E rfl rfl rfl | exact rn_fieldAddr (q := 0) E rfl rfl rfl) ?_; clear E a; intro a E
                        refine mix_guard_yes E rfl rfl rfl rfl rfl hb171 rfl (by decide) (fun w h => rn_loadc E rfl rfl rfl (hD.rd.elem (lay := Sp.lay) Sp.lay_len (h.at (by first | exact mm1 | exact mm2 | exact mm3 | exact mm4 | exact mm5 | exact mm6 | exact mm7 | exact mm8)) hil 0 _ rfl)) ?_; clear E a; intro a E
                        refine mix_guard_yes E rfl rfl rfl rfl rfl hb171 rfl (by decide) (fun w h => rn_move E rfl rfl) ?_; clear E a; intro a E
                        refine mix_guard_yes E rfl rfl rfl rfl rfl hb171 rfl (by decide) (fun w h => rn_move E rfl rfl) ?_; clear E a; intro a E
                        refine mix_guard_yes E rfl rfl rfl rfl rfl hb171 rfl (by decide) (fun w h => by first | exact rn_indexAddr1 E rfl rfl rfl rfl rfl rfl (by omega) | exact rn_indexAddr E rfl rfl rfl rfl rfl rfl (by omega) | exact rn_indexAddr_array E rfl rfl rfl rfl rfl rfl (by omega)) ?_; clear E a; intro a E
                        refine mix_guard_yes E rfl rfl rfl rfl rfl hb171 rfl (by decide) (fun w h => by first | exact rn_fieldAddr0 (q := 1) E rfl rfl rfl | exact rn_fieldAddr (q := 1) E rfl rfl rfl) ?_; clear E a; intro a E
                        refine mix_guard_yes E rfl rfl rfl rfl rfl hb171 rfl (by decide) (fun w h => rn_loadc E rfl rfl rfl (hD.rd.elem (lay := Sp.lay) Sp.lay_len (h.at (by first | exact mm1 | exact mm2 | exact mm3 | exact mm4 | exact mm5 | exact mm6 | exact mm7 | exact mm8)) hil 1 _ rfl)) ?_; clear E a; intro a E
                        refine mix_guard_yes E rfl rfl rfl rfl rfl hb171 rfl (by decide) (fun w h => rn_add E rfl rfl rfl (by first | exact wa1 (by omega) | exact w_in (by omega) | exact w_inu (by omega) | exact rfl)) ?_; clear E a; intro a E
                        refine mix_guard_yes E rfl rfl rfl rfl rfl hb171 rfl (by decide) (fun w h => rn_move E rfl rfl) ?_; clear E a; intro a E
                        refine mix_guard_yes E rfl rfl rfl rfl rfl hb171 rfl (by decide) (fun w h => rn_sub E rfl rfl rfl (by first | exact ws1 (by omega) (by omega) | exact w_in (by omega) | exact w_inu (by omega) | exact rfl)) ?_; clear E a; intro a E
                        refine mix_guard_yes E rfl rfl rfl rfl rfl hb171 rfl (by decide) (fun w h => rn_leq E rfl rfl rfl) ?_; clear E a; intro a E
                        refine mix_pure E rfl rfl rfl (by decide) (fun w h => rn_pick_yes' E rfl rfl hb171 rfl) ?_; clear E a; intro a E
                        refine mix_pure E rfl rfl rfl (by decide) (fun w h => rn_move E rfl rfl) ?_; clear E a; intro a E
                        refine guard_split E (t := 188) rfl (fun hb188 => ?_) (fun hb188 => ?_)
                        · have hb188n := hb188; first | replace hb188n := n1 hb188n | replace hb188n := n2 hb188n | replace hb188n := n3 hb188n | replace hb188n := n4 hb188n | replace hb188n := n5 hb188n | replace hb188n := n6 hb188n | skip
                          obtain ⟨at2, hq1, hq2⟩ := hfst (by omega) (by omega) (List.getElem_mem hil) (by simp only [Sp.fin] at *; omega) (by simp only [Sp.fin] at *; omega); rw [hfe] at hq1; cases hq1
                          refine mix_guard_yes E rfl rfl rfl rfl rfl hb188 rfl (by decide) (fun w h => rn_move E rfl rfl) ?_; clear E a; intro a E
                          refine mix_guard_yes E rfl rfl rfl rfl rfl hb188 rfl (by decide) (fun w h => rn_not E rfl rfl) ?_; clear E a; intro a E
                          refine mix_guard_yes E rfl rfl rfl rfl rfl hb188 rfl (by decide) (fun w h => rn_move E rfl rfl) ?_; clear E a; intro a E
                          refine guard_false E (t := 191) rfl (rfl) (fun hb191 => ?_)
                          refine mix_guard_yes E rfl rfl rfl rfl rfl hb191 rfl (by decide) (fun w h => rn_move E rfl rfl) ?_; clear E a; intro a E
                          refine mix_guard_yes E rfl rfl rfl rfl rfl hb191 rfl (by decide) (fun w h => rn_move E rfl rfl) ?_; clear E a; intro a E
                          refine mix_guard_yes E rfl rfl rfl rfl rfl hb191 rfl (by decide) (fun w h => rn_gtr E rfl rfl rfl) ?_; clear E a; intro a E
                          refine mix_guard_yes E rfl rfl rfl rfl rfl hb188 rfl (by decide) (fun w h => rn_pick_no' E rfl rfl hb191 rfl) ?_; clear E a; intro a E
                          refine mix_pure E rfl rfl rfl (by decide) (fun w h => rn_pick_yes' E rfl rfl hb188 rfl) ?_; clear E a; intro a E
                          refine mix_nil ?_
                          refine joined_here ?_
                          first | (rw [decide_eq_false (show ¬ ((k[i]'hil).at_ < at') by omega)] at E; exact ⟨⟨_, S⟩, E.keep (keep_cons rfl (keep_cons rfl (keep_cons rfl (keep_cons rfl (keep_cons rfl (keep_cons rfl (keep_cons rfl (keep_cons rfl (keep_cons rfl (keep_cons rfl keep_nil))))))))))⟩) | (rw [decide_eq_false (show ¬ (f < at') by omega)] at E; exact ⟨⟨_, S⟩, E.keep (keep_cons rfl (keep_cons rfl (keep_cons rfl (keep_cons rfl (keep_cons rfl (keep_cons rfl (keep_cons rfl (keep_cons rfl (keep_cons rfl (keep_cons rfl keep_nil))))))))))⟩) | exact ⟨⟨_, S⟩, E.keep (keep_cons rfl (keep_cons rfl (keep_cons rfl (keep_cons rfl (keep_cons rfl (keep_cons rfl (keep_cons rfl (keep_cons rfl (keep_cons rfl (keep_cons rfl keep_nil))))))))))⟩
                        · have hb188n := hb188; first | replace hb188n := n1 hb188n | replace hb188n := n2 hb188n | replace hb188n := n3 hb188n | replace hb188n := n4 hb188n | replace hb188n := n5 hb188n | replace hb188n := n6 hb188n | skip
                          skip
                          refine mix_guard_no E rfl rfl rfl rfl rfl hb188 rfl (by decide) ?_; clear E a; intro a E
                          refine mix_guard_no E rfl rfl rfl rfl rfl hb188 rfl (by decide) ?_; clear E a; intro a E
                          refine mix_guard_no E rfl rfl rfl rfl rfl hb188 rfl (by decide) ?_; clear E a; intro a E
                          refine mix_guard_undef E rfl rfl rfl rfl rfl rfl (by decide) ?_; clear E a; intro a E
                          refine mix_guard_undef E rfl rfl rfl rfl rfl rfl (by decide) ?_; clear E a; intro a E
                          refine mix_guard_undef E rfl rfl rfl rfl rfl rfl (by decide) ?_; clear E a; intro a E
                          refine mix_guard_no E rfl rfl rfl rfl rfl hb188 rfl (by decide) ?_; clear E a; intro a E
                          refine mix_pure E rfl rfl rfl (by decide) (fun w h => rn_pick_no' E rfl rfl hb188 rfl) ?_; clear E a; intro a E
                          refine mix_nil ?_
                          refine joined_here ?_
                          first | (rw [decide_eq_false (show ¬ ((k[i]'hil).at_ < at') by omega)] at E; exact ⟨⟨_, S⟩, E.keep (keep_cons rfl (keep_cons rfl (keep_cons rfl (keep_cons rfl (keep_cons rfl (keep_cons rfl (keep_cons rfl (keep_cons rfl (keep_cons rfl (keep_cons rfl keep_nil))))))))))⟩) | (rw [decide_eq_false (show ¬ (f < at') by omega)] at E; exact ⟨⟨_, S⟩, E.keep (keep_cons rfl (keep_cons rfl (keep_cons rfl (keep_cons rfl (keep_cons rfl (keep_cons rfl (keep_cons rfl (keep_cons rfl (keep_cons rfl (keep_cons rfl keep_nil))))))))))⟩) | exact ⟨⟨_, S⟩, E.keep (keep_cons rfl (keep_cons rfl (keep_cons rfl (keep_cons rfl (keep_cons rfl (keep_cons rfl (keep_cons rfl (keep_cons rfl (keep_cons rfl (keep_cons rfl keep_nil))))))))))⟩
                      · have hb171n := hb171; first | replace hb171n := n1 hb171n | replace hb171n := n2 hb171n | replace hb171n := n3 hb171n | replace hb171n := n4 hb171n | replace hb171n := n5 hb171n | replace hb171n := n6 hb171n | skip
                        refine mix_guard_no E rfl rfl rfl rfl rfl hb171 rfl (by decide) ?_; clear E a; intro a E
                        refine mix_guard_no E rfl rfl rfl rfl rfl hb171 rfl (by decide) ?_; clear E a; intro a E
                        refine mix_guard_no E rfl rfl rfl rfl rfl hb171 rfl (by decide) ?_; clear E a; intro a E
                        refine mix_guard_no E rfl rfl rfl rfl rfl hb171 rfl (by decide) ?_; clear E a; intro a E
                        refine mix_guard_no E rfl rfl rfl rfl rfl hb171 rfl (by decide) ?_; clear E a; intro a E
                        refine mix_guard_no E rfl rfl rfl rfl rfl hb171 rfl (by decide) ?_; clear E a; intro a E
                        refine mix_guard_no E rfl rfl rfl rfl rfl hb171 rfl (by decide) ?_; clear E a; intro a E
                        refine mix_guard_no E rfl rfl rfl rfl rfl hb171 rfl (by decide) ?_; clear E a; intro a E
                        refine mix_guard_no E rfl rfl rfl rfl rfl hb171 rfl (by decide) ?_; clear E a; intro a E
                        refine mix_guard_no E rfl rfl rfl rfl rfl hb171 rfl (by decide) ?_; clear E a; intro a E
                        refine mix_guard_no E rfl rfl rfl rfl rfl hb171 rfl (by decide) ?_; clear E a; intro a E
                        refine mix_guard_no E rfl rfl rfl rfl rfl hb171 rfl (by decide) ?_; clear E a; intro a E
                        refine mix_guard_no E rfl rfl rfl rfl rfl hb171 rfl (by decide) ?_; clear E a; intro a E
                        refine mix_guard_no E rfl rfl rfl rfl rfl hb171 rfl (by decide) ?_; clear E a; intro a E
                        refine mix_guard_no E rfl rfl rfl rfl rfl hb171 rfl (by decide) ?_; clear E a; intro a E
                        refine mix_pure E rfl rfl rfl (by decide) (fun w h => rn_pick_no' E rfl rfl hb171 rfl) ?_; clear E a; intro a E
                        refine mix_pure E rfl rfl rfl (by decide) (fun w h => rn_move E rfl rfl) ?_; clear E a; intro a E
                        refine mix_guard_no E rfl rfl rfl rfl rfl rfl rfl (by decide) ?_; clear E a; intro a E
                        refine mix_guard_no E rfl rfl rfl rfl rfl rfl rfl (by decide) ?_; clear E a; intro a E
                        refine mix_guard_no E rfl rfl rfl rfl rfl rfl rfl (by decide) ?_; clear E a; intro a E
                        refine mix_guard_undef E rfl rfl rfl rfl rfl rfl (by decide) ?_; clear E a; intro a E
                        refine mix_guard_undef E rfl rfl rfl rfl rfl rfl (by decide) ?_; clear E a; intro a E
                        refine mix_guard_undef E rfl rfl rfl rfl rfl rfl (by decide) ?_; clear E a; intro a E
                        refine mix_guard_no E rfl rfl rfl rfl rfl rfl rfl (by decide) ?_; clear E a; intro a E
                        refine mix_pure E rfl rfl rfl (by decide) (fun w h => rn_pick_no' E rfl rfl rfl rfl) ?_; clear E a; intro a E
                        refine mix_nil ?_
                        refine joined_here ?_
                        first | (rw [decide_eq_false (show ¬ ((k[i]'hil).at_ < at') by omega)] at E; exact ⟨⟨_, S⟩, E.keep (keep_cons rfl (keep_cons rfl (keep_cons rfl (keep_cons rfl (keep_cons rfl (keep_cons rfl (keep_cons rfl (keep_cons rfl (keep_cons rfl (keep_cons rfl keep_nil))))))))))⟩) | (rw [decide_eq_false (show ¬ (f < at') by omega)] at E; exact ⟨⟨_, S⟩, E.keep (keep_cons rfl (keep_cons rfl (keep_cons rfl (keep_cons rfl (keep_cons rfl (keep_cons rfl (keep_cons rfl (keep_cons rfl (keep_cons rfl (keep_cons rfl keep_nil))))))))))⟩) | exact ⟨⟨_, S⟩, E.keep (keep_cons rfl (keep_cons rfl (keep_cons rfl (keep_cons rfl (keep_cons rfl (keep_cons rfl (keep_cons rfl (keep_cons rfl (keep_cons rfl (keep_cons rfl keep_nil))))))))))⟩
                    · have hb156n := hb156; first | replace hb156n := n1 hb156n | replace hb156n := n2 hb156n | replace hb156n := n3 hb156n | replace hb156n := n4 hb156n | replace hb156n := n5 hb156n | replace hb156n := n6 hb156n | skip
                      refine mix_guard_no E rfl rfl rfl rfl rfl hb156 rfl (by decide) ?_; clear E a; intro a E
                      refine mix_guard_no E rfl rfl rfl rfl rfl hb156 rfl (by decide) ?_; clear E a; intro a E
                      refine mix_guard_no E rfl rfl rfl rfl rfl hb156 rfl (by decide) ?_; clear E a; intro a E
                      refine mix_guard_no E rfl rfl rfl rfl rfl hb156 rfl (by decide) ?_; clear E a; intro a E
                      refine mix_guard_no E rfl rfl rfl rfl rfl hb156 rfl (by decide) ?_; clear E a; intro a E
                      refine mix_guard_no E rfl rfl rfl rfl rfl hb156 rfl (by decide) ?_; clear E a; intro a E
                      refine mix_guard_no E rfl rfl rfl rfl rfl hb156 rfl (by decide) ?_; clear E a; intro a E
                      refine mix_guard_no E rfl rfl rfl rfl rfl hb156 rfl (by decide) ?_; clear E a; intro a E
                      refine mix_guard_no E rfl rfl rfl rfl rfl hb156 rfl (by decide) ?_; clear E a; intro a E
                      refine mix_guard_no E rfl rfl rfl rfl rfl hb156 rfl (by decide) ?_; clear E a; intro a E
                      refine mix_guard_no E rfl rfl rfl rfl rfl hb156 rfl (by decide) ?_; clear E a; intro a E
                      refine mix_guard_no E rfl rfl rfl rfl rfl hb156 rfl (by decide) ?_; clear E a; intro a E
                      refine mix_guard_no E rfl rfl rfl rfl rfl hb156 rfl (by decide) ?_; clear E a; intro a E
                      refine mix_pure E rfl rfl rfl (by decide) (fun w h => rn_pick_no' E rfl rfl hb156 rfl) ?_; clear E a; intro a E
                      refine mix_pure E rfl rfl rfl (by decide) (fun w h => rn_move E rfl rfl) ?_; clear E a; intro a E
                      refine mix_guard_no E rfl rfl rfl rfl rfl rfl rfl (by decide) ?_; clear E a; intro a E
                      refine mix_guard_no E rfl rfl rfl rfl rfl rfl rfl (by decide) ?_; clear E a; intro a E
                      refine mix_guard_no E rfl rfl rfl rfl rfl rfl rfl (by decide) ?_; clear E a; intro a E
                      refine mix_guard_no E rfl rfl rfl rfl rfl rfl rfl (by decide) ?_; clear E a; intro a E
                      refine mix_guard_no E rfl rfl rfl rfl rfl rfl rfl (by decide) ?_; clear E a; intro a E
                      refine mix_guard_no E rfl rfl rfl rfl rfl rfl rfl (by decide) ?_; clear E a; intro a E
                      refine mix_guard_no E rfl rfl rfl rfl rfl rfl rfl (by decide) ?_; clear E a; intro a E
                      refine mix_guard_no E rfl rfl rfl rfl rfl rfl rfl (by decide) ?_; clear E a; intro a E
                      refine mix_guard_no E rfl rfl rfl rfl rfl rfl rfl (by decide) ?_; clear E a; intro a E
                      refine mix_guard_no E rfl rfl rfl rfl rfl rfl rfl (by decide) ?_; clear E a; intro a E
                      refine mix_guard_no E rfl rfl rfl rfl rfl rfl rfl (by decide) ?_; clear E a; intro a E
                      refine mix_guard_no E rfl rfl rfl rfl rfl rfl rfl (by decide) ?_; clear E a; intro a E
                      refine mix_guard_no E rfl rfl rfl rfl rfl rfl rfl (by decide) ?_; clear E a; intro a E
                      refine mix_guard_no E rfl rfl rfl rfl rfl rfl rfl (by decide) ?_; clear E a; intro a E
                      refine mix_guard_no E rfl rfl rfl rfl rfl rfl rfl (by decide) ?_; clear E a; intro a E
                      refine mix_pure E rfl rfl rfl (by decide) (fun w h => rn_pick_no' E rfl rfl rfl rfl) ?_; clear E a; intro a E
                      refine mix_pure E rfl rfl rfl (by decide) (fun w h => rn_move E rfl rfl) ?_; clear E a; intro a E
                      refine mix_guard_no E rfl rfl rfl rfl rfl rfl rfl (by decide) ?_; clear E a; intro a E
                      refine mix_guard_no E rfl rfl rfl rfl rfl rfl rfl (by decide) ?_; clear E a; intro a E
                      refine mix_guard_no E rfl rfl rfl rfl rfl rfl rfl (by decide) ?_; clear E a; intro a E
                      refine mix_guard_undef E rfl rfl rfl rfl rfl rfl (by decide) ?_; clear E a; intro a E
                      refine mix_guard_undef E rfl rfl rfl rfl rfl rfl (by decide) ?_; clear E a; intro a E
                      refine mix_guard_undef E rfl rfl rfl rfl rfl rfl (by decide) ?_; clear E a; intro a E
                      refine mix_guard_no E rfl rfl rfl rfl rfl rfl rfl (by decide) ?_; clear E a; intro a E
                      refine mix_pure E rfl rfl rfl (by decide) (fun w h => rn_pick_no' E rfl rfl rfl rfl) ?_; clear E a; intro a E
                      refine mix_nil ?_
                      refine joined_here ?_
                      first | (rw [decide_eq_false (show ¬ ((k[i]'hil).at_ < at') by omega)] at E; exact ⟨⟨_, S⟩, E.keep (keep_cons rfl (keep_cons rfl (keep_cons rfl (keep_cons rfl (keep_cons rfl (keep_cons rfl (keep_cons rfl (keep_cons rfl (keep_cons rfl (keep_cons rfl keep_nil))))))))))⟩) | (rw [decide_eq_false (show ¬ (f < at') by omega)] at E; exact ⟨⟨_, S⟩, E.keep (keep_cons rfl (keep_cons rfl (keep_cons rfl (keep_cons rfl (keep_cons rfl (keep_cons rfl (keep_cons rfl (keep_cons rfl (keep_cons rfl (keep_cons rfl keep_nil))))))))))⟩) | exact ⟨⟨_, S⟩, E.keep (keep_cons rfl (keep_cons rfl (keep_cons rfl (keep_cons rfl (keep_cons rfl (keep_cons rfl (keep_cons rfl (keep_cons rfl (keep_cons rfl (keep_cons rfl keep_nil))))))))))⟩
                  · have hb152n := hb152; first | replace hb152n := n1 hb152n | replace hb152n := n2 hb152n | replace hb152n := n3 hb152n | replace hb152n := n4 hb152n | replace hb152n := n5 hb152n | replace hb152n := n6 hb152n | skip
                    refine mix_guard_no E rfl rfl rfl rfl rfl hb152 rfl (by decide) ?_; clear E a; intro a E
                    refine mix_guard_no E rfl rfl rfl rfl rfl hb152 rfl (by decide) ?_; clear E a; intro a E
                    refine mix_pure E rfl rfl rfl (by decide) (fun w h => rn_pick_no' E rfl rfl hb152 rfl) ?_; clear E a; intro a E
                    refine mix_pure E rfl rfl rfl (by decide) (fun w h => rn_move E rfl rfl) ?_; clear E a; intro a E
                    refine mix_guard_no E rfl rfl rfl rfl rfl rfl rfl (by decide) ?_; clear E a; intro a E
                    refine mix_guard_no E rfl rfl rfl rfl rfl rfl rfl (by decide) ?_; clear E a; intro a E
                    refine mix_guard_no E rfl rfl rfl rfl rfl rfl rfl (by decide) ?_; clear E a; intro a E
                    refine mix_guard_no E rfl rfl rfl rfl rfl rfl rfl (by decide) ?_; clear E a; intro a E
                    refine mix_guard_no E rfl rfl rfl rfl rfl rfl rfl (by decide) ?_; clear E a; intro a E
                    refine mix_guard_no E rfl rfl rfl rfl rfl rfl rfl (by decide) ?_; clear E a; intro a E
                    refine mix_guard_no E rfl rfl rfl rfl rfl rfl rfl (by decide) ?_; clear E a; intro a E
                    refine mix_guard_no E rfl rfl rfl rfl rfl rfl rfl (by decide) ?_; clear E a; intro a E
                    refine mix_guard_no E rfl rfl rfl rfl rfl rfl rfl (by decide) ?_; clear E a; intro a E
                    refine mix_guard_no E rfl rfl rfl rfl rfl rfl rfl (by decide) ?_; clear E a; intro a E
                    refine mix_guard_no E rfl rfl rfl rfl rfl rfl rfl (by decide) ?_; clear E a; intro a E
                    refine mix_guard_no E rfl rfl rfl rfl rfl rfl rfl (by decide) ?_; clear E a; intro a E
                    refine mix_guard_no E rfl rfl rfl rfl rfl rfl rfl (by decide) ?_; clear E a; intro a E
                    refine mix_pure E rfl rfl rfl (by decide) (fun w h => rn_pick_no' E rfl rfl rfl rfl) ?_; clear E a; intro a E
                    refine mix_pure E rfl rfl rfl (by decide) (fun w h => rn_move E rfl rfl) ?_; clear E a; intro a E
                    refine mix_guard_no E rfl rfl rfl rfl rfl rfl rfl (by decide) ?_; clear E a; intro a E
                    refine mix_guard_no E rfl rfl rfl rfl rfl rfl rfl (by decide) ?_; clear E a; intro a E
                    refine mix_guard_no E rfl rfl rfl rfl rfl rfl rfl (by decide) ?_; clear E a; intro a E
                    refine mix_guard_no E rfl rfl rfl rfl rfl rfl rfl (by decide) ?_; clear E a; intro a E
                    refine mix_guard_no E rfl rfl rfl rfl rfl rfl rfl (by decide) ?_; clear E a; intro a E
                    refine mix_guard_no E rfl rfl rfl rfl rfl rfl rfl (by decide) ?_; clear E a; intro a E
                    refine mix_guard_no E rfl rfl rfl rfl rfl rfl rfl (by decide) ?_; clear E a; intro a E
                    refine mix_guard_no E rfl rfl rfl rfl rfl rfl rfl (by decide) ?_; clear E a; intro a E
                    refine mix_guard_no E rfl rfl rfl rfl rfl rfl rfl (by decide) ?_; clear E a; intro a E
                    refine mix_guard_no E rfl rfl rfl rfl rfl rfl rfl (by decide) ?_; clear E a; intro a E
                    refine mix_guard_no E rfl rfl rfl rfl rfl rfl rfl (by decide) ?_; clear E a; intro a E
                    refine mix_guard_no E rfl rfl rfl rfl rfl rfl rfl (by decide) ?_; clear E a; intro a E
                    refine mix_guard_no E rfl rfl rfl rfl rfl rfl rfl (by decide) ?_; clear E a; intro a E
                    refine mix_guard_no E rfl rfl rfl rfl rfl rfl rfl (by decide) ?_; clear E a; intro a E
                    refine mix_guard_no E rfl rfl rfl rfl rfl rfl rfl (by decide) ?_; clear E a; intro a E
                    refine mix_pure E rfl rfl rfl (by decide) (fun w h => rn_pick_no' E rfl rfl rfl rfl) ?_; clear E a; intro a E
                    refine mix_pure E rfl rfl rfl (by decide) (fun w h => rn_move E rfl rfl) ?_; clear E a; intro a E
                    refine mix_guard_no E rfl rfl rfl rfl rfl rfl rfl (by decide) ?_; clear E a; intro a E
                    refine mix_guard_no E rfl rfl rfl rfl rfl rfl rfl (by decide) ?_; clear E a; intro a E
                    refine mix_guard_no E rfl rfl rfl rfl rfl rfl rfl (by decide) ?_; clear E a; intro a E
                    refine mix_guard_undef E rfl rfl rfl rfl rfl rfl (by decide) ?_; clear E a; intro a E
                    refine mix_guard_undef E rfl rfl rfl rfl rfl rfl (by decide) ?_; clear E a; intro a E
                    refine mix_guard_undef E rfl rfl rfl rfl rfl rfl (by decide) ?_; clear E a; intro a E
                    refine mix_guard_no E rfl rfl rfl rfl rfl rfl rfl (by decide) ?_; clear E a; intro a E
                    refine mix_pure E rfl rfl rfl (by decide) (fun w h => rn_pick_no' E rfl rfl rfl rfl) ?_; clear E a; intro a E
                    refine mix_nil ?_
                    refine joined_here ?_
                    first | (rw [decide_eq_false (show ¬ ((k[i]'hil).at_ < at') by omega)] at E; exact ⟨⟨_, S⟩, E.keep (keep_cons rfl (keep_cons rfl (keep_cons rfl (keep_cons rfl (keep_cons rfl (keep_cons rfl (keep_cons rfl (keep_cons rfl (keep_cons rfl (keep_cons rfl keep_nil))))))))))⟩) | (rw [decide_eq_false (show ¬ (f < at') by omega)] at E; exact ⟨⟨_, S⟩, E.keep (keep_cons rfl (keep_cons rfl (keep_cons rfl (keep_cons rfl (keep_cons rfl (keep_cons rfl (keep_cons rfl (keep_cons rfl (keep_cons rfl (keep_cons rfl keep_nil))))))))))⟩) | exact ⟨⟨_, S⟩, E.keep (keep_cons rfl (keep_cons rfl (keep_cons rfl (keep_cons rfl (keep_cons rfl (keep_cons rfl (keep_cons rfl (keep_cons rfl (keep_cons rfl (keep_cons rfl keep_nil))))))))))⟩
                · clear E S a; intro a w J; obtain ⟨⟨Ls, S⟩, E⟩ := J
                  refine then_k hK ?_; clear hK; clear K
                  refine if_false' E rfl (rfl) ?_
                  refine wp_skip ?_
                  refine in_normal ?_
                  refine then_k hK ?_; clear hK; clear K
                  refine region_list ?_
                  refine list_pure E rfl rfl (by decide) (rn_move E rfl rfl) ?_; clear E a; intro a E
                  refine list_pure E rfl rfl (by decide) (rn_add E rfl rfl rfl (by first | exact wa_lit (y := 1) (by omega) | exact w_in (by omega) | exact w_inu (by omega) | exact rfl)) ?_; clear E a; intro a E
                  refine list_pure E rfl rfl (by decide) (rn_assign E rfl rfl) ?_; clear E a; intro a E
                  refine wpList_nil ?_
                  refine then_normal ?_
                  exact ⟨_, by omega, i + 1, rfl, by omega, ⟨_, S⟩, E.keep (keep_cons rfl (keep_cons rfl (keep_cons rfl (keep_cons rfl (keep_cons rfl (keep_cons rfl (keep_cons rfl (keep_cons rfl (keep_cons rfl keep_nil)))))))))⟩
            · first | replace hb := n1 hb | replace hb := n2 hb | replace hb := n3 hb | replace hb := n4 hb | replace hb := n5 hb | replace hb := n6 hb | skip
              refine wp_exit ?_
              refine then_exit ?_; clear hK; clear K
              refine then_exit ?_
              refine in_exit ?_
              refine then_k hK ?_; clear hK; clear K
              refine wp_seq_k ?_; intro K hK
              refine region_list ?_
              refine list_pure E rfl rfl (by decide) (rn_move E rfl rfl) ?_; clear E a; intro a E
              refine list_pure E rfl rfl (by decide) (rn_move E rfl rfl) ?_; clear E a; intro a E
              refine guard_true E (t := 198) rfl (rfl) (fun hb198 => ?_)
              refine list_guard_yes E rfl rfl rfl rfl hb198 rfl (by decide) (rn_move E rfl rfl) ?_; clear E a; intro a E
              refine list_pure E rfl rfl (by decide) (rn_pick_yes' E rfl rfl hb198 rfl) ?_; clear E a; intro a E
              refine list_pure E rfl rfl (by decide) (rn_move E rfl rfl) ?_; clear E a; intro a E
              refine guard_true E (t := 201) rfl (rfl) (fun hb201 => ?_)
              refine list_guard_yes E rfl rfl rfl rfl hb201 rfl (by decide) (rn_move E rfl rfl) ?_; clear E a; intro a E
              refine list_pure E rfl rfl (by decide) (rn_pick_yes' E rfl rfl hb201 rfl) ?_; clear E a; intro a E
              refine list_pure E rfl rfl (by decide) (rn_assign E rfl rfl) ?_; clear E a; intro a E
              refine wpList_nil ?_
              refine then_k hK ?_; clear hK; clear K
              refine wp_ret ?_
              refine ret1 E rfl rfl ?_
              exact ⟨_, rfl, rfl, (S.only (Bs := [O]) (sel_cons (by first | exact pk1 | exact pk2 | exact pk3 | exact pk4 | exact pk5 | exact pk6 | exact pk7 | exact pk8 | exact pk9) (sel_nil _))).tr⟩
        · first | replace hb := n1 hb | replace hb := n2 hb | replace hb := n3 hb | replace hb := n4 hb | replace hb := n5 hb | replace hb := n6 hb | skip
          rw [addS_no hb] at hB1
          refine wp_skip ?_
          refine then_k hK ?_; clear hK; clear K
          refine wp_seq_k ?_; intro K hK
          replace E := E.keep (e' := [(2, _), (3, _), (10, _), (11, _), (17, _), (18, _)]) (keep_cons rfl (keep_cons rfl (keep_cons rfl (keep_cons rfl (keep_cons rfl (keep_cons rfl (keep_nil)))))))
          refine region_list ?_
          refine list_pure E rfl rfl (by decide) (rn_move E rfl rfl) ?_; clear E a; intro a E
          refine list_call E rfl rfl (by decide) rfl Try.func21 rfl (by kernel_rfl) rfl (all_ret pt k _ _ _ hB1 hG.len (S.hp.sel (sel_cons (by first | exact pk1 | exact pk2 | exact pk3 | exact pk4 | exact pk5 | exact pk6 | exact pk7 | exact pk8 | exact pk9) (sel_nil _)))) ?_
          rintro v97 w ⟨D3, hD3, hT⟩; clear E a; intro a E
          have S := S.call2 (sel_cons (by first | exact pk1 | exact pk2 | exact pk3 | exact pk4 | exact pk5 | exact pk6 | exact pk7 | exact pk8 | exact pk9) (sel_nil _)) hT
          refine list_pure E rfl rfl (by decide) (rn_move E rfl rfl) ?_; clear E a; intro a E
          refine list_call E rfl rfl (by decide) rfl Try.func23 rfl (by kernel_rfl) rfl (same_ret D3 D _ _ k k hD3.rd hD.rd _ (S.hp.sel (sel_cons (by first | exact pk1 | exact pk2 | exact pk3 | exact pk4 | exact pk5 | exact pk6 | exact pk7 | exact pk8 | exact pk9) (sel_cons (by first | exact pk1 | exact pk2 | exact pk3 | exact pk4 | exact pk5 | exact pk6 | exact pk7 | exact pk8 | exact pk9) (sel_nil _))))) ?_
          rintro v99 w ⟨rfl, hT⟩; clear E a; intro a E
          have S := S.call2 (sel_cons (by first | exact pk1 | exact pk2 | exact pk3 | exact pk4 | exact pk5 | exact pk6 | exact pk7 | exact pk8 | exact pk9) (sel_cons (by first | exact pk1 | exact pk2 | exact pk3 | exact pk4 | exact pk5 | exact pk6 | exact pk7 | exact pk8 | exact pk9) (sel_nil _))) hT; rw [show decide (k = k) = true by simp] at E
          refine list_pure E rfl rfl (by decide) (rn_assign E rfl rfl) ?_; clear E a; intro a E
          refine wpList_nil ?_
          refine then_k hK ?_; clear hK; clear K
          refine wp_seq_k ?_; intro K hK
          refine region_list ?_
          refine list_pure E rfl rfl (by decide) (rn_move E rfl rfl) ?_; clear E a; intro a E
          refine list_pure E rfl rfl (by decide) (rn_move E rfl rfl) ?_; clear E a; intro a E
          refine list_pure E rfl rfl (by decide) (rn_move E rfl rfl) ?_; clear E a; intro a E
          refine list_call E rfl rfl (by decide) rfl Try.func16 rfl (by kernel_rfl) rfl (find_ret ps k _ n f A _ hA hG hn.2 hf.2 (S.hp.sel (sel_cons (by first | exact pk1 | exact pk2 | exact pk3 | exact pk4 | exact pk5 | exact pk6 | exact pk7 | exact pk8 | exact pk9) (sel_nil _)))) ?_
          rintro v104 w ⟨rfl, hT⟩; clear E a; intro a E
          have S := S.call1 (sel_cons (by first | exact pk1 | exact pk2 | exact pk3 | exact pk4 | exact pk5 | exact pk6 | exact pk7 | exact pk8 | exact pk9) (sel_nil _)) hT; obtain ⟨adD, cD, rfl⟩ := hD.slice
          refine list_pure E rfl rfl (by decide) (rn_move E rfl rfl) ?_; clear E a; intro a E
          refine list_pure E rfl rfl (by decide) (rn_extract E rfl rfl rfl) ?_; clear E a; intro a E
          refine list_pure E rfl rfl (by decide) (rn_extract E rfl rfl rfl) ?_; clear E a; intro a E
          refine list_pure E rfl rfl (by decide) (rn_assign E rfl rfl) ?_; clear E a; intro a E
          refine list_pure E rfl rfl (by decide) (rn_assign E rfl rfl) ?_; clear E a; intro a E
          refine wpList_nil ?_
          refine then_k hK ?_; clear hK; clear K
          refine wp_seq_k ?_; intro K hK
          obtain ⟨at', is', hfe⟩ : ∃ a b, findL k n f = (a, b) := ⟨_, _, rfl⟩
          rw [hfe] at E
          have S := S.front3 (A := A) (B := D) (C := O) (by first | exact pk1 | exact pk2 | exact pk3 | exact pk4 | exact pk5 | exact pk6 | exact pk7 | exact pk8 | exact pk9) (by first | exact pk1 | exact pk2 | exact pk3 | exact pk4 | exact pk5 | exact pk6 | exact pk7 | exact pk8 | exact pk9) (by first | exact pk1 | exact pk2 | exact pk3 | exact pk4 | exact pk5 | exact pk6 | exact pk7 | exact pk8 | exact pk9)
          refine wp_join (fun (a : Act) (w' : World) => (∃ Ls, St w0 [O] w' (A :: D :: O :: Ls)) ∧ Fr a 204 [(2, .int .i64 n), (3, .int .i64 f), (17, .slice adD k.length cD), (18, .bool true), (21, .bool true), (22, .int .i64 at'), (23, .bool is'), (24, .bool true)]) ?_ ?_
          · skip
            refine region_list ?_
            refine list_pure E rfl rfl (by decide) (rn_move E rfl rfl) ?_; clear E a; intro a E
            refine list_pure E rfl rfl (by decide) (rn_not E rfl rfl) ?_; clear E a; intro a E
            refine list_pure E rfl rfl (by decide) (rn_move E rfl rfl) ?_; clear E a; intro a E
            refine guard_split E (t := 109) rfl (fun hb109 => ?_) (fun hb109 => ?_)
            · have hb109n := hb109; first | replace hb109n := n1 hb109n | replace hb109n := n2 hb109n | replace hb109n := n3 hb109n | replace hb109n := n4 hb109n | replace hb109n := n5 hb109n | replace hb109n := n6 hb109n | skip
              skip
              refine list_guard_no E rfl rfl rfl rfl hb109 rfl (by decide) ?_; clear E a; intro a E
              refine list_guard_no E rfl rfl rfl rfl hb109 rfl (by decide) ?_; clear E a; intro a E
              refine list_guard_no E rfl rfl rfl rfl hb109 rfl (by decide) ?_; clear E a; intro a E
              refine list_guard_no E rfl rfl rfl rfl hb109 rfl (by decide) ?_; clear E a; intro a E
              refine list_guard_undef E rfl rfl rfl rfl rfl (by decide) ?_; clear E a; intro a E
              refine list_guard_undef E rfl rfl rfl rfl rfl (by decide) ?_; clear E a; intro a E
              refine list_guard_undef E rfl rfl rfl rfl rfl (by decide) ?_; clear E a; intro a E
              refine list_guard_undef E rfl rfl rfl rfl rfl (by decide) ?_; clear E a; intro a E
              refine list_guard_undef E rfl rfl rfl rfl rfl (by decide) ?_; clear E a; intro a E
              refine list_guard_no E rfl rfl rfl rfl hb109 rfl (by decide) ?_; clear E a; intro a E
              refine list_guard_no E rfl rfl rfl rfl hb109 rfl (by decide) ?_; clear E a; intro a E
              refine list_guard_undef E rfl rfl rfl rfl rfl (by decide) ?_; clear E a; intro a E
              refine list_guard_undef E rfl rfl rfl rfl rfl (by decide) ?_; clear E a; intro a E
              refine list_guard_undef E rfl rfl rfl rfl rfl (by decide) ?_; clear E a; intro a E
              refine list_guard_undef E rfl rfl rfl rfl rfl (by decide) ?_; clear E a; intro a E
              refine list_guard_undef E rfl rfl rfl rfl rfl (by decide) ?_; clear E a; intro a E
              refine list_guard_undef E rfl rfl rfl rfl rfl (by decide) ?_; clear E a; intro a E
              refine list_guard_undef E rfl rfl rfl rfl rfl (by decide) ?_; clear E a; intro a E
              refine list_guard_undef E rfl rfl rfl rfl rfl (by decide) ?_; clear E a; intro a E
              refine list_guard_undef E rfl rfl rfl rfl rfl (by decide) ?_; clear E a; intro a E
              refine list_guard_undef E rfl rfl rfl rfl rfl (by decide) ?_; clear E a; intro a E
              refine list_guard_undef E rfl rfl rfl rfl rfl (by decide) ?_; clear E a; intro a E
              refine list_guard_undef E rfl rfl rfl rfl rfl (by decide) ?_; clear E a; intro a E
              refine list_guard_no E rfl rfl rfl rfl hb109 rfl (by decide) ?_; clear E a; intro a E
              refine list_pure E rfl rfl (by decide) (rn_pick_yes' E rfl rfl hb109 rfl) ?_; clear E a; intro a E
              refine list_pure E rfl rfl (by decide) (rn_assign E rfl rfl) ?_; clear E a; intro a E
              refine wpList_nil ?_
              refine joined_here ?_
              exact ⟨⟨_, S⟩, E.keep (keep_cons rfl (keep_cons rfl (keep_cons rfl (keep_cons rfl (keep_cons rfl (keep_cons rfl (keep_cons rfl (keep_cons rfl keep_nil))))))))⟩
            · have hb109n := hb109; first | replace hb109n := n1 hb109n | replace hb109n := n2 hb109n | replace hb109n := n3 hb109n | replace hb109n := n4 hb109n | replace hb109n := n5 hb109n | replace hb109n := n6 hb109n | skip
              have hi : is' = true := (by simpa using hb109); subst hi; obtain ⟨hf1, hf2, hf3⟩ := find_spec hG.gd hfe; have hmy := Sp.may_iff.1 (has_may hf2)
              refine list_guard_yes E rfl rfl rfl rfl hb109 rfl (by decide) (rn_move E rfl rfl) ?_; clear E a; intro a E
              refine list_guard_yes E rfl rfl rfl rfl hb109 rfl (by decide) (rn_move E rfl rfl) ?_; clear E a; intro a E
              refine list_guard_yes E rfl rfl rfl rfl hb109 rfl (by decide) (rn_geq E rfl rfl rfl) ?_; clear E a; intro a E
              refine list_guard_yes E rfl rfl rfl rfl hb109 rfl (by decide) (rn_move E rfl rfl) ?_; clear E a; intro a E
              refine guard_true E (t := 113) rfl (decide_eq_true hf1) (fun hb113 => ?_)
              refine list_guard_yes E rfl rfl rfl rfl hb113 rfl (by decide) (rn_move E rfl rfl) ?_; clear E a; intro a E
              refine list_guard_yes E rfl rfl rfl rfl hb113 rfl (by decide) (rn_move E rfl rfl) ?_; clear E a; intro a E
              refine list_guard_yes E rfl rfl rfl rfl hb113 rfl (by decide) (rn_move E rfl rfl) ?_; clear E a; intro a E
              refine list_guard_yes E rfl rfl rfl rfl hb113 rfl (by decide) (rn_build (cells := [_, _]) E rfl rfl rfl) ?_; clear E a; intro a E
              refine list_guard_wp E rfl rfl rfl rfl hb113 ?_; refine wp_call' E rfl (by decide) rfl Try.func14 rfl (by kernel_rfl) rfl (has_ret ps k _ ⟨at', n⟩ A _ hA hG (S.hp.sel (sel_cons (by first | exact pk1 | exact pk2 | exact pk3 | exact pk4 | exact pk5 | exact pk6 | exact pk7 | exact pk8 | exact pk9) (sel_nil _)))) ?_
              rintro v118 w ⟨rfl, hT⟩; clear E a; intro a E
              have S := S.call1 (sel_cons (by first | exact pk1 | exact pk2 | exact pk3 | exact pk4 | exact pk5 | exact pk6 | exact pk7 | exact pk8 | exact pk9) (sel_nil _)) hT
              refine list_guard_yes E rfl rfl rfl rfl hb109 rfl (by decide) (rn_pick_yes' E rfl rfl hb113 rfl) ?_; clear E a; intro a E
              refine list_guard_yes E rfl rfl rfl rfl hb109 rfl (by decide) (rn_move E rfl rfl) ?_; clear E a; intro a E
              refine guard_true E (t := 120) rfl (hf2) (fun hb120 => ?_)
              refine list_guard_yes E rfl rfl rfl rfl hb120 rfl (by decide) (rn_move E rfl rfl) ?_; clear E a; intro a E
              refine list_guard_yes E rfl rfl rfl rfl hb120 rfl (by decide) (rn_move E rfl rfl) ?_; clear E a; intro a E
              refine list_guard_yes E rfl rfl rfl rfl hb120 rfl (by decide) (by first | exact rn_eql E rfl rfl rfl | exact rn_eql_ptr_nil E rfl rfl rfl rfl | exact rn_eql_bool E rfl rfl rfl rfl | exact rn_eql_string E rfl rfl rfl) ?_; clear E a; intro a E
              refine list_guard_yes E rfl rfl rfl rfl hb120 rfl (by decide) (rn_move E rfl rfl) ?_; clear E a; intro a E
              refine guard_split E (t := 124) rfl (fun hb124 => ?_) (fun hb124 => ?_)
              · have hb124n := hb124; first | replace hb124n := n1 hb124n | replace hb124n := n2 hb124n | replace hb124n := n3 hb124n | replace hb124n := n4 hb124n | replace hb124n := n5 hb124n | replace hb124n := n6 hb124n | skip
                refine list_guard_no E rfl rfl rfl rfl hb124 rfl (by decide) ?_; clear E a; intro a E
                refine list_guard_no E rfl rfl rfl rfl hb124 rfl (by decide) ?_; clear E a; intro a E
                refine list_guard_no E rfl rfl rfl rfl hb124 rfl (by decide) ?_; clear E a; intro a E
                refine list_guard_no E rfl rfl rfl rfl hb124 rfl (by decide) ?_; clear E a; intro a E
                refine list_guard_no E rfl rfl rfl rfl hb124 rfl (by decide) ?_; clear E a; intro a E
                refine list_guard_no E rfl rfl rfl rfl hb124 rfl (by decide) ?_; clear E a; intro a E
                refine list_guard_no E rfl rfl rfl rfl hb124 rfl (by decide) ?_; clear E a; intro a E
                refine list_guard_yes E rfl rfl rfl rfl hb120 rfl (by decide) (rn_pick_yes' E rfl rfl hb124 rfl) ?_; clear E a; intro a E
                refine list_guard_yes E rfl rfl rfl rfl hb109 rfl (by decide) (rn_pick_yes' E rfl rfl hb120 rfl) ?_; clear E a; intro a E
                refine list_pure E rfl rfl (by decide) (rn_pick_no' E rfl rfl hb109 rfl) ?_; clear E a; intro a E
                refine list_pure E rfl rfl (by decide) (rn_assign E rfl rfl) ?_; clear E a; intro a E
                refine wpList_nil ?_
                refine joined_here ?_
                exact ⟨⟨_, S⟩, E.keep (keep_cons rfl (keep_cons rfl (keep_cons rfl (keep_cons rfl (keep_cons rfl (keep_cons rfl (keep_cons rfl (keep_cons rfl keep_nil))))))))⟩
              · have hb124n := hb124; first | replace hb124n := n1 hb124n | replace hb124n := n2 hb124n | replace hb124n := n3 hb124n | replace hb124n := n4 hb124n | replace hb124n := n5 hb124n | replace hb124n := n6 hb124n | skip
                refine list_guard_yes E rfl rfl rfl rfl hb124 rfl (by decide) (rn_move E rfl rfl) ?_; clear E a; intro a E
                refine list_guard_yes E rfl rfl rfl rfl hb124 rfl (by decide) (rn_move E rfl rfl) ?_; clear E a; intro a E
                refine list_guard_yes E rfl rfl rfl rfl hb124 rfl (by decide) (rn_sub E rfl rfl rfl (w_in (by simp only at hmy; omega))) ?_; clear E a; intro a E
                refine list_guard_yes E rfl rfl rfl rfl hb124 rfl (by decide) (rn_move E rfl rfl) ?_; clear E a; intro a E
                refine list_guard_yes E rfl rfl rfl rfl hb124 rfl (by decide) (rn_build (cells := [_, _]) E rfl rfl rfl) ?_; clear E a; intro a E
                refine list_guard_wp E rfl rfl rfl rfl hb124 ?_; refine wp_call' E rfl (by decide) rfl Try.func14 rfl (by kernel_rfl) rfl (has_ret ps k _ ⟨at' - 1, n⟩ A _ hA hG (S.hp.sel (sel_cons (by first | exact pk1 | exact pk2 | exact pk3 | exact pk4 | exact pk5 | exact pk6 | exact pk7 | exact pk8 | exact pk9) (sel_nil _)))) ?_
                rintro v130 w ⟨rfl, hT⟩; clear E a; intro a E
                have S := S.call1 (sel_cons (by first | exact pk1 | exact pk2 | exact pk3 | exact pk4 | exact pk5 | exact pk6 | exact pk7 | exact pk8 | exact pk9) (sel_nil _)) hT; rw [hf3.resolve_left hb124n] at E
                refine list_guard_yes E rfl rfl rfl rfl hb124 rfl (by decide) (rn_not E rfl rfl) ?_; clear E a; intro a E
                refine list_guard_yes E rfl rfl rfl rfl hb120 rfl (by decide) (rn_pick_no' E rfl rfl hb124 rfl) ?_; clear E a; intro a E
                refine list_guard_yes E rfl rfl rfl rfl hb109 rfl (by decide) (rn_pick_yes' E rfl rfl hb120 rfl) ?_; clear E a; intro a E
                refine list_pure E rfl rfl (by decide) (rn_pick_no' E rfl rfl hb109 rfl) ?_; clear E a; intro a E
                refine list_pure E rfl rfl (by decide) (rn_assign E rfl rfl) ?_; clear E a; intro a E
                refine wpList_nil ?_
                refine joined_here ?_
                exact ⟨⟨_, S⟩, E.keep (keep_cons rfl (keep_cons rfl (keep_cons rfl (keep_cons rfl (keep_cons rfl (keep_cons rfl (keep_cons rfl (keep_cons rfl keep_nil))))))))⟩
          · clear E S a; intro a w J; obtain ⟨⟨Ls, S⟩, E⟩ := J
            refine then_k hK ?_; clear hK; clear K
            refine wp_seq_k ?_; intro K hK
            refine wp_seq_k ?_; intro K hK
            refine region_list ?_
            refine list_pure E rfl rfl (by decide) (rn_assign E rfl rfl) ?_; clear E a; intro a E
            refine wpList_nil ?_
            refine then_k hK ?_; clear hK; clear K
            refine wp_block ?_
            refine wp_loop_ghost (fun (m : Nat) (a : Act) (w' : World) => ∃ i : Nat, m = k.length - i ∧ i ≤ k.length ∧ (∃ Ls, St w0 [O] w' (A :: D :: O :: Ls)) ∧ Fr a 204 [(2, .int .i64 n), (3, .int .i64 f), (17, .slice adD k.length cD), (18, .bool true), (21, .bool true), (22, .int .i64 at'), (23, .bool is'), (24, .bool true), (25, .int .i64 i)]) (k.length - 0) ?_ ?_
            · exact ⟨0, rfl, by omega, ⟨_, S⟩, E.keep (keep_cons rfl (keep_cons rfl (keep_cons rfl (keep_cons rfl (keep_cons rfl (keep_cons rfl (keep_cons rfl (keep_cons rfl (keep_cons rfl keep_nil)))))))))⟩
            clear E; clear a; rintro m a w ⟨i, rfl, hi, ⟨Ls, S⟩, E⟩
            refine wp_seq_k ?_; intro K hK
            refine wp_seq_k ?_; intro K hK
            refine region_list ?_
            refine list_pure E rfl rfl (by decide) (rn_move E rfl rfl) ?_; clear E a; intro a E
            refine list_pure E rfl rfl (by decide) (rn_move E rfl rfl) ?_; clear E a; intro a E
            refine list_pure E rfl rfl (by decide) (by first | exact rn_len E rfl rfl rfl | exact rn_len_str E rfl rfl rfl | exact rn_len_string E rfl rfl rfl) ?_; clear E a; intro a E
            refine list_pure E rfl rfl (by decide) (rn_lss E rfl rfl rfl) ?_; clear E a; intro a E
            refine wpList_nil ?_
            refine then_k hK ?_; clear hK; clear K
            refine if_bool E rfl (fun hb => ?_) (fun hb => ?_)
            · first | replace hb := n1 hb | replace hb := n2 hb | replace hb := n3 hb | replace hb := n4 hb | replace hb := n5 hb | replace hb := n6 hb | skip
              refine wp_skip ?_
              refine then_k hK ?_; clear hK; clear K
              refine wp_seq_k ?_; intro K hK
              refine wp_block ?_
              refine wp_seq_k ?_; intro K hK
              have hil : i < k.length := by omega
              have hgl := hG.len
              obtain ⟨b, off, rfl⟩ := hD.rd.addr (by omega)
              have hat := hG.at hil
              have hfst := find_first (l := k) hG.gd (n := n) (f := f) (y := k[i]'hil)
              refine region_list ?_
              refine list_pure E rfl rfl (by decide) (rn_move E rfl rfl) ?_; clear E a; intro a E
              refine list_pure E rfl rfl (by decide) (rn_move E rfl rfl) ?_; clear E a; intro a E
              refine list_pure E rfl rfl (by decide) (by first | exact rn_indexAddr1 E rfl rfl rfl rfl rfl rfl (by omega) | exact rn_indexAddr E rfl rfl rfl rfl rfl rfl (by omega) | exact rn_indexAddr_array E rfl rfl rfl rfl rfl rfl (by omega)) ?_; clear E a; intro a E
              refine list_pure E rfl rfl (by decide) (by first | exact rn_fieldAddr0 (q := 0) E rfl rfl rfl | exact rn_fieldAddr (q := 0) E rfl rfl rfl) ?_; clear E a; intro a E
              refine list_pure E rfl rfl (by decide) (rn_loadc E rfl rfl rfl (hD.rd.elem (lay := Sp.lay) Sp.lay_len (S.stab.at (by first | exact mm1 | exact mm2 | exact mm3 | exact mm4 | exact mm5 | exact mm6 | exact mm7 | exact mm8)) hil 0 _ rfl)) ?_; clear E a; intro a E
              refine list_pure E rfl rfl (by decide) (rn_assign E rfl rfl) ?_; clear E a; intro a E
              refine wpList_nil ?_
              refine then_k hK ?_; clear hK; clear K
              refine wp_seq_k ?_; intro K hK
              refine wp_seq_k ?_; intro K hK
              refine region_list ?_
              refine list_pure E rfl rfl (by decide) (rn_move E rfl rfl) ?_; clear E a; intro a E
              refine list_pure E rfl rfl (by decide) (rn_move E rfl rfl) ?_; clear E a; intro a E
              refine list_pure E rfl rfl (by decide) (rn_gtr E rfl rfl rfl) ?_; clear E a; intro a E
              refine wpList_nil ?_
              refine then_k hK ?_; clear hK; clear K
              refine if_bool E rfl (fun hb => ?_) (fun hb => ?_)
              · first | replace hb := n1 hb | replace hb := n2 hb | replace hb := n3 hb | replace hb := n4 hb | replace hb := n5 hb | replace hb := n6 hb | skip
                have hmx : max (k[i]'hil).at_ f = f := (by omega)
                refine region_list ?_
                refine list_pure E rfl rfl (by decide) (rn_move E rfl rfl) ?_; clear E a; intro a E
                refine list_pure E rfl rfl (by decide) (rn_assign E rfl rfl) ?_; clear E a; intro a E
                refine wpList_nil ?_
                refine then_k hK ?_; clear hK; clear K
                refine wp_seq_k ?_; intro K hK
                skip
                refine wp_join (fun (a : Act) (w' : World) => (∃ Ls, St w0 [O] w' (A :: D :: O :: Ls)) ∧ Fr a 204 [(2, .int .i64 n), (3, .int .i64 f), (17, .slice (some ⟨b, off, none⟩) k.length cD), (18, .bool true), (21, .bool true), (22, .int .i64 at'), (23, .bool is'), (24, .bool true), (25, .int .i64 i), (196, .bool false)]) ?_ ?_
                · skip
                  refine region_mix0 S [(0, 0), (1, 0), (2, 0), (3, 0), (4, 0), (5, 0), (6, 0), (7, 0), (8, 0), (9, 0), (10, 0), (11, 0), (12, 0), (13, 0), (14, 0), (15, 0), (16, 0), (17, 0), (18, 0), (19, 0), (20, 0), (21, 0), (22, 0), (23, 0), (24, 0), (25, 0), (26, 0), (27, 0), (28, 0), (29, 0), (30, 0), (31, 0), (32, 0), (33, 0), (34, 0), (35, 0), (36, 0), (37, 0), (38, 0), (39, 0), (40, 0), (41, 0), (42, 0), (43, 0), (44, 0), (45, 0), (46, 0)] (by kernel_rfl) (by kernel_rfl) ?_
                  clear S; intro w S
                  refine mix_pure E rfl rfl rfl (by decide) (fun w h => rn_move E rfl rfl) ?_; clear E a; intro a E
                  refine mix_pure E rfl rfl rfl (by decide) (fun w h => rn_geq E rfl rfl rfl) ?_; clear E a; intro a E
                  refine mix_pure E rfl rfl rfl (by decide) (fun w h => rn_move E rfl rfl) ?_; clear E a; intro a E
                  refine guard_split E (t := 152) rfl (fun hb152 => ?_) (fun hb152 => ?_)
                  · have hb152n := hb152; first | replace hb152n := n1 hb152n | replace hb152n := n2 hb152n | replace hb152n := n3 hb152n | replace hb152n := n4 hb152n | replace hb152n := n5 hb152n | replace hb152n := n6 hb152n | skip
                    refine mix_guard_yes E rfl rfl rfl rfl rfl hb152 rfl (by decide) (fun w h => rn_move E rfl rfl) ?_; clear E a; intro a E
                    refine mix_guard_yes E rfl rfl rfl rfl rfl hb152 rfl (by decide) (fun w h => rn_geq E rfl rfl rfl) ?_; clear E a; intro a E
                    refine mix_pure E rfl rfl rfl (by decide) (fun w h => rn_pick_yes' E rfl rfl hb152 rfl) ?_; clear E a; intro a E
                    refine mix_pure E rfl rfl rfl (by decide) (fun w h => rn_move E rfl rfl) ?_; clear E a; intro a E
                    refine guard_split E (t := 156) rfl (fun hb156 => ?_) (fun hb156 => ?_)
                    · have hb156n := hb156; first | replace hb156n := n1 hb156n | replace hb156n := n2 hb156n | replace hb156n := n3 hb156n | replace hb156n := n4 hb156n | replace hb156n := n5 hb156n | replace hb156n := n6 hb156n | skip
                      refine mix_guard_yes E rfl rfl rfl rfl rfl hb156 rfl (by decide) (fun w h => rn_move E rfl rfl) ?_; clear E a; intro a E
                      refine mix_guard_yes E rfl rfl rfl rfl rfl hb156 rfl (by decide) (fun w h => rn_move E rfl rfl) ?_; clear E a; intro a E
                      refine mix_guard_yes E rfl rfl rfl rfl rfl hb156 rfl (by decide) (fun w h => rn_move E rfl rfl) ?_; clear E a; intro a E
                      refine mix_guard_yes E rfl rfl rfl rfl rfl hb156 rfl (by decide) (fun w h => by first | exact rn_indexAddr1 E rfl rfl rfl rfl rfl rfl (by omega) | exact rn_indexAddr E rfl rfl rfl rfl rfl rfl (by omega) | exact rn_indexAddr_array E rfl rfl rfl rfl rfl rfl (by omega)) ?_; clear E a; intro a E
                      refine mix_guard_yes E rfl rfl rfl rfl rfl hb156 rfl (by decide) (fun w h => by first | exact rn_fieldAddr0 (q := 0) E rfl rfl rfl | exact rn_fieldAddr (q := 0) E rfl rfl rfl) ?_; clear E a; intro a E
                      refine mix_guard_yes E rfl rfl rfl rfl rfl hb156 rfl (by decide) (fun w h => rn_loadc E rfl rfl rfl (hD.rd.elem (lay := Sp.lay) Sp.lay_len (h.at (by first | exact mm1 | exact mm2 | exact mm3 | exact mm4 | exact mm5 | exact mm6 | exact mm7 | exact mm8)) hil 0 _ rfl)) ?_; clear E a; intro a E
                      refine mix_guard_yes E rfl rfl rfl rfl rfl hb156 rfl (by decide) (fun w h => rn_move E rfl rfl) ?_; clear E a; intro a E
                      refine mix_guard_yes E rfl rfl rfl rfl rfl hb156 rfl (by decide) (fun w h => rn_move E rfl rfl) ?_; clear E a; intro a E
                      refine mix_guard_yes E rfl rfl rfl rfl rfl hb156 rfl (by decide) (fun w h => by first | exact rn_indexAddr1 E rfl rfl rfl rfl rfl rfl (by omega) | exact rn_indexAddr E rfl rfl rfl rfl rfl rfl (by omega) | exact rn_indexAddr_array E rfl rfl rfl rfl rfl rfl (by omega)) ?_; clear E a; intro a E
                      refine mix_guard_yes E rfl rfl rfl rfl rfl hb156 rfl (by decide) (fun w h => by first | exact rn_fieldAddr0 (q := 1) E rfl rfl rfl | exact rn_fieldAddr (q := 1) E rfl rfl rfl) ?_; clear E a; intro a E
                      refine mix_guard_yes E rfl rfl rfl rfl rfl hb156 rfl (by decide) (fun w h => rn_loadc E rfl rfl rfl (hD.rd.elem (lay := Sp.lay) Sp.lay_len (h.at (by first | exact mm1 | exact mm2 | exact mm3 | exact mm4 | exact mm5 | exact mm6 | exact mm7 | exact mm8)) hil 1 _ rfl)) ?_; clear E a; intro a E
                      refine mix_guard_yes E rfl rfl rfl rfl rfl hb156 rfl (by decide) (fun w h => rn_add E rfl rfl rfl (by first | exact wa1 (by omega) | exact w_in (by omega) | exact w_inu (by omega) | exact rfl)) ?_; clear E a; intro a E
                      refine mix_guard_yes E rfl rfl rfl rfl rfl hb156 rfl (by decide) (fun w h => rn_leq E rfl rfl rfl) ?_; clear E a; intro a E
                      refine mix_pure E rfl rfl rfl (by decide) (fun w h => rn_pick_yes' E rfl rfl hb156 rfl) ?_; clear E a; intro a E
                      refine mix_pure E rfl rfl rfl (by decide) (fun w h => rn_move E rfl rfl) ?_; clear E a; intro a E
                      refine guard_split E (t := 171) rfl (fun hb171 => ?_) (fun hb171 => ?_)
                      · have hb171n := hb171; first | replace hb171n := n1 hb171n | replace hb171n := n2 hb171n | replace hb171n := n3 hb171n | replace hb171n := n4 hb171n | replace hb171n := n5 hb171n | replace hb171n := n6 hb171n | skip
                        refine mix_guard_yes E rfl rfl rfl rfl rfl hb171 rfl (by decide) (fun w h => rn_move E rfl rfl) ?_; clear E a; intro a E
                        refine mix_guard_yes E rfl rfl rfl rfl rfl hb171 rfl (by decide) (fun w h => rn_move E rfl rfl) ?_; clear E a; intro a E
                        refine mix_guard_yes E rfl rfl rfl rfl rfl hb171 rfl (by decide) (fun w h => rn_move E rfl rfl) ?_; clear E a; intro a E
                        refine mix_guard_yes E rfl rfl rfl rfl rfl hb171 rfl (by decide) (fun w h => by first | exact rn_indexAddr1 E rfl rfl rfl rfl rfl rfl (by omega) | exact rn_indexAddr E rfl rfl rfl rfl rfl rfl (by omega) | exact rn_indexAddr_array E rfl rfl rfl rfl rfl rfl (by omega)) ?_; clear E a; intro a E
                        refine mix_guard_yes E rfl rfl rfl rfl rfl hb171 rfl (by decide) (fun w h => by first | exact rn_fieldAddr0 (q := 0) E rfl rfl rfl | exact rn_fieldAddr (q := 0) E rfl rfl rfl) ?_; clear E a; intro a E
                        refine mix_guard_yes E rfl rfl rfl rfl rfl hb171 rfl (by decide) (fun w h => rn_loadc E rfl rfl rfl (hD.rd.elem (lay := Sp.lay) Sp.lay_len (h.at (by first | exact mm1 | exact mm2 | exact mm3 | exact mm4 | exact mm5 | exact mm6 | exact mm7 | exact mm8)) hil 0 _ rfl)) ?_; clear E a; intro a E
                        refine mix_guard_yes E rfl rfl rfl rfl rfl hb171 rfl (by decide) (fun w h => rn_move E rfl rfl) ?_; clear E a; intro a E
                        refine mix_guard_yes E rfl rfl rfl rfl rfl hb171 rfl (by decide) (fun w h => rn_move E rfl rfl) ?_; clear E a; intro a E
                        refine mix_guard_yes E rfl rfl rfl rfl rfl hb171 rfl (by decide) (fun w h => by first | exact rn_indexAddr1 E rfl rfl rfl rfl rfl rfl (by omega) | exact rn_indexAddr E rfl rfl rfl rfl rfl rfl (by omega) | exact rn_indexAddr_array E rfl rfl rfl rfl rfl rfl (by omega)) ?_; clear E a; intro a E
                        refine mix_guard_yes E rfl rfl rfl rfl rfl hb171 rfl (by decide) (fun w h => by first | exact rn_fieldAddr0 (q := 1) E rfl rfl rfl | exact rn_fieldAddr (q := 1) E rfl rfl rfl) ?_; clear E a; intro a E
                        refine mix_guard_yes E rfl rfl rfl rfl rfl hb171 rfl (by decide) (fun w h => rn_loadc E rfl rfl rfl (hD.rd.elem (lay := Sp.lay) Sp.lay_len (h.at (by first | exact mm1 | exact mm2 | exact mm3 | exact mm4 | exact mm5 | exact mm6 | exact mm7 | exact mm8)) hil 1 _ rfl)) ?_; clear E a; intro a E
                        refine mix_guard_yes E rfl rfl rfl rfl rfl hb171 rfl (by decide) (fun w h => rn_add E rfl rfl rfl (by first | exact wa1 (by omega) | exact w_in (by omega) | exact w_inu (by omega) | exact rfl)) ?_; clear E a; intro a E
                        refine mix_guard_yes E rfl rfl rfl rfl rfl hb171 rfl (by decide) (fun w h => rn_move E rfl rfl) ?_; clear E a; intro a E
                        refine mix_guard_yes E rfl rfl rfl rfl rfl hb171 rfl (by decide) (fun w h => rn_sub E rfl rfl rfl (by first | exact ws1 (by omega) (by omega) | exact w_in (by omega) | exact w_inu (by omega) | exact rfl)) ?_; clear E a; intro a E
                        refine mix_guard_yes E rfl rfl rfl rfl rfl hb171 rfl (by decide) (fun w h => rn_leq E rfl rfl rfl) ?_; clear E a; intro a E
                        refine mix_pure E rfl rfl rfl (by decide) (fun w h => rn_pick_yes' E rfl rfl hb171 rfl) ?_; clear E a; intro a E
                        refine mix_pure E rfl rfl rfl (by decide) (fun w h => rn_move E rfl rfl) ?_; clear E a; intro a E
                        refine guard_split E (t := 188) rfl (fun hb188 => ?_) (fun hb188 => ?_)
                        · have hb188n := hb188; first | replace hb188n := n1 hb188n | replace hb188n := n2 hb188n | replace hb188n := n3 hb188n | replace hb188n := n4 hb188n | replace hb188n := n5 hb188n | replace hb188n := n6 hb188n | skip
                          obtain ⟨at2, hq1, hq2⟩ := hfst (by omega) (by omega) (List.getElem_mem hil) (by simp only [Sp.fin] at *; omega) (by simp only [Sp.fin] at *; omega); rw [hfe] at hq1; cases hq1
                          refine mix_guard_yes E rfl rfl rfl rfl rfl hb188 rfl (by decide) (fun w h => rn_move E rfl rfl) ?_; clear E a; intro a E
                          refine mix_guard_yes E rfl rfl rfl rfl rfl hb188 rfl (by decide) (fun w h => rn_not E rfl rfl) ?_; clear E a; intro a E
                          refine mix_guard_yes E rfl rfl rfl rfl rfl hb188 rfl (by decide) (fun w h => rn_move E rfl rfl) ?_; clear E a; intro a E
                          refine guard_false E (t := 191) rfl (rfl) (fun hb191 => ?_)
                          refine mix_guard_yes E rfl rfl rfl rfl rfl hb191 rfl (by decide) (fun w h => rn_move E rfl rfl) ?_; clear E a; intro a E
                          refine mix_guard_yes E rfl rfl rfl rfl rfl hb191 rfl (by decide) (fun w h => rn_move E rfl rfl) ?_; clear E a; intro a E
                          refine mix_guard_yes E rfl rfl rfl rfl rfl hb191 rfl (by decide) (fun w h => rn_gtr E rfl rfl rfl) ?_; clear E a; intro a E
                          refine mix_guard_yes E rfl rfl rfl rfl rfl hb188 rfl (by decide) (fun w h => rn_pick_no' E rfl rfl hb191 rfl) ?_; clear E a; intro a E
                          refine mix_pure E rfl rfl rfl (by decide) (fun w h => rn_pick_yes' E rfl rfl hb188 rfl) ?_; clear E a; intro a E
                          refine mix_nil ?_
                          refine joined_here ?_
                          first | (rw [decide_eq_false (show ¬ ((k[i]'hil).at_ < at') by omega)] at E; exact ⟨⟨_, S⟩, E.keep (keep_cons rfl (keep_cons rfl (keep_cons rfl (keep_cons rfl (keep_cons rfl (keep_cons rfl (keep_cons rfl (keep_cons rfl (keep_cons rfl (keep_cons rfl keep_nil))))))))))⟩) | (rw [decide_eq_false (show ¬ (f < at') by omega)] at E; exact ⟨⟨_, S⟩, E.keep (keep_cons rfl (keep_cons rfl (keep_cons rfl (keep_cons rfl (keep_cons rfl (keep_cons rfl (keep_cons rfl (keep_cons rfl (keep_cons rfl (keep_cons rfl keep_nil))))))))))⟩) | exact ⟨⟨_, S⟩, E.keep (keep_cons rfl (keep_cons rfl (keep_cons rfl (keep_cons rfl (keep_cons rfl (keep_cons rfl (keep_cons rfl (keep_cons rfl (keep_cons rfl (keep_cons rfl keep_nil))))))))))⟩
                        · have hb188n := hb188; first | replace hb188n := n1 hb188n | replace hb188n := n2 hb188n | replace hb188n := n3 hb188n | replace hb188n := n4 hb188n | replace hb188n := n5 hb188n | replace hb188n := n6 hb188n | skip
                          skip
                          refine mix_guard_no E rfl rfl rfl rfl rfl hb188 rfl (by decide) ?_; clear E a; intro a E
                          refine mix_guard_no E rfl rfl rfl rfl rfl hb188 rfl (by decide) ?_; clear E a; intro a E
                          refine mix_guard_no E rfl rfl rfl rfl rfl hb188 rfl (by decide) ?_; clear E a; intro a E
                          refine mix_guard_undef E rfl rfl rfl rfl rfl rfl (by decide) ?_; clear E a; intro a E
                          refine mix_guard_undef E rfl rfl rfl rfl rfl rfl (by decide) ?_; clear E a; intro a E
                          refine mix_guard_undef E rfl rfl rfl rfl rfl rfl (by decide) ?_; clear E a; intro a E
                          refine mix_guard_no E rfl rfl rfl rfl rfl hb188 rfl (by decide) ?_; clear E a; intro a E
                          refine mix_pure E rfl rfl rfl (by decide) (fun w h => rn_pick_no' E rfl rfl hb188 rfl) ?_; clear E a; intro a E
                          refine mix_nil ?_
                          refine joined_here ?_
                          first | (rw [decide_eq_false (show ¬ ((k[i]'hil).at_ < at') by omega)] at E; exact ⟨⟨_, S⟩, E.keep (keep_cons rfl (keep_cons rfl (keep_cons rfl (keep_cons rfl (keep_cons rfl (keep_cons rfl (keep_cons rfl (keep_cons rfl (keep_cons rfl (keep_cons rfl keep_nil))))))))))⟩) | (rw [decide_eq_false (show ¬ (f < at') by omega)] at E; exact ⟨⟨_, S⟩, E.keep (keep_cons rfl (keep_cons rfl (keep_cons rfl (keep_cons rfl (keep_cons rfl (keep_cons rfl (keep_cons rfl (keep_cons rfl (keep_cons rfl (keep_cons rfl keep_nil))))))))))⟩) | exact ⟨⟨_, S⟩, E.keep (keep_cons rfl (keep_cons rfl (keep_cons rfl (keep_cons rfl (keep_cons rfl (keep_cons rfl (keep_cons rfl (keep_cons rfl (keep_cons rfl (keep_cons rfl keep_nil))))))))))⟩
                      · have hb171n := hb171; first | replace hb171n := n1 hb171n | replace hb171n := n2 hb171n | replace hb171n := n3 hb171n | replace hb171n := n4 hb171n | replace hb171n := n5 hb171n | replace hb171n := n6 hb171n | skip
                        refine mix_guard_no E rfl rfl rfl rfl rfl hb171 rfl (by decide) ?_; clear E a; intro a E
                        refine mix_guard_no E rfl rfl rfl rfl rfl hb171 rfl (by decide) ?_; clear E a; intro a E
                        refine mix_guard_no E rfl rfl rfl rfl rfl hb171 rfl (by decide) ?_; clear E a; intro a E
                        refine mix_guard_no E rfl rfl rfl rfl rfl hb171 rfl (by decide) ?_; clear E a; intro a E
                        refine mix_guard_no E rfl rfl rfl rfl rfl hb171 rfl (by decide) ?_; clear E a; intro a E
                        refine mix_guard_no E rfl rfl rfl rfl rfl hb171 rfl (by decide) ?_; clear E a; intro a E
                        refine mix_guard_no E rfl rfl rfl rfl rfl hb171 rfl (by decide) ?_; clear E a; intro a E
                        refine mix_guard_no E rfl rfl rfl rfl rfl hb171 rfl (by decide) ?_; clear E a; intro a E
                        refine mix_guard_no E rfl rfl rfl rfl rfl hb171 rfl (by decide) ?_; clear E a; intro a E
                        refine mix_guard_no E rfl rfl rfl rfl rfl hb171 rfl (by decide) ?_; clear E a; intro a E
                        refine mix_guard_no E rfl rfl rfl rfl rfl hb171 rfl (by decide) ?_; clear E a; intro a E
                        refine mix_guard_no E rfl rfl rfl rfl rfl hb171 rfl (by decide) ?_; clear E a; intro a E
                        refine mix_guard_no E rfl rfl rfl rfl rfl hb171 rfl (by decide) ?_; clear E a; intro a E
                        refine mix_guard_no E rfl rfl rfl rfl rfl hb171 rfl (by decide) ?_; clear E a; intro a E
                        refine mix_guard_no E rfl rfl rfl rfl rfl hb171 rfl (by decide) ?_; clear E a; intro a E
                        refine mix_pure E rfl rfl rfl (by decide) (fun w h => rn_pick_no' E rfl rfl hb171 rfl) ?_; clear E a; intro a E
                        refine mix_pure E rfl rfl rfl (by decide) (fun w h => rn_move E rfl rfl) ?_; clear E a; intro a E
                        refine mix_guard_no E rfl rfl rfl rfl rfl rfl rfl (by decide) ?_; clear E a; intro a E
                        refine mix_guard_no E rfl rfl rfl rfl rfl rfl rfl (by decide) ?_; clear E a; intro a E
                        refine mix_guard_no E rfl rfl rfl rfl rfl rfl rfl (by decide) ?_; clear E a; intro a E
                        refine mix_guard_undef E rfl rfl rfl rfl rfl rfl (by decide) ?_; clear E a; intro a E
                        refine mix_guard_undef E rfl rfl rfl rfl rfl rfl (by decide) ?_; clear E a; intro a E
                        refine mix_guard_undef E rfl rfl rfl rfl rfl rfl (by decide) ?_; clear E a; intro a E
                        refine mix_guard_no E rfl rfl rfl rfl rfl rfl rfl (by decide) ?_; clear E a; intro a E
                        refine mix_pure E rfl rfl rfl (by decide) (fun w h => rn_pick_no' E rfl rfl rfl rfl) ?_; clear E a; intro a E
                        refine mix_nil ?_
                        refine joined_here ?_
                        first | (rw [decide_eq_false (show ¬ ((k[i]'hil).at_ < at') by omega)] at E; exact ⟨⟨_, S⟩, E.keep (keep_cons rfl (keep_cons rfl (keep_cons rfl (keep_cons rfl (keep_cons rfl (keep_cons rfl (keep_cons rfl (keep_cons rfl (keep_cons rfl (keep_cons rfl keep_nil))))))))))⟩) | (rw [decide_eq_false (show ¬ (f < at') by omega)] at E; exact ⟨⟨_, S⟩, E.keep (keep_cons rfl (keep_cons rfl (keep_cons rfl (keep_cons rfl (keep_cons rfl (keep_cons rfl (keep_cons rfl (keep_cons rfl (keep_cons rfl (keep_cons rfl keep_nil))))))))))⟩) | exact ⟨⟨_, S⟩, E.keep (keep_cons rfl (keep_cons rfl (keep_cons rfl (keep_cons rfl (keep_cons rfl (keep_cons rfl (keep_cons rfl (keep_cons rfl (keep_cons rfl (keep_cons rfl keep_nil))))))))))⟩
                    · have hb156n := hb156; first | replace hb156n := n1 hb156n | replace hb156n := n2 hb156n | replace hb156n := n3 hb156n | replace hb156n := n4 hb156n | replace hb156n := n5 hb156n | replace hb156n := n6 hb156n | skip
                      refine mix_guard_no E rfl rfl rfl rfl rfl hb156 rfl (by decide) ?_; clear E a; intro a E
                      refine mix_guard_no E rfl rfl rfl rfl rfl hb156 rfl (by decide) ?_; clear E a; intro a E
                      refine mix_guard_no E rfl rfl rfl rfl rfl hb156 rfl (by decide) ?_; clear E a; intro a E
                      refine mix_guard_no E rfl rfl rfl rfl rfl hb156 rfl (by decide) ?_; clear E a; intro a E
                      refine mix_guard_no E rfl rfl rfl rfl rfl hb156 rfl (by decide) ?_; clear E a; intro a E
                      refine mix_guard_no E rfl rfl rfl rfl rfl hb156 rfl (by decide) ?_; clear E a; intro a E
                      refine mix_guard_no E rfl rfl rfl rfl rfl hb156 rfl (by decide) ?_; clear E a; intro a E
                      refine mix_guard_no E rfl rfl rfl rfl rfl hb156 rfl (by decide) ?_; clear E a; intro a E
                      refine mix_guard_no E rfl rfl rfl rfl rfl hb156 rfl (by decide) ?_; clear E a; intro a E
                      refine mix_guard_no E rfl rfl rfl rfl rfl hb156 rfl (by decide) ?_; clear E a; intro a E
                      refine mix_guard_no E rfl rfl rfl rfl rfl hb156 rfl (by decide) ?_; clear E a; intro a E
                      refine mix_guard_no E rfl rfl rfl rfl rfl hb156 rfl (by decide) ?_; clear E a; intro a E
                      refine mix_guard_no E rfl rfl rfl rfl rfl hb156 rfl (by decide) ?_; clear E a; intro a E
                      refine mix_pure E rfl rfl rfl (by decide) (fun w h => rn_pick_no' E rfl rfl hb156 rfl) ?_; clear E a; intro a E
                      refine mix_pure E rfl rfl rfl (by decide) (fun w h => rn_move E rfl rfl) ?_; clear E a; intro a E
                      refine mix_guard_no E rfl rfl rfl rfl rfl rfl rfl (by decide) ?_; clear E a; intro a E
                      refine mix_guard_no E rfl rfl rfl rfl rfl rfl rfl (by decide) ?_; clear E a; intro a E
                      refine mix_guard_no E rfl rfl rfl rfl rfl rfl rfl (by decide) ?_; clear E a; intro a E
                      refine mix_guard_no E rfl rfl rfl rfl rfl rfl rfl (by decide) ?_; clear E a; intro a E
                      refine mix_guard_no E rfl rfl rfl rfl rfl rfl rfl (by decide) ?_; clear E a; intro a E
                      refine mix_guard_no E rfl rfl rfl rfl rfl rfl rfl (by decide) ?_; clear E a; intro a E
                      refine mix_guard_no E rfl rfl rfl rfl rfl rfl rfl (by decide) ?_; clear E a; intro a E
                      refine mix_guard_no E rfl rfl rfl rfl rfl rfl rfl (by decide) ?_; clear E a; intro a E
                      refine mix_guard_no E rfl rfl rfl rfl rfl rfl rfl (by decide) ?_; clear E a; intro a E
                      refine mix_guard_no E rfl rfl rfl rfl rfl rfl rfl (by decide) ?_; clear E a; intro a E
                      refine mix_guard_no E rfl rfl rfl rfl rfl rfl rfl (by decide) ?_; clear E a; intro a E
                      refine mix_guard_no E rfl rfl rfl rfl rfl rfl rfl (by decide) ?_; clear E a; intro a E
                      refine mix_guard_no E rfl rfl rfl rfl rfl rfl rfl (by decide) ?_; clear E a; intro a E
                      refine mix_guard_no E rfl rfl rfl rfl rfl rfl rfl (by decide) ?_; clear E a; intro a E
                      refine mix_guard_no E rfl rfl rfl rfl rfl rfl rfl (by decide) ?_; clear E a; intro a E
                      refine mix_pure E rfl rfl rfl (by decide) (fun w h => rn_pick_no' E rfl rfl rfl rfl) ?_; clear E a; intro a E
                      refine mix_pure E rfl rfl rfl (by decide) (fun w h => rn_move E rfl rfl) ?_; clear E a; intro a E
                      refine mix_guard_no E rfl rfl rfl rfl rfl rfl rfl (by decide) ?_; clear E a; intro a E
                      refine mix_guard_no E rfl rfl rfl rfl rfl rfl rfl (by decide) ?_; clear E a; intro a E
                      refine mix_guard_no E rfl rfl rfl rfl rfl rfl rfl (by decide) ?_; clear E a; intro a E
                      refine mix_guard_undef E rfl rfl rfl rfl rfl rfl (by decide) ?_; clear E a; intro a E
                      refine mix_guard_undef E rfl rfl rfl rfl rfl rfl (by decide) ?_; clear E a; intro a E
                      refine mix_guard_undef E rfl rfl rfl rfl rfl rfl (by decide) ?_; clear E a; intro a E
                      refine mix_guard_no E rfl rfl rfl rfl rfl rfl rfl (by decide) ?_; clear E a; intro a E
                      refine mix_pure E rfl rfl rfl (by decide) (fun w h => rn_pick_no' E rfl rfl rfl rfl) ?_; clear E a; intro a E
                      refine mix_nil ?_
                      refine joined_here ?_
                      first | (rw [decide_eq_false (show ¬ ((k[i]'hil).at_ < at') by omega)] at E; exact ⟨⟨_, S⟩, E.keep (keep_cons rfl (keep_cons rfl (keep_cons rfl (keep_cons rfl (keep_cons rfl (keep_cons rfl (keep_cons rfl (keep_cons rfl (keep_cons rfl (keep_cons rfl keep_nil))))))))))⟩) | (rw [decide_eq_false (show ¬ (f < at') by omega)] at E; exact ⟨⟨_, S⟩, E.keep (keep_cons rfl (keep_cons rfl (keep_cons rfl (keep_cons rfl (keep_cons rfl (keep_cons rfl (keep_cons rfl (keep_cons rfl (keep_cons rfl (keep_cons rfl keep_nil))))))))))⟩) | exact ⟨⟨_, S⟩, E.keep (keep_cons rfl (keep_cons rfl (keep_cons rfl (keep_cons rfl (keep_cons rfl (keep_cons rfl (keep_cons rfl (keep_cons rfl (keep_cons rfl (keep_cons rfl keep_nil))))))))))⟩
                  · have hb152n := hb152; first | replace hb152n := n1 hb152n | replace hb152n := n2 hb152n | replace hb152n := n3 hb152n | replace hb152n := n4 hb152n | replace hb152n := n5 hb152n | replace hb152n := n6 hb152n | skip
                    refine mix_guard_no E rfl rfl rfl rfl rfl hb152 rfl (by decide) ?_; clear E a; intro a E
                    refine mix_guard_no E rfl rfl rfl rfl rfl hb152 rfl (by decide) ?_; clear E a; intro a E
                    refine mix_pure E rfl rfl rfl (by decide) (fun w h => rn_pick_no' E rfl rfl hb152 rfl) ?_; clear E a; intro a E
                    refine mix_pure E rfl rfl rfl (by decide) (fun w h => rn_move E rfl rfl) ?_; clear E a; intro a E
                    refine mix_guard_no E rfl rfl rfl rfl rfl rfl rfl (by decide) ?_; clear E a; intro a E
                    refine mix_guard_no E rfl rfl rfl rfl rfl rfl rfl (by decide) ?_; clear E a; intro a E
                    refine mix_guard_no E rfl rfl rfl rfl rfl rfl rfl (by decide) ?_; clear E a; intro a E
                    refine mix_guard_no E rfl rfl rfl rfl rfl rfl rfl (by decide) ?_; clear E a; intro a E
                    refine mix_guard_no E rfl rfl rfl rfl rfl rfl rfl (by decide) ?_; clear E a; intro a E
                    refine mix_guard_no E rfl rfl rfl rfl rfl rfl rfl (by decide) ?_; clear E a; intro a E
                    refine mix_guard_no E rfl rfl rfl rfl rfl rfl rfl (by decide) ?_; clear E a; intro a E
                    refine mix_guard_no E rfl rfl rfl rfl rfl rfl rfl (by decide) ?_; clear E a; intro a E
                    refine mix_guard_no E rfl rfl rfl rfl rfl rfl rfl (by decide) ?_; clear E a; intro a E
                    refine mix_guard_no E rfl rfl rfl rfl rfl rfl rfl (by decide) ?_; clear E a; intro a E
                    refine mix_guard_no E rfl rfl rfl rfl rfl rfl rfl (by decide) ?_; clear E a; intro a E
                    refine mix_guard_no E rfl rfl rfl rfl rfl rfl rfl (by decide) ?_; clear E a; intro a E
                    refine mix_guard_no E rfl rfl rfl rfl rfl rfl rfl (by decide) ?_; clear E a; intro a E
                    refine mix_pure E rfl rfl rfl (by decide) (fun w h => rn_pick_no' E rfl rfl rfl rfl) ?_; clear E a; intro a E
                    refine mix_pure E rfl rfl rfl (by decide) (fun w h => rn_move E rfl rfl) ?_; clear E a; intro a E
                    refine mix_guard_no E rfl rfl rfl rfl rfl rfl rfl (by decide) ?_; clear E a; intro a E
                    refine mix_guard_no E rfl rfl rfl rfl rfl rfl rfl (by decide) ?_; clear E a; intro a E
                    refine mix_guard_no E rfl rfl rfl rfl rfl rfl rfl (by decide) ?_; clear E a; intro a E
                    refine mix_guard_no E rfl rfl rfl rfl rfl rfl rfl (by decide) ?_; clear E a; intro a E
                    refine mix_guard_no E rfl rfl rfl rfl rfl rfl rfl (by decide) ?_; clear E a; intro a E
                    refine mix_guard_no E rfl rfl rfl rfl rfl rfl rfl (by decide) ?_; clear E a; intro a E
                    refine mix_guard_no E rfl rfl rfl rfl rfl rfl rfl (by decide) ?_; clear E a; intro a E
                    refine mix_guard_no E rfl rfl rfl rfl rfl rfl rfl (by decide) ?_; clear E a; intro a E
                    refine mix_guard_no E rfl rfl rfl rfl rfl rfl rfl (by decide) ?_; clear E a; intro a E
                    refine mix_guard_no E rfl rfl rfl rfl rfl rfl rfl (by decide) ?_; clear E a; intro a E
                    refine mix_guard_no E rfl rfl rfl rfl rfl rfl rfl (by decide) ?_; clear E a; intro a E
                    refine mix_guard_no E rfl rfl rfl rfl rfl rfl rfl (by decide) ?_; clear E a; intro a E
                    refine mix_guard_no E rfl rfl rfl rfl rfl rfl rfl (by decide) ?_; clear E a; intro a E
                    refine mix_guard_no E rfl rfl rfl rfl rfl rfl rfl (by decide) ?_; clear E a; intro a E
                    refine mix_guard_no E rfl rfl rfl rfl rfl rfl rfl (by decide) ?_; clear E a; intro a E
                    refine mix_pure E rfl rfl rfl (by decide) (fun w h => rn_pick_no' E rfl rfl rfl rfl) ?_; clear E a; intro a E
                    refine mix_pure E rfl rfl rfl (by decide) (fun w h => rn_move E rfl rfl) ?_; clear E a; intro a E
                    refine mix_guard_no E rfl rfl rfl rfl rfl rfl rfl (by decide) ?_; clear E a; intro a E
                    refine mix_guard_no E rfl rfl rfl rfl rfl rfl rfl (by decide) ?_; clear E a; intro a E
                    refine mix_guard_no E rfl rfl rfl rfl rfl rfl rfl (by decide) ?_; clear E a; intro a E
                    refine mix_guard_undef E rfl rfl rfl rfl rfl rfl (by decide) ?_; clear E a; intro a E
                    refine mix_guard_undef E rfl rfl rfl rfl rfl rfl (by decide) ?_; clear E a; intro a E
                    refine mix_guard_undef E rfl rfl rfl rfl rfl rfl (by decide) ?_; clear E a; intro a E
                    refine mix_guard_no E rfl rfl rfl rfl rfl rfl rfl (by decide) ?_; clear E a; intro a E
                    refine mix_pure E rfl rfl rfl (by decide) (fun w h => rn_pick_no' E rfl rfl rfl rfl) ?_; clear E a; intro a E
                    refine mix_nil ?_
                    refine joined_here ?_
                    first | (rw [decide_eq_false (show ¬ ((k[i]'hil).at_ < at') by omega)] at E; exact ⟨⟨_, S⟩, E.keep (keep_cons rfl (keep_cons rfl (keep_cons rfl (keep_cons rfl (keep_cons rfl (keep_cons rfl (keep_cons rfl (keep_cons rfl (keep_cons rfl (keep_cons rfl keep_nil))))))))))⟩) | (rw [decide_eq_false (show ¬ (f < at') by omega)] at E; exact ⟨⟨_, S⟩, E.keep (keep_cons rfl (keep_cons rfl (keep_cons rfl (keep_cons rfl (keep_cons rfl (keep_cons rfl (keep_cons rfl (keep_cons rfl (keep_cons rfl (keep_cons rfl keep_nil))))))))))⟩) | exact ⟨⟨_, S⟩, E.keep (keep_cons rfl (keep_cons rfl (keep_cons rfl (keep_cons rfl (keep_cons rfl (keep_cons rfl (keep_cons rfl (keep_cons rfl (keep_cons rfl (keep_cons rfl keep_nil))))))))))⟩
                · clear E S a; intro a w J; obtain ⟨⟨Ls, S⟩, E⟩ := J
                  refine then_k hK ?_; clear hK; clear K
                  refine if_false' E rfl (rfl) ?_
                  refine wp_skip ?_
                  refine in_normal ?_
                  refine then_k hK ?_; clear hK; clear K
                  refine region_list ?_
                  refine list_pure E rfl rfl (by decide) (rn_move E rfl rfl) ?_; clear E a; intro a E
                  refine list_pure E rfl rfl (by decide) (rn_add E rfl rfl rfl (by first | exact wa_lit (y := 1) (by omega) | exact w_in (by omega) | exact w_inu (by omega) | exact rfl)) ?_; clear E a; intro a E
                  refine list_pure E rfl rfl (by decide) (rn_assign E rfl rfl) ?_; clear E a; intro a E
                  refine wpList_nil ?_
                  refine then_normal ?_
                  exact ⟨_, by omega, i + 1, rfl, by omega, ⟨_, S⟩, E.keep (keep_cons rfl (keep_cons rfl (keep_cons rfl (keep_cons rfl (keep_cons rfl (keep_cons rfl (keep_cons rfl (keep_cons rfl (keep_cons rfl keep_nil)))))))))⟩
              · first | replace hb := n1 hb | replace hb := n2 hb | replace hb := n3 hb | replace hb := n4 hb | replace hb := n5 hb | replace hb := n6 hb | skip
                have hmx : max (k[i]'hil).at_ f = (k[i]'hil).at_ := (by omega)
                refine wp_skip ?_
                refine then_k hK ?_; clear hK; clear K
                refine wp_seq_k ?_; intro K hK
                skip
                refine wp_join (fun (a : Act) (w' : World) => (∃ Ls, St w0 [O] w' (A :: D :: O :: Ls)) ∧ Fr a 204 [(2, .int .i64 n), (3, .int .i64 f), (17, .slice (some ⟨b, off, none⟩) k.length cD), (18, .bool true), (21, .bool true), (22, .int .i64 at'), (23, .bool is'), (24, .bool true), (25, .int .i64 i), (196, .bool false)]) ?_ ?_
                · skip
                  refine region_mix0 S [(0, 0), (1, 0), (2, 0), (3, 0), (4, 0), (5, 0), (6, 0), (7, 0), (8, 0), (9, 0), (10, 0), (11, 0), (12, 0), (13, 0), (14, 0), (15, 0), (16, 0), (17, 0), (18, 0), (19, 0), (20, 0), (21, 0), (22, 0), (23, 0), (24, 0), (25, 0), (26, 0), (27, 0), (28, 0), (29, 0), (30, 0), (31, 0), (32, 0), (33, 0), (34, 0), (35, 0), (36, 0), (37, 0), (38, 0), (39, 0), (40, 0), (41, 0), (42, 0), (43, 0), (44, 0), (45, 0), (46, 0)] (by kernel_rfl) (by kernel_rfl) ?_
                  clear S; intro w S
                  refine mix_pure E rfl rfl rfl (by decide) (fun w h => rn_move E rfl rfl) ?_; clear E a; intro a E
                  refine mix_pure E rfl rfl rfl (by decide) (fun w h => rn_geq E rfl rfl rfl) ?_; clear E a; intro a E
                  refine mix_pure E rfl rfl rfl (by decide) (fun w h => rn_move E rfl rfl) ?_; clear E a; intro a E
                  refine guard_split E (t := 152) rfl (fun hb152 => ?_) (fun hb152 => ?_)
                  · have hb152n := hb152; first | replace hb152n := n1 hb152n | replace hb152n := n2 hb152n | replace hb152n := n3 hb152n | replace hb152n := n4 hb152n | replace hb152n := n5 hb152n | replace hb152n := n6 hb152n | skip
                    refine mix_guard_yes E rfl rfl rfl rfl rfl hb152 rfl (by decide) (fun w h => rn_move E rfl rfl) ?_; clear E a; intro a E
                    refine mix_guard_yes E rfl rfl rfl rfl rfl hb152 rfl (by decide) (fun w h => rn_geq E rfl rfl rfl) ?_; clear E a; intro a E
                    refine mix_pure E rfl rfl rfl (by decide) (fun w h => rn_pick_yes' E rfl rfl hb152 rfl) ?_; clear E a; intro a E
                    refine mix_pure E rfl rfl rfl (by decide) (fun w h => rn_move E rfl rfl) ?_; clear E a; intro a E
                    refine guard_split E (t := 156) rfl (fun hb156 => ?_) (fun hb156 => ?_)
                    · have hb156n := hb156; first | replace hb156n := n1 hb156n | replace hb156n := n2 hb156n | replace hb156n := n3 hb156n | replace hb156n := n4 hb156n | replace hb156n := n5 hb156n | replace hb156n := n6 hb156n | skip
                      refine mix_guard_yes E rfl rfl rfl rfl rfl hb156 rfl (by decide) (fun w h => rn_move E rfl rfl) ?_; clear E a; intro a E
                      refine mix_guard_yes E rfl rfl rfl rfl rfl hb156 rfl (by decide) (fun w h => rn_move E rfl rfl) ?_; clear E a; intro a E
                      refine mix_guard_yes E rfl rfl rfl rfl rfl hb156 rfl (by decide) (fun w h => rn_move E rfl rfl) ?_; clear E a; intro a E
                      refine mix_guard_yes E rfl rfl rfl rfl rfl hb156 rfl (by decide) (fun w h => by first | exact rn_indexAddr1 E rfl rfl rfl rfl rfl rfl (by omega) | exact rn_indexAddr E rfl rfl rfl rfl rfl rfl (by omega) | exact rn_indexAddr_array E rfl rfl rfl rfl rfl rfl (by omega)) ?_; clear E a; intro a E
                      refine mix_guard_yes E rfl rfl rfl rfl rfl hb156 rfl (by decide) (fun w h => by first | exact rn_fieldAddr0 (q := 0) E rfl rfl rfl | exact rn_fieldAddr (q := 0) E rfl rfl rfl) ?_; clear E a; intro a E
                      refine mix_guard_yes E rfl rfl rfl rfl rfl hb156 rfl (by decide) (fun w h => rn_loadc E rfl rfl rfl (hD.rd.elem (lay := Sp.lay) Sp.lay_len (h.at (by first | exact mm1 | exact mm2 | exact mm3 | exact mm4 | exact mm5 | exact mm6 | exact mm7 | exact mm8)) hil 0 _ rfl)) ?_; clear E a; intro a E
                      refine mix_guard_yes E rfl rfl rfl rfl rfl hb156 rfl (by decide) (fun w h => rn_move E rfl rfl) ?_; clear E a; intro a E
                      refine mix_guard_yes E rfl rfl rfl rfl rfl hb156 rfl (by decide) (fun w h => rn_move E rfl rfl) ?_; clear E a; intro a E
                      refine mix_guard_yes E rfl rfl rfl rfl rfl hb156 rfl (by decide) (fun w h => by first | exact rn_indexAddr1 E rfl rfl rfl rfl rfl rfl (by omega) | exact rn_indexAddr E rfl rfl rfl rfl rfl rfl (by omega) | exact rn_indexAddr_array E rfl rfl rfl rfl rfl rfl (by omega)) ?_; clear E a; intro a E
                      refine mix_guard_yes E rfl rfl rfl rfl rfl hb156 rfl (by decide) (fun w h => by first | exact rn_fieldAddr0 (q := 1) E rfl rfl rfl | exact rn_fieldAddr (q := 1) E rfl rfl rfl) ?_; clear E a; intro a E
                      refine mix_guard_yes E rfl rfl rfl rfl rfl hb156 rfl (by decide) (fun w h => rn_loadc E rfl rfl rfl (hD.rd.elem (lay := Sp.lay) Sp.lay_len (h.at (by first | exact mm1 | exact mm2 | exact mm3 | exact mm4 | exact mm5 | exact mm6 | exact mm7 | exact mm8)) hil 1 _ rfl)) ?_; clear E a; intro a E
                      refine mix_guard_yes E rfl rfl rfl rfl rfl hb156 rfl (by decide) (fun w h => rn_add E rfl rfl rfl (by first | exact wa1 (by omega) | exact w_in (by omega) | exact w_inu (by omega) | exact rfl)) ?_; clear E a; intro a E
                      refine mix_guard_yes E rfl rfl rfl rfl rfl hb156 rfl (by decide) (fun w h => rn_leq E rfl rfl rfl) ?_; clear E a; intro a E
                      refine mix_pure E rfl rfl rfl (by decide) (fun w h => rn_pick_yes' E rfl rfl hb156 rfl) ?_; clear E a; intro a E
                      refine mix_pure E rfl rfl rfl (by decide) (fun w h => rn_move E rfl rfl) ?_; clear E a; intro a E
                      refine guard_split E (t := 171) rfl (fun hb171 => ?_) (fun hb171 => ?_)
                      · have hb171n := hb171; first | replace hb171n := n1 hb171n | replace hb171n := n2 hb171n | replace hb171n := n3 hb171n | replace hb171n := n4 hb171n | replace hb171n := n5 hb171n | replace hb171n := n6 hb171n | skip
                        refine mix_guard_yes E rfl rfl rfl rfl rfl hb171 rfl (by decide) (fun w h => rn_move E rfl rfl) ?_; clear E a; intro a E
                        refine mix_guard_yes E rfl rfl rfl rfl rfl hb171 rfl (by decide) (fun w h => rn_move E rfl rfl) ?_; clear E a; intro a E
                        refine mix_guard_yes E rfl rfl rfl rfl rfl hb171 rfl (by decide) (fun w h => rn_move E rfl rfl) ?_; clear E a; intro a E
                        refine mix_guard_yes E rfl rfl rfl rfl rfl hb171 rfl (by decide) (fun w h => by first | exact rn_indexAddr1 E rfl rfl rfl rfl rfl rfl (by omega) | exact rn_indexAddr E rfl rfl rfl rfl rfl rfl (by omega) | exact rn_indexAddr_array E rfl rfl rfl rfl rfl rfl (by omega)) ?_; clear E a; intro a E
                        refine mix_guard_yes E rfl rfl rfl rfl rfl hb171 rfl (by decide) (fun w h => by first | exact rn_fieldAddr0 (q := 0) E rfl rfl rfl | exact rn_fieldAddr (q := 0) E rfl rfl rfl) ?_; clear E a; intro a E
                        refine mix_guard_yes E rfl rfl rfl rfl rfl hb171 rfl (by decide) (fun w h => rn_loadc E rfl rfl rfl (hD.rd.elem (lay := Sp.lay) Sp.lay_len (h.at (by first | exact mm1 | exact mm2 | exact mm3 | exact mm4 | exact mm5 | exact mm6 | exact mm7 | exact mm8)) hil 0 _ rfl)) ?_; clear E a; intro a E
                        refine mix_guard_yes E rfl rfl rfl rfl rfl hb171 rfl (by decide) (fun w h => rn_move E rfl rfl) ?_; clear E a; intro a E
                        refine mix_guard_yes E rfl rfl rfl rfl rfl hb171 rfl (by decide) (fun w h => rn_move E rfl rfl) ?_; clear E a; intro a E
                        refine mix_guard_yes E rfl rfl rfl rfl rfl hb171 rfl (by decide) (fun w h => by first | exact rn_indexAddr1 E rfl rfl rfl rfl rfl rfl (by omega) | exact rn_indexAddr E rfl rfl rfl rfl rfl rfl (by omega) | exact rn_indexAddr_array E rfl rfl rfl rfl rfl rfl (by omega)) ?_; clear E a; intro a E
                        refine mix_guard_yes E rfl rfl rfl rfl rfl hb171 rfl (by decide) (fun w h => by first | exact rn_fieldAddr0 (q := 1) E rfl rfl rfl | exact rn_fieldAddr (q := 1) E rfl rfl rfl) ?_; clear E a; intro a E
                        refine mix_guard_yes E rfl rfl rfl rfl rfl hb171 rfl (by decide) (fun w h => rn_loadc E rfl rfl rfl (hD.rd.elem (lay := Sp.lay) Sp.lay_len (h.at (by first | exact mm1 | exact mm2 | exact mm3 | exact mm4 | exact mm5 | exact mm6 | exact mm7 | exact mm8)) hil 1 _ rfl)) ?_; clear E a; intro a E
                        refine mix_guard_yes E rfl rfl rfl rfl rfl hb171 rfl (by decide) (fun w h => rn_add E rfl rfl rfl (by first | exact wa1 (by omega) | exact w_in (by omega) | exact w_inu (by omega) | exact rfl)) ?_; clear E a; intro a E
                        refine mix_guard_yes E rfl rfl rfl rfl rfl hb171 rfl (by decide) (fun w h => rn_move E rfl rfl) ?_; clear E a; intro a E
                        refine mix_guard_yes E rfl rfl rfl rfl rfl hb171 rfl (by decide) (fun w h => rn_sub E rfl rfl rfl (by first | exact ws1 (by omega) (by omega) | exact w_in (by omega) | exact w_inu (by omega) | exact rfl)) ?_; clear E a; intro a E
                        refine mix_guard_yes E rfl rfl rfl rfl rfl hb171 rfl (by decide) (fun w h => rn_leq E rfl rfl rfl) ?_; clear E a; intro a E
                        refine mix_pure E rfl rfl rfl (by decide) (fun w h => rn_pick_yes' E rfl rfl hb171 rfl) ?_; clear E a; intro a E
                        refine mix_pure E rfl rfl rfl (by decide) (fun w h => rn_move E rfl rfl) ?_; clear E a; intro a E
                        refine guard_split E (t := 188) rfl (fun hb188 => ?_) (fun hb188 => ?_)
                        · have hb188n := hb188; first | replace hb188n := n1 hb188n | replace hb188n := n2 hb188n | replace hb188n := n3 hb188n | replace hb188n := n4 hb188n | replace hb188n := n5 hb188n | replace hb188n := n6 hb188n | skip
                          obtain ⟨at2, hq1, hq2⟩ := hfst (by omega) (by omega) (List.getElem_mem hil) (by simp only [Sp.fin] at *; omega) (by simp only [Sp.fin] at *; omega); rw [hfe] at hq1; cases hq1
                          refine mix_guard_yes E rfl rfl rfl rfl rfl hb188 rfl (by decide) (fun w h => rn_move E rfl rfl) ?_; clear E a; intro a E
                          refine mix_guard_yes E rfl rfl rfl rfl rfl hb188 rfl (by decide) (fun w h => rn_not E rfl rfl) ?_; clear E a; intro a E
                          refine mix_guard_yes E rfl rfl rfl rfl rfl hb188 rfl (by decide) (fun w h => rn_move E rfl rfl) ?_; clear E a; intro a E
                          refine guard_false E (t := 191) rfl (rfl) (fun hb191 => ?_)
                          refine mix_guard_yes E rfl rfl rfl rfl rfl hb191 rfl (by decide) (fun w h => rn_move E rfl rfl) ?_; clear E a; intro a E
                          refine mix_guard_yes E rfl rfl rfl rfl rfl hb191 rfl (by decide) (fun w h => rn_move E rfl rfl) ?_; clear E a; intro a E
                          refine mix_guard_yes E rfl rfl rfl rfl rfl hb191 rfl (by decide) (fun w h => rn_gtr E rfl rfl rfl) ?_; clear E a; intro a E
                          refine mix_guard_yes E rfl rfl rfl rfl rfl hb188 rfl (by decide) (fun w h => rn_pick_no' E rfl rfl hb191 rfl) ?_; clear E a; intro a E
                          refine mix_pure E rfl rfl rfl (by decide) (fun w h => rn_pick_yes' E rfl rfl hb188 rfl) ?_; clear E a; intro a E
                          refine mix_nil ?_
                          refine joined_here ?_
                          first | (rw [decide_eq_false (show ¬ ((k[i]'hil).at_ < at') by omega)] at E; exact ⟨⟨_, S⟩, E.keep (keep_cons rfl (keep_cons rfl (keep_cons rfl (keep_cons rfl (keep_cons rfl (keep_cons rfl (keep_cons rfl (keep_cons rfl (keep_cons rfl (keep_cons rfl keep_nil))))))))))⟩) | (rw [decide_eq_false (show ¬ (f < at') by omega)] at E; exact ⟨⟨_, S⟩, E.keep (keep_cons rfl (keep_cons rfl (keep_cons rfl (keep_cons rfl (keep_cons rfl (keep_cons rfl (keep_cons rfl (keep_cons rfl (keep_cons rfl (keep_cons rfl keep_nil))))))))))⟩) | exact ⟨⟨_, S⟩, E.keep (keep_cons rfl (keep_cons rfl (keep_cons rfl (keep_cons rfl (keep_cons rfl (keep_cons rfl (keep_cons rfl (keep_cons rfl (keep_cons rfl (keep_cons rfl keep_nil))))))))))⟩
                        · have hb188n := hb188; first | replace hb188n := n1 hb188n | replace hb188n := n2 hb188n | replace hb188n := n3 hb188n | replace hb188n := n4 hb188n | replace hb188n := n5 hb188n | replace hb188n := n6 hb188n | skip
                          skip
                          refine mix_guard_no E rfl rfl rfl rfl rfl hb188 rfl (by decide) ?_; clear E a; intro a E
                          refine mix_guard_no E rfl rfl rfl rfl rfl hb188 rfl (by decide) ?_; clear E a; intro a E
                          refine mix_guard_no E rfl rfl rfl rfl rfl hb188 rfl (by decide) ?_; clear E a; intro a E
                          refine mix_guard_undef E rfl rfl rfl rfl rfl rfl (by decide) ?_; clear E a; intro a E
                          refine mix_guard_undef E rfl rfl rfl rfl rfl rfl (by decide) ?_; clear E a; intro a E
                          refine mix_guard_undef E rfl rfl rfl rfl rfl rfl (by decide) ?_; clear E a; intro a E
                          refine mix_guard_no E rfl rfl rfl rfl rfl hb188 rfl (by decide) ?_; clear E a; intro a E
                          refine mix_pure E rfl rfl rfl (by decide) (fun w h => rn_pick_no' E rfl rfl hb188 rfl) ?_; clear E a; intro a E
                          refine mix_nil ?_
                          refine joined_here ?_
                          first | (rw [decide_eq_false (show ¬ ((k[i]'hil).at_ < at') by omega)] at E; exact ⟨⟨_, S⟩, E.keep (keep_cons rfl (keep_cons rfl (keep_cons rfl (keep_cons rfl (keep_cons rfl (keep_cons rfl (keep_cons rfl (keep_cons rfl (keep_cons rfl (keep_cons rfl keep_nil))))))))))⟩) | (rw [decide_eq_false (show ¬ (f < at') by omega)] at E; exact ⟨⟨_, S⟩, E.keep (keep_cons rfl (keep_cons rfl (keep_cons rfl (keep_cons rfl (keep_cons rfl (keep_cons rfl (keep_cons rfl (keep_cons rfl (keep_cons rfl (keep_cons rfl keep_nil))))))))))⟩) | exact ⟨⟨_, S⟩, E.keep (keep_cons rfl (keep_cons rfl (keep_cons rfl (keep_cons rfl (keep_cons rfl (keep_cons rfl (keep_cons rfl (keep_cons rfl (keep_cons rfl (keep_cons rfl keep_nil))))))))))⟩
                      · have hb171n := hb171; first | replace hb171n := n1 hb171n | replace hb171n := n2 hb171n | replace hb171n := n3 hb171n | replace hb171n := n4 hb171n | replace hb171n := n5 hb171n | replace hb171n := n6 hb171n | skip
                        refine mix_guard_no E rfl rfl rfl rfl rfl hb171 rfl (by decide) ?_; clear E a; intro a E
                        refine mix_guard_no E rfl rfl rfl rfl rfl hb171 rfl (by decide) ?_; clear E a; intro a E
                        refine mix_guard_no E rfl rfl rfl rfl rfl hb171 rfl (by decide) ?_; clear E a; intro a E
                        refine mix_guard_no E rfl rfl rfl rfl rfl hb171 rfl (by decide) ?_; clear E a; intro a E
                        refine mix_guard_no E rfl rfl rfl rfl rfl hb171 rfl (by decide) ?_; clear E a; intro a E
                        refine mix_guard_no E rfl rfl rfl rfl rfl hb171 rfl (by decide) ?_; clear E a; intro a E
                        refine mix_guard_no E rfl rfl rfl rfl rfl hb171 rfl (by decide) ?_; clear E a; intro a E
                        refine mix_guard_no E rfl rfl rfl rfl rfl hb171 rfl (by decide) ?_; clear E a; intro a E
                        refine mix_guard_no E rfl rfl rfl rfl rfl hb171 rfl (by decide) ?_; clear E a; intro a E
                        refine mix_guard_no E rfl rfl rfl rfl rfl hb171 rfl (by decide) ?_; clear E a; intro a E
                        refine mix_guard_no E rfl rfl rfl rfl rfl hb171 rfl (by decide) ?_; clear E a; intro a E
                        refine mix_guard_no E rfl rfl rfl rfl rfl hb171 rfl (by decide) ?_; clear E a; intro a E
                        refine mix_guard_no E rfl rfl rfl rfl rfl hb171 rfl (by decide) ?_; clear E a; intro a E
                        refine mix_guard_no E rfl rfl rfl rfl rfl hb171 rfl (by decide) ?_; clear E a; intro a E
                        refine mix_guard_no E rfl rfl rfl rfl rfl hb171 rfl (by decide) ?_; clear E a; intro a E
                        refine mix_pure E rfl rfl rfl (by decide) (fun w h => rn_pick_no' E rfl rfl hb171 rfl) ?_; clear E a; intro a E
                        refine mix_pure E rfl rfl rfl (by decide) (fun w h => rn_move E rfl rfl) ?_; clear E a; intro a E
                        refine mix_guard_no E rfl rfl rfl rfl rfl rfl rfl (by decide) ?_; clear E a; intro a E
                        refine mix_guard_no E rfl rfl rfl rfl rfl rfl rfl (by decide) ?_; clear E a; intro a E
                        refine mix_guard_no E rfl rfl rfl rfl rfl rfl rfl (by decide) ?_; clear E a; intro a E
                        refine mix_guard_undef E rfl rfl rfl rfl rfl rfl (by decide) ?_; clear E a; intro a E
                        refine mix_guard_undef E rfl rfl rfl rfl rfl rfl (by decide) ?_; clear E a; intro a E
                        refine mix_guard_undef E rfl rfl rfl rfl rfl rfl (by decide) ?_; clear E a; intro a E
                        refine mix_guard_no E rfl rfl rfl rfl rfl rfl rfl (by decide) ?_; clear E a; intro a E
                        refine mix_pure E rfl rfl rfl (by decide) (fun w h => rn_pick_no' E rfl rfl rfl rfl) ?_; clear E a; intro a E
                        refine mix_nil ?_
                        refine joined_here ?_
                        first | (rw [decide_eq_false (show ¬ ((k[i]'hil).at_ < at') by omega)] at E; exact ⟨⟨_, S⟩, E.keep (keep_cons rfl (keep_cons rfl (keep_cons rfl (keep_cons rfl (keep_cons rfl (keep_cons rfl (keep_cons rfl (keep_cons rfl (keep_cons rfl (keep_cons rfl keep_nil))))))))))⟩) | (rw [decide_eq_false (show ¬ (f < at') by omega)] at E; exact ⟨⟨_, S⟩, E.keep (keep_cons rfl (keep_cons rfl (keep_cons rfl (keep_cons rfl (keep_cons rfl (keep_cons rfl (keep_cons rfl (keep_cons rfl (keep_cons rfl (keep_cons rfl keep_nil))))))))))⟩) | exact ⟨⟨_, S⟩, E.keep (keep_cons rfl (keep_cons rfl (keep_cons rfl (keep_cons rfl (keep_cons rfl (keep_cons rfl (keep_cons rfl (keep_cons rfl (keep_cons rfl (keep_cons rfl keep_nil))))))))))⟩
                    · have hb156n := hb156; first | replace hb156n := n1 hb156n | replace hb156n := n2 hb156n | replace hb156n := n3 hb156n | replace hb156n := n4 hb156n | replace hb156n := n5 hb156n | replace hb156n := n6 hb156n | skip
                      refine mix_guard_no E rfl rfl rfl rfl rfl hb156 rfl (by decide) ?_; clear E a; intro a E
                      refine mix_guard_no E rfl rfl rfl rfl rfl hb156 rfl (by decide) ?_; clear E a; intro a E
                      refine mix_guard_no E rfl rfl rfl rfl rfl hb156 rfl (by decide) ?_; clear E a; intro a E
                      refine mix_guard_no E rfl rfl rfl rfl rfl hb156 rfl (by decide) ?_; clear E a; intro a E
                      refine mix_guard_no E rfl rfl rfl rfl rfl hb156 rfl (by decide) ?_; clear E a; intro a E
                      refine mix_guard_no E rfl rfl rfl rfl rfl hb156 rfl (by decide) ?_; clear E a; intro a E
                      refine mix_guard_no E rfl rfl rfl rfl rfl hb156 rfl (by decide) ?_; clear E a; intro a E
                      refine mix_guard_no E rfl rfl rfl rfl rfl hb156 rfl (by decide) ?_; clear E a; intro a E
                      refine mix_guard_no E rfl rfl rfl rfl rfl hb156 rfl (by decide) ?_; clear E a; intro a E
                      refine mix_guard_no E rfl rfl rfl rfl rfl hb156 rfl (by decide) ?_; clear E a; intro a E
                      refine mix_guard_no E rfl rfl rfl rfl rfl hb156 rfl (by decide) ?_; clear E a; intro a E
                      refine mix_guard_no E rfl rfl rfl rfl rfl hb156 rfl (by decide) ?_; clear E a; intro a E
                      refine mix_guard_no E rfl rfl rfl rfl rfl hb156 rfl (by decide) ?_; clear E a; intro a E
                      refine mix_pure E rfl rfl rfl (by decide) (fun w h => rn_pick_no' E rfl rfl hb156 rfl) ?_; clear E a; intro a E
                      refine mix_pure E rfl rfl rfl (by decide) (fun w h => rn_move E rfl rfl) ?_; clear E a; intro a E
                      refine mix_guard_no E rfl rfl rfl rfl rfl rfl rfl (by decide) ?_; clear E a; intro a E
                      refine mix_guard_no E rfl rfl rfl rfl rfl rfl rfl (by decide) ?_; clear E a; intro a E
                      refine mix_guard_no E rfl rfl rfl rfl rfl rfl rfl (by decide) ?_; clear E a; intro a E
                      refine mix_guard_no E rfl rfl rfl rfl rfl rfl rfl (by decide) ?_; clear E a; intro a E
                      refine mix_guard_no E rfl rfl rfl rfl rfl rfl rfl (by decide) ?_; clear E a; intro a E
                      refine mix_guard_no E rfl rfl rfl rfl rfl rfl rfl (by decide) ?_; clear E a; intro a E
                      refine mix_guard_no E rfl rfl rfl rfl rfl rfl rfl (by decide) ?_; clear E a; intro a E
                      refine mix_guard_no E rfl rfl rfl rfl rfl rfl rfl (by decide) ?_; clear E a; intro a E
                      refine mix_guard_no E rfl rfl rfl rfl rfl rfl rfl (by decide) ?_; clear E a; intro a E
                      refine mix_guard_no E rfl rfl rfl rfl rfl rfl rfl (by decide) ?_; clear E a; intro a E
                      refine mix_guard_no E rfl rfl rfl rfl rfl rfl rfl (by decide) ?_; clear E a; intro a E
                      refine mix_guard_no E rfl rfl rfl rfl rfl rfl rfl (by decide) ?_; clear E a; intro a E
                      refine mix_guard_no E rfl rfl rfl rfl rfl rfl rfl (by decide) ?_; clear E a; intro a E
                      refine mix_guard_no E rfl rfl rfl rfl rfl rfl rfl (by decide) ?_; clear E a; intro a E
                      refine mix_guard_no E rfl rfl rfl rfl rfl rfl rfl (by decide) ?_; clear E a; intro a E
                      refine mix_pure E rfl rfl rfl (by decide) (fun w h => rn_pick_no' E rfl rfl rfl rfl) ?_; clear E a; intro a E
                      refine mix_pure E rfl rfl rfl (by decide) (fun w h => rn_move E rfl rfl) ?_; clear E a; intro a E
                      refine mix_guard_no E rfl rfl rfl rfl rfl rfl rfl (by decide) ?_; clear E a; intro a E
                      refine mix_guard_no E rfl rfl rfl rfl rfl rfl rfl (by decide) ?_; clear E a; intro a E
                      refine mix_guard_no E rfl rfl rfl rfl rfl rfl rfl (by decide) ?_; clear E a; intro a E
                      refine mix_guard_undef E rfl rfl rfl rfl rfl rfl (by decide) ?_; clear E a; intro a E
                      refine mix_guard_undef E rfl rfl rfl rfl rfl rfl (by decide) ?_; clear E a; intro a E
                      refine mix_guard_undef E rfl rfl rfl rfl rfl rfl (by decide) ?_; clear E a; intro a E
                      refine mix_guard_no E rfl rfl rfl rfl rfl rfl rfl (by decide) ?_; clear E a; intro a E
                      refine mix_pure E rfl rfl rfl (by decide) (fun w h => rn_pick_no' E rfl rfl rfl rfl) ?_; clear E a; intro a E
                      refine mix_nil ?_
                      refine joined_here ?_
                      first | (rw [decide_eq_false (show ¬ ((k[i]'hil).at_ < at') by omega)] at E; exact ⟨⟨_, S⟩, E.keep (keep_cons rfl (keep_cons rfl (keep_cons rfl (keep_cons rfl (keep_cons rfl (keep_cons rfl (keep_cons rfl (keep_cons rfl (keep_cons rfl (keep_cons rfl keep_nil))))))))))⟩) | (rw [decide_eq_false (show ¬ (f < at') by omega)] at E; exact ⟨⟨_, S⟩, E.keep (keep_cons rfl (keep_cons rfl (keep_cons rfl (keep_cons rfl (keep_cons rfl (keep_cons rfl (keep_cons rfl (keep_cons rfl (keep_cons rfl (keep_cons rfl keep_nil))))))))))⟩) | exact ⟨⟨_, S⟩, E.keep (keep_cons rfl (keep_cons rfl (keep_cons rfl (keep_cons rfl (keep_cons rfl (keep_cons rfl (keep_cons rfl (keep_cons rfl (keep_cons rfl (keep_cons rfl keep_nil))))))))))⟩
                  · have hb152n := hb152; first | replace hb152n := n1 hb152n | replace hb152n := n2 hb152n | replace hb152n := n3 hb152n | replace hb152n := n4 hb152n | replace hb152n := n5 hb152n | replace hb152n := n6 hb152n | skip
                    refine mix_guard_no E rfl rfl rfl rfl rfl hb152 rfl (by decide) ?_; clear E a; intro a E
                    refine mix_guard_no E rfl rfl rfl rfl rfl hb152 rfl (by decide) ?_; clear E a; intro a E
                    refine mix_pure E rfl rfl rfl (by decide) (fun w h => rn_pick_no' E rfl rfl hb152 rfl) ?_; clear E a; intro a E
                    refine mix_pure E rfl rfl rfl (by decide) (fun w h => rn_move E rfl rfl) ?_; clear E a; intro a E
                    refine mix_guard_no E rfl rfl rfl rfl rfl rfl rfl (by decide) ?_; clear E a; intro a E
                    refine mix_guard_no E rfl rfl rfl rfl rfl rfl rfl (by decide) ?_; clear E a; intro a E
                    refine mix_guard_no E rfl rfl rfl rfl rfl rfl rfl (by decide) ?_; clear E a; intro a E
                    refine mix_guard_no E rfl rfl rfl rfl rfl rfl rfl (by decide) ?_; clear E a; intro a E
                    refine mix_guard_no E rfl rfl rfl rfl rfl rfl rfl (by decide) ?_; clear E a; intro a E
                    refine mix_guard_no E rfl rfl rfl rfl rfl rfl rfl (by decide) ?_; clear E a; intro a E
                    refine mix_guard_no E rfl rfl rfl rfl rfl rfl rfl (by decide) ?_; clear E a; intro a E
                    refine mix_guard_no E rfl rfl rfl rfl rfl rfl rfl (by decide) ?_; clear E a; intro a E
                    refine mix_guard_no E rfl rfl rfl rfl rfl rfl rfl (by decide) ?_; clear E a; intro a E
                    refine mix_guard_no E rfl rfl rfl rfl rfl rfl rfl (by decide) ?_; clear E a; intro a E
                    refine mix_guard_no E rfl rfl rfl rfl rfl rfl rfl (by decide) ?_; clear E a; intro a E
                    refine mix_guard_no E rfl rfl rfl rfl rfl rfl rfl (by decide) ?_; clear E a; intro a E
                    refine mix_guard_no E rfl rfl rfl rfl rfl rfl rfl (by decide) ?_; clear E a; intro a E
                    refine mix_pure E rfl rfl rfl (by decide) (fun w h => rn_pick_no' E rfl rfl rfl rfl) ?_; clear E a; intro a E
                    refine mix_pure E rfl rfl rfl (by decide) (fun w h => rn_move E rfl rfl) ?_; clear E a; intro a E
                    refine mix_guard_no E rfl rfl rfl rfl rfl rfl rfl (by decide) ?_; clear E a; intro a E
                    refine mix_guard_no E rfl rfl rfl rfl rfl rfl rfl (by decide) ?_; clear E a; intro a E
                    refine mix_guard_no E rfl rfl rfl rfl rfl rfl rfl (by decide) ?_; clear E a; intro a E
                    refine mix_guard_no E rfl rfl rfl rfl rfl rfl rfl (by decide) ?_; clear E a; intro a E
                    refine mix_guard_no E rfl rfl rfl rfl rfl rfl rfl (by decide) ?_; clear E a; intro a E
                    refine mix_guard_no E rfl rfl rfl rfl rfl rfl rfl (by decide) ?_; clear E a; intro a E
                    refine mix_guard_no E rfl rfl rfl rfl rfl rfl rfl (by decide) ?_; clear E a; intro a E
                    refine mix_guard_no E rfl rfl rfl rfl rfl rfl rfl (by decide) ?_; clear E a; intro a E
                    refine mix_guard_no E rfl rfl rfl rfl rfl rfl rfl (by decide) ?_; clear E a; intro a E
                    refine mix_guard_no E rfl rfl rfl rfl rfl rfl rfl (by decide) ?_; clear E a; intro a E
                    refine mix_guard_no E rfl rfl rfl rfl rfl rfl rfl (by decide) ?_; clear E a; intro a E
                    refine mix_guard_no E rfl rfl rfl rfl rfl rfl rfl (by decide) ?_; clear E a; intro a E
                    refine mix_guard_no E rfl rfl rfl rfl rfl rfl rfl (by decide) ?_; clear E a; intro a E
                    refine mix_guard_no E rfl rfl rfl rfl rfl rfl rfl (by decide) ?_; clear E a; intro a E
                    refine mix_guard_no E rfl rfl rfl rfl rfl rfl rfl (by decide) ?_; clear E a; intro a E
                    refine mix_pure E rfl rfl rfl (by decide) (fun w h => rn_pick_no' E rfl rfl rfl rfl) ?_; clear E a; intro a E
                    refine mix_pure E rfl rfl rfl (by decide) (fun w h => rn_move E rfl rfl) ?_; clear E a; intro a E
                    refine mix_guard_no E rfl rfl rfl rfl rfl rfl rfl (by decide) ?_; clear E a; intro a E
                    refine mix_guard_no E rfl rfl rfl rfl rfl rfl rfl (by decide) ?_; clear E a; intro a E
                    refine mix_guard_no E rfl rfl rfl rfl rfl rfl rfl (by decide) ?_; clear E a; intro a E
                    refine mix_guard_undef E rfl rfl rfl rfl rfl rfl (by decide) ?_; clear E a; intro a E
                    refine mix_guard_undef E rfl rfl rfl rfl rfl rfl (by decide) ?_; clear E a; intro a E
                    refine mix_guard_undef E rfl rfl rfl rfl rfl rfl (by decide) ?_; clear E a; intro a E
                    refine mix_guard_no E rfl rfl rfl rfl rfl rfl rfl (by decide) ?_; clear E a; intro a E
                    refine mix_pure E rfl rfl rfl (by decide) (fun w h => rn_pick_no' E rfl rfl rfl rfl) ?_; clear E a; intro a E
                    refine mix_nil ?_
                    refine joined_here ?_
                    first | (rw [decide_eq_false (show ¬ ((k[i]'hil).at_ < at') by omega)] at E; exact ⟨⟨_, S⟩, E.keep (keep_cons rfl (keep_cons rfl (keep_cons rfl (keep_cons rfl (keep_cons rfl (keep_cons rfl (keep_cons rfl (keep_cons rfl (keep_cons rfl (keep_cons rfl keep_nil))))))))))⟩) | (rw [decide_eq_false (show ¬ (f < at') by omega)] at E; exact ⟨⟨_, S⟩, E.keep (keep_cons rfl (keep_cons rfl (keep_cons rfl (keep_cons rfl (keep_cons rfl (keep_cons rfl (keep_cons rfl (keep_cons rfl (keep_cons rfl (keep_cons rfl keep_nil))))))))))⟩) | exact ⟨⟨_, S⟩, E.keep (keep_cons rfl (keep_cons rfl (keep_cons rfl (keep_cons rfl (keep_cons rfl (keep_cons rfl (keep_cons rfl (keep_cons rfl (keep_cons rfl (keep_cons rfl keep_nil))))))))))⟩
                · clear E S a; intro a w J; obtain ⟨⟨Ls, S⟩, E⟩ := J
                  refine then_k hK ?_; clear hK; clear K
                  refine if_false' E rfl (rfl) ?_
                  refine wp_skip ?_
                  refine in_normal ?_
                  refine then_k hK ?_; clear hK; clear K
                  refine region_list ?_
                  refine list_pure E rfl rfl (by decide) (rn_move E rfl rfl) ?_; clear E a; intro a E
                  refine list_pure E rfl rfl (by decide) (rn_add E rfl rfl rfl (by first | exact wa_lit (y := 1) (by omega) | exact w_in (by omega) | exact w_inu (by omega) | exact rfl)) ?_; clear E a; intro a E
                  refine list_pure E rfl rfl (by decide) (rn_assign E rfl rfl) ?_; clear E a; intro a E
                  refine wpList_nil ?_
                  refine then_normal ?_
                  exact ⟨_, by omega, i + 1, rfl, by omega, ⟨_, S⟩, E.keep (keep_cons rfl (keep_cons rfl (keep_cons rfl (keep_cons rfl (keep_cons rfl (keep_cons rfl (keep_cons rfl (keep_cons rfl (keep_cons rfl keep_nil)))))))))⟩
            · first | replace hb := n1 hb | replace hb := n2 hb | replace hb := n3 hb | replace hb := n4 hb | replace hb := n5 hb | replace hb := n6 hb | skip
              refine wp_exit ?_
              refine then_exit ?_; clear hK; clear K
              refine then_exit ?_
              refine in_exit ?_
              refine then_k hK ?_; clear hK; clear K
              refine wp_seq_k ?_; intro K hK
              refine region_list ?_
              refine list_pure E rfl rfl (by decide) (rn_move E rfl rfl) ?_; clear E a; intro a E
              refine list_pure E rfl rfl (by decide) (rn_move E rfl rfl) ?_; clear E a; intro a E
              refine guard_true E (t := 198) rfl (rfl) (fun hb198 => ?_)
              refine list_guard_yes E rfl rfl rfl rfl hb198 rfl (by decide) (rn_move E rfl rfl) ?_; clear E a; intro a E
              refine list_pure E rfl rfl (by decide) (rn_pick_yes' E rfl rfl hb198 rfl) ?_; clear E a; intro a E
              refine list_pure E rfl rfl (by decide) (rn_move E rfl rfl) ?_; clear E a; intro a E
              refine guard_true E (t := 201) rfl (rfl) (fun hb201 => ?_)
              refine list_guard_yes E rfl rfl rfl rfl hb201 rfl (by decide) (rn_move E rfl rfl) ?_; clear E a; intro a E
              refine list_pure E rfl rfl (by decide) (rn_pick_yes' E rfl rfl hb201 rfl) ?_; clear E a; intro a E
              refine list_pure E rfl rfl (by decide) (rn_assign E rfl rfl) ?_; clear E a; intro a E
              refine wpList_nil ?_
              refine then_k hK ?_; clear hK; clear K
              refine wp_ret ?_
              refine ret1 E rfl rfl ?_
              exact ⟨_, rfl, rfl, (S.only (Bs := [O]) (sel_cons (by first | exact pk1 | exact pk2 | exact pk3 | exact pk4 | exact pk5 | exact pk6 | exact pk7 | exact pk8 | exact pk9) (sel_nil _))).tr⟩
end Go.Proofs.Ytogpohhhhjpmdaa
