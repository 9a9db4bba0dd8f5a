/-
  FrameCuts.
-/
import Derived.Test.YtjhmjdgdgpgcdaaDoorCutP
namespace Go.Proofs.YtjhmjdgdgpgcdaaDoor
open Go.Sl
set_option maxRecDepth 10000
theorem rqE_may2 {q : Rq} (h : rqE q = 0) : q.may := Decidable.byContradiction fun hn => by rw [rqE_no hn] at h; omega

theorem cuts_walk (O : Chunk) (hG : Tab [O] 2 shaK) (v u : Value) (l : List (Value × Rq)) (cs : List Int) (hO : Rd O 10 v l.length (l.flatMap qlay)) (hll : l.length ≤ 1048576) (hq : ∀ x ∈ l, Rd O 1 x.1 x.2.data.length (byt x.2.data))
    (hU : Rd O 1 u cs.length (cs.map (.int .i64))) (hcl : cs.length ≤ 1048576) (hci : ∀ z ∈ cs, -9223372036854775808 ≤ z ∧ z ≤ 9223372036854775807) (w0 : World) (H : Hp w0 [O]) :
    Ret Tryd.prog 5 #[v, u] w0 fun u w' => u = .bool true ∧ Trs w0 w' [O] [O] := by
  have S := St.begin H
  obtain ⟨ad, c, rfl⟩ := hO.slice
  obtain ⟨adu, cu, rfl⟩ := hU.slice
  refine enter2 131 Tryd.func5 rfl rfl (by decide) ?_; intro a E
  refine wp_seq_k ?_; intro K hK
  refine region_list ?_
  refine list_pure E rfl rfl (by decide) (rn_assign E rfl rfl) ?_; clear E a; intro a E
  refine wpList_nil ?_
  refine then_k hK ?_; clear hK; clear K
  refine wp_seq_k ?_; intro K hK
  refine region_list ?_
  refine list_call E rfl rfl (by decide) rfl Tryd.func9 rfl (by kernel_rfl) rfl (awake_ret _ hG _ S.hp) ?_
  rintro v22 w ⟨rfl, hT⟩; clear E a; intro a E
  have S := S.all hT
  refine list_pure E rfl rfl (by decide) (rn_assign E rfl rfl) ?_; clear E a; intro a E
  refine wpList_nil ?_
  refine then_k hK ?_; clear hK; clear K
  refine wp_seq_k ?_; intro K hK
  refine region_list ?_
  refine list_call E rfl rfl (by decide) rfl Tryd.func12 rfl (by kernel_rfl) rfl (lnew_ret _) ?_
  rintro v23 w ⟨p, A0, rfl, hA0, hT⟩; clear E a; intro a E
  have S := S.fresh hT
  refine list_pure E rfl rfl (by decide) (rn_assign E rfl rfl) ?_; clear E a; intro a E
  refine wpList_nil ?_
  refine then_k hK ?_; clear hK; clear K
  refine wp_seq_k ?_; intro K hK
  refine wp_seq_k ?_; intro K hK
  refine region_list ?_
  refine list_pure E rfl rfl (by decide) (rn_move E rfl rfl) ?_; clear E a; intro a E
  refine list_pure E rfl rfl (by decide) (rn_not E rfl rfl) ?_; clear E a; intro a E
  refine list_pure E rfl rfl (by decide) (rn_move E rfl rfl) ?_; clear E a; intro a E
  refine guard_false E (t := 26) rfl (rfl) (fun hb26 => ?_)
  refine list_guard_yes E rfl rfl rfl rfl hb26 rfl (by decide) (rn_move E rfl rfl) ?_; clear E a; intro a E
  refine list_guard_yes E rfl rfl rfl rfl hb26 rfl (by decide) (by first | exact rn_eql E rfl rfl rfl | exact rn_eql_ptr_nil E rfl rfl rfl rfl | exact rn_eql_bool E rfl rfl rfl rfl | exact rn_eql_string E rfl rfl rfl) ?_; clear E a; intro a E
  refine list_pure E rfl rfl (by decide) (rn_pick_no' E rfl rfl hb26 rfl) ?_; clear E a; intro a E
  refine wpList_nil ?_
  refine then_k hK ?_; clear hK; clear K
  refine if_false' E rfl (rfl) ?_
  refine wp_skip ?_
  refine then_k hK ?_; clear hK; clear K
  refine wp_seq_k ?_; intro K hK
  refine region_list ?_
  refine list_pure E rfl rfl (by decide) (rn_assign E rfl rfl) ?_; clear E a; intro a E
  refine wpList_nil ?_
  refine then_k hK ?_; clear hK; clear K
  refine wp_seq_k ?_; intro K hK
  refine region_list ?_
  refine list_pure E rfl rfl (by decide) (rn_assign E rfl rfl) ?_; clear E a; intro a E
  refine wpList_nil ?_
  refine then_k hK ?_; clear hK; clear K
  refine wp_seq_k ?_; intro K hK
  refine wp_seq_k ?_; intro K hK
  have S := S.addNil.addNil
  refine region_list ?_
  refine list_pure E rfl rfl (by decide) (rn_assign E rfl rfl) ?_; clear E a; intro a E
  refine wpList_nil ?_
  refine then_k hK ?_; clear hK; clear K
  refine wp_block ?_
  refine wp_loop_ghost (fun (m : Nat) (a : Act) (w' : World) => ∃ (i : Nat) (ss : List (Value × Rq)) (va vs : Value) (Ca Cs : Chunk), m = l.length - i ∧ i ≤ l.length ∧ ss.length ≤ i ∧ (∀ x ∈ ss, x ∈ l ∧ x.2.may) ∧ Buf Ca 5 1 va (qall ss).length (byt (qall ss)) ∧ Buf Cs 24 10 vs ss.length (ss.flatMap qlay) ∧ St w0 [O] w' [Ca, Cs, A0, O] ∧ Fr a 131 [(0, .slice ad l.length c), (1, .slice adu cs.length cu), (6, ptr p), (7, va), (8, vs), (9, .int .i64 i)]) (l.length - 0) ?_ ?_
  · exact ⟨0, [], _, _, [], [], rfl, by omega, by simp, fun x hx => by simp at hx, Buf.nil _ _, Buf.nil _ _, S, E.keep (keep_cons rfl (keep_cons rfl (keep_cons rfl (keep_cons rfl (keep_cons rfl (keep_cons rfl keep_nil))))))⟩
  clear E; clear a; (try clear S); rintro m a w ⟨i, ss, va, vs, Ca, Cs, rfl, hi, hsl, hss, hCa, hCs, S, E⟩
  refine wp_seq_k ?_; intro K hK
  refine wp_seq_k ?_; intro K hK
  refine region_list ?_
  refine list_pure E rfl rfl (by decide) (rn_move E rfl rfl) ?_; clear E a; intro a E
  refine list_pure E rfl rfl (by decide) (rn_move E rfl rfl) ?_; clear E a; intro a E
  refine list_pure E rfl rfl (by decide) (by first | exact rn_len E rfl rfl rfl | exact rn_len_str E rfl rfl rfl | exact rn_len_string E rfl rfl rfl) ?_; clear E a; intro a E
  refine list_pure E rfl rfl (by decide) (rn_lss E rfl rfl rfl) ?_; clear E a; intro a E
  refine wpList_nil ?_
  refine then_k hK ?_; clear hK; clear K
  refine if_bool E rfl (fun hb => ?_) (fun hb => ?_)
  · replace hb := Nrm.nrm hb
    refine wp_skip ?_
    refine then_k hK ?_; clear hK; clear K
    refine wp_seq_k ?_; intro K hK
    refine wp_block ?_
    refine wp_seq_k ?_; intro K hK
    have hil : i < l.length := by omega
    obtain ⟨g, off, rfl⟩ := hO.addr (by omega)
    obtain ⟨x, hx⟩ : ∃ x, x = l[i]'hil := ⟨_, rfl⟩
    have hxm : x ∈ l := by rw [hx]; exact List.getElem_mem hil
    have hxq := hq x hxm
    have hxr := hxq
    obtain ⟨xv, xr⟩ := x
    simp only at hxr hxq
    obtain ⟨adx, cx, rfl⟩ := hxr.slice
    have hel : ∀ (w : World), (∀ y ∈ O, w.heap[y.1]? = some y.2) → ∀ j u, (qlay (.slice adx xr.data.length cx, xr))[j]? = some u → w.cell? ⟨g, off + i * 10 + j, none⟩ = some u := fun w hC => by rw [hx]; exact hO.elem (lay := qlay) qlay_len hC hil
    have hql := qall_len ss
    refine region_list ?_
    refine list_pure E rfl rfl (by decide) (rn_move E rfl rfl) ?_; clear E a; intro a E
    refine list_pure E rfl rfl (by decide) (rn_move E rfl rfl) ?_; clear E a; intro a E
    refine list_pure E rfl rfl (by decide) (by first | exact rn_indexAddr1 E rfl rfl rfl rfl rfl rfl (by omega) | exact rn_indexAddr E rfl rfl rfl rfl rfl rfl (by omega) | exact rn_indexAddr_array E rfl rfl rfl rfl rfl rfl (by omega)) ?_; clear E a; intro a E
    refine list_pure E rfl rfl (by decide) (rn_load_aggc (vs := [_, _, _, _, _, _, _, _, _, _]) E rfl rfl rfl rfl (hel _ (S.stab.at (by repeat (first | exact mm1 | assumption | apply List.Mem.tail))))) ?_; clear E a; intro a E
    refine list_call E rfl rfl (by decide) rfl Tryd.func10 rfl (by kernel_rfl) rfl (rqencode_ret xr O _ hxq _ (show O ∈ _ from (by repeat (first | exact mm1 | assumption | apply List.Mem.tail))) (hG.sub (fun _ h => by rw [List.mem_singleton.1 h]; exact (by repeat (first | exact mm1 | assumption | apply List.Mem.tail)))) _ S.hp) ?_
    rintro v41 w ⟨y, C, rfl, hC, hT⟩; clear E a; intro a E
    have S := S.all hT; have hsm := rqO_small xr
    refine list_pure E rfl rfl (by decide) (rn_move E rfl rfl) ?_; clear E a; intro a E
    refine list_pure E rfl rfl (by decide) (rn_extract E rfl rfl rfl) ?_; clear E a; intro a E
    refine list_pure E rfl rfl (by decide) (rn_extract E rfl rfl rfl) ?_; clear E a; intro a E
    refine list_pure E rfl rfl (by decide) (rn_assign E rfl rfl) ?_; clear E a; intro a E
    refine list_pure E rfl rfl (by decide) (rn_assign E rfl rfl) ?_; clear E a; intro a E
    refine wpList_nil ?_
    refine then_k hK ?_; clear hK; clear K
    refine wp_seq_k ?_; intro K hK
    refine region_list ?_
    refine list_pure E rfl rfl (by decide) (rn_move E rfl rfl) ?_; clear E a; intro a E
    refine list_pure E rfl rfl (by decide) (by first | exact rn_eql E rfl rfl rfl | exact rn_eql_ptr_nil E rfl rfl rfl rfl | exact rn_eql_bool E rfl rfl rfl rfl | exact rn_eql_string E rfl rfl rfl) ?_; clear E a; intro a E
    refine wpList_nil ?_
    refine then_k hK ?_; clear hK; clear K
    refine wp_join (fun (a : Act) (w' : World) => ∃ (ss : List (Value × Rq)) (va vs : Value) (Ca Cs : Chunk), ss.length ≤ i + 1 ∧ (∀ x ∈ ss, x ∈ l ∧ x.2.may) ∧ Buf Ca 5 1 va (qall ss).length (byt (qall ss)) ∧ Buf Cs 24 10 vs ss.length (ss.flatMap qlay) ∧ St w0 [O] w' [Ca, Cs, A0, O] ∧ Fr a 131 [(0, .slice (some ⟨g, off, none⟩) l.length c), (1, .slice adu cs.length cu), (6, ptr p), (7, va), (8, vs), (9, .int .i64 i)]) ?_ ?_
    · skip
      refine if_bool E rfl (fun hb => ?_) (fun hb => ?_)
      · replace hb := Nrm.nrm hb
        have hm := rqE_may2 hb
        refine wp_seq_k ?_; intro K hK
        refine region_list ?_
        refine list_pure E rfl rfl (by decide) (rn_move E rfl rfl) ?_; clear E a; intro a E
        refine list_pure E rfl rfl (by decide) (rn_move E rfl rfl) ?_; clear E a; intro a E
        refine list_wp rfl (wp_append (by' := 1) E S rfl rfl (by decide) rfl rfl hCa (by repeat (first | exact pk1 | apply pick_tail)) (hC.rd.src (S.stab.at (by repeat (first | exact mm1 | assumption | apply List.Mem.tail))) rfl) rfl rfl rfl rfl rfl rfl (by simp only [maxLen]; omega) (by omega) ?_); clear E S a; intro a w v48 C48 E S hB48
        refine list_pure E rfl rfl (by decide) (rn_assign E rfl rfl) ?_; clear E a; intro a E
        refine wpList_nil ?_
        refine then_k hK ?_; clear hK; clear K
        refine region_list ?_
        refine list_pure E rfl rfl (by decide) (rn_move E rfl rfl) ?_; clear E a; intro a E
        refine list_pure E rfl rfl (by decide) (rn_move E rfl rfl) ?_; clear E a; intro a E
        refine list_pure E rfl rfl (by decide) (rn_move E rfl rfl) ?_; clear E a; intro a E
        refine list_pure E rfl rfl (by decide) (by first | exact rn_indexAddr1 E rfl rfl rfl rfl rfl rfl (by omega) | exact rn_indexAddr E rfl rfl rfl rfl rfl rfl (by omega) | exact rn_indexAddr_array E rfl rfl rfl rfl rfl rfl (by omega)) ?_; clear E a; intro a E
        refine list_pure E rfl rfl (by decide) (rn_load_aggc (vs := [_, _, _, _, _, _, _, _, _, _]) E rfl rfl rfl rfl (hel _ (S.stab.at (by repeat (first | exact mm1 | assumption | apply List.Mem.tail))))) ?_; clear E a; intro a E
        refine list_wp rfl (wp_bslice (cells := [_, _, _, _, _, _, _, _, _, _]) E S rfl rfl (by decide) rfl rfl rfl rfl rfl (by decide) rfl ?_); clear E S a; intro a w b54 E S
        refine list_wp rfl (wp_append (by' := 128) E S rfl rfl (by decide) rfl rfl hCs (by repeat (first | exact pk1 | apply pick_tail)) ((rd_cells (g := b54) (T := 24) (xs := qlay (.slice adx xr.data.length cx, xr)) (s := 10) (m := 1) rfl (by simp [qlay, Value.oneCell']) (by omega) 1).src (S.stab.at (by repeat (first | exact mm1 | assumption | apply List.Mem.tail))) rfl) rfl rfl rfl rfl rfl rfl (by simp only [maxLen]; omega) (by omega) ?_); clear E S a; intro a w v55 C55 E S hB55
        refine list_pure E rfl rfl (by decide) (rn_assign E rfl rfl) ?_; clear E a; intro a E
        refine wpList_nil ?_
        refine joined_here ?_
        exact ⟨ss ++ [(.slice adx xr.data.length cx, xr)], v48, v55, C48, C55, by rw [List.length_append, List.length_singleton]; omega, fun z hz => (by rcases List.mem_append.1 hz with h | h; exact hss z h; rw [List.mem_singleton.1 h]; exact ⟨hxm, hm⟩), by rw [qall_snoc, byt_append, List.length_append]; exact hB48, by rw [List.flatMap_append, List.length_append, List.length_singleton]; simpa using hB55, S.only (Bs := [C48, C55, A0, O]) (sel_cons (by repeat (first | exact pk1 | apply pick_tail)) (sel_cons (by repeat (first | exact pk1 | apply pick_tail)) (sel_cons (by repeat (first | exact pk1 | apply pick_tail)) (sel_cons (by repeat (first | exact pk1 | apply pick_tail)) (sel_nil _))))), E.keep (keep_cons rfl (keep_cons rfl (keep_cons rfl (keep_cons rfl (keep_cons rfl (keep_cons rfl keep_nil))))))⟩
      · replace hb := Nrm.nrm hb
        skip
        refine wp_skip ?_
        refine joined_here ?_
        exact ⟨ss, va, vs, Ca, Cs, by omega, hss, hCa, hCs, S.only (Bs := [Ca, Cs, A0, O]) (sel_cons (by repeat (first | exact pk1 | apply pick_tail)) (sel_cons (by repeat (first | exact pk1 | apply pick_tail)) (sel_cons (by repeat (first | exact pk1 | apply pick_tail)) (sel_cons (by repeat (first | exact pk1 | apply pick_tail)) (sel_nil _))))), E.keep (keep_cons rfl (keep_cons rfl (keep_cons rfl (keep_cons rfl (keep_cons rfl (keep_cons rfl keep_nil))))))⟩
    · clear S E a; intro a w J; obtain ⟨ss, va, vs, Ca, Cs, hsl, hss, hCa, hCs, S, E⟩ := J
      refine in_normal ?_
      refine then_k hK ?_; clear hK; clear K
      refine region_list ?_
      refine list_pure E rfl rfl (by decide) (rn_move E rfl rfl) ?_; clear E a; intro a E
      refine list_pure E rfl rfl (by decide) (rn_add E rfl rfl rfl (by first | exact wa_lit (y := 1) (by omega) | exact w_in (by omega) | exact w_inu (by omega) | exact rfl)) ?_; clear E a; intro a E
      refine list_pure E rfl rfl (by decide) (rn_assign E rfl rfl) ?_; clear E a; intro a E
      refine wpList_nil ?_
      refine then_normal ?_
      exact ⟨_, by omega, i + 1, ss, va, vs, Ca, Cs, rfl, by omega, hsl, hss, hCa, hCs, S, E.keep (keep_cons rfl (keep_cons rfl (keep_cons rfl (keep_cons rfl (keep_cons rfl (keep_cons rfl keep_nil))))))⟩
  · replace hb := Nrm.nrm hb
    refine wp_exit ?_
    refine then_exit ?_; clear hK; clear K
    refine then_exit ?_
    refine in_exit ?_
    refine then_k hK ?_; clear hK; clear K
    refine wp_seq_k ?_; intro K hK
    refine region_list ?_
    refine list_pure E rfl rfl (by decide) (rn_assign E rfl rfl) ?_; clear E a; intro a E
    refine wpList_nil ?_
    refine then_k hK ?_; clear hK; clear K
    refine wp_seq_k ?_; intro K hK
    refine region_list ?_
    refine list_pure E rfl rfl (by decide) (rn_assign E rfl rfl) ?_; clear E a; intro a E
    refine wpList_nil ?_
    refine then_k hK ?_; clear hK; clear K
    refine wp_seq_k ?_; intro K hK
    refine wp_seq_k ?_; intro K hK
    have hql := qall_len ss
    obtain ⟨all, hall⟩ : ∃ all, all = qall ss := ⟨_, rfl⟩
    have hfr := cutR_frames (ss.map fun x => rqO x.2) (fun z hz => by obtain ⟨x, hx, rfl⟩ := List.mem_map.1 hz; exact rqO_ok (hss x hx).2)
    rw [show (ss.map fun x => rqO x.2).flatten = all from hall.symm] at hfr
    rw [← hall] at hCa hql
    obtain ⟨ada, ca, rfl⟩ := hCa.slice
    obtain ⟨ads, c8, rfl⟩ := hCs.slice
    have hca := hCa.cap_le
    have S := S.addNil.addNil
    refine region_list ?_
    refine list_pure E rfl rfl (by decide) (rn_assign E rfl rfl) ?_; clear E a; intro a E
    refine wpList_nil ?_
    refine then_k hK ?_; clear hK; clear K
    refine wp_block ?_
    refine wp_loop_ghost (fun (m : Nat) (a : Act) (w' : World) => ∃ (i k : Nat) (gs : List (List UInt8)) (q : List UInt8) (vg : Value) (us : List Value) (A X Y : Chunk), m = cs.length + 1 - i ∧ i ≤ cs.length + 1 ∧ k ≤ all.length ∧ (i = cs.length + 1 → k = all.length) ∧ cutR (all.take k) = (gs, q, 0) ∧ LnC 64 p q A ∧ Buf X 22 1 vg gs.length us ∧ Inn 5 1 byt Y us gs ∧ St w0 [O] w' [X, Y, A, Ca, Cs, O] ∧ Fr a 131 [(1, .slice adu cs.length cu), (6, ptr p), (7, .slice ada all.length ca), (8, .slice ads ss.length c8), (12, vg), (13, .int .i64 k), (14, .int .i64 i)]) (cs.length + 1 - 0) ?_ ?_
    · exact ⟨0, 0, [], [], _, [], A0, [], [], rfl, by omega, by omega, by omega, cutR_short (by simp), hA0, Buf.nil _ _, rfl, S.only (Bs := [[], [], A0, Ca, Cs, O]) (sel_cons (by repeat (first | exact pk1 | apply pick_tail)) (sel_cons (by repeat (first | exact pk1 | apply pick_tail)) (sel_cons (by repeat (first | exact pk1 | apply pick_tail)) (sel_cons (by repeat (first | exact pk1 | apply pick_tail)) (sel_cons (by repeat (first | exact pk1 | apply pick_tail)) (sel_cons (by repeat (first | exact pk1 | apply pick_tail)) (sel_nil _))))))), E.keep (keep_cons rfl (keep_cons rfl (keep_cons rfl (keep_cons rfl (keep_cons rfl (keep_cons rfl (keep_cons rfl keep_nil)))))))⟩
    clear E; clear a; (try clear S); rintro m a w ⟨i, k, gs, q, vg, us, A, X, Y, rfl, hi, hk, hend, hcut, hA, hX, hY, S, E⟩
    have hcnt := cutR_count (all.take k); rw [hcut] at hcnt; have htk : (all.take k).length = k := (by rw [List.length_take]; omega); have hcs := cutR_small (all.take k); rw [hcut] at hcs; dsimp only at hcs hcnt
    refine wp_seq_k ?_; intro K hK
    refine wp_seq_k ?_; intro K hK
    refine region_list ?_
    refine list_pure E rfl rfl (by decide) (rn_move E rfl rfl) ?_; clear E a; intro a E
    refine list_pure E rfl rfl (by decide) (rn_move E rfl rfl) ?_; clear E a; intro a E
    refine list_pure E rfl rfl (by decide) (by first | exact rn_len E rfl rfl rfl | exact rn_len_str E rfl rfl rfl | exact rn_len_string E rfl rfl rfl) ?_; clear E a; intro a E
    refine list_pure E rfl rfl (by decide) (rn_leq E rfl rfl rfl) ?_; clear E a; intro a E
    refine wpList_nil ?_
    refine then_k hK ?_; clear hK; clear K
    refine if_bool E rfl (fun hb => ?_) (fun hb => ?_)
    · replace hb := Nrm.nrm hb
      refine wp_skip ?_
      refine then_k hK ?_; clear hK; clear K
      refine wp_seq_k ?_; intro K hK
      refine wp_block ?_
      refine wp_seq_k ?_; intro K hK
      refine region_list ?_
      refine list_pure E rfl rfl (by decide) (rn_move E rfl rfl) ?_; clear E a; intro a E
      refine list_pure E rfl rfl (by decide) (by first | exact rn_len E rfl rfl rfl | exact rn_len_str E rfl rfl rfl | exact rn_len_string E rfl rfl rfl) ?_; clear E a; intro a E
      refine list_pure E rfl rfl (by decide) (rn_assign E rfl rfl) ?_; clear E a; intro a E
      refine wpList_nil ?_
      refine then_k hK ?_; clear hK; clear K
      refine wp_seq_k ?_; intro K hK
      refine wp_seq_k ?_; intro K hK
      refine region_list ?_
      refine list_pure E rfl rfl (by decide) (rn_move E rfl rfl) ?_; clear E a; intro a E
      refine list_pure E rfl rfl (by decide) (rn_move E rfl rfl) ?_; clear E a; intro a E
      refine list_pure E rfl rfl (by decide) (by first | exact rn_len E rfl rfl rfl | exact rn_len_str E rfl rfl rfl | exact rn_len_string E rfl rfl rfl) ?_; clear E a; intro a E
      refine list_pure E rfl rfl (by decide) (rn_lss E rfl rfl rfl) ?_; clear E a; intro a E
      refine wpList_nil ?_
      refine then_k hK ?_; clear hK; clear K
      refine wp_join (fun (a : Act) (w' : World) => ∃ to : Nat, k ≤ to ∧ to ≤ all.length ∧ (i = cs.length → to = all.length) ∧ St w0 [O] w' [X, Y, A, Ca, Cs, O] ∧ Fr a 131 [(1, .slice adu cs.length cu), (6, ptr p), (7, .slice ada all.length ca), (8, .slice ads ss.length c8), (12, vg), (13, .int .i64 k), (14, .int .i64 i), (15, .int .i64 to)]) ?_ ?_
      · skip
        refine if_bool E rfl (fun hb => ?_) (fun hb => ?_)
        · replace hb := Nrm.nrm hb
          have hib : i < cs.length := by omega
          obtain ⟨gu, offu, rfl⟩ := hU.addr (by omega)
          have hcz := hci _ (List.getElem_mem hib)
          refine region_list ?_
          refine list_pure E rfl rfl (by decide) (rn_move E rfl rfl) ?_; clear E a; intro a E
          refine list_pure E rfl rfl (by decide) (rn_move E rfl rfl) ?_; clear E a; intro a E
          refine list_pure E rfl rfl (by decide) (rn_move E rfl rfl) ?_; clear E a; intro a E
          refine list_pure E rfl rfl (by decide) (by first | exact rn_indexAddr1 E rfl rfl rfl rfl rfl rfl (by omega) | exact rn_indexAddr E rfl rfl rfl rfl rfl rfl (by omega) | exact rn_indexAddr_array E rfl rfl rfl rfl rfl rfl (by omega)) ?_; clear E a; intro a E
          refine list_pure E rfl rfl (by decide) (rn_loadc E rfl rfl rfl (hU.cells (S.stab.at (by repeat (first | exact mm1 | assumption | apply List.Mem.tail))) rfl i (.int .i64 (cs[i]'hib)) (by simp [hib]))) ?_; clear E a; intro a E
          refine list_pure E rfl rfl (by decide) (rn_move E rfl rfl) ?_; clear E a; intro a E
          refine list_pure E rfl rfl (by decide) (by first | exact rn_len E rfl rfl rfl | exact rn_len_str E rfl rfl rfl | exact rn_len_string E rfl rfl rfl) ?_; clear E a; intro a E
          refine list_pure E rfl rfl (by decide) (rn_move E rfl rfl) ?_; clear E a; intro a E
          refine list_pure E rfl rfl (by decide) (rn_sub E rfl rfl rfl (by first | exact ws1 (by omega) (by omega) | exact w_in (by omega) | exact w_inu (by omega) | exact rfl)) ?_; clear E a; intro a E
          refine list_pure E rfl rfl (by decide) (rn_add E rfl rfl rfl (by first | exact wa_lit (y := 1) (by omega) | exact w_in (by omega) | exact w_inu (by omega) | exact rfl)) ?_; clear E a; intro a E
          refine list_call E rfl rfl (by decide) rfl Tryd.func17 rfl (by kernel_rfl) rfl (lpick_ret (cs[i]'hib) (all.length - k + 1) hcz (by omega) _) ?_
          rintro v78 w ⟨z, rfl, hz, hT⟩; clear E a; intro a E
          have S := S.quiet hT
          refine list_pure E rfl rfl (by decide) (rn_add E rfl rfl rfl (by first | exact wa1 (by omega) | exact w_in (by omega) | exact w_inu (by omega) | exact rfl)) ?_; clear E a; intro a E
          refine list_pure E rfl rfl (by decide) (rn_assign E rfl rfl) ?_; clear E a; intro a E
          refine wpList_nil ?_
          refine joined_here ?_
          exact ⟨k + z, by omega, by omega, by omega, S, E.keep (keep_cons rfl (keep_cons rfl (keep_cons rfl (keep_cons rfl (keep_cons rfl (keep_cons rfl (keep_cons rfl (keep_cons rfl keep_nil))))))))⟩
        · replace hb := Nrm.nrm hb
          refine wp_skip ?_
          refine joined_here ?_
          exact ⟨all.length, by omega, by omega, fun _ => rfl, S, E.keep (keep_cons rfl (keep_cons rfl (keep_cons rfl (keep_cons rfl (keep_cons rfl (keep_cons rfl (keep_cons rfl (keep_cons rfl keep_nil))))))))⟩
      · clear S E a; intro a w J; obtain ⟨to, ht1, ht2, ht3, S, E⟩ := J
        refine then_k hK ?_; clear hK; clear K
        refine wp_seq_k ?_; intro K hK
        obtain ⟨ad2, hs2, hR2⟩ := hCa.rd.cutc (lo := k) (hi := to) (by omega) (by omega) (by omega)
        obtain ⟨pc, hpc⟩ : ∃ pc, pc = (all.drop k).take (to - k) := ⟨_, rfl⟩
        have hpl : pc.length = to - k := by rw [hpc, List.length_take, List.length_drop]; omega
        rw [show ((byt all).drop (k * 1)).take ((to - k) * 1) = byt pc by rw [Nat.mul_one, Nat.mul_one, byt_drop, byt_take, hpc], ← hpl] at hR2
        rw [← hpl] at hs2
        have hj := cutR_append _ (all.take k) pc (Nat.le_refl _) (by rw [hcut])
        rw [hcut, hpc, take_two all ht1, ← hpc] at hj
        obtain ⟨cr, hcr⟩ : ∃ cr, cr = cutR (q ++ pc) := ⟨_, rfl⟩
        dsimp only at hj
        have he0 := (hfr to).1
        rw [hj] at he0
        rw [← hcr] at hj he0
        dsimp only at he0
        have hcn := cutR_count (q ++ pc)
        rw [← hcr, List.length_append] at hcn
        refine region_list ?_
        refine list_pure E rfl rfl (by decide) (rn_move E rfl rfl) ?_; clear E a; intro a E
        refine list_pure E rfl rfl (by decide) (rn_move E rfl rfl) ?_; clear E a; intro a E
        refine list_pure E rfl rfl (by decide) (rn_move E rfl rfl) ?_; clear E a; intro a E
        refine list_pure E rfl rfl (by decide) (rn_move E rfl rfl) ?_; clear E a; intro a E
        refine list_pure E rfl rfl (by decide) (rn_slice_lh (s := 1) (lo := k) (hi := to) E rfl rfl rfl rfl rfl rfl rfl rfl (by omega) (by omega)) ?_; clear E a; intro a E
        rw [hs2] at E
        refine list_call E rfl rfl (by decide) rfl Tryd.func13 rfl (by kernel_rfl) rfl (feed_ret p q A Ca _ pc hA hR2 (by omega) _ (S.hp.sel (sel_cons (by repeat (first | exact pk1 | apply pick_tail)) (sel_cons (by repeat (first | exact pk1 | apply pick_tail)) (sel_nil _))))) ?_
        rintro v86 w ⟨x2, X2, Y2, A2, us2, rfl, hA2, hX2, hY2, hT⟩; clear E a; intro a E
        have S := S.call4 (sel_cons (by repeat (first | exact pk1 | apply pick_tail)) (sel_cons (by repeat (first | exact pk1 | apply pick_tail)) (sel_nil _))) hT; rw [← hcr] at hA2 hX2 hY2 E; obtain ⟨adx2, cx2, rfl⟩ := hX2.slice
        refine list_pure E rfl rfl (by decide) (rn_move E rfl rfl) ?_; clear E a; intro a E
        refine list_pure E rfl rfl (by decide) (rn_extract E rfl rfl rfl) ?_; clear E a; intro a E
        refine list_pure E rfl rfl (by decide) (rn_extract E rfl rfl rfl) ?_; clear E a; intro a E
        refine list_pure E rfl rfl (by decide) (rn_assign E rfl rfl) ?_; clear E a; intro a E
        refine list_pure E rfl rfl (by decide) (rn_assign E rfl rfl) ?_; clear E a; intro a E
        refine wpList_nil ?_
        refine then_k hK ?_; clear hK; clear K
        refine wp_seq_k ?_; intro K hK
        refine wp_seq_k ?_; intro K hK
        refine region_list ?_
        refine list_pure E rfl rfl (by decide) (rn_move E rfl rfl) ?_; clear E a; intro a E
        refine list_pure E rfl rfl (by decide) (by first | exact rn_neq E rfl rfl rfl | exact rn_neq_ptr_nil E rfl rfl rfl rfl | exact rn_neq_bool E rfl rfl rfl rfl | exact rn_neq_string E rfl rfl rfl) ?_; clear E a; intro a E
        refine wpList_nil ?_
        refine then_k hK ?_; clear hK; clear K
        refine if_bool E rfl (fun hb => ?_) (fun hb => ?_)
        · replace hb := Nrm.nrm hb
          exfalso; omega
        · replace hb := Nrm.nrm hb
          refine wp_skip ?_
          refine then_k hK ?_; clear hK; clear K
          refine wp_seq_k ?_; intro K hK
          refine region_list ?_
          refine list_pure E rfl rfl (by decide) (rn_move E rfl rfl) ?_; clear E a; intro a E
          refine list_pure E rfl rfl (by decide) (rn_move E rfl rfl) ?_; clear E a; intro a E
          refine list_wp rfl (wp_append (by' := 24) E S rfl rfl (by decide) rfl rfl hX (by repeat (first | exact pk1 | apply pick_tail)) (hX2.rd.src (S.stab.at (by repeat (first | exact mm1 | assumption | apply List.Mem.tail))) rfl) rfl rfl rfl rfl rfl rfl (by simp only [maxLen]; omega) (by omega) ?_); clear E S a; intro a w v93 C93 E S hB93
          refine list_pure E rfl rfl (by decide) (rn_assign E rfl rfl) ?_; clear E a; intro a E
          refine wpList_nil ?_
          refine then_k hK ?_; clear hK; clear K
          refine region_list ?_
          refine list_pure E rfl rfl (by decide) (rn_move E rfl rfl) ?_; clear E a; intro a E
          refine list_pure E rfl rfl (by decide) (rn_assign E rfl rfl) ?_; clear E a; intro a E
          refine wpList_nil ?_
          refine in_normal ?_
          refine then_k hK ?_; clear hK; clear K
          refine region_list ?_
          refine list_pure E rfl rfl (by decide) (rn_move E rfl rfl) ?_; clear E a; intro a E
          refine list_pure E rfl rfl (by decide) (rn_add E rfl rfl rfl (by first | exact wa_lit (y := 1) (by omega) | exact w_in (by omega) | exact w_inu (by omega) | exact rfl)) ?_; clear E a; intro a E
          refine list_pure E rfl rfl (by decide) (rn_assign E rfl rfl) ?_; clear E a; intro a E
          refine wpList_nil ?_
          refine then_normal ?_
          have S := S.gather (A := Y) (B := Y2) (by repeat (first | exact pk1 | apply pick_tail)) (by repeat (first | exact pk1 | apply pick_tail))
          exact ⟨_, by omega, i + 1, to, gs ++ cr.1, cr.2.1, v93, us ++ us2, A2, C93, Y ++ Y2, rfl, by omega, ht2, fun h => ht3 (by omega), by rw [hj]; congr 1; rw [← he0], hA2, by rw [List.length_append]; exact hB93, Inn.app hY2 hY, S.only (Bs := [C93, Y ++ Y2, A2, Ca, Cs, O]) (sel_cons (by repeat (first | exact pk1 | apply pick_tail)) (sel_cons (by repeat (first | exact pk1 | apply pick_tail)) (sel_cons (by repeat (first | exact pk1 | apply pick_tail)) (sel_cons (by repeat (first | exact pk1 | apply pick_tail)) (sel_cons (by repeat (first | exact pk1 | apply pick_tail)) (sel_cons (by repeat (first | exact pk1 | apply pick_tail)) (sel_nil _))))))), E.keep (keep_cons rfl (keep_cons rfl (keep_cons rfl (keep_cons rfl (keep_cons rfl (keep_cons rfl (keep_cons rfl keep_nil)))))))⟩
    · replace hb := Nrm.nrm hb
      refine wp_exit ?_
      refine then_exit ?_; clear hK; clear K
      refine then_exit ?_
      refine in_exit ?_
      refine then_k hK ?_; clear hK; clear K
      refine wp_seq_k ?_; intro K hK
      refine wp_seq_k ?_; intro K hK
      obtain rfl : i = cs.length + 1 := by omega
      obtain rfl := hend rfl
      have hfin := (hfr all.length).2 (Nat.le_refl _)
      rw [hcut] at hfin
      obtain ⟨hgs, hq0⟩ : gs = (ss.map fun x => rqO x.2) ∧ q = [] := by simpa using hfin
      subst hq0
      have hgl : gs.length = ss.length := by rw [hgs, List.length_map]
      obtain ⟨adg, cg, rfl⟩ := hX.slice
      refine region_list ?_
      refine list_pure E rfl rfl (by decide) (rn_move E rfl rfl) ?_; clear E a; intro a E
      refine list_pure E rfl rfl (by decide) (by first | exact rn_len E rfl rfl rfl | exact rn_len_str E rfl rfl rfl | exact rn_len_string E rfl rfl rfl) ?_; clear E a; intro a E
      refine list_pure E rfl rfl (by decide) (rn_move E rfl rfl) ?_; clear E a; intro a E
      refine list_pure E rfl rfl (by decide) (by first | exact rn_len E rfl rfl rfl | exact rn_len_str E rfl rfl rfl | exact rn_len_string E rfl rfl rfl) ?_; clear E a; intro a E
      refine list_pure E rfl rfl (by decide) (by first | exact rn_neq E rfl rfl rfl | exact rn_neq_ptr_nil E rfl rfl rfl rfl | exact rn_neq_bool E rfl rfl rfl rfl | exact rn_neq_string E rfl rfl rfl) ?_; clear E a; intro a E
      refine list_pure E rfl rfl (by decide) (rn_move E rfl rfl) ?_; clear E a; intro a E
      refine guard_false E (t := 100) rfl ((by rw [hgl]; simp)) (fun hb100 => ?_)
      refine list_guard_yes E rfl rfl rfl rfl hb100 rfl (by decide) (rn_move E rfl rfl) ?_; clear E a; intro a E
      refine list_guard_wp E rfl rfl rfl rfl hb100 ?_; refine wp_call' E rfl (by decide) rfl Tryd.func16 rfl (by kernel_rfl) rfl (lleft_ret p _ A _ hA (S.hp.sel (sel_cons (by repeat (first | exact pk1 | apply pick_tail)) (sel_nil _)))) ?_
      rintro v102 w ⟨rfl, hT⟩; clear E a; intro a E
      have S := S.call1 (sel_cons (by repeat (first | exact pk1 | apply pick_tail)) (sel_nil _)) hT
      refine list_guard_yes E rfl rfl rfl rfl hb100 rfl (by decide) (by first | exact rn_neq E rfl rfl rfl | exact rn_neq_ptr_nil E rfl rfl rfl rfl | exact rn_neq_bool E rfl rfl rfl rfl | exact rn_neq_string E rfl rfl rfl) ?_; clear E a; intro a E
      refine list_pure E rfl rfl (by decide) (rn_pick_no' E rfl rfl hb100 rfl) ?_; clear E a; intro a E
      refine wpList_nil ?_
      refine then_k hK ?_; clear hK; clear K
      refine if_false' E rfl (rfl) ?_
      refine wp_skip ?_
      refine then_k hK ?_; clear hK; clear K
      refine wp_seq_k ?_; intro K hK
      refine wp_seq_k ?_; intro K hK
      refine region_list ?_
      refine list_pure E rfl rfl (by decide) (rn_assign E rfl rfl) ?_; clear E a; intro a E
      refine wpList_nil ?_
      refine then_k hK ?_; clear hK; clear K
      refine wp_block ?_
      refine wp_loop_ghost (fun (m : Nat) (a : Act) (w' : World) => ∃ i : Nat, m = gs.length - i ∧ i ≤ gs.length ∧ St w0 [O] w' [X, Y, Cs, O] ∧ Fr a 131 [(8, .slice ads ss.length c8), (12, .slice adg gs.length cg), (18, .int .i64 i)]) (gs.length - 0) ?_ ?_
      · exact ⟨0, rfl, by omega, S.only (Bs := [X, Y, Cs, O]) (sel_cons (by repeat (first | exact pk1 | apply pick_tail)) (sel_cons (by repeat (first | exact pk1 | apply pick_tail)) (sel_cons (by repeat (first | exact pk1 | apply pick_tail)) (sel_cons (by repeat (first | exact pk1 | apply pick_tail)) (sel_nil _))))), E.keep (keep_cons rfl (keep_cons rfl (keep_cons rfl keep_nil)))⟩
      clear E; clear a; (try clear S); rintro m a w ⟨i, rfl, hi, S, E⟩
      refine wp_seq_k ?_; intro K hK
      refine wp_seq_k ?_; intro K hK
      refine region_list ?_
      refine list_pure E rfl rfl (by decide) (rn_move E rfl rfl) ?_; clear E a; intro a E
      refine list_pure E rfl rfl (by decide) (rn_move E rfl rfl) ?_; clear E a; intro a E
      refine list_pure E rfl rfl (by decide) (by first | exact rn_len E rfl rfl rfl | exact rn_len_str E rfl rfl rfl | exact rn_len_string E rfl rfl rfl) ?_; clear E a; intro a E
      refine list_pure E rfl rfl (by decide) (rn_lss E rfl rfl rfl) ?_; clear E a; intro a E
      refine wpList_nil ?_
      refine then_k hK ?_; clear hK; clear K
      refine if_bool E rfl (fun hb => ?_) (fun hb => ?_)
      · replace hb := Nrm.nrm hb
        refine wp_skip ?_
        refine then_k hK ?_; clear hK; clear K
        refine wp_seq_k ?_; intro K hK
        refine wp_block ?_
        refine wp_seq_k ?_; intro K hK
        have hig : i < gs.length := by omega
        have his : i < ss.length := by omega
        obtain ⟨adf, cf, hfv, hfc, hfR⟩ := hY.rdc hig
        obtain ⟨x, hx⟩ : ∃ x, x = ss[i]'his := ⟨_, rfl⟩
        have hxm := hss x (by rw [hx]; exact List.getElem_mem his)
        have hxq := hq x hxm.1
        have hgx : gs[i] = rqO x.2 := by simp only [hgs, List.getElem_map, hx]
        rw [hgx] at hfv hfR hfc
        obtain ⟨gg, rfl⟩ := hX.addr (by omega)
        obtain ⟨g8, rfl⟩ := hCs.addr (by omega)
        have hxm2 := hxm.2
        obtain ⟨xv, xr⟩ := x
        simp only at hxq hxm2 hfv hfR hfc
        have hxr := hxq
        obtain ⟨adx, cx, rfl⟩ := hxr.slice
        have hel : ∀ (w : World), (∀ y ∈ Cs, w.heap[y.1]? = some y.2) → ∀ j u, (qlay (.slice adx xr.data.length cx, xr))[j]? = some u → w.cell? ⟨g8, 0 + i * 10 + j, none⟩ = some u := fun w hC => by rw [hx]; exact hCs.rd.elem (lay := qlay) qlay_len hC his
        have hbk := rqF_backP hxm2
        refine region_list ?_
        refine list_pure E rfl rfl (by decide) (rn_move E rfl rfl) ?_; clear E a; intro a E
        refine list_pure E rfl rfl (by decide) (rn_move E rfl rfl) ?_; clear E a; intro a E
        refine list_pure E rfl rfl (by decide) (rn_indexAddr1 (i := i) E rfl rfl rfl rfl rfl rfl (by omega)) ?_; clear E a; intro a E
        refine list_pure E rfl rfl (by decide) (rn_loadc E rfl rfl rfl (hX.rd.cells (S.stab.at (by repeat (first | exact mm1 | assumption | apply List.Mem.tail))) rfl i _ hfv)) ?_; clear E a; intro a E
        refine list_call E rfl rfl (by decide) rfl Tryd.func18 rfl (by kernel_rfl) rfl (readrq_ret Y _ (rqO xr) hfR ⟨_, _, rfl, hfc⟩ _ (show Y ∈ _ from (by repeat (first | exact mm1 | assumption | apply List.Mem.tail))) (hG.sub (fun _ h => by rw [List.mem_singleton.1 h]; exact (by repeat (first | exact mm1 | assumption | apply List.Mem.tail)))) _ S.hp) ?_
        rintro v116 w ⟨y, F, rfl, hF, hT⟩; clear E a; intro a E
        have S := S.all hT; rw [hbk] at E hF; dsimp only at E hF; obtain ⟨ady, cy, rfl⟩ := hF.slice
        refine list_pure E rfl rfl (by decide) (rn_move E rfl rfl) ?_; clear E a; intro a E
        refine list_pure E rfl rfl (by decide) (rn_extract E rfl rfl rfl) ?_; clear E a; intro a E
        refine list_pure E rfl rfl (by decide) (rn_extract E rfl rfl rfl) ?_; clear E a; intro a E
        refine list_wp rfl (wp_alloc E S rfl rfl (by decide) rfl rfl rfl ?_); clear E S a; intro a w b19 E S
        refine list_wp rfl (wp_storeN E S rfl rfl rfl rfl (by simp [Value.oneCell']) rfl (by repeat (first | exact pk1 | apply pick_tail)) (by simp) ?_); clear E S a; intro a w E S; simp only [List.take_succ_cons, List.take_zero, List.drop_succ_cons, List.drop_zero, List.cons_append, List.nil_append, List.append_nil, List.length_cons, List.length_nil, Nat.zero_add, Nat.add_zero] at S
        refine list_pure E rfl rfl (by decide) (rn_assign E rfl rfl) ?_; clear E a; intro a E
        refine wpList_nil ?_
        refine then_k hK ?_; clear hK; clear K
        refine wp_seq_k ?_; intro K hK
        refine region_mix0 S (.ofL [(0, 0), (1, 0), (2, 0), (3, 0), (4, 0), (5, 3), (6, 2)]) (by kernel_rfl) (by kernel_rfl) ?_
        clear S; intro w S
        refine mix_pure E rfl rfl rfl (by decide) (fun w h => rn_load_blk (vs := [_, _, _, _, _, _, _, _, _, _]) E rfl rfl rfl (h.one (by repeat (first | exact mm1 | assumption | apply List.Mem.tail))) rfl rfl) ?_; clear E a; intro a E
        refine mix_pure E rfl rfl rfl (by decide) (fun w h => rn_move E rfl rfl) ?_; clear E a; intro a E
        refine mix_pure E rfl rfl rfl (by decide) (fun w h => rn_move E rfl rfl) ?_; clear E a; intro a E
        refine mix_pure E rfl rfl rfl (by decide) (fun w h => by first | exact rn_indexAddr1 E rfl rfl rfl rfl rfl rfl (by omega) | exact rn_indexAddr E rfl rfl rfl rfl rfl rfl (by omega) | exact rn_indexAddr_array E rfl rfl rfl rfl rfl rfl (by omega)) ?_; clear E a; intro a E
        refine mix_pure E rfl rfl rfl (by decide) (fun w h => rn_load_aggc (vs := [_, _, _, _, _, _, _, _, _, _]) E rfl rfl rfl rfl (hel _ (h.at (by repeat (first | exact mm1 | assumption | apply List.Mem.tail))))) ?_; clear E a; intro a E
        refine mix_call3 E rfl rfl rfl (by decide) rfl Tryd.func19 rfl (by kernel_rfl) rfl (samerq_ret xr xr _ _ F O hF.rd hxq _ (show F ∈ _ from (by repeat (first | exact mm1 | assumption | apply List.Mem.tail))) (show O ∈ _ from (by repeat (first | exact mm1 | assumption | apply List.Mem.tail))) _ S.hp) ?_
        rintro v124 w ⟨rfl, hT⟩; clear E a; intro a E
        have S := S.all hT; rw [decide_eq_true (rfl : xr = xr)] at E
        refine mix_free E rfl rfl rfl (by decide) (fun w => rn_assign E rfl rfl) ?_; clear E a; intro a E
        refine mix_nil ?_
        refine then_k hK ?_; clear hK; clear K
        refine wp_seq_k ?_; intro K hK
        refine region_list ?_
        refine list_pure E rfl rfl (by decide) (rn_move E rfl rfl) ?_; clear E a; intro a E
        refine list_pure E rfl rfl (by decide) (by first | exact rn_neq E rfl rfl rfl | exact rn_neq_ptr_nil E rfl rfl rfl rfl | exact rn_neq_bool E rfl rfl rfl rfl | exact rn_neq_string E rfl rfl rfl) ?_; clear E a; intro a E
        refine list_pure E rfl rfl (by decide) (rn_move E rfl rfl) ?_; clear E a; intro a E
        refine guard_false E (t := 127) rfl (rfl) (fun hb127 => ?_)
        refine list_guard_yes E rfl rfl rfl rfl hb127 rfl (by decide) (rn_move E rfl rfl) ?_; clear E a; intro a E
        refine list_guard_yes E rfl rfl rfl rfl hb127 rfl (by decide) (rn_not E rfl rfl) ?_; clear E a; intro a E
        refine list_pure E rfl rfl (by decide) (rn_pick_no' E rfl rfl hb127 rfl) ?_; clear E a; intro a E
        refine wpList_nil ?_
        refine then_k hK ?_; clear hK; clear K
        refine if_false' E rfl (rfl) ?_
        refine wp_skip ?_
        refine in_normal ?_
        refine then_k hK ?_; clear hK; clear K
        refine region_list ?_
        refine list_pure E rfl rfl (by decide) (rn_move E rfl rfl) ?_; clear E a; intro a E
        refine list_pure E rfl rfl (by decide) (rn_add E rfl rfl rfl (by first | exact wa_lit (y := 1) (by omega) | exact w_in (by omega) | exact w_inu (by omega) | exact rfl)) ?_; clear E a; intro a E
        refine list_pure E rfl rfl (by decide) (rn_assign E rfl rfl) ?_; clear E a; intro a E
        refine wpList_nil ?_
        refine then_normal ?_
        exact ⟨_, by omega, i + 1, rfl, by omega, S.only (Bs := [X, Y, Cs, O]) (sel_cons (by repeat (first | exact pk1 | apply pick_tail)) (sel_cons (by repeat (first | exact pk1 | apply pick_tail)) (sel_cons (by repeat (first | exact pk1 | apply pick_tail)) (sel_cons (by repeat (first | exact pk1 | apply pick_tail)) (sel_nil _))))), E.keep (keep_cons rfl (keep_cons rfl (keep_cons rfl keep_nil)))⟩
      · replace hb := Nrm.nrm hb
        refine wp_exit ?_
        refine then_exit ?_; clear hK; clear K
        refine then_exit ?_
        refine in_exit ?_
        refine then_k hK ?_; clear hK; clear K
        refine wp_seq_k ?_; intro K hK
        refine region_list ?_
        refine list_pure E rfl rfl (by decide) (rn_assign E rfl rfl) ?_; clear E a; intro a E
        refine wpList_nil ?_
        refine then_k hK ?_; clear hK; clear K
        refine wp_ret ?_
        refine ret1 E rfl rfl ?_
        exact ⟨_, rfl, rfl, (S.only (Bs := [O]) (sel_cons (by repeat (first | exact pk1 | apply pick_tail)) (sel_nil _))).tr⟩

theorem rq_one {W : World} (a : Value × Rq) (h : RqG (old W) a.1 a.2) : ∀ u ∈ qlay a, u.oneCell' = true := fun u hu => by
  obtain ⟨_, _, _, _, h1, _⟩ := h
  simp only [qlay, List.mem_cons, List.not_mem_nil, or_false] at hu
  rcases hu with rfl | rfl | rfl | rfl | rfl | rfl | rfl | rfl | rfl | rfl
  all_goals first | rfl | (rw [h1]; rfl)
theorem cuts_upto (W : World) (hL : laidMetH Tryd.prog Rows.frameCutsUptoRow.laid W) (X : Value × List (Value × Rq))
    (g : OldS W 10 128 (fun x : Value × Rq => [.int .i64 x.2.ses, .int .i64 x.2.id, .int .i64 x.2.verb, str x.2.name, str x.2.item, str x.2.other, str x.2.path, .int .i64 x.2.at_, .int .i64 x.2.many, x.1]) (fun x => RqG (old W) x.1 x.2) X) (s : (X.2.map fun _ => 1).sum + 1 ≤ 1048576)
    (Y : Value × List Int) (gy : OldS W 1 8 (fun z : Int => [.int .i64 z]) (fun z => -9223372036854775808 ≤ z ∧ z ≤ 9223372036854775807) Y) (sy : (Y.2.map fun _ => 1).sum + 1 ≤ 1048576) :
    Ret Tryd.prog 5 #[X.1, Y.1] W fun u w' => u = .bool true ∧ Trs W w' [old W] [old W] := by
  obtain ⟨v, l⟩ := X
  obtain ⟨u, cs⟩ := Y
  obtain ⟨ad, c, h1, h2, h3, h4, h5⟩ := g
  obtain ⟨adu, cu, k1, k2, k3, k4, k5⟩ := gy
  simp only at h1 h2 h3 h4 h5 s k1 k2 k3 k4 k5 sy
  rw [ones_len] at s sy
  rw [flat_one] at k4
  exact cuts_walk (old W) (laid1 hL) v u l cs h4 (by omega) (fun x hx => (h5 x hx).1) k4 (by omega) k5 W (hp_old W)
end Go.Proofs.YtjhmjdgdgpgcdaaDoor
