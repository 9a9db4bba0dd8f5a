/-
  The document's disks: what waits taken out; flushed, failed.
-/
import Derived.Test.YtpppaohhnlgfoaaDocR
namespace Go.Sl
theorem setD_set {ds : List Dk} {n : Nat} {x : Dk} (g : Dk → Dk) (hnd : (ds.map Dk.d).Nodup) (hx : ds[n]? = some x) : setD ds x.d g = ds.set n (g x) := by
  obtain ⟨A, B, rfl, rfl⟩ := get_split hx
  rw [setD_at g hnd, set_mid]
end Go.Sl
namespace Go.Proofs.Ytpppaohhnlgfoaa
open Go.Sl
set_option maxRecDepth 10000

theorem qwithout_ret (q : Nat) (s : Pw) (vd vw : Value) (Cd Cw J : Chunk) (ds : List Dk) (ws : List Wt) (ys : List Dd) (us : List Dw) (hCd : Buf Cd 81 1 vd ys.length (ys.map fun y => ptr y.b)) (hCw : Buf Cw 84 3 vw us.length (us.flatMap Dw.lay))
    (hds : All2 (DdOk J) ds ys) (hws : All2 (DwOk J ds) ws us) (hok : DkOk ds) (hwo : WtOk ws ds) (hwsl : ws.length ≤ 244335861110) (n : Nat) (x : Dk) (hx : ds[n]? = some x) (y : Dd) (hy : ys[n]? = some y) (keep : Bool) (As : List Chunk) (w0 : World) (H : Hp w0 ([(q, qcl s vd vw)] :: Cd :: Cw :: dd1 y :: y.C :: As)) :
    Ret Try.prog 46 #[ptr q, .int .i64 n, .bool keep] w0 fun _ w' => ∃ vw' Cw' us' vs' C', Buf Cw' 84 3 vw' us'.length (us'.flatMap Dw.lay) ∧ All2 (DwOk J ds) (outW x.d ws) us' ∧ Buf C' 32 1 y.vp vs'.length vs' ∧ vs'.length = y.vs.length ∧
      (∀ j v, vs'[j]? = some v → Rd J 1 v 128 (byt (secB (if keep then nowW x.d ws x.pl else x.pl) j))) ∧ Trs w0 w' ([(q, qcl s vd vw)] :: Cd :: Cw :: dd1 y :: y.C :: As) ([(q, qcl s vd vw')] :: Cd :: Cw' :: dd1 y :: C' :: As) := by
  have S := St.begin H
  obtain ⟨y1, y2, y3, y4⟩ := hds.2 n x y hx hy
  obtain ⟨add, cd, rfl⟩ := hCd.slice
  obtain ⟨adw, cw, rfl⟩ := hCw.slice
  obtain ⟨adp, cp, hvp⟩ := y2.slice
  have hn : n < ys.length := (List.getElem?_eq_some_iff.1 hy).1
  have hxm : x ∈ ds := List.mem_of_getElem? hx
  have hwl := hws.1
  obtain ⟨gd, rfl⟩ := hCd.addr (by omega)
  have hfit : ∀ w ∈ ws, w.d = x.d → 128 * w.at_ + 128 ≤ x.pl.length := fun w hw h => (hwo w hw).2 x hxm h.symm
  have hlen : ∀ j, (nowW x.d (ws.take j) x.pl).length = x.pl.length := fun j => nowW_length _ _ rfl fun w hw => hfit w (List.mem_of_mem_take hw)
  have hpt : (ys.map fun y => ptr y.b)[n]? = some (ptr y.b) := by rw [List.getElem?_map, hy]; rfl
  have hdd1 : dd1 y = [(y.b, cel [.slice adp y.vs.length cp, .bool y.f] 80)] := by show [(y.b, cel [y.vp, .bool y.f] _)] = _; rw [hvp]
  rw [hvp] at y2
  refine enter3 53 Try.func46 rfl rfl (by decide) ?_; intro a E
  refine wp_seq_k ?_; intro K hK
  refine region_list ?_
  refine list_pure E rfl rfl (by decide) (rn_assign E rfl rfl) ?_; clear E a; intro a E
  refine wpList_nil ?_
  refine then_k hK ?_; clear hK; clear K
  refine wp_seq_k ?_; intro K hK
  refine wp_seq_k ?_; intro K hK
  refine region_list ?_
  refine list_pure E rfl rfl (by decide) (rn_assign E rfl rfl) ?_; clear E a; intro a E
  refine wpList_nil ?_
  refine then_k hK ?_; clear hK; clear K
  refine wp_block ?_
  refine wp_loop_ghost (fun (m : Nat) (a : Act) (w' : World) => ∃ (i : Nat) (us' : List Dw) (vs' : List Value) (vo : Value) (Co C' : Chunk), m = us.length - i ∧ i ≤ us.length ∧ Buf Co 84 3 vo us'.length (us'.flatMap Dw.lay) ∧ All2 (DwOk J ds) (outW x.d (ws.take i)) us' ∧ Buf C' 32 1 (.slice adp y.vs.length cp) y.vs.length vs' ∧ vs'.length = y.vs.length ∧
   (∀ j v, vs'[j]? = some v → Rd J 1 v 128 (byt (secB (if keep then nowW x.d (ws.take i) x.pl else x.pl) j))) ∧ St w0 ([(q, qcl s (.slice (some ⟨gd, 0, none⟩) ys.length cd) (.slice adw us.length cw))] :: Cd :: Cw :: dd1 y :: y.C :: As) w' ([(q, qcl s (.slice (some ⟨gd, 0, none⟩) ys.length cd) (.slice adw us.length cw))] :: Cd :: Co :: dd1 y :: C' :: Cw :: As) ∧ Fr a 53 [(0, ptr q), (1, .int .i64 n), (2, .bool keep), (6, vo), (7, .int .i64 i)]) (us.length - 0) ?_ ?_
  · exact ⟨0, [], y.vs, _, [], y.C, rfl, by omega, Buf.nil _ _, by simpa [outW] using All2.nil, y2, rfl, (fun j v hv => by have h := y4 j v hv; cases keep <;> exact h), S.addNil.front6 (A := [(q, _)]) (by repeat (first | exact pk1 | apply pick_tail)) (B := Cd) (by repeat (first | exact pk1 | apply pick_tail)) (C := []) (by repeat (first | exact pk1 | apply pick_tail)) (D := dd1 y) (by repeat (first | exact pk1 | apply pick_tail)) (F := y.C) (by repeat (first | exact pk1 | apply pick_tail)) (G := Cw) (by repeat (first | exact pk1 | apply pick_tail)), E.keep (keep_cons rfl (keep_cons rfl (keep_cons rfl (keep_cons rfl (keep_cons rfl keep_nil)))))⟩
  clear E; clear a; (try clear S); rintro m a w ⟨i, us', vs', vo, Co, C', rfl, hi, hCo, hout, hC', hvl, hvs, S, E⟩
  refine wp_seq_k ?_; intro K hK
  refine wp_seq_k ?_; intro K hK
  refine region_list ?_
  refine list_pure E rfl rfl (by decide) (rn_move E rfl rfl) ?_; clear E a; intro a E
  refine list_pure E rfl rfl (by decide) (rn_move E rfl rfl) ?_; clear E a; intro a E
  refine list_pure E rfl rfl (by decide) (rn_nilCheck E rfl rfl) ?_; clear E a; intro a E
  refine list_pure E rfl rfl (by decide) (by first | exact rn_fieldAddr0 (q := 1) E rfl rfl rfl | exact rn_fieldAddr (q := 1) E rfl rfl rfl) ?_; clear E a; intro a E
  refine list_pure E rfl rfl (by decide) (by first | exact rn_load E rfl rfl rfl (S.get (by repeat (first | exact pk1 | apply pick_tail))) rfl | exact rn_loadc E rfl rfl rfl (by assumption)) ?_; clear E a; intro a E
  refine list_pure E rfl rfl (by decide) (by first | exact rn_len E rfl rfl rfl | exact rn_len_str E rfl rfl rfl | exact rn_len_string E rfl rfl rfl) ?_; clear E a; intro a E
  refine list_pure E rfl rfl (by decide) (rn_lss E rfl rfl rfl) ?_; clear E a; intro a E
  refine wpList_nil ?_
  refine then_k hK ?_; clear hK; clear K
  refine if_bool E rfl (fun hb => ?_) (fun hb => ?_)
  · replace hb := Nrm.nrm hb
    refine wp_skip ?_
    refine then_k hK ?_; clear hK; clear K
    refine wp_seq_k ?_; intro K hK
    refine wp_block ?_
    refine wp_seq_k ?_; intro K hK
    have hiu : i < us.length := by omega
    obtain ⟨wt, u, h1, h2, ⟨z, hz, hzd⟩, h3, h4⟩ := hws.get (show i < ws.length by omega)
    obtain ⟨gw, rfl⟩ := hCw.addr (by omega)
    obtain ⟨hiu2, hu⟩ := List.getElem?_eq_some_iff.1 h2
    have hel := fun (w : World) (h : ∀ x ∈ Cw, w.heap[x.1]? = some x.2) => hCw.rd.elem (lay := Dw.lay) (w := w) Dw.lay_len h hiu
    rw [hu] at hel
    have hkn : u.k = n → wt.d = x.d := fun q => by rw [q] at hz; rw [← hzd]; rw [hz] at hx; cases hx; rfl
    have hnk : wt.d = x.d → u.k = n := fun q => idx_one hok.1 hz hx (hzd.trans q)
    have hwmem : wt ∈ ws := List.mem_of_getElem? h1
    obtain ⟨hiw, hwe⟩ := List.getElem?_eq_some_iff.1 h1
    have hst := outW_take x.d ws hiw
    rw [hwe] at hst
    have hnt := nowW_take x.d ws x.pl h1
    have hul := hout.1
    have hul2 := outW_le x.d (ws.take i)
    rw [List.length_take] at hul2
    obtain ⟨ado, co, rfl⟩ := hCo.slice
    obtain ⟨adv, cv, huv⟩ := h4.slice
    have hlay : u.lay = [.int .i64 u.k, .int .i64 u.at_, .slice adv 128 cv] := by rw [← huv]; rfl
    refine region_list ?_
    refine list_pure E rfl rfl (by decide) (rn_move E rfl rfl) ?_; clear E a; intro a E
    refine list_pure E rfl rfl (by decide) (rn_nilCheck E rfl rfl) ?_; clear E a; intro a E
    refine list_pure E rfl rfl (by decide) (by first | exact rn_fieldAddr0 (q := 1) E rfl rfl rfl | exact rn_fieldAddr (q := 1) E rfl rfl rfl) ?_; clear E a; intro a E
    refine list_pure E rfl rfl (by decide) (by first | exact rn_load E rfl rfl rfl (S.get (by repeat (first | exact pk1 | apply pick_tail))) rfl | exact rn_loadc E rfl rfl rfl (by assumption)) ?_; clear E a; intro a E
    refine list_pure E rfl rfl (by decide) (rn_move E rfl rfl) ?_; clear E a; intro a E
    refine list_pure E rfl rfl (by decide) (rn_indexAddr (i := i) (s := 3) E rfl rfl rfl rfl rfl rfl (by omega)) ?_; clear E a; intro a E
    refine list_pure E rfl rfl (by decide) (rn_load_aggc (vs := [.int .i64 u.k, .int .i64 u.at_, .slice adv 128 cv]) E rfl rfl rfl rfl (by rw [← hlay]; exact hel _ (S.stab.at (by repeat (first | exact mm1 | assumption | apply List.Mem.tail))))) ?_; clear E a; intro a E
    refine list_wp rfl (wp_alloc E S rfl rfl (by decide) rfl rfl rfl ?_); clear E S a; intro a w b8 E S
    refine list_wp rfl (wp_storeN E S rfl rfl rfl rfl (by simp [Value.oneCell']) rfl (by repeat (first | exact pk1 | apply pick_tail)) (by simp) ?_); clear E S a; intro a w E S; simp only [List.take_succ_cons, List.take_zero, List.drop_succ_cons, List.drop_zero, List.cons_append, List.nil_append, List.append_nil, List.length_cons, List.length_nil, Nat.zero_add, Nat.add_zero] at S
    refine wpList_nil ?_
    refine then_k hK ?_; clear hK; clear K
    refine wp_seq_k ?_; intro K hK
    refine region_list ?_
    refine list_pure E rfl rfl (by decide) (by first | exact rn_fieldAddr0 (q := 0) E rfl rfl rfl | exact rn_fieldAddr (q := 0) E rfl rfl rfl) ?_; clear E a; intro a E
    refine list_pure E rfl rfl (by decide) (by first | exact rn_load E rfl rfl rfl (S.get (by repeat (first | exact pk1 | apply pick_tail))) rfl | exact rn_loadc E rfl rfl rfl (by assumption)) ?_; clear E a; intro a E
    refine list_pure E rfl rfl (by decide) (rn_move E rfl rfl) ?_; clear E a; intro a E
    refine list_pure E rfl rfl (by decide) (by first | exact rn_neq E rfl rfl rfl | exact rn_neq_ptr_nil E rfl rfl rfl rfl | exact rn_neq_bool E rfl rfl rfl rfl | exact rn_neq_string E rfl rfl rfl) ?_; clear E a; intro a E
    refine wpList_nil ?_
    refine then_k hK ?_; clear hK; clear K
    refine if_bool E rfl (fun hb => ?_) (fun hb => ?_)
    · replace hb := Nrm.nrm hb
      have hne : u.k ≠ n := (by omega)
      refine region_list ?_
      refine list_pure E rfl rfl (by decide) (rn_move E rfl rfl) ?_; clear E a; intro a E
      refine list_pure E rfl rfl (by decide) (rn_load_blk (vs := [_, _, _]) E rfl rfl rfl (S.get (show List.Perm _ ([(b8, _)] :: _) from (by repeat (first | exact pk1 | apply pick_tail)))) rfl rfl) ?_; clear E a; intro a E
      refine list_wp rfl (wp_bslice (cells := [_, _, _]) E S rfl rfl (by decide) rfl rfl rfl rfl rfl (by decide) rfl ?_); clear E S a; intro a w b31 E S
      refine list_wp rfl (wp_append (by' := 40) E S rfl rfl (by decide) rfl rfl hCo (by repeat (first | exact pk1 | apply pick_tail)) ((rd_cells (g := b31) (T := 84) (xs := [.int .i64 u.k, .int .i64 u.at_, .slice adv 128 cv]) (s := 3) (m := 1) rfl (by intro w hw; simp at hw; rcases hw with rfl | rfl | rfl <;> rfl) (by omega) 1).src (S.stab.at (by repeat (first | exact mm1 | assumption | apply List.Mem.tail))) rfl) rfl rfl rfl rfl rfl rfl (by simp only [maxLen]; omega) (by omega) ?_); clear E S a; intro a w v32 C32 E S hB32
      refine list_pure E rfl rfl (by decide) (rn_assign E rfl rfl) ?_; clear E a; intro a E
      refine wpList_nil ?_
      refine in_normal ?_
      refine then_k hK ?_; clear hK; clear K
      refine region_list ?_
      refine list_pure E rfl rfl (by decide) (rn_move E rfl rfl) ?_; clear E a; intro a E
      refine list_pure E rfl rfl (by decide) (rn_add E rfl rfl rfl (by first | exact wa_lit (y := 1) (by omega) | exact w_in (by omega) | exact w_inu (by omega) | exact rfl)) ?_; clear E a; intro a E
      refine list_pure E rfl rfl (by decide) (rn_assign E rfl rfl) ?_; clear E a; intro a E
      refine wpList_nil ?_
      refine then_normal ?_
      first
      | (have S := ((S.del (A := [(b31, _)]) (by repeat (first | exact pk1 | apply pick_tail))).del (A := [(b8, _)]) (by repeat (first | exact pk1 | apply pick_tail))).front6 (A := [(q, _)]) (by repeat (first | exact pk1 | apply pick_tail)) (B := Cd) (by repeat (first | exact pk1 | apply pick_tail)) (C := C32) (by repeat (first | exact pk1 | apply pick_tail)) (D := dd1 y) (by repeat (first | exact pk1 | apply pick_tail)) (F := C') (by repeat (first | exact pk1 | apply pick_tail)) (G := Cw) (by repeat (first | exact pk1 | apply pick_tail))
         have hdn : wt.d ≠ x.d := fun q => hne (hnk q)
         rw [if_pos hdn] at hst
         rw [if_neg hdn] at hnt
         exact ⟨_, by omega, i + 1, us' ++ [u], vs', _, C32, C', rfl, by omega, by rw [List.length_append, List.length_singleton, List.flatMap_append, List.flatMap_singleton, hlay]; exact hB32, by rw [hst]; exact hout.snoc ⟨⟨z, hz, hzd⟩, h3, h4⟩, hC', hvl, (by rw [hnt]; exact hvs), S, E.keep (keep_cons rfl (keep_cons rfl (keep_cons rfl (keep_cons rfl (keep_cons rfl keep_nil)))))⟩)
      | (have hdn : wt.d = x.d := hkn heq
         rw [if_neg (fun q => q hdn), List.append_nil] at hst
         rw [if_pos hdn] at hnt
         have hkt : keep = true := by simpa using hb
         subst hkt
         have S := (S.del (A := [(b8, _)]) (by repeat (first | exact pk1 | apply pick_tail))).front6 (A := [(q, _)]) (by repeat (first | exact pk1 | apply pick_tail)) (B := Cd) (by repeat (first | exact pk1 | apply pick_tail)) (C := Co) (by repeat (first | exact pk1 | apply pick_tail)) (D := [(y.b, cel [.slice (some ⟨gp, 0, none⟩) y.vs.length cp, .bool y.f] 80)]) (by repeat (first | exact pk1 | apply pick_tail)) (F := Cs15) (by repeat (first | exact pk1 | apply pick_tail)) (G := Cw) (by repeat (first | exact pk1 | apply pick_tail))
         rw [← hdd1] at S
         refine ⟨_, by omega, i + 1, us', vs'.set u.at_ (.slice adv 128 cv), _, Co, Cs15, rfl, by omega, hCo, by rw [hst]; exact hout, hBs15, by rw [List.length_set]; exact hvl, ?_, S, E.keep (keep_cons rfl (keep_cons rfl (keep_cons rfl (keep_cons rfl (keep_cons rfl keep_nil)))))⟩
         intro j v hv
         rw [if_pos rfl, hnt, putS]
         rw [List.getElem?_set] at hv
         split at hv
         · rename_i hj
           subst hj
           split at hv
           · cases hv; rw [← h3, secB_setS (by rw [hlen]; omega) wt.hb, ← huv]; exact h4
           · cases hv
         · rename_i hj
           rw [secB_setS_ne (by rw [hlen]; omega) wt.hb (by omega)]
           have := hvs j v hv
           rw [if_pos rfl] at this; exact this)
      | (have hdn : wt.d = x.d := hkn heq
         rw [if_neg (fun q => q hdn), List.append_nil] at hst
         have hkf : keep = false := by simpa using hb
         subst hkf
         have S := (S.del (A := [(b8, _)]) (by repeat (first | exact pk1 | apply pick_tail))).front6 (A := [(q, _)]) (by repeat (first | exact pk1 | apply pick_tail)) (B := Cd) (by repeat (first | exact pk1 | apply pick_tail)) (C := Co) (by repeat (first | exact pk1 | apply pick_tail)) (D := dd1 y) (by repeat (first | exact pk1 | apply pick_tail)) (F := C') (by repeat (first | exact pk1 | apply pick_tail)) (G := Cw) (by repeat (first | exact pk1 | apply pick_tail))
         exact ⟨_, by omega, i + 1, us', vs', _, Co, C', rfl, by omega, hCo, by rw [hst]; exact hout, hC', hvl, hvs, S, E.keep (keep_cons rfl (keep_cons rfl (keep_cons rfl (keep_cons rfl (keep_cons rfl keep_nil)))))⟩)
    · replace hb := Nrm.nrm hb
      have heq : u.k = n := (by omega)
      refine wp_seq_k ?_; intro K hK
      refine region_list ?_
      refine list_pure E rfl rfl (by decide) (rn_move E rfl rfl) ?_; clear E a; intro a E
      refine wpList_nil ?_
      refine then_k hK ?_; clear hK; clear K
      refine if_bool E rfl (fun hb => ?_) (fun hb => ?_)
      · replace hb := Nrm.nrm hb
        obtain ⟨gp, rfl⟩ := hC'.addr (by have := hfit wt hwmem (hkn heq); omega)
        have hfw := hfit wt hwmem (hkn heq)
        rw [hdd1] at S
        refine region_mix0 S (.ofL [(0, 0), (1, 0), (2, 0), (3, 0), (4, 0), (5, 0), (6, 0), (7, 0), (8, 0), (9, 0), (10, 0), (11, 0), (12, 0), (13, 0), (14, 0), (15, 3)]) (by kernel_rfl) (by kernel_rfl) ?_
        clear S; intro w S
        refine mix_pure E rfl rfl rfl (by decide) (fun w h => rn_move E rfl rfl) ?_; clear E a; intro a E
        refine mix_pure E rfl rfl rfl (by decide) (fun w h => rn_nilCheck E rfl rfl) ?_; clear E a; intro a E
        refine mix_pure E rfl rfl rfl (by decide) (fun w h => by first | exact rn_fieldAddr0 (q := 0) E rfl rfl rfl | exact rn_fieldAddr (q := 0) E rfl rfl rfl) ?_; clear E a; intro a E
        refine mix_pure E rfl rfl rfl (by decide) (fun w h => by first | exact rn_load E rfl rfl rfl (h.one (by repeat (first | exact mm1 | assumption | apply List.Mem.tail))) rfl | exact rn_loadc E rfl rfl rfl (by assumption)) ?_; clear E a; intro a E
        refine mix_pure E rfl rfl rfl (by decide) (fun w h => rn_move E rfl rfl) ?_; clear E a; intro a E
        refine mix_pure E rfl rfl rfl (by decide) (fun w h => rn_indexAddr1 (i := n) E rfl rfl rfl rfl rfl rfl (by omega)) ?_; clear E a; intro a E
        refine mix_pure E rfl rfl rfl (by decide) (fun w h => rn_loadc E rfl rfl rfl (hCd.rd.cells (h.at (by repeat (first | exact mm1 | assumption | apply List.Mem.tail))) rfl n _ hpt)) ?_; clear E a; intro a E
        refine mix_pure E rfl rfl rfl (by decide) (fun w h => rn_nilCheck E rfl rfl) ?_; clear E a; intro a E
        refine mix_pure E rfl rfl rfl (by decide) (fun w h => by first | exact rn_fieldAddr0 (q := 0) E rfl rfl rfl | exact rn_fieldAddr (q := 0) E rfl rfl rfl) ?_; clear E a; intro a E
        refine mix_pure E rfl rfl rfl (by decide) (fun w h => by first | exact rn_load E rfl rfl rfl (h.one (by repeat (first | exact mm1 | assumption | apply List.Mem.tail))) rfl | exact rn_loadc E rfl rfl rfl (by assumption)) ?_; clear E a; intro a E
        refine mix_pure E rfl rfl rfl (by decide) (fun w h => by first | exact rn_fieldAddr0 (q := 1) E rfl rfl rfl | exact rn_fieldAddr (q := 1) E rfl rfl rfl) ?_; clear E a; intro a E
        refine mix_pure E rfl rfl rfl (by decide) (fun w h => by first | exact rn_load E rfl rfl rfl (h.one (by repeat (first | exact mm1 | assumption | apply List.Mem.tail))) rfl | exact rn_loadc E rfl rfl rfl (by assumption)) ?_; clear E a; intro a E
        refine mix_pure E rfl rfl rfl (by decide) (fun w h => by first | exact rn_fieldAddr0 (q := 2) E rfl rfl rfl | exact rn_fieldAddr (q := 2) E rfl rfl rfl) ?_; clear E a; intro a E
        refine mix_pure E rfl rfl rfl (by decide) (fun w h => by first | exact rn_load E rfl rfl rfl (h.one (by repeat (first | exact mm1 | assumption | apply List.Mem.tail))) rfl | exact rn_loadc E rfl rfl rfl (by assumption)) ?_; clear E a; intro a E
        refine mix_pure E rfl rfl rfl (by decide) (fun w h => rn_is00 (i := u.at_) E rfl rfl rfl rfl rfl rfl (by omega)) ?_; clear E a; intro a E
        refine mix_last rfl rfl (wp_elem1 E S rfl rfl rfl rfl rfl rfl hC' (by repeat (first | exact pk1 | apply pick_tail)) (i := u.at_) (by omega) rfl ?_); clear E S a; intro a w Cs15 E hBs15 S
        refine mix_nil ?_
        refine in_normal ?_
        refine then_k hK ?_; clear hK; clear K
        refine region_list ?_
        refine list_pure E rfl rfl (by decide) (rn_move E rfl rfl) ?_; clear E a; intro a E
        refine list_pure E rfl rfl (by decide) (rn_add E rfl rfl rfl (by first | exact wa_lit (y := 1) (by omega) | exact w_in (by omega) | exact w_inu (by omega) | exact rfl)) ?_; clear E a; intro a E
        refine list_pure E rfl rfl (by decide) (rn_assign E rfl rfl) ?_; clear E a; intro a E
        refine wpList_nil ?_
        refine then_normal ?_
        first
        | (have S := ((S.del (A := [(b31, _)]) (by repeat (first | exact pk1 | apply pick_tail))).del (A := [(b8, _)]) (by repeat (first | exact pk1 | apply pick_tail))).front6 (A := [(q, _)]) (by repeat (first | exact pk1 | apply pick_tail)) (B := Cd) (by repeat (first | exact pk1 | apply pick_tail)) (C := C32) (by repeat (first | exact pk1 | apply pick_tail)) (D := dd1 y) (by repeat (first | exact pk1 | apply pick_tail)) (F := C') (by repeat (first | exact pk1 | apply pick_tail)) (G := Cw) (by repeat (first | exact pk1 | apply pick_tail))
           have hdn : wt.d ≠ x.d := fun q => hne (hnk q)
           rw [if_pos hdn] at hst
           rw [if_neg hdn] at hnt
           exact ⟨_, by omega, i + 1, us' ++ [u], vs', _, C32, C', rfl, by omega, by rw [List.length_append, List.length_singleton, List.flatMap_append, List.flatMap_singleton, hlay]; exact hB32, by rw [hst]; exact hout.snoc ⟨⟨z, hz, hzd⟩, h3, h4⟩, hC', hvl, (by rw [hnt]; exact hvs), S, E.keep (keep_cons rfl (keep_cons rfl (keep_cons rfl (keep_cons rfl (keep_cons rfl keep_nil)))))⟩)
        | (have hdn : wt.d = x.d := hkn heq
           rw [if_neg (fun q => q hdn), List.append_nil] at hst
           rw [if_pos hdn] at hnt
           have hkt : keep = true := by simpa using hb
           subst hkt
           have S := (S.del (A := [(b8, _)]) (by repeat (first | exact pk1 | apply pick_tail))).front6 (A := [(q, _)]) (by repeat (first | exact pk1 | apply pick_tail)) (B := Cd) (by repeat (first | exact pk1 | apply pick_tail)) (C := Co) (by repeat (first | exact pk1 | apply pick_tail)) (D := [(y.b, cel [.slice (some ⟨gp, 0, none⟩) y.vs.length cp, .bool y.f] 80)]) (by repeat (first | exact pk1 | apply pick_tail)) (F := Cs15) (by repeat (first | exact pk1 | apply pick_tail)) (G := Cw) (by repeat (first | exact pk1 | apply pick_tail))
           rw [← hdd1] at S
           refine ⟨_, by omega, i + 1, us', vs'.set u.at_ (.slice adv 128 cv), _, Co, Cs15, rfl, by omega, hCo, by rw [hst]; exact hout, hBs15, by rw [List.length_set]; exact hvl, ?_, S, E.keep (keep_cons rfl (keep_cons rfl (keep_cons rfl (keep_cons rfl (keep_cons rfl keep_nil)))))⟩
           intro j v hv
           rw [if_pos rfl, hnt, putS]
           rw [List.getElem?_set] at hv
           split at hv
           · rename_i hj
             subst hj
             split at hv
             · cases hv; rw [← h3, secB_setS (by rw [hlen]; omega) wt.hb, ← huv]; exact h4
             · cases hv
           · rename_i hj
             rw [secB_setS_ne (by rw [hlen]; omega) wt.hb (by omega)]
             have := hvs j v hv
             rw [if_pos rfl] at this; exact this)
        | (have hdn : wt.d = x.d := hkn heq
           rw [if_neg (fun q => q hdn), List.append_nil] at hst
           have hkf : keep = false := by simpa using hb
           subst hkf
           have S := (S.del (A := [(b8, _)]) (by repeat (first | exact pk1 | apply pick_tail))).front6 (A := [(q, _)]) (by repeat (first | exact pk1 | apply pick_tail)) (B := Cd) (by repeat (first | exact pk1 | apply pick_tail)) (C := Co) (by repeat (first | exact pk1 | apply pick_tail)) (D := dd1 y) (by repeat (first | exact pk1 | apply pick_tail)) (F := C') (by repeat (first | exact pk1 | apply pick_tail)) (G := Cw) (by repeat (first | exact pk1 | apply pick_tail))
           exact ⟨_, by omega, i + 1, us', vs', _, Co, C', rfl, by omega, hCo, by rw [hst]; exact hout, hC', hvl, hvs, S, E.keep (keep_cons rfl (keep_cons rfl (keep_cons rfl (keep_cons rfl (keep_cons rfl keep_nil)))))⟩)
      · replace hb := Nrm.nrm hb
        refine wp_skip ?_
        refine in_normal ?_
        refine then_k hK ?_; clear hK; clear K
        refine region_list ?_
        refine list_pure E rfl rfl (by decide) (rn_move E rfl rfl) ?_; clear E a; intro a E
        refine list_pure E rfl rfl (by decide) (rn_add E rfl rfl rfl (by first | exact wa_lit (y := 1) (by omega) | exact w_in (by omega) | exact w_inu (by omega) | exact rfl)) ?_; clear E a; intro a E
        refine list_pure E rfl rfl (by decide) (rn_assign E rfl rfl) ?_; clear E a; intro a E
        refine wpList_nil ?_
        refine then_normal ?_
        first
        | (have S := ((S.del (A := [(b31, _)]) (by repeat (first | exact pk1 | apply pick_tail))).del (A := [(b8, _)]) (by repeat (first | exact pk1 | apply pick_tail))).front6 (A := [(q, _)]) (by repeat (first | exact pk1 | apply pick_tail)) (B := Cd) (by repeat (first | exact pk1 | apply pick_tail)) (C := C32) (by repeat (first | exact pk1 | apply pick_tail)) (D := dd1 y) (by repeat (first | exact pk1 | apply pick_tail)) (F := C') (by repeat (first | exact pk1 | apply pick_tail)) (G := Cw) (by repeat (first | exact pk1 | apply pick_tail))
           have hdn : wt.d ≠ x.d := fun q => hne (hnk q)
           rw [if_pos hdn] at hst
           rw [if_neg hdn] at hnt
           exact ⟨_, by omega, i + 1, us' ++ [u], vs', _, C32, C', rfl, by omega, by rw [List.length_append, List.length_singleton, List.flatMap_append, List.flatMap_singleton, hlay]; exact hB32, by rw [hst]; exact hout.snoc ⟨⟨z, hz, hzd⟩, h3, h4⟩, hC', hvl, (by rw [hnt]; exact hvs), S, E.keep (keep_cons rfl (keep_cons rfl (keep_cons rfl (keep_cons rfl (keep_cons rfl keep_nil)))))⟩)
        | (have hdn : wt.d = x.d := hkn heq
           rw [if_neg (fun q => q hdn), List.append_nil] at hst
           rw [if_pos hdn] at hnt
           have hkt : keep = true := by simpa using hb
           subst hkt
           have S := (S.del (A := [(b8, _)]) (by repeat (first | exact pk1 | apply pick_tail))).front6 (A := [(q, _)]) (by repeat (first | exact pk1 | apply pick_tail)) (B := Cd) (by repeat (first | exact pk1 | apply pick_tail)) (C := Co) (by repeat (first | exact pk1 | apply pick_tail)) (D := [(y.b, cel [.slice (some ⟨gp, 0, none⟩) y.vs.length cp, .bool y.f] 80)]) (by repeat (first | exact pk1 | apply pick_tail)) (F := Cs15) (by repeat (first | exact pk1 | apply pick_tail)) (G := Cw) (by repeat (first | exact pk1 | apply pick_tail))
           rw [← hdd1] at S
           refine ⟨_, by omega, i + 1, us', vs'.set u.at_ (.slice adv 128 cv), _, Co, Cs15, rfl, by omega, hCo, by rw [hst]; exact hout, hBs15, by rw [List.length_set]; exact hvl, ?_, S, E.keep (keep_cons rfl (keep_cons rfl (keep_cons rfl (keep_cons rfl (keep_cons rfl keep_nil)))))⟩
           intro j v hv
           rw [if_pos rfl, hnt, putS]
           rw [List.getElem?_set] at hv
           split at hv
           · rename_i hj
             subst hj
             split at hv
             · cases hv; rw [← h3, secB_setS (by rw [hlen]; omega) wt.hb, ← huv]; exact h4
             · cases hv
           · rename_i hj
             rw [secB_setS_ne (by rw [hlen]; omega) wt.hb (by omega)]
             have := hvs j v hv
             rw [if_pos rfl] at this; exact this)
        | (have hdn : wt.d = x.d := hkn heq
           rw [if_neg (fun q => q hdn), List.append_nil] at hst
           have hkf : keep = false := by simpa using hb
           subst hkf
           have S := (S.del (A := [(b8, _)]) (by repeat (first | exact pk1 | apply pick_tail))).front6 (A := [(q, _)]) (by repeat (first | exact pk1 | apply pick_tail)) (B := Cd) (by repeat (first | exact pk1 | apply pick_tail)) (C := Co) (by repeat (first | exact pk1 | apply pick_tail)) (D := dd1 y) (by repeat (first | exact pk1 | apply pick_tail)) (F := C') (by repeat (first | exact pk1 | apply pick_tail)) (G := Cw) (by repeat (first | exact pk1 | apply pick_tail))
           exact ⟨_, by omega, i + 1, us', vs', _, Co, C', rfl, by omega, hCo, by rw [hst]; exact hout, hC', hvl, hvs, S, E.keep (keep_cons rfl (keep_cons rfl (keep_cons rfl (keep_cons rfl (keep_cons rfl keep_nil)))))⟩)
  · replace hb := Nrm.nrm hb
    refine wp_exit ?_
    refine then_exit ?_; clear hK; clear K
    refine then_exit ?_
    refine in_exit ?_
    refine then_k hK ?_; clear hK; clear K
    obtain ⟨ado, co, rfl⟩ := hCo.slice
    refine region_list ?_
    refine list_pure E rfl rfl (by decide) (rn_move E rfl rfl) ?_; clear E a; intro a E
    refine list_pure E rfl rfl (by decide) (rn_move E rfl rfl) ?_; clear E a; intro a E
    refine list_pure E rfl rfl (by decide) (rn_nilCheck E rfl rfl) ?_; clear E a; intro a E
    refine list_pure E rfl rfl (by decide) (by first | exact rn_fieldAddr0 (q := 1) E rfl rfl rfl | exact rn_fieldAddr (q := 1) E rfl rfl rfl) ?_; clear E a; intro a E
    refine list_wp rfl (wp_store1 E S rfl rfl rfl rfl rfl rfl (by repeat (first | exact pk1 | apply pick_tail)) (by first | exact Nat.le_of_ble_eq_true rfl | (simp; done) | (simp; omega)) ?_); clear E S a; intro a w E S; try dsimp only [List.set] at S
    refine wpList_nil ?_
    refine end0 E rfl ?_
    obtain rfl : i = us.length := by omega
    rw [← hwl, List.take_length] at hout hvs
    refine ⟨_, rfl, _, Co, us', vs', C', hCo, hout, by rw [hvp, hvl]; exact hC', hvl, hvs, (S.del (A := Cw) (by repeat (first | exact pk1 | apply pick_tail))).tr⟩
end Go.Proofs.Ytpppaohhnlgfoaa
