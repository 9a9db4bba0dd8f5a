/-
  The document's disks: the power comes back; a new disk; bytes turned.
-/
import Derived.Test.YtpppaohhnlgfoaaDocT
namespace Go.Sl
theorem putD_set {w : Wt} {es : List Dk} {k : Nat} {z : Dk} (hz : es[k]? = some z) (hd : z.d = w.d) (hnd : (es.map Dk.d).Nodup) : putD w es = es.set k { z with pl := setS z.pl w.at_ w.b } := by
  obtain ⟨A, B, rfl, rfl⟩ := get_split hz
  rw [putD_one hd hnd, set_mid]
theorem key_get {ds es : List Dk} (h : es.map Dk.key = ds.map Dk.key) {k : Nat} {x : Dk} (hx : ds[k]? = some x) : ∃ z, es[k]? = some z ∧ z.key = x.key := by
  have h1 : (es.map Dk.key)[k]? = some x.key := by rw [h, List.getElem?_map, hx]; rfl
  rw [List.getElem?_map] at h1
  cases hq : es[k]? with
  | none => rw [hq] at h1; cases h1
  | some z => rw [hq] at h1; exact ⟨z, rfl, Option.some.inj h1⟩
theorem secB_zeros {n i : Nat} (h : 128 * i + 128 ≤ n) : secB (List.replicate n 0) i = List.replicate 128 0 := by
  rw [secB, List.drop_replicate, List.take_replicate]; congr 1; omega
end Go.Sl
namespace Go.Proofs.Ytpppaohhnlgfoaa
open Go.Sl
set_option maxRecDepth 10000

theorem qup_ret (q : Nat) (R : Rk) (C : Chunk) (hC : RfC q R C) (hok : DkOk R.ds) (hwo : WtOk R.ws R.ds) (v : Value) (st : List Bool) (O : Chunk) (hO : Rd O 1 v st.length (st.map Value.bool)) (w0 : World) (H : Hp w0 [C, O]) :
    Ret Try.prog 26 #[ptr q, v] w0 fun _ w' => ∃ C', RfC q (R.up st) C' ∧ Trs w0 w' [C, O] [C', O] := by
  obtain ⟨vd, vw, Cd, Cw, J, ys, us, h1, h2, h3, h4, rfl⟩ := hC
  have S := rf_open (St.begin H)
  obtain ⟨s, ws, ds⟩ := R
  simp only at h3 h4 hok hwo
  obtain ⟨add, cd, rfl⟩ := h1.slice
  obtain ⟨adw, cw, rfl⟩ := h2.slice
  obtain ⟨ad, c, rfl⟩ := hO.slice
  have hwm := h2.rd.2.2.1
  simp only [maxLen] at hwm
  have hwl := h4.1
  have hdl := h3.1
  obtain ⟨C0, hC0⟩ : ∃ C0, C0 = (RfL q s (.slice add ys.length cd) (.slice adw us.length cw) Cd Cw J ys).flatten := ⟨_, rfl⟩
  have S : St w0 [C0, O] w0 ([(q, qcl s (.slice add ys.length cd) (.slice adw us.length cw))] :: Cd :: Cw :: J :: (dch ys ++ [O])) := by rw [hC0]; exact S
  show Ret _ _ _ _ fun _ w' => ∃ C', RfC q (Rk.up ⟨s, ws, ds⟩ st) C' ∧ Trs w0 w' [(RfL q s (.slice add ys.length cd) (.slice adw us.length cw) Cd Cw J ys).flatten, O] [C', O]
  rw [← hC0]
  obtain ⟨fin, hfin⟩ : ∃ fin, fin = upW ws st ds := ⟨_, rfl⟩
  refine enter2 57 Try.func26 rfl rfl (by decide) ?_; intro a E
  refine wp_seq_k ?_; intro K hK
  refine wp_seq_k ?_; intro K hK
  refine region_list ?_
  refine list_pure E rfl rfl (by decide) (rn_assign E rfl rfl) ?_; clear E a; intro a E
  refine wpList_nil ?_
  refine then_k hK ?_; clear hK; clear K
  refine wp_block ?_
  refine wp_loop_ghost (fun (m : Nat) (a : Act) (w' : World) => ∃ (i : Nat) (es : List Dk) (ys' : List Dd), m = us.length - i ∧ i ≤ us.length ∧ upW (ws.drop i) (st.drop i) es = fin ∧ es.map Dk.key = ds.map Dk.key ∧ All2 (DdOk J) es ys' ∧ (ys'.map fun y => ptr y.b) = (ys.map fun y => ptr y.b) ∧
   St w0 [C0, O] w' ([(q, qcl s (.slice add ys.length cd) (.slice adw us.length cw))] :: Cd :: Cw :: J :: (dch ys' ++ [O])) ∧ Fr a 57 [(0, ptr q), (1, .slice ad st.length c), (4, .int .i64 i)]) (us.length - 0) ?_ ?_
  · exact ⟨0, ds, ys, rfl, by omega, by rw [hfin]; simp, rfl, h3, rfl, S, E.keep (keep_cons rfl (keep_cons rfl (keep_cons rfl keep_nil)))⟩
  clear E; clear a; (try clear S); rintro m a w ⟨i, es, ys', rfl, hi, hrest, hkey, h3', hpt, S, E⟩
  refine wp_seq_k ?_; intro K hK
  refine wp_seq_k ?_; intro K hK
  refine region_list ?_
  refine list_pure E rfl rfl (by decide) (rn_move E rfl rfl) ?_; clear E a; intro a E
  refine list_pure E rfl rfl (by decide) (rn_move E rfl rfl) ?_; clear E a; intro a E
  refine list_pure E rfl rfl (by decide) (rn_nilCheck E rfl rfl) ?_; clear E a; intro a E
  refine list_pure E rfl rfl (by decide) (by first | exact rn_fieldAddr0 (q := 1) E rfl rfl rfl | exact rn_fieldAddr (q := 1) E rfl rfl rfl) ?_; clear E a; intro a E
  refine list_pure E rfl rfl (by decide) (by first | exact rn_load E rfl rfl rfl (S.get (by repeat (first | exact pk1 | apply pick_tail))) rfl | exact rn_loadc E rfl rfl rfl (by assumption)) ?_; clear E a; intro a E
  refine list_pure E rfl rfl (by decide) (by first | exact rn_len E rfl rfl rfl | exact rn_len_str E rfl rfl rfl | exact rn_len_string E rfl rfl rfl) ?_; clear E a; intro a E
  refine list_pure E rfl rfl (by decide) (rn_lss E rfl rfl rfl) ?_; clear E a; intro a E
  refine wpList_nil ?_
  refine then_k hK ?_; clear hK; clear K
  refine if_bool E rfl (fun hb => ?_) (fun hb => ?_)
  · replace hb := Nrm.nrm hb
    refine wp_skip ?_
    refine then_k hK ?_; clear hK; clear K
    refine wp_seq_k ?_; intro K hK
    refine wp_block ?_
    refine wp_seq_k ?_; intro K hK
    have hiu : i < us.length := by omega
    obtain ⟨wt, u, g1, g2, ⟨x, hx, hxd⟩, g3, g4⟩ := h4.get (show i < ws.length by omega)
    obtain ⟨hiw, hwe⟩ := List.getElem?_eq_some_iff.1 g1
    obtain ⟨hiu2, hu⟩ := List.getElem?_eq_some_iff.1 g2
    have hwmem : wt ∈ ws := List.mem_of_getElem? g1
    rw [List.drop_eq_getElem_cons hiw, hwe, upW, List.tail_drop, List.head?_drop] at hrest
    obtain ⟨gw, rfl⟩ := h2.addr (by omega)
    have hel := fun (w : World) (h : ∀ x ∈ Cw, w.heap[x.1]? = some x.2) => h2.rd.elem (lay := Dw.lay) (w := w) Dw.lay_len h hiu
    rw [hu] at hel
    obtain ⟨adv, cv, huv⟩ := g4.slice
    have hlay : u.lay = [.int .i64 u.k, .int .i64 u.at_, .slice adv 128 cv] := by rw [← huv]; rfl
    have hOm : O ∈ dch ys' ++ [O] := List.mem_append_right _ (List.mem_singleton.2 rfl)
    refine region_list ?_
    refine list_pure E rfl rfl (by decide) (rn_move E rfl rfl) ?_; clear E a; intro a E
    refine list_pure E rfl rfl (by decide) (rn_move E rfl rfl) ?_; clear E a; intro a E
    refine list_pure E rfl rfl (by decide) (by first | exact rn_len E rfl rfl rfl | exact rn_len_str E rfl rfl rfl | exact rn_len_string E rfl rfl rfl) ?_; clear E a; intro a E
    refine list_pure E rfl rfl (by decide) (rn_lss E rfl rfl rfl) ?_; clear E a; intro a E
    refine list_pure E rfl rfl (by decide) (rn_move E rfl rfl) ?_; clear E a; intro a E
    refine guard_split E (t := 19) rfl (fun hb19 => ?_) (fun hb19 => ?_)
    · have hb19n := hb19; replace hb19n := Nrm.nrm hb19n
      obtain ⟨gs, offs, rfl⟩ := hO.addr (by omega); have his : i < st.length := (by omega)
      refine list_guard_yes E rfl rfl rfl rfl hb19 rfl (by decide) (rn_move E rfl rfl) ?_; clear E a; intro a E
      refine list_guard_yes E rfl rfl rfl rfl hb19 rfl (by decide) (rn_move E rfl rfl) ?_; clear E a; intro a E
      refine list_guard_yes E rfl rfl rfl rfl hb19 rfl (by decide) (rn_indexAddr1 (i := i) E rfl rfl rfl rfl rfl rfl (by omega)) ?_; clear E a; intro a E
      refine list_guard_yes E rfl rfl rfl rfl hb19 rfl (by decide) (rn_loadc E rfl rfl rfl (hO.cells (S.stab.at (by repeat (first | exact mm1 | assumption | apply List.Mem.tail))) rfl i (.bool (st[i]'his)) (by simp [his]))) ?_; clear E a; intro a E
      refine list_pure E rfl rfl (by decide) (rn_pick_yes' E rfl rfl hb19 rfl) ?_; clear E a; intro a E
      refine wpList_nil ?_
      refine then_k hK ?_; clear hK; clear K
      refine if_bool E rfl (fun hb => ?_) (fun hb => ?_)
      · replace hb := Nrm.nrm hb
        have hyes : st[i]? = some true := (by rw [List.getElem?_eq_getElem his]; simpa using hb)
        refine wp_seq_k ?_; intro K hK
        refine region_list ?_
        refine list_pure E rfl rfl (by decide) (rn_move E rfl rfl) ?_; clear E a; intro a E
        refine list_pure E rfl rfl (by decide) (rn_nilCheck E rfl rfl) ?_; clear E a; intro a E
        refine list_pure E rfl rfl (by decide) (by first | exact rn_fieldAddr0 (q := 1) E rfl rfl rfl | exact rn_fieldAddr (q := 1) E rfl rfl rfl) ?_; clear E a; intro a E
        refine list_pure E rfl rfl (by decide) (by first | exact rn_load E rfl rfl rfl (S.get (by repeat (first | exact pk1 | apply pick_tail))) rfl | exact rn_loadc E rfl rfl rfl (by assumption)) ?_; clear E a; intro a E
        refine list_pure E rfl rfl (by decide) (rn_move E rfl rfl) ?_; clear E a; intro a E
        refine list_pure E rfl rfl (by decide) (rn_indexAddr (i := i) (s := 3) E rfl rfl rfl rfl rfl rfl (by omega)) ?_; clear E a; intro a E
        refine list_pure E rfl rfl (by decide) (rn_load_aggc (vs := [.int .i64 u.k, .int .i64 u.at_, .slice adv 128 cv]) E rfl rfl rfl rfl (by rw [← hlay]; exact hel _ (S.stab.at (by repeat (first | exact mm1 | assumption | apply List.Mem.tail))))) ?_; clear E a; intro a E
        refine list_wp rfl (wp_alloc E S rfl rfl (by decide) rfl rfl rfl ?_); clear E S a; intro a w b5 E S
        refine list_wp rfl (wp_storeN E S rfl rfl rfl rfl (by simp [Value.oneCell']) rfl (by repeat (first | exact pk1 | apply pick_tail)) (by simp) ?_); clear E S a; intro a w E S; simp only [List.take_succ_cons, List.take_zero, List.drop_succ_cons, List.drop_zero, List.cons_append, List.nil_append, List.append_nil, List.length_cons, List.length_nil, Nat.zero_add, Nat.add_zero] at S
        refine wpList_nil ?_
        refine then_k hK ?_; clear hK; clear K
        rw [if_pos hyes] at hrest
        obtain ⟨z, hz, hzk⟩ := key_get hkey hx
        simp only [Dk.key, Prod.mk.injEq] at hzk
        have hzd : z.d = wt.d := by rw [hzk.1, hxd]
        have hzm : z ∈ es := List.mem_of_getElem? hz
        have hfw := (key_wt hkey hwo wt hwmem).2 z hzm hzd
        rw [putD_set hz hzd (by rw [key_d hkey]; exact hok.1)] at hrest
        have hkey2 : (es.set u.k { z with pl := setS z.pl wt.at_ wt.b }).map Dk.key = ds.map Dk.key := by
          rw [← putD_set hz hzd (by rw [key_d hkey]; exact hok.1), putD_key fun x hx hxd => (key_wt hkey hwo wt hwmem).2 x hx hxd]; exact hkey
        obtain ⟨y, hy, hyo⟩ := h3'.at hz
        obtain ⟨y1, y2, y3, y4⟩ := hyo
        obtain ⟨A, B, rfl, hAl⟩ := get_split hy
        obtain ⟨adp, cp, hvp⟩ := y2.slice
        rw [hvp] at y2
        obtain ⟨gp, rfl⟩ := y2.addr (by omega)
        have hpk : (ys.map fun y => ptr y.b)[u.k]? = some (ptr y.b) := by rw [← hpt, List.getElem?_map, hy]; rfl
        have hkl : u.k < ys.length := by have := (List.getElem?_eq_some_iff.1 hpk).1; simpa using this
        obtain ⟨gd, rfl⟩ := h1.addr (by omega)
        have S := S.front5 (A := [(b5, _)]) (by repeat (first | exact pk1 | apply pick_tail)) (B := [(q, _)]) (by repeat (first | exact pk1 | apply pick_tail)) (C := Cd) (by repeat (first | exact pk1 | apply pick_tail)) (D := Cw) (by repeat (first | exact pk1 | apply pick_tail)) (F := J) (by repeat (first | exact pk1 | apply pick_tail))
        have hpm : ([(b5, cel [.int .i64 u.k, .int .i64 u.at_, .slice adv 128 cv] 84)] :: [(q, qcl s (.slice (some ⟨gd, 0, none⟩) ys.length cd) (.slice (some ⟨gw, 0, none⟩) us.length cw))] :: Cd :: Cw :: J :: (dch (A ++ y :: B) ++ [O])).Perm ([(b5, cel [.int .i64 u.k, .int .i64 u.at_, .slice adv 128 cv] 84)] :: dd1 y :: y.C :: [(q, qcl s (.slice (some ⟨gd, 0, none⟩) ys.length cd) (.slice (some ⟨gw, 0, none⟩) us.length cw))] :: Cd :: Cw :: J :: (dch (A ++ B) ++ [O])) := (dch_open _ _ _ _ A B y [O]).cons _
        have S := S.perm hpm
        have hdd1 : dd1 y = [(y.b, cel [.slice (some ⟨gp, 0, none⟩) y.vs.length cp, .bool y.f] 80)] := by show [(y.b, cel [y.vp, .bool y.f] _)] = _; rw [hvp]
        rw [hdd1] at S
        refine region_mix0 S (.ofL [(0, 0), (1, 0), (2, 0), (3, 0), (4, 0), (5, 0), (6, 0), (7, 0), (8, 0), (9, 0), (10, 0), (11, 0), (12, 0), (13, 0), (14, 0), (15, 0), (16, 3)]) (by kernel_rfl) (by kernel_rfl) ?_
        clear S; intro w S
        refine mix_pure E rfl rfl rfl (by decide) (fun w h => rn_move E rfl rfl) ?_; clear E a; intro a E
        refine mix_pure E rfl rfl rfl (by decide) (fun w h => rn_nilCheck E rfl rfl) ?_; clear E a; intro a E
        refine mix_pure E rfl rfl rfl (by decide) (fun w h => by first | exact rn_fieldAddr0 (q := 0) E rfl rfl rfl | exact rn_fieldAddr (q := 0) E rfl rfl rfl) ?_; clear E a; intro a E
        refine mix_pure E rfl rfl rfl (by decide) (fun w h => by first | exact rn_load E rfl rfl rfl (h.one (by repeat (first | exact mm1 | assumption | apply List.Mem.tail))) rfl | exact rn_loadc E rfl rfl rfl (by assumption)) ?_; clear E a; intro a E
        refine mix_pure E rfl rfl rfl (by decide) (fun w h => by first | exact rn_fieldAddr0 (q := 0) E rfl rfl rfl | exact rn_fieldAddr (q := 0) E rfl rfl rfl) ?_; clear E a; intro a E
        refine mix_pure E rfl rfl rfl (by decide) (fun w h => by first | exact rn_load E rfl rfl rfl (h.one (by repeat (first | exact mm1 | assumption | apply List.Mem.tail))) rfl | exact rn_loadc E rfl rfl rfl (by assumption)) ?_; clear E a; intro a E
        refine mix_pure E rfl rfl rfl (by decide) (fun w h => rn_indexAddr1 (i := u.k) E rfl rfl rfl rfl rfl rfl (by omega)) ?_; clear E a; intro a E
        refine mix_pure E rfl rfl rfl (by decide) (fun w h => rn_loadc E rfl rfl rfl (h1.rd.cells (h.at (by repeat (first | exact mm1 | assumption | apply List.Mem.tail))) rfl u.k _ hpk)) ?_; clear E a; intro a E
        refine mix_pure E rfl rfl rfl (by decide) (fun w h => rn_nilCheck E rfl rfl) ?_; clear E a; intro a E
        refine mix_pure E rfl rfl rfl (by decide) (fun w h => by first | exact rn_fieldAddr0 (q := 0) E rfl rfl rfl | exact rn_fieldAddr (q := 0) E rfl rfl rfl) ?_; clear E a; intro a E
        refine mix_pure E rfl rfl rfl (by decide) (fun w h => by first | exact rn_load E rfl rfl rfl (h.one (by repeat (first | exact mm1 | assumption | apply List.Mem.tail))) rfl | exact rn_loadc E rfl rfl rfl (by assumption)) ?_; clear E a; intro a E
        refine mix_pure E rfl rfl rfl (by decide) (fun w h => by first | exact rn_fieldAddr0 (q := 1) E rfl rfl rfl | exact rn_fieldAddr (q := 1) E rfl rfl rfl) ?_; clear E a; intro a E
        refine mix_pure E rfl rfl rfl (by decide) (fun w h => by first | exact rn_load E rfl rfl rfl (h.one (by repeat (first | exact mm1 | assumption | apply List.Mem.tail))) rfl | exact rn_loadc E rfl rfl rfl (by assumption)) ?_; clear E a; intro a E
        refine mix_pure E rfl rfl rfl (by decide) (fun w h => by first | exact rn_fieldAddr0 (q := 2) E rfl rfl rfl | exact rn_fieldAddr (q := 2) E rfl rfl rfl) ?_; clear E a; intro a E
        refine mix_pure E rfl rfl rfl (by decide) (fun w h => by first | exact rn_load E rfl rfl rfl (h.one (by repeat (first | exact mm1 | assumption | apply List.Mem.tail))) rfl | exact rn_loadc E rfl rfl rfl (by assumption)) ?_; clear E a; intro a E
        refine mix_pure E rfl rfl rfl (by decide) (fun w h => rn_is00 (i := u.at_) E rfl rfl rfl rfl rfl rfl (by omega)) ?_; clear E a; intro a E
        refine mix_last rfl rfl (wp_elem1 E S rfl rfl rfl rfl rfl rfl y2 (by repeat (first | exact pk1 | apply pick_tail)) (i := u.at_) (by omega) rfl ?_); clear E S a; intro a w Cs16 E hBs16 S
        refine mix_nil ?_
        refine in_normal ?_
        refine then_k hK ?_; clear hK; clear K
        refine region_list ?_
        refine list_pure E rfl rfl (by decide) (rn_move E rfl rfl) ?_; clear E a; intro a E
        refine list_pure E rfl rfl (by decide) (rn_add E rfl rfl rfl (by first | exact wa_lit (y := 1) (by omega) | exact w_in (by omega) | exact w_inu (by omega) | exact rfl)) ?_; clear E a; intro a E
        refine list_pure E rfl rfl (by decide) (rn_assign E rfl rfl) ?_; clear E a; intro a E
        refine wpList_nil ?_
        refine then_normal ?_
        first
        | (rw [if_neg hno] at hrest
           exact ⟨_, by omega, i + 1, es, ys', rfl, by omega, hrest, hkey, h3', hpt, S, E.keep (keep_cons rfl (keep_cons rfl (keep_cons rfl keep_nil)))⟩)
        | (have S := (S.del (A := [(b5, _)]) (by repeat (first | exact pk1 | apply pick_tail))).front6 (A := [(q, _)]) (by repeat (first | exact pk1 | apply pick_tail)) (B := Cd) (by repeat (first | exact pk1 | apply pick_tail)) (C := Cw) (by repeat (first | exact pk1 | apply pick_tail)) (D := J) (by repeat (first | exact pk1 | apply pick_tail)) (F := [(y.b, _)]) (by repeat (first | exact pk1 | apply pick_tail)) (G := Cs16) (by repeat (first | exact pk1 | apply pick_tail))
           have S := rf_in (y := ⟨y.b, .slice (some ⟨gp, 0, none⟩) y.vs.length cp, Cs16, y.vs.set u.at_ (.slice adv 128 cv), y.f⟩) S
           have hlen : (y.vs.set u.at_ (.slice adv 128 cv)).length = y.vs.length := List.length_set
           have hdd : DdOk J { z with pl := setS z.pl wt.at_ wt.b } ⟨y.b, .slice (some ⟨gp, 0, none⟩) y.vs.length cp, Cs16, y.vs.set u.at_ (.slice adv 128 cv), y.f⟩ := by
             refine ⟨y1, by show Buf Cs16 _ 1 _ (y.vs.set u.at_ (.slice adv 128 cv)).length _; rw [hlen]; exact hBs16, by show 128 * (y.vs.set u.at_ (.slice adv 128 cv)).length = (setS z.pl wt.at_ wt.b).length; rw [hlen, setS_length hfw wt.hb]; exact y3, fun j v hv => ?_⟩
             show Rd J 1 v 128 (byt (secB (setS z.pl wt.at_ wt.b) j))
             simp only [List.getElem?_set] at hv
             split at hv
             · rename_i hj
               subst hj
               split at hv
               · cases hv; rw [← g3, secB_setS (by omega) wt.hb, ← huv]; exact g4
               · cases hv
             · rw [secB_setS_ne hfw wt.hb (by omega)]; exact y4 j v hv
           have hsw := dd_swap h3' hdd
           rw [hAl] at hsw
           exact ⟨_, by omega, i + 1, _, _, rfl, by omega, hrest, hkey2, hsw, by rw [← hpt]; simp, S, E.keep (keep_cons rfl (keep_cons rfl (keep_cons rfl keep_nil)))⟩)
      · replace hb := Nrm.nrm hb
        have hno : st[i]? ≠ some true := (by rw [List.getElem?_eq_getElem his]; simpa using hb)
        refine wp_skip ?_
        refine in_normal ?_
        refine then_k hK ?_; clear hK; clear K
        refine region_list ?_
        refine list_pure E rfl rfl (by decide) (rn_move E rfl rfl) ?_; clear E a; intro a E
        refine list_pure E rfl rfl (by decide) (rn_add E rfl rfl rfl (by first | exact wa_lit (y := 1) (by omega) | exact w_in (by omega) | exact w_inu (by omega) | exact rfl)) ?_; clear E a; intro a E
        refine list_pure E rfl rfl (by decide) (rn_assign E rfl rfl) ?_; clear E a; intro a E
        refine wpList_nil ?_
        refine then_normal ?_
        first
        | (rw [if_neg hno] at hrest
           exact ⟨_, by omega, i + 1, es, ys', rfl, by omega, hrest, hkey, h3', hpt, S, E.keep (keep_cons rfl (keep_cons rfl (keep_cons rfl keep_nil)))⟩)
        | (have S := (S.del (A := [(b5, _)]) (by repeat (first | exact pk1 | apply pick_tail))).front6 (A := [(q, _)]) (by repeat (first | exact pk1 | apply pick_tail)) (B := Cd) (by repeat (first | exact pk1 | apply pick_tail)) (C := Cw) (by repeat (first | exact pk1 | apply pick_tail)) (D := J) (by repeat (first | exact pk1 | apply pick_tail)) (F := [(y.b, _)]) (by repeat (first | exact pk1 | apply pick_tail)) (G := Cs16) (by repeat (first | exact pk1 | apply pick_tail))
           have S := rf_in (y := ⟨y.b, .slice (some ⟨gp, 0, none⟩) y.vs.length cp, Cs16, y.vs.set u.at_ (.slice adv 128 cv), y.f⟩) S
           have hlen : (y.vs.set u.at_ (.slice adv 128 cv)).length = y.vs.length := List.length_set
           have hdd : DdOk J { z with pl := setS z.pl wt.at_ wt.b } ⟨y.b, .slice (some ⟨gp, 0, none⟩) y.vs.length cp, Cs16, y.vs.set u.at_ (.slice adv 128 cv), y.f⟩ := by
             refine ⟨y1, by show Buf Cs16 _ 1 _ (y.vs.set u.at_ (.slice adv 128 cv)).length _; rw [hlen]; exact hBs16, by show 128 * (y.vs.set u.at_ (.slice adv 128 cv)).length = (setS z.pl wt.at_ wt.b).length; rw [hlen, setS_length hfw wt.hb]; exact y3, fun j v hv => ?_⟩
             show Rd J 1 v 128 (byt (secB (setS z.pl wt.at_ wt.b) j))
             simp only [List.getElem?_set] at hv
             split at hv
             · rename_i hj
               subst hj
               split at hv
               · cases hv; rw [← g3, secB_setS (by omega) wt.hb, ← huv]; exact g4
               · cases hv
             · rw [secB_setS_ne hfw wt.hb (by omega)]; exact y4 j v hv
           have hsw := dd_swap h3' hdd
           rw [hAl] at hsw
           exact ⟨_, by omega, i + 1, _, _, rfl, by omega, hrest, hkey2, hsw, by rw [← hpt]; simp, S, E.keep (keep_cons rfl (keep_cons rfl (keep_cons rfl keep_nil)))⟩)
    · have hb19n := hb19; replace hb19n := Nrm.nrm hb19n
      have hno : st[i]? ≠ some true := (by rw [List.getElem?_eq_none (by omega)]; simp)
      refine list_guard_no E rfl rfl rfl rfl hb19 rfl (by decide) ?_; clear E a; intro a E
      refine list_guard_no E rfl rfl rfl rfl hb19 rfl (by decide) ?_; clear E a; intro a E
      refine list_guard_no E rfl rfl rfl rfl hb19 rfl (by decide) ?_; clear E a; intro a E
      refine list_guard_no E rfl rfl rfl rfl hb19 rfl (by decide) ?_; clear E a; intro a E
      refine list_pure E rfl rfl (by decide) (rn_pick_no' E rfl rfl hb19 rfl) ?_; clear E a; intro a E
      refine wpList_nil ?_
      refine then_k hK ?_; clear hK; clear K
      refine if_false' E rfl rfl ?_
      refine wp_skip ?_
      refine in_normal ?_
      refine then_k hK ?_; clear hK; clear K
      refine region_list ?_
      refine list_pure E rfl rfl (by decide) (rn_move E rfl rfl) ?_; clear E a; intro a E
      refine list_pure E rfl rfl (by decide) (rn_add E rfl rfl rfl (by first | exact wa_lit (y := 1) (by omega) | exact w_in (by omega) | exact w_inu (by omega) | exact rfl)) ?_; clear E a; intro a E
      refine list_pure E rfl rfl (by decide) (rn_assign E rfl rfl) ?_; clear E a; intro a E
      refine wpList_nil ?_
      refine then_normal ?_
      first
      | (rw [if_neg hno] at hrest
         exact ⟨_, by omega, i + 1, es, ys', rfl, by omega, hrest, hkey, h3', hpt, S, E.keep (keep_cons rfl (keep_cons rfl (keep_cons rfl keep_nil)))⟩)
      | (have S := (S.del (A := [(b5, _)]) (by repeat (first | exact pk1 | apply pick_tail))).front6 (A := [(q, _)]) (by repeat (first | exact pk1 | apply pick_tail)) (B := Cd) (by repeat (first | exact pk1 | apply pick_tail)) (C := Cw) (by repeat (first | exact pk1 | apply pick_tail)) (D := J) (by repeat (first | exact pk1 | apply pick_tail)) (F := [(y.b, _)]) (by repeat (first | exact pk1 | apply pick_tail)) (G := Cs16) (by repeat (first | exact pk1 | apply pick_tail))
         have S := rf_in (y := ⟨y.b, .slice (some ⟨gp, 0, none⟩) y.vs.length cp, Cs16, y.vs.set u.at_ (.slice adv 128 cv), y.f⟩) S
         have hlen : (y.vs.set u.at_ (.slice adv 128 cv)).length = y.vs.length := List.length_set
         have hdd : DdOk J { z with pl := setS z.pl wt.at_ wt.b } ⟨y.b, .slice (some ⟨gp, 0, none⟩) y.vs.length cp, Cs16, y.vs.set u.at_ (.slice adv 128 cv), y.f⟩ := by
           refine ⟨y1, by show Buf Cs16 _ 1 _ (y.vs.set u.at_ (.slice adv 128 cv)).length _; rw [hlen]; exact hBs16, by show 128 * (y.vs.set u.at_ (.slice adv 128 cv)).length = (setS z.pl wt.at_ wt.b).length; rw [hlen, setS_length hfw wt.hb]; exact y3, fun j v hv => ?_⟩
           show Rd J 1 v 128 (byt (secB (setS z.pl wt.at_ wt.b) j))
           simp only [List.getElem?_set] at hv
           split at hv
           · rename_i hj
             subst hj
             split at hv
             · cases hv; rw [← g3, secB_setS (by omega) wt.hb, ← huv]; exact g4
             · cases hv
           · rw [secB_setS_ne hfw wt.hb (by omega)]; exact y4 j v hv
         have hsw := dd_swap h3' hdd
         rw [hAl] at hsw
         exact ⟨_, by omega, i + 1, _, _, rfl, by omega, hrest, hkey2, hsw, by rw [← hpt]; simp, S, E.keep (keep_cons rfl (keep_cons rfl (keep_cons rfl keep_nil)))⟩)
  · replace hb := Nrm.nrm hb
    refine wp_exit ?_
    refine then_exit ?_; clear hK; clear K
    refine then_exit ?_
    refine in_exit ?_
    refine then_k hK ?_; clear hK; clear K
    refine wp_seq_k ?_; intro K hK
    refine region_list ?_
    refine list_pure E rfl rfl (by decide) (rn_move E rfl rfl) ?_; clear E a; intro a E
    refine list_pure E rfl rfl (by decide) (rn_nilCheck E rfl rfl) ?_; clear E a; intro a E
    refine list_pure E rfl rfl (by decide) (by first | exact rn_fieldAddr0 (q := 1) E rfl rfl rfl | exact rn_fieldAddr (q := 1) E rfl rfl rfl) ?_; clear E a; intro a E
    refine list_wp rfl (wp_store1 E S rfl rfl rfl rfl rfl rfl (by repeat (first | exact pk1 | apply pick_tail)) (by first | exact Nat.le_of_ble_eq_true rfl | (simp; done) | (simp; omega)) ?_); clear E S a; intro a w E S; try dsimp only [List.set] at S
    refine wpList_nil ?_
    refine then_k hK ?_; clear hK; clear K
    refine wp_seq_k ?_; intro K hK
    refine region_list ?_
    refine list_pure E rfl rfl (by decide) (rn_move E rfl rfl) ?_; clear E a; intro a E
    refine list_pure E rfl rfl (by decide) (rn_nilCheck E rfl rfl) ?_; clear E a; intro a E
    refine list_pure E rfl rfl (by decide) (by first | exact rn_fieldAddr0 (q := 2) E rfl rfl rfl | exact rn_fieldAddr (q := 2) E rfl rfl rfl) ?_; clear E a; intro a E
    refine list_wp rfl (wp_store1 E S rfl rfl rfl rfl rfl rfl (by repeat (first | exact pk1 | apply pick_tail)) (by first | exact Nat.le_of_ble_eq_true rfl | (simp; done) | (simp; omega)) ?_); clear E S a; intro a w E S; try dsimp only [List.set] at S
    refine wpList_nil ?_
    refine then_k hK ?_; clear hK; clear K
    refine region_list ?_
    refine list_pure E rfl rfl (by decide) (rn_move E rfl rfl) ?_; clear E a; intro a E
    refine list_pure E rfl rfl (by decide) (rn_nilCheck E rfl rfl) ?_; clear E a; intro a E
    refine list_pure E rfl rfl (by decide) (by first | exact rn_fieldAddr0 (q := 3) E rfl rfl rfl | exact rn_fieldAddr (q := 3) E rfl rfl rfl) ?_; clear E a; intro a E
    refine list_wp rfl (wp_store1 E S rfl rfl rfl rfl rfl rfl (by repeat (first | exact pk1 | apply pick_tail)) (by first | exact Nat.le_of_ble_eq_true rfl | (simp; done) | (simp; omega)) ?_); clear E S a; intro a w E S; try dsimp only [List.set] at S
    refine wpList_nil ?_
    refine end0 E rfl ?_
    obtain rfl : i = us.length := by omega
    rw [← hwl, List.drop_length, upW] at hrest
    subst hrest
    have S := (S.del (A := Cw) (by repeat (first | exact pk1 | apply pick_tail))).addNil.front4 (A := [(q, _)]) (by repeat (first | exact pk1 | apply pick_tail)) (B := Cd) (by repeat (first | exact pk1 | apply pick_tail)) (C := []) (by repeat (first | exact pk1 | apply pick_tail)) (D := J) (by repeat (first | exact pk1 | apply pick_tail))
    have S := rf_close (s := ⟨-1, false, s.wr⟩) (vd := .slice add ys.length cd) (vw := .slice none 0 0) (Cw := []) (Ls := [O]) S
    have hyl : ys'.length = ys.length := by have := congrArg List.length hpt; simpa using this
    refine ⟨_, rfl, _, ⟨.slice add ys.length cd, .slice none 0 0, Cd, [], J, ys', [], by rw [hyl, hpt]; exact h1, Buf.nil _ _, ?_, All2.nil, rfl⟩, S.tr⟩
    simp only [Rk.up]
    rw [← hfin]
    refine ⟨by rw [List.length_map]; exact h3'.1, fun j a b ha hb => ?_⟩
    rw [List.getElem?_map] at ha
    cases hq : es[j]? with
    | none => rw [hq] at ha; cases ha
    | some z => rw [hq] at ha; cases ha; exact h3'.2 j z b hq hb

theorem qsizes_ret (q : Nat) (R : Rk) (C : Chunk) (hC : RfC q R C) (n : Int) (hn : n < 1 ∨ 8192 < n) (w0 : World) (H : Hp w0 [C]) : Ret Try.prog 33 #[ptr q, .int .i64 n] w0 fun u w' => u = .tuple #[.int .i64 (-1), .int .i64 1] ∧ Trs w0 w' [C] [C] := by
  have S := St.begin H
  refine enter2 49 Try.func33 rfl rfl (by decide) ?_; intro a E
  refine wp_seq_k ?_; intro K hK
  refine region_list ?_
  refine list_pure E rfl rfl (by decide) (rn_assign E rfl rfl) ?_; clear E a; intro a E
  refine list_pure E rfl rfl (by decide) (rn_assign E rfl rfl) ?_; clear E a; intro a E
  refine wpList_nil ?_
  refine then_k hK ?_; clear hK; clear K
  refine wp_seq_k ?_; intro K hK
  refine wp_seq_k ?_; intro K hK
  refine region_list ?_
  refine list_pure E rfl rfl (by decide) (rn_move E rfl rfl) ?_; clear E a; intro a E
  refine list_pure E rfl rfl (by decide) (rn_lss E rfl rfl rfl) ?_; clear E a; intro a E
  refine list_pure E rfl rfl (by decide) (rn_move E rfl rfl) ?_; clear E a; intro a E
  refine guard_split E (t := 11) rfl (fun hb11 => ?_) (fun hb11 => ?_)
  · have hb11n := hb11; replace hb11n := Nrm.nrm hb11n
    refine list_guard_no E rfl rfl rfl rfl hb11 rfl (by decide) ?_; clear E a; intro a E
    refine list_guard_no E rfl rfl rfl rfl hb11 rfl (by decide) ?_; clear E a; intro a E
    refine list_pure E rfl rfl (by decide) (rn_pick_yes' E rfl rfl hb11 rfl) ?_; clear E a; intro a E
    refine wpList_nil ?_
    refine then_k hK ?_; clear hK; clear K
    refine if_true' E rfl rfl ?_
    refine wp_seq_k ?_; intro K hK
    refine region_list ?_
    refine list_pure E rfl rfl (by decide) (rn_assign E rfl rfl) ?_; clear E a; intro a E
    refine list_pure E rfl rfl (by decide) (rn_assign E rfl rfl) ?_; clear E a; intro a E
    refine wpList_nil ?_
    refine then_k hK ?_; clear hK; clear K
    refine wp_ret ?_
    refine then_ret ?_; clear hK; clear K
    refine ret2 E rfl rfl rfl ?_
    exact ⟨_, rfl, rfl, S.tr⟩
  · have hb11n := hb11; replace hb11n := Nrm.nrm hb11n
    refine list_guard_yes E rfl rfl rfl rfl hb11 rfl (by decide) (rn_move E rfl rfl) ?_; clear E a; intro a E
    refine list_guard_yes E rfl rfl rfl rfl hb11 rfl (by decide) (rn_gtr E rfl rfl rfl) ?_; clear E a; intro a E
    refine list_pure E rfl rfl (by decide) (rn_pick_no' E rfl rfl hb11 rfl) ?_; clear E a; intro a E
    refine wpList_nil ?_
    refine then_k hK ?_; clear hK; clear K
    refine if_bool E rfl (fun hb => ?_) (fun hb => ?_)
    · replace hb := Nrm.nrm hb
      skip
      refine wp_seq_k ?_; intro K hK
      refine region_list ?_
      refine list_pure E rfl rfl (by decide) (rn_assign E rfl rfl) ?_; clear E a; intro a E
      refine list_pure E rfl rfl (by decide) (rn_assign E rfl rfl) ?_; clear E a; intro a E
      refine wpList_nil ?_
      refine then_k hK ?_; clear hK; clear K
      refine wp_ret ?_
      refine then_ret ?_; clear hK; clear K
      refine ret2 E rfl rfl rfl ?_
      exact ⟨_, rfl, rfl, S.tr⟩
    · replace hb := Nrm.nrm hb
      exfalso; omega

theorem qadd_ret (q : Nat) (R : Rk) (C : Chunk) (hC : RfC q R C) (hl : R.ds.length ≤ 1000) (n : Nat) (hn1 : 1 ≤ n) (hn2 : n ≤ 8192) (w0 : World) (H : Hp w0 [C]) :
    Ret Try.prog 33 #[ptr q, .int .i64 n] w0 fun u w' => ∃ C', u = .tuple #[.int .i64 R.ds.length, .int .i64 0] ∧ (∀ d gp gn, RfC q (R.add d gp gn n) C') ∧ Trs w0 w' [C] [C'] := by
  obtain ⟨vd, vw, Cd, Cw, J, ys, us, h1, h2, h3, h4, rfl⟩ := hC
  have S := rf_open (St.begin H)
  obtain ⟨s, ws, ds⟩ := R
  simp only at h3 h4 hl
  have hdl := h3.1
  obtain ⟨add, cd, rfl⟩ := h1.slice
  obtain ⟨C0, hC0⟩ : ∃ C0, C0 = (RfL q s (.slice add ys.length cd) vw Cd Cw J ys).flatten := ⟨_, rfl⟩
  have S : St w0 [C0] w0 ([(q, qcl s (.slice add ys.length cd) vw)] :: Cd :: Cw :: J :: (dch ys ++ [])) := by rw [hC0]; exact S
  show Ret _ _ _ _ fun u w' => ∃ C', u = .tuple #[.int .i64 ds.length, .int .i64 0] ∧ (∀ d gp gn, RfC q (Rk.add ⟨s, ws, ds⟩ d gp gn n) C') ∧ Trs w0 w' [(RfL q s (.slice add ys.length cd) vw Cd Cw J ys).flatten] [C']
  rw [← hC0]
  refine enter2 49 Try.func33 rfl rfl (by decide) ?_; intro a E
  refine wp_seq_k ?_; intro K hK
  refine region_list ?_
  refine list_pure E rfl rfl (by decide) (rn_assign E rfl rfl) ?_; clear E a; intro a E
  refine list_pure E rfl rfl (by decide) (rn_assign E rfl rfl) ?_; clear E a; intro a E
  refine wpList_nil ?_
  refine then_k hK ?_; clear hK; clear K
  refine wp_seq_k ?_; intro K hK
  refine wp_seq_k ?_; intro K hK
  refine region_list ?_
  refine list_pure E rfl rfl (by decide) (rn_move E rfl rfl) ?_; clear E a; intro a E
  refine list_pure E rfl rfl (by decide) (rn_lss E rfl rfl rfl) ?_; clear E a; intro a E
  refine list_pure E rfl rfl (by decide) (rn_move E rfl rfl) ?_; clear E a; intro a E
  refine guard_false E (t := 11) rfl ((decide_eq_false (by omega))) (fun hb11 => ?_)
  refine list_guard_yes E rfl rfl rfl rfl hb11 rfl (by decide) (rn_move E rfl rfl) ?_; clear E a; intro a E
  refine list_guard_yes E rfl rfl rfl rfl hb11 rfl (by decide) (rn_gtr E rfl rfl rfl) ?_; clear E a; intro a E
  refine list_pure E rfl rfl (by decide) (rn_pick_no' E rfl rfl hb11 rfl) ?_; clear E a; intro a E
  refine wpList_nil ?_
  refine then_k hK ?_; clear hK; clear K
  refine if_false' E rfl ((decide_eq_false (by omega))) ?_
  refine wp_skip ?_
  refine then_k hK ?_; clear hK; clear K
  refine wp_seq_k ?_; intro K hK
  refine region_list ?_
  refine list_pure E rfl rfl (by decide) (rn_build (cells := [_, _]) E rfl rfl rfl) ?_; clear E a; intro a E
  refine list_wp rfl (wp_box E S rfl rfl (by decide) rfl rfl ?_); clear E S a; intro a w b16 E S
  refine list_pure E rfl rfl (by decide) (rn_assign E rfl rfl) ?_; clear E a; intro a E
  refine wpList_nil ?_
  refine then_k hK ?_; clear hK; clear K
  refine wp_seq_k ?_; intro K hK
  refine wp_seq_k ?_; intro K hK
  have S := S.addNil
  refine region_list ?_
  refine list_pure E rfl rfl (by decide) (rn_assign E rfl rfl) ?_; clear E a; intro a E
  refine wpList_nil ?_
  refine then_k hK ?_; clear hK; clear K
  refine wp_block ?_
  refine wp_loop_ghost (fun (m : Nat) (a : Act) (w' : World) => ∃ (i : Nat) (vp : Value) (Cp J2 : Chunk) (vs : List Value), m = n - i ∧ i ≤ n ∧ Buf Cp 32 1 vp vs.length vs ∧ vs.length = i ∧ (∀ c ∈ J, c ∈ J2) ∧ (∀ (j : Nat) (v : Value), vs[j]? = some v → Rd J2 1 v 128 (byt (List.replicate 128 0))) ∧
   St w0 [C0] w' (Cp :: [(b16, cel [vp, .bool false] 80)] :: [(q, qcl s (.slice add ys.length cd) vw)] :: Cd :: Cw :: J2 :: (dch ys ++ [])) ∧ Fr a 49 [(0, ptr q), (1, .int .i64 n), (6, ptr b16), (7, .int .i64 i)]) (n - 0) ?_ ?_
  · exact ⟨0, _, [], J, [], rfl, by omega, Buf.nil _ _, rfl, fun c h => h, (fun j v h => by simp at h), S, E.keep (keep_cons rfl (keep_cons rfl (keep_cons rfl (keep_cons rfl keep_nil))))⟩
  clear E; clear a; (try clear S); rintro m a w ⟨i, vp, Cp, J2, vs, rfl, hi, hCp, hvl, hJ2, hvs, S, E⟩
  refine wp_seq_k ?_; intro K hK
  refine wp_seq_k ?_; intro K hK
  refine region_list ?_
  refine list_pure E rfl rfl (by decide) (rn_move E rfl rfl) ?_; clear E a; intro a E
  refine list_pure E rfl rfl (by decide) (rn_move E rfl rfl) ?_; clear E a; intro a E
  refine list_pure E rfl rfl (by decide) (rn_lss E rfl rfl rfl) ?_; clear E a; intro a E
  refine wpList_nil ?_
  refine then_k hK ?_; clear hK; clear K
  refine if_bool E rfl (fun hb => ?_) (fun hb => ?_)
  · replace hb := Nrm.nrm hb
    refine wp_skip ?_
    refine then_k hK ?_; clear hK; clear K
    refine wp_seq_k ?_; intro K hK
    refine wp_block ?_
    refine wp_seq_k ?_; intro K hK
    have hin : i < n := by omega
    refine region_list ?_
    refine list_call E rfl rfl (by decide) rfl Try.func43 rfl (by kernel_rfl) rfl (noughts_ret _) ?_
    rintro v22 w ⟨vz, Cz, rfl, hz, hT⟩; clear E a; intro a E
    have S := S.fresh hT; obtain ⟨adz, cz, rfl⟩ := hz.slice
    refine list_pure E rfl rfl (by decide) (rn_assign E rfl rfl) ?_; clear E a; intro a E
    refine wpList_nil ?_
    refine then_k hK ?_; clear hK; clear K
    obtain ⟨adp, cp, rfl⟩ := hCp.slice
    refine region_list ?_
    refine list_pure E rfl rfl (by decide) (rn_move E rfl rfl) ?_; clear E a; intro a E
    refine list_pure E rfl rfl (by decide) (rn_move E rfl rfl) ?_; clear E a; intro a E
    refine list_pure E rfl rfl (by decide) (rn_nilCheck E rfl rfl) ?_; clear E a; intro a E
    refine list_pure E rfl rfl (by decide) (by first | exact rn_fieldAddr0 (q := 0) E rfl rfl rfl | exact rn_fieldAddr (q := 0) E rfl rfl rfl) ?_; clear E a; intro a E
    refine list_pure E rfl rfl (by decide) (by first | exact rn_load E rfl rfl rfl (S.get (by repeat (first | exact pk1 | apply pick_tail))) rfl | exact rn_loadc E rfl rfl rfl (by assumption)) ?_; clear E a; intro a E
    refine list_pure E rfl rfl (by decide) (rn_move E rfl rfl) ?_; clear E a; intro a E
    refine list_wp rfl (wp_bslice (cells := [_]) E S rfl rfl (by decide) rfl rfl rfl rfl rfl (by decide) rfl ?_); clear E S a; intro a w b29 E S
    refine list_wp rfl (wp_append (by' := 24) E S rfl rfl (by decide) rfl rfl hCp (by repeat (first | exact pk1 | apply pick_tail)) ((rd_cells (g := b29) (T := 32) (xs := [.slice adz 128 cz]) (s := 1) (m := 1) rfl (by simp [Value.oneCell']) (by omega) 1).src (S.stab.at (by repeat (first | exact mm1 | assumption | apply List.Mem.tail))) rfl) rfl rfl rfl rfl rfl rfl (by simp only [maxLen]; omega) (by omega) ?_); clear E S a; intro a w v30 C30 E S hB30
    obtain ⟨ad30, c30, rfl⟩ := hB30.slice
    refine list_pure E rfl rfl (by decide) (rn_nilCheck E rfl rfl) ?_; clear E a; intro a E
    refine list_pure E rfl rfl (by decide) (by first | exact rn_fieldAddr0 (q := 0) E rfl rfl rfl | exact rn_fieldAddr (q := 0) E rfl rfl rfl) ?_; clear E a; intro a E
    refine list_wp rfl (wp_store1 E S rfl rfl rfl rfl rfl rfl (by repeat (first | exact pk1 | apply pick_tail)) (by first | exact Nat.le_of_ble_eq_true rfl | (simp; done) | (simp; omega)) ?_); clear E S a; intro a w E S; try dsimp only [List.set] at S
    refine wpList_nil ?_
    refine in_normal ?_
    refine then_k hK ?_; clear hK; clear K
    refine region_list ?_
    refine list_pure E rfl rfl (by decide) (rn_move E rfl rfl) ?_; clear E a; intro a E
    refine list_pure E rfl rfl (by decide) (rn_add E rfl rfl rfl (by first | exact wa_lit (y := 1) (by omega) | exact w_in (by omega) | exact w_inu (by omega) | exact rfl)) ?_; clear E a; intro a E
    refine list_pure E rfl rfl (by decide) (rn_assign E rfl rfl) ?_; clear E a; intro a E
    refine wpList_nil ?_
    refine then_normal ?_
    have S := (S.del (A := [(b29, _)]) (by repeat (first | exact pk1 | apply pick_tail))).gather (A := Cz) (B := J2) (by repeat (first | exact pk1 | apply pick_tail)) (by repeat (first | exact pk1 | apply pick_tail))
    have S := S.front6 (A := C30) (by repeat (first | exact pk1 | apply pick_tail)) (B := [(b16, _)]) (by repeat (first | exact pk1 | apply pick_tail)) (C := [(q, _)]) (by repeat (first | exact pk1 | apply pick_tail)) (D := Cd) (by repeat (first | exact pk1 | apply pick_tail)) (F := Cw) (by repeat (first | exact pk1 | apply pick_tail)) (G := Cz ++ J2) (by repeat (first | exact pk1 | apply pick_tail))
    refine ⟨_, by omega, i + 1, .slice ad30 (vs.length + 1) c30, C30, Cz ++ J2, vs ++ [.slice adz 128 cz], rfl, by omega, by rw [List.length_append, List.length_singleton]; exact hB30, by rw [List.length_append, List.length_singleton, hvl], fun c hc => List.mem_append_right _ (hJ2 c hc), ?_, S, E.keep (keep_cons rfl (keep_cons rfl (keep_cons rfl (keep_cons rfl keep_nil))))⟩
    intro j v hv
    rcases Nat.lt_or_ge j vs.length with h | h
    · rw [List.getElem?_append_left h] at hv; exact (hvs j v hv).sub fun c hc => List.mem_append_right _ hc
    · rw [List.getElem?_append_right h] at hv
      have h0 := (List.getElem?_eq_some_iff.1 hv).1
      rw [show j - vs.length = 0 by simp at h0; omega] at hv
      cases hv; exact hz.rd.sub fun c hc => List.mem_append_left _ hc
  · replace hb := Nrm.nrm hb
    refine wp_exit ?_
    refine then_exit ?_; clear hK; clear K
    refine then_exit ?_
    refine in_exit ?_
    refine then_k hK ?_; clear hK; clear K
    refine wp_seq_k ?_; intro K hK
    obtain rfl : i = n := by omega
    obtain ⟨adp, cp, rfl⟩ := hCp.slice
    refine region_list ?_
    refine list_pure E rfl rfl (by decide) (rn_move E rfl rfl) ?_; clear E a; intro a E
    refine list_pure E rfl rfl (by decide) (rn_move E rfl rfl) ?_; clear E a; intro a E
    refine list_pure E rfl rfl (by decide) (rn_nilCheck E rfl rfl) ?_; clear E a; intro a E
    refine list_pure E rfl rfl (by decide) (by first | exact rn_fieldAddr0 (q := 0) E rfl rfl rfl | exact rn_fieldAddr (q := 0) E rfl rfl rfl) ?_; clear E a; intro a E
    refine list_pure E rfl rfl (by decide) (by first | exact rn_load E rfl rfl rfl (S.get (by repeat (first | exact pk1 | apply pick_tail))) rfl | exact rn_loadc E rfl rfl rfl (by assumption)) ?_; clear E a; intro a E
    refine list_pure E rfl rfl (by decide) (rn_move E rfl rfl) ?_; clear E a; intro a E
    refine list_wp rfl (wp_bslice (cells := [_]) E S rfl rfl (by decide) rfl rfl rfl rfl rfl (by decide) rfl ?_); clear E S a; intro a w b39 E S
    refine list_wp rfl (wp_append (by' := 8) E S rfl rfl (by decide) rfl rfl h1 (by repeat (first | exact pk1 | apply pick_tail)) ((rd_cells (g := b39) (T := 81) (xs := [ptr b16]) (s := 1) (m := 1) rfl (by simp [Value.oneCell']) (by omega) 1).src (S.stab.at (by repeat (first | exact mm1 | assumption | apply List.Mem.tail))) rfl) rfl rfl rfl rfl rfl rfl (by simp only [maxLen]; omega) (by omega) ?_); clear E S a; intro a w v40 C40 E S hB40
    obtain ⟨ad40, c40, rfl⟩ := hB40.slice
    refine list_pure E rfl rfl (by decide) (rn_nilCheck E rfl rfl) ?_; clear E a; intro a E
    refine list_pure E rfl rfl (by decide) (by first | exact rn_fieldAddr0 (q := 0) E rfl rfl rfl | exact rn_fieldAddr (q := 0) E rfl rfl rfl) ?_; clear E a; intro a E
    refine list_wp rfl (wp_store1 E S rfl rfl rfl rfl rfl rfl (by repeat (first | exact pk1 | apply pick_tail)) (by first | exact Nat.le_of_ble_eq_true rfl | (simp; done) | (simp; omega)) ?_); clear E S a; intro a w E S; try dsimp only [List.set] at S
    refine wpList_nil ?_
    refine then_k hK ?_; clear hK; clear K
    refine wp_seq_k ?_; intro K hK
    refine region_list ?_
    refine list_pure E rfl rfl (by decide) (rn_move E rfl rfl) ?_; clear E a; intro a E
    refine list_pure E rfl rfl (by decide) (rn_nilCheck E rfl rfl) ?_; clear E a; intro a E
    refine list_pure E rfl rfl (by decide) (by first | exact rn_fieldAddr0 (q := 0) E rfl rfl rfl | exact rn_fieldAddr (q := 0) E rfl rfl rfl) ?_; clear E a; intro a E
    refine list_pure E rfl rfl (by decide) (by first | exact rn_load E rfl rfl rfl (S.get (by repeat (first | exact pk1 | apply pick_tail))) rfl | exact rn_loadc E rfl rfl rfl (by assumption)) ?_; clear E a; intro a E
    refine list_pure E rfl rfl (by decide) (by first | exact rn_len E rfl rfl rfl | exact rn_len_str E rfl rfl rfl | exact rn_len_string E rfl rfl rfl) ?_; clear E a; intro a E
    refine list_pure E rfl rfl (by decide) (rn_sub E rfl rfl rfl (by first | exact ws_lit (y := 1) (by omega) (by omega) | exact w_in (by omega) | exact w_inu (by omega) | exact rfl)) ?_; clear E a; intro a E
    refine list_pure E rfl rfl (by decide) (rn_assign E rfl rfl) ?_; clear E a; intro a E
    refine list_pure E rfl rfl (by decide) (rn_assign E rfl rfl) ?_; clear E a; intro a E
    refine wpList_nil ?_
    refine then_k hK ?_; clear hK; clear K
    refine wp_ret ?_
    refine ret2 E rfl rfl rfl ?_
    obtain ⟨y, hy⟩ : ∃ y : Dd, y = ⟨b16, .slice adp vs.length cp, Cp, vs, false⟩ := ⟨_, rfl⟩
    have S := (S.del (A := [(b39, _)]) (by repeat (first | exact pk1 | apply pick_tail))).front6 (A := [(q, qcl s (.slice ad40 (ys.length + 1) c40) vw)]) (by repeat (first | exact pk1 | apply pick_tail)) (B := C40) (by repeat (first | exact pk1 | apply pick_tail)) (C := Cw) (by repeat (first | exact pk1 | apply pick_tail)) (D := J2) (by repeat (first | exact pk1 | apply pick_tail)) (F := [(b16, cel [.slice adp vs.length cp, .bool false] 80)]) (by repeat (first | exact pk1 | apply pick_tail)) (G := Cp) (by repeat (first | exact pk1 | apply pick_tail))
    have S : St w0 [C0] w ([(q, qcl s (.slice ad40 (ys.length + 1) c40) vw)] :: C40 :: Cw :: J2 :: dd1 y :: y.C :: (dch ys ++ [])) := by rw [hy]; exact S
    have e9 : dch ys ++ [] = dch (ys ++ []) ++ [] := by rw [List.append_nil ys]
    rw [e9] at S
    have S := rf_close (Ls := []) (rf_in (A := ys) (B := []) S)
    refine ⟨_, rfl, _, by rw [hdl]; rfl, fun d gp gn => ⟨.slice ad40 (ys.length + 1) c40, vw, C40, Cw, J2, ys ++ [y], us, ?_, h2, ?_, ?_, rfl⟩, S.tr⟩
    · rw [List.length_append, List.length_singleton, List.map_append, List.map_singleton, hy]; exact hB40
    · simp only [Rk.add]
      refine (h3.imp fun _ _ h => h.sub hJ2).snoc ?_
      rw [hy]
      refine ⟨rfl, hCp, by show 128 * vs.length = (List.replicate (i * 128) (0 : UInt8)).length; rw [List.length_replicate]; omega, fun j v hv => ?_⟩
      have hj := (List.getElem?_eq_some_iff.1 hv).1
      show Rd J2 1 v 128 (byt (secB (List.replicate (i * 128) 0) j))
      rw [secB_zeros (by simp only at hj; omega)]; exact hvs j v hv
    · simp only [Rk.add]
      exact h4.imp fun w u ⟨⟨x, g1, g2⟩, g3, g4⟩ => ⟨⟨x, by rw [List.getElem?_append_left (List.getElem?_eq_some_iff.1 g1).1]; exact g1, g2⟩, g3, g4.sub hJ2⟩

theorem qturned_ret (v : Value) (xs : List UInt8) (J : Chunk) (hv : Rd J 1 v xs.length (byt xs)) (vm : Value) (ms : List UInt8) (D : Chunk) (hD : Rd D 1 vm ms.length (byt ms)) (hms : ms.length ≤ xs.length) (hxs : xs.length ≤ 1048576) (As : List Chunk) (hJA : J ∈ As) (hDA : D ∈ As) (w0 : World) (H : Hp w0 As) :
    Ret Try.prog 48 #[v, vm] w0 fun u w' => ∃ v C, u = v ∧ Buf C 5 1 v xs.length (byt (xorB xs ms)) ∧ Trs w0 w' As (C :: As) := by
  have S := (St.begin H).addNil
  obtain ⟨ad, c, rfl⟩ := hD.slice
  refine enter2 28 Try.func48 rfl rfl (by decide) ?_; intro a E
  refine wp_seq_k ?_; intro K hK
  refine region_list ?_
  refine list_pure E rfl rfl (by decide) (rn_assign E rfl rfl) ?_; clear E a; intro a E
  refine wpList_nil ?_
  refine then_k hK ?_; clear hK; clear K
  refine wp_seq_k ?_; intro K hK
  refine region_list ?_
  refine list_pure E rfl rfl (by decide) (rn_move E rfl rfl) ?_; clear E a; intro a E
  refine list_wp rfl (wp_append (by' := 1) E S rfl rfl (by decide) rfl rfl (Buf.nil 5 1) (by repeat (first | exact pk1 | apply pick_tail)) (hv.src (S.stab.at (by repeat (first | exact mm1 | assumption | apply List.Mem.tail))) rfl) rfl rfl rfl rfl rfl rfl (by simp only [maxLen]; omega) (by omega) ?_); clear E S a; intro a w v8 C8 E S hB8
  rw [Nat.zero_add, List.nil_append] at hB8; obtain ⟨ad8, c8, rfl⟩ := hB8.slice
  refine list_pure E rfl rfl (by decide) (rn_assign E rfl rfl) ?_; clear E a; intro a E
  refine wpList_nil ?_
  refine then_k hK ?_; clear hK; clear K
  refine wp_seq_k ?_; intro K hK
  refine wp_seq_k ?_; intro K hK
  refine region_list ?_
  refine list_pure E rfl rfl (by decide) (rn_assign E rfl rfl) ?_; clear E a; intro a E
  refine wpList_nil ?_
  refine then_k hK ?_; clear hK; clear K
  refine wp_block ?_
  refine wp_loop_ghost (fun (m : Nat) (a : Act) (w' : World) => ∃ (i : Nat) (Cx : Chunk), m = ms.length - i ∧ i ≤ ms.length ∧ Buf Cx 5 1 (.slice ad8 xs.length c8) xs.length (byt (xorB xs (ms.take i))) ∧ St w0 As w' (Cx :: As) ∧ Fr a 28 [(1, .slice ad ms.length c), (5, .slice ad8 xs.length c8), (6, .int .i64 i)]) (ms.length - 0) ?_ ?_
  · exact ⟨0, C8, rfl, by omega, by rw [List.take_zero, xorB_nil]; exact hB8, S, E.keep (keep_cons rfl (keep_cons rfl (keep_cons rfl keep_nil)))⟩
  clear E; clear a; (try clear S); rintro m a w ⟨i, Cx, rfl, hi, hCx, S, E⟩
  refine wp_seq_k ?_; intro K hK
  refine wp_seq_k ?_; intro K hK
  refine region_list ?_
  refine list_pure E rfl rfl (by decide) (rn_move E rfl rfl) ?_; clear E a; intro a E
  refine list_pure E rfl rfl (by decide) (rn_move E rfl rfl) ?_; clear E a; intro a E
  refine list_pure E rfl rfl (by decide) (by first | exact rn_len E rfl rfl rfl | exact rn_len_str E rfl rfl rfl | exact rn_len_string E rfl rfl rfl) ?_; clear E a; intro a E
  refine list_pure E rfl rfl (by decide) (rn_lss E rfl rfl rfl) ?_; clear E a; intro a E
  refine wpList_nil ?_
  refine then_k hK ?_; clear hK; clear K
  refine if_bool E rfl (fun hb => ?_) (fun hb => ?_)
  · replace hb := Nrm.nrm hb
    refine wp_skip ?_
    refine then_k hK ?_; clear hK; clear K
    refine wp_seq_k ?_; intro K hK
    refine wp_block ?_
    have hil : i < ms.length := by omega
    obtain ⟨gm, om, rfl⟩ := hD.addr (by omega)
    obtain ⟨g8, rfl⟩ := hCx.addr (by omega)
    obtain ⟨x, hx⟩ : ∃ x, xs[i]? = some x := ⟨_, List.getElem?_eq_getElem (by omega)⟩
    obtain ⟨k, hk⟩ : ∃ k, ms[i]? = some k := ⟨_, List.getElem?_eq_getElem hil⟩
    have hkb : (byt ms)[i]? = some (.int .u8 k.toNat) := by simp [byt, hk]
    have hxi : (xorB xs (ms.take i))[i]? = some x := by rw [xorB_past _ _ _ (by rw [List.length_take]; omega)]; exact hx
    have hxb : (byt (xorB xs (ms.take i)))[i]? = some (.int .u8 x.toNat) := by simp [byt, hxi]
    refine region_mix0 S (.ofL [(0, 0), (1, 0), (2, 0), (3, 0), (4, 0), (5, 0), (6, 0), (7, 0), (8, 0), (9, 0), (10, 0), (11, 0), (12, 3)]) (by kernel_rfl) (by kernel_rfl) ?_
    clear S; intro w S
    refine mix_pure E rfl rfl rfl (by decide) (fun w h => rn_move E rfl rfl) ?_; clear E a; intro a E
    refine mix_pure E rfl rfl rfl (by decide) (fun w h => rn_move E rfl rfl) ?_; clear E a; intro a E
    refine mix_pure E rfl rfl rfl (by decide) (fun w h => rn_move E rfl rfl) ?_; clear E a; intro a E
    refine mix_pure E rfl rfl rfl (by decide) (fun w h => rn_move E rfl rfl) ?_; clear E a; intro a E
    refine mix_pure E rfl rfl rfl (by decide) (fun w h => rn_is00 (i := i) E rfl rfl rfl rfl rfl rfl (by omega)) ?_; clear E a; intro a E
    refine mix_pure E rfl rfl rfl (by decide) (fun w h => rn_loadc E rfl rfl rfl (by have := hCx.rd.cells (h.at (by repeat (first | exact mm1 | assumption | apply List.Mem.tail))) rfl i _ hxb; rwa [Nat.zero_add] at this)) ?_; clear E a; intro a E
    refine mix_pure E rfl rfl rfl (by decide) (fun w h => rn_move E rfl rfl) ?_; clear E a; intro a E
    refine mix_pure E rfl rfl rfl (by decide) (fun w h => rn_move E rfl rfl) ?_; clear E a; intro a E
    refine mix_pure E rfl rfl rfl (by decide) (fun w h => rn_indexAddr1 (i := i) E rfl rfl rfl rfl rfl rfl (by omega)) ?_; clear E a; intro a E
    refine mix_pure E rfl rfl rfl (by decide) (fun w h => rn_loadc E rfl rfl rfl (hD.cells (h.at (by repeat (first | exact mm1 | assumption | apply List.Mem.tail))) rfl i _ hkb)) ?_; clear E a; intro a E
    refine mix_pure E rfl rfl rfl (by decide) (fun w h => rn_xor E rfl rfl rfl (xor8 x k)) ?_; clear E a; intro a E
    refine mix_pure E rfl rfl rfl (by decide) (fun w h => rn_is00 (i := i) E rfl rfl rfl rfl rfl rfl (by omega)) ?_; clear E a; intro a E
    refine mix_last rfl rfl (wp_elem1 E S rfl rfl rfl rfl rfl rfl hCx (by repeat (first | exact pk1 | apply pick_tail)) (i := i) (by rw [byt_length, xorB_length]; omega) rfl ?_); clear E S a; intro a w Cs12 E hBs12 S
    refine mix_nil ?_
    refine in_normal ?_
    refine then_k hK ?_; clear hK; clear K
    refine region_list ?_
    refine list_pure E rfl rfl (by decide) (rn_move E rfl rfl) ?_; clear E a; intro a E
    refine list_pure E rfl rfl (by decide) (rn_add E rfl rfl rfl (by first | exact wa_lit (y := 1) (by omega) | exact w_in (by omega) | exact w_inu (by omega) | exact rfl)) ?_; clear E a; intro a E
    refine list_pure E rfl rfl (by decide) (rn_assign E rfl rfl) ?_; clear E a; intro a E
    refine wpList_nil ?_
    refine then_normal ?_
    rw [byt_set, xorB_step hx hk] at hBs12
    exact ⟨_, by omega, i + 1, Cs12, rfl, by omega, hBs12, S, E.keep (keep_cons rfl (keep_cons rfl (keep_cons rfl keep_nil)))⟩
  · replace hb := Nrm.nrm hb
    refine wp_exit ?_
    refine then_exit ?_; clear hK; clear K
    refine then_exit ?_
    refine in_exit ?_
    refine then_k hK ?_; clear hK; clear K
    refine wp_seq_k ?_; intro K hK
    refine region_list ?_
    refine list_pure E rfl rfl (by decide) (rn_move E rfl rfl) ?_; clear E a; intro a E
    refine list_pure E rfl rfl (by decide) (rn_assign E rfl rfl) ?_; clear E a; intro a E
    refine wpList_nil ?_
    refine then_k hK ?_; clear hK; clear K
    refine wp_ret ?_
    refine ret1 E rfl rfl ?_
    obtain rfl : i = ms.length := by omega
    rw [List.take_length] at hCx
    exact ⟨_, rfl, _, Cx, rfl, hCx, S.tr⟩
end Go.Proofs.Ytpppaohhnlgfoaa
