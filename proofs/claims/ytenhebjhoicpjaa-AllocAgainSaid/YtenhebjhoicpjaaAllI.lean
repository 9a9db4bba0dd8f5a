/-
  Allocators: room given out.
-/
import Derived.Test.YtenhebjhoicpjaaAllH
namespace Go.Sl
section
variable {w0 w : World} {As Ls Ms : List Chunk} {d1 d2 d3 : Chunk}
theorem getD_at {l : List Int} {i : Nat} (h : i < l.length) : l.getD i 0 = l[i] := by
  rw [List.getD_eq_getElem?_getD, List.getElem?_eq_getElem h]; rfl
/-- The tops that are asked of, so far. -/
def wantsTo (l : List Int) (i : Nat) : List Nat := (List.range i).filter fun k => decide (0 < l.getD k 0)
theorem wantsTo_succ (l : List Int) (i : Nat) : wantsTo l (i + 1) = if 0 < l.getD i 0 then wantsTo l i ++ [i] else wantsTo l i := by
  unfold wantsTo
  rw [List.range_succ, List.filter_append]
  split
  · rename_i h; simp only [List.filter_cons, List.filter_nil, decide_eq_true h, if_true]
  · rename_i h; simp only [List.filter_cons, List.filter_nil, decide_eq_false h, Bool.false_eq_true, if_false, List.append_nil]
theorem wantsTo_len (l : List Int) (i : Nat) : (wantsTo l i).length ≤ i := by
  have := List.length_filter_le (fun k => decide (0 < l.getD k 0)) (List.range i)
  rwa [List.length_range] at this
/-- Opened chunks put together behind others, and taken apart. -/
theorem St.up1 (S : St w0 As w (d1 :: (Ms ++ Ls))) : St w0 As w (Ms.flatten :: d1 :: Ls) := St.closeF (S.perm (List.perm_middle (l₁ := Ms)).symm)
theorem St.up2 (S : St w0 As w (d1 :: d2 :: (Ms ++ Ls))) : St w0 As w (Ms.flatten :: d1 :: d2 :: Ls) := St.up1 (Ls := d2 :: Ls) (S.perm ((List.perm_middle (l₁ := Ms)).symm.cons d1))
theorem St.up3 (S : St w0 As w (d1 :: d2 :: d3 :: (Ms ++ Ls))) : St w0 As w (Ms.flatten :: d1 :: d2 :: d3 :: Ls) := St.up2 (Ls := d3 :: Ls) (S.perm (((List.perm_middle (l₁ := Ms)).symm.cons d2).cons d1))
end
end Go.Sl
namespace Go.Proofs.Ytenhebjhoicpjaa
open Go.Sl
set_option maxRecDepth 10000

theorem rd1i (g : Nat) (z : Int) (T : TypeId) : Rd [(g, cel [.int .i64 z] T)] 1 (.slice (some ⟨g, 0, none⟩) 1 1) 1 [.int .i64 z] := rd_cells rfl (by simp [Value.oneCell']) (by omega) 1
theorem badNeed_iff {y : Al} {l : List Int} : y.badNeed l = true ↔ l.length ≠ y.sizes.length ∨ (∃ x ∈ l, x < 0) ∨ ∀ x ∈ l, x ≤ 0 := by
  simp only [Al.badNeed, Bool.or_eq_true, decide_eq_true_eq, List.any_eq_true, List.all_eq_true, or_assoc]

theorem take_ret (p : Nat) (y : Al) (A : Chunk) (hA : AlC p y A) (O : Chunk) (v : Value) (l : List Int) (hl : l.length ≤ 140737488355328) (hg : ∀ x ∈ l, x ≤ 9223372036854775807) (hO : Rd O 1 v l.length (l.map iv)) (w0 : World) (H : Hp w0 [A, O]) :
    Ret Try.prog 8 #[ptr p, v] w0 fun u w' => u = .tuple #[(y.take l).2.1.agg, .int .i64 (y.take l).2.2] ∧ ∃ A', AlC p (y.take l).1 A' ∧ Trs w0 w' [A, O] [A', O] := by
  have hA0 := hA
  obtain ⟨ho, V, hV, rfl⟩ := hA
  have hlF := hV.lenF ho
  have hn1 := ho.n1
  have hn4 := ho.n4
  obtain ⟨f1, f2, evf⟩ := hV.f.slice
  obtain ⟨z1, z2, evz⟩ := hV.vs_is
  have hVf := hV.f
  rw [evf] at hVf
  obtain ⟨fb, fo, rfl⟩ := hVf.rd.addr (by omega)
  obtain ⟨ad, c, rfl⟩ := hO.slice
  have S := (St.begin H).openF
  refine enter2 92 Try.func8 rfl rfl (by decide) ?_; intro a E
  refine wp_seq_k ?_; intro K hK
  refine region_list ?_
  refine list_wp rfl (wp_box E S rfl rfl (by decide) rfl rfl ?_); clear E S a; intro a w b2 E S
  refine list_wp rfl (wp_alloc E S rfl rfl (by decide) rfl rfl rfl ?_); clear E S a; intro a w b4 E S
  refine list_pure E rfl rfl (by decide) (rn_assign E rfl rfl) ?_; clear E a; intro a E
  refine wpList_nil ?_
  refine then_k hK ?_; clear hK; clear K
  refine wp_seq_k ?_; intro K hK
  refine wp_seq_k ?_; intro K hK
  have S := S.front2 (A := [(b4, _)]) (B := [(b2, _)]) (by repeat (first | exact pk1 | apply pick_tail)) (by repeat (first | exact pk1 | apply pick_tail))
  refine region_list ?_
  refine list_pure E rfl rfl (by decide) (rn_move E rfl rfl) ?_; clear E a; intro a E
  refine list_pure E rfl rfl (by decide) (by first | exact rn_len E rfl rfl rfl | exact rn_len_str E rfl rfl rfl | exact rn_len_string E rfl rfl rfl) ?_; clear E a; intro a E
  refine list_pure E rfl rfl (by decide) (by first | exact rn_load E rfl rfl rfl (S.get (by repeat (first | exact pk1 | apply pick_tail))) rfl | exact rn_loadc E rfl rfl rfl (by assumption)) ?_; clear E a; intro a E
  refine list_pure E rfl rfl (by decide) (rn_nilCheck E rfl rfl) ?_; clear E a; intro a E
  refine list_pure E rfl rfl (by decide) (by first | exact rn_fieldAddr0 (q := 0) E rfl rfl rfl | exact rn_fieldAddr (q := 0) E rfl rfl rfl) ?_; clear E a; intro a E
  refine list_pure E rfl rfl (by decide) (by first | exact rn_load E rfl rfl rfl (S.get (by repeat (first | exact pk1 | apply pick_tail))) rfl | exact rn_loadc E rfl rfl rfl (by assumption)) ?_; clear E a; intro a E
  rw [evz] at E
  refine list_pure E rfl rfl (by decide) (by first | exact rn_len E rfl rfl rfl | exact rn_len_str E rfl rfl rfl | exact rn_len_string E rfl rfl rfl) ?_; clear E a; intro a E
  refine list_pure E rfl rfl (by decide) (by first | exact rn_neq E rfl rfl rfl | exact rn_neq_ptr_nil E rfl rfl rfl rfl | exact rn_neq_bool E rfl rfl rfl rfl | exact rn_neq_string E rfl rfl rfl) ?_; clear E a; intro a E
  refine list_pure E rfl rfl (by decide) (rn_move E rfl rfl) ?_; clear E a; intro a E
  refine guard_split E (t := 22) rfl (fun hb22 => ?_) (fun hb22 => ?_)
  · have hb22n := hb22; replace hb22n := Nrm.nrm hb22n
    have hbad : y.badNeed l = true := (badNeed_iff.2 (.inl (by omega)))
    refine list_guard_no E rfl rfl rfl rfl hb22 rfl (by decide) ?_; clear E a; intro a E
    refine list_guard_no E rfl rfl rfl rfl hb22 rfl (by decide) ?_; clear E a; intro a E
    refine list_guard_no E rfl rfl rfl rfl hb22 rfl (by decide) ?_; clear E a; intro a E
    refine list_pure E rfl rfl (by decide) (rn_pick_yes' E rfl rfl hb22 rfl) ?_; clear E a; intro a E
    refine list_pure E rfl rfl (by decide) (rn_move E rfl rfl) ?_; clear E a; intro a E
    refine list_guard_no E rfl rfl rfl rfl rfl rfl (by decide) ?_; clear E a; intro a E
    refine list_guard_no E rfl rfl rfl rfl rfl rfl (by decide) ?_; clear E a; intro a E
    refine list_guard_no E rfl rfl rfl rfl rfl rfl (by decide) ?_; clear E a; intro a E
    refine list_pure E rfl rfl (by decide) (rn_pick_yes' E rfl rfl rfl rfl) ?_; clear E a; intro a E
    refine wpList_nil ?_
    refine then_k hK ?_; clear hK; clear K
    refine if_true' E rfl rfl ?_
    refine wp_seq_k ?_; intro K hK
    refine region_list ?_
    refine list_pure E rfl rfl (by decide) (rn_build (cells := [_, _, _]) E rfl rfl rfl) ?_; clear E a; intro a E
    refine list_wp rfl (wp_storeN E S rfl rfl rfl rfl (by simp [Value.oneCell']) rfl (by repeat (first | exact pk1 | apply pick_tail)) (by simp) ?_); clear E S a; intro a w E S; simp only [List.take_succ_cons, List.take_zero, List.drop_succ_cons, List.drop_zero, List.cons_append, List.nil_append, List.append_nil, List.length_cons, List.length_nil, Nat.zero_add, Nat.add_zero] at S
    refine list_pure E rfl rfl (by decide) (rn_assign E rfl rfl) ?_; clear E a; intro a E
    refine wpList_nil ?_
    refine then_k hK ?_; clear hK; clear K
    refine wp_ret ?_
    refine then_ret ?_; clear hK; clear K
    refine ret_ct E rfl rfl rfl (S.get (by repeat (first | exact pk1 | apply pick_tail))) rfl ?_
    have e : y.take l = (y, plZero, 1) := by simp [Al.take, hbad]
    have S := S.up2 (Ms := V.chs p)
    exact ⟨_, rfl, by rw [e]; rfl, _, by rw [e]; exact hA0, (S.only (Bs := [_, O]) (sel_cons (by repeat (first | exact pk1 | apply pick_tail)) (sel_cons (by repeat (first | exact pk1 | apply pick_tail)) (sel_nil _)))).tr⟩
  · have hb22n := hb22; replace hb22n := Nrm.nrm hb22n
    have hle : l.length = y.sizes.length := (by omega)
    refine list_guard_yes E rfl rfl rfl rfl hb22 rfl (by decide) (rn_move E rfl rfl) ?_; clear E a; intro a E
    refine list_guard_wp E rfl rfl rfl rfl hb22 ?_; refine wp_call' E rfl (by decide) rfl Try.func24 rfl (by kernel_rfl) rfl (min_ret (l := l) (by omega) (by omega) hO (by simp) _ S.hp) ?_
    rintro v24 w ⟨mn, rfl, hmn, hmn2, hT⟩; clear E a; intro a E
    have S := S.all hT
    refine list_guard_yes E rfl rfl rfl rfl hb22 rfl (by decide) (rn_lss E rfl rfl rfl) ?_; clear E a; intro a E
    refine list_pure E rfl rfl (by decide) (rn_pick_no' E rfl rfl hb22 rfl) ?_; clear E a; intro a E
    refine list_pure E rfl rfl (by decide) (rn_move E rfl rfl) ?_; clear E a; intro a E
    refine guard_split E (t := 27) rfl (fun hb27 => ?_) (fun hb27 => ?_)
    · have hb27n := hb27; replace hb27n := Nrm.nrm hb27n
      have hbad : y.badNeed l = true := (badNeed_iff.2 (.inr (.inl ⟨mn, hmn, by omega⟩)))
      refine list_guard_no E rfl rfl rfl rfl hb27 rfl (by decide) ?_; clear E a; intro a E
      refine list_guard_no E rfl rfl rfl rfl hb27 rfl (by decide) ?_; clear E a; intro a E
      refine list_guard_no E rfl rfl rfl rfl hb27 rfl (by decide) ?_; clear E a; intro a E
      refine list_pure E rfl rfl (by decide) (rn_pick_yes' E rfl rfl hb27 rfl) ?_; clear E a; intro a E
      refine wpList_nil ?_
      refine then_k hK ?_; clear hK; clear K
      refine if_true' E rfl rfl ?_
      refine wp_seq_k ?_; intro K hK
      refine region_list ?_
      refine list_pure E rfl rfl (by decide) (rn_build (cells := [_, _, _]) E rfl rfl rfl) ?_; clear E a; intro a E
      refine list_wp rfl (wp_storeN E S rfl rfl rfl rfl (by simp [Value.oneCell']) rfl (by repeat (first | exact pk1 | apply pick_tail)) (by simp) ?_); clear E S a; intro a w E S; simp only [List.take_succ_cons, List.take_zero, List.drop_succ_cons, List.drop_zero, List.cons_append, List.nil_append, List.append_nil, List.length_cons, List.length_nil, Nat.zero_add, Nat.add_zero] at S
      refine list_pure E rfl rfl (by decide) (rn_assign E rfl rfl) ?_; clear E a; intro a E
      refine wpList_nil ?_
      refine then_k hK ?_; clear hK; clear K
      refine wp_ret ?_
      refine then_ret ?_; clear hK; clear K
      refine ret_ct E rfl rfl rfl (S.get (by repeat (first | exact pk1 | apply pick_tail))) rfl ?_
      have e : y.take l = (y, plZero, 1) := by simp [Al.take, hbad]
      have S := S.up2 (Ms := V.chs p)
      exact ⟨_, rfl, by rw [e]; rfl, _, by rw [e]; exact hA0, (S.only (Bs := [_, O]) (sel_cons (by repeat (first | exact pk1 | apply pick_tail)) (sel_cons (by repeat (first | exact pk1 | apply pick_tail)) (sel_nil _)))).tr⟩
    · have hb27n := hb27; replace hb27n := Nrm.nrm hb27n
      skip
      refine list_guard_yes E rfl rfl rfl rfl hb27 rfl (by decide) (rn_move E rfl rfl) ?_; clear E a; intro a E
      refine list_guard_wp E rfl rfl rfl rfl hb27 ?_; refine wp_call' E rfl (by decide) rfl Try.func25 rfl (by kernel_rfl) rfl (max_ret (l := l) (by omega) (by omega) hO (by simp) _ S.hp) ?_
      rintro v29 w ⟨mx, rfl, hmx, hmx2, hT⟩; clear E a; intro a E
      have S := S.all hT
      refine list_guard_yes E rfl rfl rfl rfl hb27 rfl (by decide) (by first | exact rn_eql E rfl rfl rfl | exact rn_eql_ptr_nil E rfl rfl rfl rfl | exact rn_eql_bool E rfl rfl rfl rfl | exact rn_eql_string E rfl rfl rfl) ?_; clear E a; intro a E
      refine list_pure E rfl rfl (by decide) (rn_pick_no' E rfl rfl hb27 rfl) ?_; clear E a; intro a E
      refine wpList_nil ?_
      refine then_k hK ?_; clear hK; clear K
      refine if_bool E rfl (fun hb => ?_) (fun hb => ?_)
      · replace hb := Nrm.nrm hb
        refine wp_seq_k ?_; intro K hK
        refine region_list ?_
        refine list_pure E rfl rfl (by decide) (rn_build (cells := [_, _, _]) E rfl rfl rfl) ?_; clear E a; intro a E
        refine list_wp rfl (wp_storeN E S rfl rfl rfl rfl (by simp [Value.oneCell']) rfl (by repeat (first | exact pk1 | apply pick_tail)) (by simp) ?_); clear E S a; intro a w E S; simp only [List.take_succ_cons, List.take_zero, List.drop_succ_cons, List.drop_zero, List.cons_append, List.nil_append, List.append_nil, List.length_cons, List.length_nil, Nat.zero_add, Nat.add_zero] at S
        refine list_pure E rfl rfl (by decide) (rn_assign E rfl rfl) ?_; clear E a; intro a E
        refine wpList_nil ?_
        refine then_k hK ?_; clear hK; clear K
        refine wp_ret ?_
        refine then_ret ?_; clear hK; clear K
        refine ret_ct E rfl rfl rfl (S.get (by repeat (first | exact pk1 | apply pick_tail))) rfl ?_
        have hbad : y.badNeed l = true := badNeed_iff.2 (.inr (.inr fun z hz => by have := hmx2 z hz; omega))
        have e : y.take l = (y, plZero, 1) := by simp [Al.take, hbad]
        have S := S.up2 (Ms := V.chs p)
        exact ⟨_, rfl, by rw [e]; rfl, _, by rw [e]; exact hA0, (S.only (Bs := [_, O]) (sel_cons (by repeat (first | exact pk1 | apply pick_tail)) (sel_cons (by repeat (first | exact pk1 | apply pick_tail)) (sel_nil _)))).tr⟩
      · replace hb := Nrm.nrm hb
        refine wp_skip ?_
        refine then_k hK ?_; clear hK; clear K
        refine wp_seq_k ?_; intro K hK
        have hgood : y.badNeed l = false := by
          rw [← Bool.not_eq_true, badNeed_iff]
          rintro (h | ⟨z, h1, h2⟩ | h)
          · exact h hle
          · have := hmn2 z h1; omega
          · have h3 := h mx hmx; have h4 := hmx2 mn hmn; omega
        have S := S.up2 (Ms := V.chs p)
        refine region_list ?_
        refine list_pure E rfl rfl (by decide) (rn_assign E rfl rfl) ?_; clear E a; intro a E
        refine wpList_nil ?_
        refine then_k hK ?_; clear hK; clear K
        refine wp_seq_k ?_; intro K hK
        refine wp_seq_k ?_; intro K hK
        replace E := E.keep (e' := [(1, _), (2, _), (4, _), (5, _), (6, _)]) (keep_cons rfl (keep_cons rfl (keep_cons rfl (keep_cons rfl (keep_cons rfl (keep_nil))))))
        refine region_list ?_
        refine list_pure E rfl rfl (by decide) (rn_move E rfl rfl) ?_; clear E a; intro a E
        refine list_pure E rfl rfl (by decide) (by first | exact rn_len E rfl rfl rfl | exact rn_len_str E rfl rfl rfl | exact rn_len_string E rfl rfl rfl) ?_; clear E a; intro a E
        refine list_pure E rfl rfl (by decide) (rn_move E rfl rfl) ?_; clear E a; intro a E
        refine wpList_nil ?_
        refine then_k hK ?_; clear hK; clear K
        refine wp_block ?_
        refine wp_loop_ghost (fun (m : Nat) (a : Act) (w' : World) => ∃ (i : Nat) (D : Chunk) (v6 : Value), m = l.length - i ∧ i ≤ l.length ∧ Buf D 3 1 v6 (wantsTo l i).length ((wantsTo l i).map jv) ∧ (∃ Xs, St w0 [(V.chs p).flatten, O] w' (D :: (V.chs p).flatten :: [(b4, cel [.int .i64 0, .int .i64 0, .int .i64 0] 33)] :: bxc p b2 :: O :: Xs)) ∧ Fr a 92 [(1, .slice ad l.length c), (2, ptr b2), (4, ptr b4), (5, .int .i64 0), (6, v6), (33, .slice ad l.length c), (34, .int .i64 l.length), (35, .int .i64 i)]) (l.length - 0) ?_ ?_
        · exact ⟨0, [], _, rfl, by omega, Buf.nil _ _, ⟨[], S.addNil⟩, E.keep (keep_cons rfl (keep_cons rfl (keep_cons rfl (keep_cons rfl (keep_cons rfl (keep_cons rfl (keep_cons rfl (keep_cons rfl keep_nil))))))))⟩
        clear E; clear a; (try clear S); rintro m a w ⟨i, D, v6, rfl, hi, hD, ⟨Xs, S⟩, E⟩
        refine wp_seq_k ?_; intro K hK
        refine region_list ?_
        refine list_pure E rfl rfl (by decide) (rn_lss E rfl rfl rfl) ?_; clear E a; intro a E
        refine wpList_nil ?_
        refine then_k hK ?_; clear hK; clear K
        refine wp_seq_k ?_; intro K hK
        refine if_bool E rfl (fun hb => ?_) (fun hb => ?_)
        · replace hb := Nrm.nrm hb
          refine wp_skip ?_
          refine then_k hK ?_; clear hK; clear K
          refine wp_seq_k ?_; intro K hK
          refine wp_block ?_
          refine wp_seq_k ?_; intro K hK
          have hil : i < l.length := by omega
          obtain ⟨ab, ao, rfl⟩ := hO.addr (by omega)
          have hws := wantsTo_succ l i
          rw [getD_at hil] at hws
          have hwl := wantsTo_len l i
          refine region_list ?_
          refine list_pure E rfl rfl (by decide) (rn_move E rfl rfl) ?_; clear E a; intro a E
          refine list_pure E rfl rfl (by decide) (by first | exact rn_indexAddr1 E rfl rfl rfl rfl rfl rfl (by omega) | exact rn_indexAddr E rfl rfl rfl rfl rfl rfl (by omega) | exact rn_indexAddr_array E rfl rfl rfl rfl rfl rfl (by omega)) ?_; clear E a; intro a E
          refine list_pure E rfl rfl (by decide) (rn_loadc E rfl rfl rfl (hO.at1 (S.stab.at (by repeat (first | exact mm1 | assumption | apply List.Mem.tail))) hil)) ?_; clear E a; intro a E
          refine list_pure E rfl rfl (by decide) (rn_assign E rfl rfl) ?_; clear E a; intro a E
          refine list_pure E rfl rfl (by decide) (rn_assign E rfl rfl) ?_; clear E a; intro a E
          refine wpList_nil ?_
          refine then_k hK ?_; clear hK; clear K
          refine wp_seq_k ?_; intro K hK
          refine region_list ?_
          refine list_pure E rfl rfl (by decide) (rn_move E rfl rfl) ?_; clear E a; intro a E
          refine list_pure E rfl rfl (by decide) (rn_gtr E rfl rfl rfl) ?_; clear E a; intro a E
          refine wpList_nil ?_
          refine then_k hK ?_; clear hK; clear K
          refine if_bool E rfl (fun hb => ?_) (fun hb => ?_)
          · replace hb := Nrm.nrm hb
            refine region_list ?_
            refine list_pure E rfl rfl (by decide) (rn_move E rfl rfl) ?_; clear E a; intro a E
            refine list_pure E rfl rfl (by decide) (rn_move E rfl rfl) ?_; clear E a; intro a E
            refine list_wp rfl (wp_bslice (cells := [_]) E S rfl rfl (by decide) rfl rfl rfl rfl rfl (by decide) rfl ?_); clear E S a; intro a w b44 E S
            refine list_wp rfl (wp_append (by' := 8) E S rfl rfl (by decide) rfl rfl hD (by repeat (first | exact pk1 | apply pick_tail)) ((rd1i _ _ _).src (S.stab.at (by repeat (first | exact mm1 | assumption | apply List.Mem.tail))) rfl) rfl rfl rfl rfl rfl rfl (by simp only [maxLen]; omega) (by omega) ?_); clear E S a; intro a w v45 C45 E S hB45
            refine list_pure E rfl rfl (by decide) (rn_assign E rfl rfl) ?_; clear E a; intro a E
            refine wpList_nil ?_
            refine in_normal ?_
            refine then_k hK ?_; clear hK; clear K
            refine region_list ?_
            refine list_pure E rfl rfl (by decide) (rn_add E rfl rfl rfl (by first | exact wa_lit (y := 1) (by omega) | exact w_in (by omega) | exact w_inu (by omega) | exact rfl)) ?_; clear E a; intro a E
            refine list_pure E rfl rfl (by decide) (rn_move E rfl rfl) ?_; clear E a; intro a E
            refine wpList_nil ?_
            refine then_normal ?_
            rw [if_pos (by simpa using hb)] at hws
            exact ⟨_, by omega, i + 1, C45, v45, rfl, by omega, by rw [hws]; simpa [jv] using hB45, ⟨_, S.front5 (A := C45) (B := (V.chs p).flatten) (C := [(b4, _)]) (D := bxc p b2) (F := O) (by repeat (first | exact pk1 | apply pick_tail)) (by repeat (first | exact pk1 | apply pick_tail)) (by repeat (first | exact pk1 | apply pick_tail)) (by repeat (first | exact pk1 | apply pick_tail)) (by repeat (first | exact pk1 | apply pick_tail))⟩, E.keep (keep_cons rfl (keep_cons rfl (keep_cons rfl (keep_cons rfl (keep_cons rfl (keep_cons rfl (keep_cons rfl (keep_cons rfl keep_nil))))))))⟩
          · replace hb := Nrm.nrm hb
            refine wp_skip ?_
            refine in_normal ?_
            refine then_k hK ?_; clear hK; clear K
            refine region_list ?_
            refine list_pure E rfl rfl (by decide) (rn_add E rfl rfl rfl (by first | exact wa_lit (y := 1) (by omega) | exact w_in (by omega) | exact w_inu (by omega) | exact rfl)) ?_; clear E a; intro a E
            refine list_pure E rfl rfl (by decide) (rn_move E rfl rfl) ?_; clear E a; intro a E
            refine wpList_nil ?_
            refine then_normal ?_
            rw [if_neg (by simpa using hb)] at hws
            exact ⟨_, by omega, i + 1, D, v6, rfl, by omega, by rw [hws]; exact hD, ⟨_, S⟩, E.keep (keep_cons rfl (keep_cons rfl (keep_cons rfl (keep_cons rfl (keep_cons rfl (keep_cons rfl (keep_cons rfl (keep_cons rfl keep_nil))))))))⟩
        · replace hb := Nrm.nrm hb
          refine wp_exit ?_
          refine then_exit ?_; clear hK; clear K
          refine then_exit ?_
          refine in_exit ?_
          refine then_k hK ?_; clear hK; clear K
          refine wp_seq_k ?_; intro K hK
          obtain rfl : i = l.length := by omega
          have hwe : wantsTo l l.length = wants l := rfl
          rw [hwe] at hD
          have hwl : (wants l).length ≤ 4 := by have := wantsTo_len l l.length; rw [hwe] at this; omega
          have hwm : ∀ t ∈ wants l, t < y.sizes.length := fun t ht => by have := (mem_wants.1 ht).1; omega
          refine region_list ?_
          refine list_pure E rfl rfl (by decide) (rn_move E rfl rfl) ?_; clear E a; intro a E
          refine list_pure E rfl rfl (by decide) (rn_makeFunc E rfl rfl ⟨_, rfl⟩) ?_; clear E a; intro a E
          refine list_call E rfl rfl (by decide) rfl Try.func26 rfl (by kernel_rfl) rfl (sort_ret p y _ hA0 b2 (wants l) hwm (by omega) v6 D hD _ (S.hp.sel (sel_cons (by repeat (first | exact pk1 | apply pick_tail)) (sel_cons (by repeat (first | exact pk1 | apply pick_tail)) (sel_cons (by repeat (first | exact pk1 | apply pick_tail)) (sel_nil _)))))) ?_
          rintro v49 w ⟨D2, hD2, hT⟩; clear E a; intro a E
          have S := S.call (sel_cons (by repeat (first | exact pk1 | apply pick_tail)) (sel_cons (by repeat (first | exact pk1 | apply pick_tail)) (sel_cons (by repeat (first | exact pk1 | apply pick_tail)) (sel_nil _)))) hT
          refine wpList_nil ?_
          refine then_k hK ?_; clear hK; clear K
          refine wp_seq_k ?_; intro K hK
          refine wp_seq_k ?_; intro K hK
          obtain ⟨d1, d2, rfl⟩ := hD2.slice
          have hom : ∀ t ∈ y.order l, t < y.sizes.length ∧ t < l.length ∧ 0 < l.getD t 0 := fun t ht => by have h9 := mem_order.1 ht; exact ⟨by omega, h9⟩
          have hoe : (srtR y.lt (wants l)).reverse = y.order l := rfl
          rw [hoe] at hD2
          have hol : (wants l).length = (y.order l).length := (order_perm.length_eq).symm
          rw [hol] at hD2 E
          obtain ⟨od, hod⟩ : ∃ od, od = y.order l := ⟨_, rfl⟩
          rw [← hod] at hD2 E hom hol
          have S := S.front2 (A := D2) (B := (V.chs p).flatten) (by repeat (first | exact pk1 | apply pick_tail)) (by repeat (first | exact pk1 | apply pick_tail))
          refine region_list ?_
          refine list_pure E rfl rfl (by decide) (rn_move E rfl rfl) ?_; clear E a; intro a E
          refine list_pure E rfl rfl (by decide) (by first | exact rn_len E rfl rfl rfl | exact rn_len_str E rfl rfl rfl | exact rn_len_string E rfl rfl rfl) ?_; clear E a; intro a E
          refine list_pure E rfl rfl (by decide) (rn_move E rfl rfl) ?_; clear E a; intro a E
          refine wpList_nil ?_
          refine then_k hK ?_; clear hK; clear K
          refine wp_block ?_
          refine wp_loop_ghost (fun (m : Nat) (a : Act) (w' : World) => ∃ i : Nat, m = od.length - i ∧ i ≤ od.length ∧ y.pick l od = y.pick l (od.drop i) ∧ (∃ Xs, St w0 [(V.chs p).flatten, O] w' ([(b4, cel [.int .i64 0, .int .i64 0, .int .i64 0] 33)] :: bxc p b2 :: O :: D2 :: (V.chs p).flatten :: Xs)) ∧ Fr a 92 [(1, .slice ad l.length c), (2, ptr b2), (4, ptr b4), (5, .int .i64 0), (50, .slice d1 od.length d2), (51, .int .i64 od.length), (52, .int .i64 i)]) (od.length - 0) ?_ ?_
          · exact ⟨0, rfl, by omega, rfl, ⟨_, S.front5 (A := [(b4, _)]) (B := bxc p b2) (C := O) (D := D2) (F := (V.chs p).flatten) (by repeat (first | exact pk1 | apply pick_tail)) (by repeat (first | exact pk1 | apply pick_tail)) (by repeat (first | exact pk1 | apply pick_tail)) (by repeat (first | exact pk1 | apply pick_tail)) (by repeat (first | exact pk1 | apply pick_tail))⟩, E.keep (keep_cons rfl (keep_cons rfl (keep_cons rfl (keep_cons rfl (keep_cons rfl (keep_cons rfl (keep_cons rfl keep_nil)))))))⟩
          clear E; clear a; (try clear S); rintro m a w ⟨i, rfl, hi, hpk, ⟨Xs, S⟩, E⟩
          refine wp_seq_k ?_; intro K hK
          refine region_list ?_
          refine list_pure E rfl rfl (by decide) (rn_lss E rfl rfl rfl) ?_; clear E a; intro a E
          refine wpList_nil ?_
          refine then_k hK ?_; clear hK; clear K
          refine wp_seq_k ?_; intro K hK
          refine if_bool E rfl (fun hb => ?_) (fun hb => ?_)
          · replace hb := Nrm.nrm hb
            refine wp_skip ?_
            refine then_k hK ?_; clear hK; clear K
            refine wp_seq_k ?_; intro K hK
            refine wp_block ?_
            refine wp_seq_k ?_; intro K hK
            have hil : i < od.length := by omega
            obtain ⟨db, dof, rfl⟩ := hD2.rd.addr (by omega)
            obtain ⟨ht1, ht2, ht3⟩ := hom _ (List.getElem_mem hil)
            obtain ⟨ab, ao, rfl⟩ := hO.addr (by omega)
            rw [List.drop_eq_getElem_cons hil, Al.pick] at hpk
            refine region_list ?_
            refine list_pure E rfl rfl (by decide) (by first | exact rn_indexAddr1 E rfl rfl rfl rfl rfl rfl (by omega) | exact rn_indexAddr E rfl rfl rfl rfl rfl rfl (by omega) | exact rn_indexAddr_array E rfl rfl rfl rfl rfl rfl (by omega)) ?_; clear E a; intro a E
            refine list_pure E rfl rfl (by decide) (rn_loadc E rfl rfl rfl (hD2.rd.at1 (S.stab.at (by repeat (first | exact mm1 | assumption | apply List.Mem.tail))) hil)) ?_; clear E a; intro a E
            refine list_pure E rfl rfl (by decide) (rn_assign E rfl rfl) ?_; clear E a; intro a E
            refine wpList_nil ?_
            refine then_k hK ?_; clear hK; clear K
            refine wp_seq_k ?_; intro K hK
            obtain ⟨t, ht⟩ : ∃ t, t = od[i] := ⟨_, rfl⟩
            rw [← ht] at ht1 ht2 ht3 hpk E
            have S := St.opn [_, _, _, _] S
            obtain ⟨FA, f, FB, hF, hfl⟩ := split_at (l := V.F) (i := t) (by omega)
            have hfa : y.fr t = f.l := by rw [← hfl]; exact fr_mid (hV.ef.trans (by rw [hF]))
            have hga := getD_at ht2
            have hfm : f ∈ V.F := by rw [hF]; simp
            have hfo : Okl f.l := hfa ▸ ho.frAt t
            refine region_mix S (.ofL [(0, 0), (1, 0), (2, 0), (3, 0), (4, 0), (5, 0), (6, 0), (7, 0), (8, 0), (9, 0), (10, 0), (11, 3), (12, 2), (13, 2), (14, 2), (15, 2), (16, 2)]) [hdc p V.vs V.vf V.vw V.r, V.Cf, bxc p b2, O] (fun h => h.sub (by first | (simp; done) | (simp +contextual; done) | (simp [*]; done))) (by kernel_rfl) (by kernel_rfl) ?_
            clear S; intro w S
            refine mix_pure E rfl rfl rfl (by decide) (fun w h => by first | exact rn_load E rfl rfl rfl (h.one (by repeat (first | exact mm1 | assumption | apply List.Mem.tail))) rfl | exact rn_loadc E rfl rfl rfl (by assumption)) ?_; clear E a; intro a E
            refine mix_pure E rfl rfl rfl (by decide) (fun w h => rn_nilCheck E rfl rfl) ?_; clear E a; intro a E
            refine mix_pure E rfl rfl rfl (by decide) (fun w h => by first | exact rn_fieldAddr0 (q := 1) E rfl rfl rfl | exact rn_fieldAddr (q := 1) E rfl rfl rfl) ?_; clear E a; intro a E
            refine mix_pure E rfl rfl rfl (by decide) (fun w h => by first | exact rn_load E rfl rfl rfl (h.one (by repeat (first | exact mm1 | assumption | apply List.Mem.tail))) rfl | exact rn_loadc E rfl rfl rfl (by assumption)) ?_; clear E a; intro a E
            rw [evf] at E
            refine mix_pure E rfl rfl rfl (by decide) (fun w h => rn_move E rfl rfl) ?_; clear E a; intro a E
            refine mix_pure E rfl rfl rfl (by decide) (fun w h => by first | exact rn_indexAddr1 E rfl rfl rfl rfl rfl rfl (by omega) | exact rn_indexAddr E rfl rfl rfl rfl rfl rfl (by omega) | exact rn_indexAddr_array E rfl rfl rfl rfl rfl rfl (by omega)) ?_; clear E a; intro a E
            refine mix_pure E rfl rfl rfl (by decide) (fun w h => rn_loadc E rfl rfl rfl ((by have h9 := hVf.rd; rw [hF] at h9; exact h9.midi hfl (h.at (by repeat (first | exact mm1 | assumption | apply List.Mem.tail)))))) ?_; clear E a; intro a E
            refine mix_pure E rfl rfl rfl (by decide) (fun w h => rn_move E rfl rfl) ?_; clear E a; intro a E
            refine mix_pure E rfl rfl rfl (by decide) (fun w h => rn_move E rfl rfl) ?_; clear E a; intro a E
            refine mix_pure E rfl rfl rfl (by decide) (fun w h => by first | exact rn_indexAddr1 E rfl rfl rfl rfl rfl rfl (by omega) | exact rn_indexAddr E rfl rfl rfl rfl rfl rfl (by omega) | exact rn_indexAddr_array E rfl rfl rfl rfl rfl rfl (by omega)) ?_; clear E a; intro a E
            refine mix_pure E rfl rfl rfl (by decide) (fun w h => rn_loadc E rfl rfl rfl (hO.at1 (h.at (by repeat (first | exact mm1 | assumption | apply List.Mem.tail))) ht2)) ?_; clear E a; intro a E
            refine mix_call3 E rfl rfl rfl (by decide) rfl Try.func30 rfl (by kernel_rfl) rfl (find_in f.p f.l _ l[t] 0 f.C (hV.fs f hfm) hfo (hg _ (List.getElem_mem _)) (by omega) (by repeat (first | exact Av.inF hfm | apply List.mem_cons_of_mem)) _ S.hp) ?_
            rintro v68 w ⟨rfl, hT⟩; clear E a; intro a E
            have S := S.all hT
            refine mix_free E rfl rfl rfl (by decide) (fun w => rn_move E rfl rfl) ?_; clear E a; intro a E
            refine mix_free E rfl rfl rfl (by decide) (fun w => rn_extract E rfl rfl rfl) ?_; clear E a; intro a E
            refine mix_free E rfl rfl rfl (by decide) (fun w => rn_extract E rfl rfl rfl) ?_; clear E a; intro a E
            refine mix_free E rfl rfl rfl (by decide) (fun w => rn_assign E rfl rfl) ?_; clear E a; intro a E
            refine mix_free E rfl rfl rfl (by decide) (fun w => rn_assign E rfl rfl) ?_; clear E a; intro a E
            refine mix_nil ?_
            refine then_k hK ?_; clear hK; clear K
            refine wp_seq_k ?_; intro K hK
            obtain ⟨ta, is', hfe⟩ : ∃ u z, findL f.l l[t] 0 = (u, z) := ⟨_, _, rfl⟩
            rw [hfe] at E
            rw [hfa, hga, hfe] at hpk
            dsimp only at E hpk
            refine region_list ?_
            refine list_pure E rfl rfl (by decide) (rn_move E rfl rfl) ?_; clear E a; intro a E
            refine wpList_nil ?_
            refine then_k hK ?_; clear hK; clear K
            refine if_bool E rfl (fun hb => ?_) (fun hb => ?_)
            · replace hb := Nrm.nrm hb
              subst hb; rw [if_pos rfl] at hpk
              refine wp_seq_k ?_; intro K hK
              refine region_list ?_
              refine list_pure E rfl rfl (by decide) (rn_move E rfl rfl) ?_; clear E a; intro a E
              refine list_pure E rfl rfl (by decide) (rn_move E rfl rfl) ?_; clear E a; intro a E
              refine list_pure E rfl rfl (by decide) (rn_move E rfl rfl) ?_; clear E a; intro a E
              refine list_pure E rfl rfl (by decide) (by first | exact rn_indexAddr1 E rfl rfl rfl rfl rfl rfl (by omega) | exact rn_indexAddr E rfl rfl rfl rfl rfl rfl (by omega) | exact rn_indexAddr_array E rfl rfl rfl rfl rfl rfl (by omega)) ?_; clear E a; intro a E
              refine list_pure E rfl rfl (by decide) (rn_loadc E rfl rfl rfl (hO.at1 (S.stab.at (by repeat (first | exact mm1 | assumption | apply List.Mem.tail))) ht2)) ?_; clear E a; intro a E
              refine list_pure E rfl rfl (by decide) (rn_build (cells := [_, _]) E rfl rfl rfl) ?_; clear E a; intro a E
              refine list_wp rfl (wp_alloc E S rfl rfl (by decide) rfl rfl rfl ?_); clear E S a; intro a w b13 E S
              refine list_wp rfl (wp_storeN E S rfl rfl rfl rfl (by simp [Value.oneCell']) rfl (by repeat (first | exact pk1 | apply pick_tail)) (by simp) ?_); clear E S a; intro a w E S; simp only [List.take_succ_cons, List.take_zero, List.drop_succ_cons, List.drop_zero, List.cons_append, List.nil_append, List.append_nil, List.length_cons, List.length_nil, Nat.zero_add, Nat.add_zero] at S
              refine wpList_nil ?_
              refine then_k hK ?_; clear hK; clear K
              refine wp_seq_k ?_; intro K hK
              have S := focF [_, _, _, _, _] hF S
              rw [show jv t = Value.int .i64 (t : Int) from rfl] at E
              refine region_mix S (.ofL [(0, 0), (1, 0), (2, 0), (3, 0), (4, 0), (5, 0), (6, 0), (7, 0), (8, 0), (9, 0), (10, 0), (11, 1), (12, 3), (13, 2)]) [hdc p V.vs V.vf V.vw V.r, V.Cf, bxc p b2, [(b13, cel [.int .i64 ta, .int .i64 l[t]] 31)]] (fun h => h.sub (by first | (simp; done) | (simp +contextual; done) | (simp [*]; done))) (by kernel_rfl) (by kernel_rfl) ?_
              clear S; intro w S
              refine mix_pure E rfl rfl rfl (by decide) (fun w h => rn_move E rfl rfl) ?_; clear E a; intro a E
              refine mix_pure E rfl rfl rfl (by decide) (fun w h => rn_load_blk (vs := [_, _]) E rfl rfl rfl (h.one (by repeat (first | exact mm1 | assumption | apply List.Mem.tail))) rfl rfl) ?_; clear E a; intro a E
              refine mix_pure E rfl rfl rfl (by decide) (fun w h => rn_build (cells := [_, _, _]) E rfl rfl rfl) ?_; clear E a; intro a E
              refine mix_pure E rfl rfl rfl (by decide) (fun w h => by first | exact rn_load E rfl rfl rfl (h.one (by repeat (first | exact mm1 | assumption | apply List.Mem.tail))) rfl | exact rn_loadc E rfl rfl rfl (by assumption)) ?_; clear E a; intro a E
              refine mix_pure E rfl rfl rfl (by decide) (fun w h => rn_nilCheck E rfl rfl) ?_; clear E a; intro a E
              refine mix_pure E rfl rfl rfl (by decide) (fun w h => by first | exact rn_fieldAddr0 (q := 1) E rfl rfl rfl | exact rn_fieldAddr (q := 1) E rfl rfl rfl) ?_; clear E a; intro a E
              refine mix_pure E rfl rfl rfl (by decide) (fun w h => by first | exact rn_load E rfl rfl rfl (h.one (by repeat (first | exact mm1 | assumption | apply List.Mem.tail))) rfl | exact rn_loadc E rfl rfl rfl (by assumption)) ?_; clear E a; intro a E
              rw [evf] at E
              refine mix_pure E rfl rfl rfl (by decide) (fun w h => rn_move E rfl rfl) ?_; clear E a; intro a E
              refine mix_pure E rfl rfl rfl (by decide) (fun w h => by first | exact rn_indexAddr1 E rfl rfl rfl rfl rfl rfl (by omega) | exact rn_indexAddr E rfl rfl rfl rfl rfl rfl (by omega) | exact rn_indexAddr_array E rfl rfl rfl rfl rfl rfl (by omega)) ?_; clear E a; intro a E
              refine mix_pure E rfl rfl rfl (by decide) (fun w h => rn_loadc E rfl rfl rfl ((by have h9 := hVf.rd; rw [hF] at h9; exact h9.midi hfl (h.at (by repeat (first | exact mm1 | assumption | apply List.Mem.tail)))))) ?_; clear E a; intro a E
              refine mix_pure E rfl rfl rfl (by decide) (fun w h => rn_load_blk (vs := [_, _]) E rfl rfl rfl (h.one (by repeat (first | exact mm1 | assumption | apply List.Mem.tail))) rfl rfl) ?_; clear E a; intro a E
              refine mix_call E rfl rfl rfl (by decide) rfl Try.func23 rfl (by kernel_rfl) rfl (rem_ret f.p f.l ⟨ta, l[t]⟩ f.C _ (hV.fs f hfm) hfo (S.hp.sel (sel_cons (by repeat (first | exact pk1 | apply pick_tail)) (sel_nil _)))) ?_
              rintro v89 w ⟨rfl, C2, hC2, hT⟩; clear E a; intro a E
              have S := S.call1 (sel_cons (by repeat (first | exact pk1 | apply pick_tail)) (sel_nil _)) hT
              refine ⟨S.stab.sub (by first | (simp; done) | (simp +contextual; done) | (simp [*]; done)), ?_⟩
              refine mix_last rfl rfl (wp_storeN E S rfl rfl rfl rfl (by simp [Value.oneCell']) rfl (by repeat (first | exact pk1 | apply pick_tail)) (by simp) ?_); clear E S a; intro a w E S; simp only [List.take_succ_cons, List.take_zero, List.drop_succ_cons, List.drop_zero, List.cons_append, List.nil_append, List.append_nil, List.length_cons, List.length_nil, Nat.zero_add, Nat.add_zero] at S
              refine mix_free E rfl rfl rfl (by decide) (fun w => rn_assign E rfl rfl) ?_; clear E a; intro a E
              refine mix_nil ?_
              refine then_k hK ?_; clear hK; clear K
              refine wp_ret ?_
              refine in_ret ?_
              refine then_ret ?_; clear hK; clear K
              refine then_ret ?_
              refine in_ret ?_
              refine then_ret ?_; clear hK; clear K
              refine ret_ct E rfl rfl rfl (S.get (by repeat (first | exact pk1 | apply pick_tail))) rfl ?_
              have e : y.take l = (y.setF t (remS f.l ⟨ta, l[t]⟩), ⟨t, ⟨ta, l[t]⟩⟩, remE f.l ⟨ta, l[t]⟩) := by
                unfold Al.take
                rw [if_neg (by rw [hgood]; simp), ← hod, hpk]
                simp only [hfa, hga]
              have hok := Al.take_ok ho l
              rw [e] at hok
              have hV2 := hV.newF hF hC2
              rw [hfl] at hV2
              have S := St.cls [_, _, _, _, _] (unfocF (V := V) (p := p) (FA := FA) (FB := FB) (f' := ⟨f.p, remS f.l ⟨ta, l[t]⟩, C2⟩) [_, _, _, _, _] (S.front1 (A := C2) (by repeat (first | exact pk1 | apply pick_tail))))
              exact ⟨_, rfl, by rw [e], _, by rw [e]; exact ⟨hok, _, hV2, rfl⟩, (S.only (Bs := [_, O]) (sel_cons (by repeat (first | exact pk1 | apply pick_tail)) (sel_cons (by repeat (first | exact pk1 | apply pick_tail)) (sel_nil _)))).tr⟩
            · replace hb := Nrm.nrm hb
              rw [if_neg (by simpa using hb)] at hpk
              refine wp_skip ?_
              refine in_normal ?_
              refine then_k hK ?_; clear hK; clear K
              refine region_list ?_
              refine list_pure E rfl rfl (by decide) (rn_add E rfl rfl rfl (by first | exact wa_lit (y := 1) (by omega) | exact w_in (by omega) | exact w_inu (by omega) | exact rfl)) ?_; clear E a; intro a E
              refine list_pure E rfl rfl (by decide) (rn_move E rfl rfl) ?_; clear E a; intro a E
              refine wpList_nil ?_
              refine then_normal ?_
              exact ⟨_, by omega, i + 1, rfl, by omega, hpk, ⟨_, St.cls [_, _, _, _] S⟩, E.keep (keep_cons rfl (keep_cons rfl (keep_cons rfl (keep_cons rfl (keep_cons rfl (keep_cons rfl (keep_cons rfl keep_nil)))))))⟩
          · replace hb := Nrm.nrm hb
            refine wp_exit ?_
            refine then_exit ?_; clear hK; clear K
            refine then_exit ?_
            refine in_exit ?_
            refine then_k hK ?_; clear hK; clear K
            refine wp_seq_k ?_; intro K hK
            refine region_list ?_
            refine list_pure E rfl rfl (by decide) (rn_build (cells := [_, _, _]) E rfl rfl rfl) ?_; clear E a; intro a E
            refine list_wp rfl (wp_storeN E S rfl rfl rfl rfl (by simp [Value.oneCell']) rfl (by repeat (first | exact pk1 | apply pick_tail)) (by simp) ?_); clear E S a; intro a w E S; simp only [List.take_succ_cons, List.take_zero, List.drop_succ_cons, List.drop_zero, List.cons_append, List.nil_append, List.append_nil, List.length_cons, List.length_nil, Nat.zero_add, Nat.add_zero] at S
            refine list_pure E rfl rfl (by decide) (rn_assign E rfl rfl) ?_; clear E a; intro a E
            refine wpList_nil ?_
            refine then_k hK ?_; clear hK; clear K
            refine wp_ret ?_
            refine ret_ct E rfl rfl rfl (S.get (by repeat (first | exact pk1 | apply pick_tail))) rfl ?_
            have e : y.take l = (y, plZero, 3) := by
              obtain rfl : i = od.length := by omega
              rw [List.drop_length, Al.pick] at hpk
              unfold Al.take
              rw [if_neg (by rw [hgood]; simp), ← hod, hpk]
            exact ⟨_, rfl, by rw [e]; rfl, _, by rw [e]; exact hA0, (S.only (Bs := [_, O]) (sel_cons (by repeat (first | exact pk1 | apply pick_tail)) (sel_cons (by repeat (first | exact pk1 | apply pick_tail)) (sel_nil _)))).tr⟩
  -- unused annotation: if r1@x
end Go.Proofs.Ytenhebjhoicpjaa
