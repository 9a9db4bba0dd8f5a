/-
  AllocWhole, the walk: all room is given out, let go and given out again.
-/
import Derived.Test.YtenhebjhoicpjaaAllN
namespace Go.Sl
theorem start_nil {l : List Int} (h : Al.badSizes l = false) : Al.start l [] = some (Al.new l) := by unfold Al.start; rw [if_neg (by rw [h]; simp)]; rfl
theorem want_take {l : List Int} {need : Int} {i : Nat} (hi : i < l.length) : wantL (l.take (i + 1)) need = wantL (l.take i) need + l[i] / need := by
  unfold wantL
  rw [take_succ_at l hi, List.map_append, sumL_append]; simp [sumL]
theorem want_bd {need : Int} (hn : 1 ≤ need) : ∀ {l : List Int}, (∀ x ∈ l, 0 ≤ x ∧ x ≤ 2000) → 0 ≤ wantL l need ∧ wantL l need ≤ l.length * 2000
  | [], _ => by simp [wantL, sumL]
  | x :: r, h => by
    have h1 := h x (List.mem_cons_self ..)
    have h2 := want_bd hn (l := r) fun q hq => h q (List.mem_cons_of_mem _ hq)
    have h3 : 0 ≤ x / need := Int.ediv_nonneg h1.1 (by omega)
    have h4 : x / need ≤ x := Int.ediv_le_self _ h1.1
    simp only [wantL, List.map_cons, sumL, List.length_cons] at *
    omega
end Go.Sl
namespace Go.Proofs.Ytenhebjhoicpjaa
open Go.Sl
set_option maxRecDepth 10000

theorem whole_walk (O : Chunk) (v : Value) (l : List Int) (hO : Rd O 1 v l.length (l.map iv)) (hlm : l.length ≤ 4611686018427387904) (need : Int) (w0 : World) (H : Hp w0 [O]) :
    Ret Try.prog 4 #[v, .int .i64 need] w0 fun u w' => u = .bool true ∧ Trs w0 w' [O] [O] := by
  have S := St.begin H
  obtain ⟨ad, c, rfl⟩ := hO.slice
  refine enter2 182 Try.func4 rfl rfl (by decide) ?_; intro a E
  refine wp_seq_k ?_; intro K hK
  refine region_list ?_
  refine list_pure E rfl rfl (by decide) (rn_assign E rfl rfl) ?_; clear E a; intro a E
  refine wpList_nil ?_
  refine then_k hK ?_; clear hK; clear K
  refine wp_seq_k ?_; intro K hK
  refine region_list ?_
  refine list_call E rfl rfl (by decide) rfl Try.func6 rfl (by kernel_rfl) rfl (awake_ret _) ?_
  rintro v21 w ⟨rfl, hT⟩; clear E a; intro a E
  have S := S.quiet hT
  refine list_pure E rfl rfl (by decide) (rn_assign E rfl rfl) ?_; clear E a; intro a E
  refine wpList_nil ?_
  refine then_k hK ?_; clear hK; clear K
  refine wp_seq_k ?_; intro K hK
  refine wp_seq_k ?_; intro K hK
  refine region_list ?_
  refine list_pure E rfl rfl (by decide) (rn_move E rfl rfl) ?_; clear E a; intro a E
  refine list_pure E rfl rfl (by decide) (by first | exact rn_len E rfl rfl rfl | exact rn_len_str E rfl rfl rfl | exact rn_len_string E rfl rfl rfl) ?_; clear E a; intro a E
  refine list_pure E rfl rfl (by decide) (rn_lss E rfl rfl rfl) ?_; clear E a; intro a E
  refine list_pure E rfl rfl (by decide) (rn_move E rfl rfl) ?_; clear E a; intro a E
  refine guard_split E (t := 25) rfl (fun hb25 => ?_) (fun hb25 => ?_)
  · have hb25n := hb25; replace hb25n := Nrm.nrm hb25n
    skip
    refine list_guard_no E rfl rfl rfl rfl hb25 rfl (by decide) ?_; clear E a; intro a E
    refine list_guard_no E rfl rfl rfl rfl hb25 rfl (by decide) ?_; clear E a; intro a E
    refine list_guard_no E rfl rfl rfl rfl hb25 rfl (by decide) ?_; clear E a; intro a E
    refine list_pure E rfl rfl (by decide) (rn_pick_yes' E rfl rfl hb25 rfl) ?_; clear E a; intro a E
    refine list_pure E rfl rfl (by decide) (rn_move E rfl rfl) ?_; clear E a; intro a E
    refine list_guard_no E rfl rfl rfl rfl rfl rfl (by decide) ?_; clear E a; intro a E
    refine list_guard_no E rfl rfl rfl rfl rfl rfl (by decide) ?_; clear E a; intro a E
    refine list_pure E rfl rfl (by decide) (rn_pick_yes' E rfl rfl rfl rfl) ?_; clear E a; intro a E
    refine list_pure E rfl rfl (by decide) (rn_move E rfl rfl) ?_; clear E a; intro a E
    refine list_guard_no E rfl rfl rfl rfl rfl rfl (by decide) ?_; clear E a; intro a E
    refine list_guard_no E rfl rfl rfl rfl rfl rfl (by decide) ?_; clear E a; intro a E
    refine list_pure E rfl rfl (by decide) (rn_pick_yes' E rfl rfl rfl rfl) ?_; clear E a; intro a E
    refine wpList_nil ?_
    refine then_k hK ?_; clear hK; clear K
    refine if_true' E rfl rfl ?_
    refine wp_seq_k ?_; intro K hK
    refine region_list ?_
    refine list_pure E rfl rfl (by decide) (rn_move E rfl rfl) ?_; clear E a; intro a E
    refine list_pure E rfl rfl (by decide) (rn_assign E rfl rfl) ?_; clear E a; intro a E
    refine wpList_nil ?_
    refine then_k hK ?_; clear hK; clear K
    refine wp_ret ?_
    refine then_ret ?_; clear hK; clear K
    refine ret1 E rfl rfl ?_
    exact ⟨_, rfl, rfl, S.tr⟩
  · have hb25n := hb25; replace hb25n := Nrm.nrm hb25n
    skip
    refine list_guard_yes E rfl rfl rfl rfl hb25 rfl (by decide) (rn_move E rfl rfl) ?_; clear E a; intro a E
    refine list_guard_yes E rfl rfl rfl rfl hb25 rfl (by decide) (by first | exact rn_len E rfl rfl rfl | exact rn_len_str E rfl rfl rfl | exact rn_len_string E rfl rfl rfl) ?_; clear E a; intro a E
    refine list_guard_yes E rfl rfl rfl rfl hb25 rfl (by decide) (rn_gtr E rfl rfl rfl) ?_; clear E a; intro a E
    refine list_pure E rfl rfl (by decide) (rn_pick_no' E rfl rfl hb25 rfl) ?_; clear E a; intro a E
    refine list_pure E rfl rfl (by decide) (rn_move E rfl rfl) ?_; clear E a; intro a E
    refine guard_split E (t := 30) rfl (fun hb30 => ?_) (fun hb30 => ?_)
    · have hb30n := hb30; replace hb30n := Nrm.nrm hb30n
      skip
      refine list_guard_no E rfl rfl rfl rfl hb30 rfl (by decide) ?_; clear E a; intro a E
      refine list_guard_no E rfl rfl rfl rfl hb30 rfl (by decide) ?_; clear E a; intro a E
      refine list_pure E rfl rfl (by decide) (rn_pick_yes' E rfl rfl hb30 rfl) ?_; clear E a; intro a E
      refine list_pure E rfl rfl (by decide) (rn_move E rfl rfl) ?_; clear E a; intro a E
      refine list_guard_no E rfl rfl rfl rfl rfl rfl (by decide) ?_; clear E a; intro a E
      refine list_guard_no E rfl rfl rfl rfl rfl rfl (by decide) ?_; clear E a; intro a E
      refine list_pure E rfl rfl (by decide) (rn_pick_yes' E rfl rfl rfl rfl) ?_; clear E a; intro a E
      refine wpList_nil ?_
      refine then_k hK ?_; clear hK; clear K
      refine if_true' E rfl rfl ?_
      refine wp_seq_k ?_; intro K hK
      refine region_list ?_
      refine list_pure E rfl rfl (by decide) (rn_move E rfl rfl) ?_; clear E a; intro a E
      refine list_pure E rfl rfl (by decide) (rn_assign E rfl rfl) ?_; clear E a; intro a E
      refine wpList_nil ?_
      refine then_k hK ?_; clear hK; clear K
      refine wp_ret ?_
      refine then_ret ?_; clear hK; clear K
      refine ret1 E rfl rfl ?_
      exact ⟨_, rfl, rfl, S.tr⟩
    · have hb30n := hb30; replace hb30n := Nrm.nrm hb30n
      skip
      refine list_guard_yes E rfl rfl rfl rfl hb30 rfl (by decide) (rn_move E rfl rfl) ?_; clear E a; intro a E
      refine list_guard_yes E rfl rfl rfl rfl hb30 rfl (by decide) (rn_lss E rfl rfl rfl) ?_; clear E a; intro a E
      refine list_pure E rfl rfl (by decide) (rn_pick_no' E rfl rfl hb30 rfl) ?_; clear E a; intro a E
      refine list_pure E rfl rfl (by decide) (rn_move E rfl rfl) ?_; clear E a; intro a E
      refine guard_split E (t := 34) rfl (fun hb34 => ?_) (fun hb34 => ?_)
      · have hb34n := hb34; replace hb34n := Nrm.nrm hb34n
        skip
        refine list_guard_no E rfl rfl rfl rfl hb34 rfl (by decide) ?_; clear E a; intro a E
        refine list_guard_no E rfl rfl rfl rfl hb34 rfl (by decide) ?_; clear E a; intro a E
        refine list_pure E rfl rfl (by decide) (rn_pick_yes' E rfl rfl hb34 rfl) ?_; clear E a; intro a E
        refine wpList_nil ?_
        refine then_k hK ?_; clear hK; clear K
        refine if_true' E rfl rfl ?_
        refine wp_seq_k ?_; intro K hK
        refine region_list ?_
        refine list_pure E rfl rfl (by decide) (rn_move E rfl rfl) ?_; clear E a; intro a E
        refine list_pure E rfl rfl (by decide) (rn_assign E rfl rfl) ?_; clear E a; intro a E
        refine wpList_nil ?_
        refine then_k hK ?_; clear hK; clear K
        refine wp_ret ?_
        refine then_ret ?_; clear hK; clear K
        refine ret1 E rfl rfl ?_
        exact ⟨_, rfl, rfl, S.tr⟩
      · have hb34n := hb34; replace hb34n := Nrm.nrm hb34n
        skip
        refine list_guard_yes E rfl rfl rfl rfl hb34 rfl (by decide) (rn_move E rfl rfl) ?_; clear E a; intro a E
        refine list_guard_yes E rfl rfl rfl rfl hb34 rfl (by decide) (rn_gtr E rfl rfl rfl) ?_; clear E a; intro a E
        refine list_pure E rfl rfl (by decide) (rn_pick_no' E rfl rfl hb34 rfl) ?_; clear E a; intro a E
        refine wpList_nil ?_
        refine then_k hK ?_; clear hK; clear K
        refine if_bool E rfl (fun hb => ?_) (fun hb => ?_)
        · replace hb := Nrm.nrm hb
          refine wp_seq_k ?_; intro K hK
          refine region_list ?_
          refine list_pure E rfl rfl (by decide) (rn_move E rfl rfl) ?_; clear E a; intro a E
          refine list_pure E rfl rfl (by decide) (rn_assign E rfl rfl) ?_; clear E a; intro a E
          refine wpList_nil ?_
          refine then_k hK ?_; clear hK; clear K
          refine wp_ret ?_
          refine then_ret ?_; clear hK; clear K
          refine ret1 E rfl rfl ?_
          exact ⟨_, rfl, rfl, S.tr⟩
        · replace hb := Nrm.nrm hb
          refine wp_skip ?_
          refine then_k hK ?_; clear hK; clear K
          refine wp_seq_k ?_; intro K hK
          refine region_list ?_
          refine list_pure E rfl rfl (by decide) (rn_assign E rfl rfl) ?_; clear E a; intro a E
          refine wpList_nil ?_
          refine then_k hK ?_; clear hK; clear K
          refine wp_seq_k ?_; intro K hK
          refine region_list ?_
          refine list_pure E rfl rfl (by decide) (rn_assign E rfl rfl) ?_; clear E a; intro a E
          refine wpList_nil ?_
          refine then_k hK ?_; clear hK; clear K
          refine wp_seq_k ?_; intro K hK
          refine wp_seq_k ?_; intro K hK
          refine region_list ?_
          refine list_pure E rfl rfl (by decide) (rn_assign E rfl rfl) ?_; clear E a; intro a E
          refine wpList_nil ?_
          refine then_k hK ?_; clear hK; clear K
          refine wp_block ?_
          refine wp_loop_ghost (fun (m : Nat) (a : Act) (w' : World) => ∃ (i : Nat) (D : Chunk) (v7 : Value), m = l.length - i ∧ i ≤ l.length ∧ (∀ x ∈ l.take i, 0 ≤ x ∧ x ≤ 2000) ∧ Buf D 3 1 v7 i ((List.replicate i need).map iv) ∧ (∃ Xs, St w0 [O] w' (O :: D :: Xs)) ∧ Fr a 182 [(0, .slice ad l.length c), (1, .int .i64 need), (5, .bool true), (6, .int .i64 (wantL (l.take i) need)), (7, v7), (8, .int .i64 i)]) (l.length - 0) ?_ ?_
          · exact ⟨0, [], _, rfl, by omega, by simp, Buf.nil _ _, ⟨[], S.addNil.perm2⟩, E.keep (keep_cons rfl (keep_cons rfl (keep_cons rfl (keep_cons rfl (keep_cons rfl (keep_cons rfl keep_nil))))))⟩
          clear E; clear a; (try clear S); rintro m a w ⟨i, D, v7, rfl, hi, hgd, hD, ⟨Xs, S⟩, E⟩
          refine wp_seq_k ?_; intro K hK
          refine wp_seq_k ?_; intro K hK
          refine region_list ?_
          refine list_pure E rfl rfl (by decide) (rn_move E rfl rfl) ?_; clear E a; intro a E
          refine list_pure E rfl rfl (by decide) (rn_move E rfl rfl) ?_; clear E a; intro a E
          refine list_pure E rfl rfl (by decide) (by first | exact rn_len E rfl rfl rfl | exact rn_len_str E rfl rfl rfl | exact rn_len_string E rfl rfl rfl) ?_; clear E a; intro a E
          refine list_pure E rfl rfl (by decide) (rn_lss E rfl rfl rfl) ?_; clear E a; intro a E
          refine wpList_nil ?_
          refine then_k hK ?_; clear hK; clear K
          refine if_bool E rfl (fun hb => ?_) (fun hb => ?_)
          · replace hb := Nrm.nrm hb
            refine wp_skip ?_
            refine then_k hK ?_; clear hK; clear K
            refine wp_seq_k ?_; intro K hK
            refine wp_block ?_
            refine wp_seq_k ?_; intro K hK
            refine wp_seq_k ?_; intro K hK
            have hil : i < l.length := by omega
            obtain ⟨ab, ao, rfl⟩ := hO.addr (by omega)
            obtain ⟨hwb1, hwb2⟩ := want_bd (need := need) (by omega) hgd
            rw [List.length_take] at hwb2
            refine region_list ?_
            refine list_pure E rfl rfl (by decide) (rn_move E rfl rfl) ?_; clear E a; intro a E
            refine list_pure E rfl rfl (by decide) (rn_move E rfl rfl) ?_; clear E a; intro a E
            refine list_pure E rfl rfl (by decide) (by first | exact rn_indexAddr1 E rfl rfl rfl rfl rfl rfl (by omega) | exact rn_indexAddr E rfl rfl rfl rfl rfl rfl (by omega) | exact rn_indexAddr_array E rfl rfl rfl rfl rfl rfl (by omega)) ?_; clear E a; intro a E
            refine list_pure E rfl rfl (by decide) (rn_loadc E rfl rfl rfl (hO.at1 (S.stab.at (by repeat (first | exact mm1 | assumption | apply List.Mem.tail))) hil)) ?_; clear E a; intro a E
            refine list_pure E rfl rfl (by decide) (rn_lss E rfl rfl rfl) ?_; clear E a; intro a E
            refine list_pure E rfl rfl (by decide) (rn_move E rfl rfl) ?_; clear E a; intro a E
            refine guard_split E (t := 50) rfl (fun hb50 => ?_) (fun hb50 => ?_)
            · have hb50n := hb50; replace hb50n := Nrm.nrm hb50n
              skip
              refine list_guard_no E rfl rfl rfl rfl hb50 rfl (by decide) ?_; clear E a; intro a E
              refine list_guard_no E rfl rfl rfl rfl hb50 rfl (by decide) ?_; clear E a; intro a E
              refine list_guard_no E rfl rfl rfl rfl hb50 rfl (by decide) ?_; clear E a; intro a E
              refine list_guard_no E rfl rfl rfl rfl hb50 rfl (by decide) ?_; clear E a; intro a E
              refine list_guard_no E rfl rfl rfl rfl hb50 rfl (by decide) ?_; clear E a; intro a E
              refine list_pure E rfl rfl (by decide) (rn_pick_yes' E rfl rfl hb50 rfl) ?_; clear E a; intro a E
              refine wpList_nil ?_
              refine then_k hK ?_; clear hK; clear K
              refine if_true' E rfl rfl ?_
              refine wp_seq_k ?_; intro K hK
              refine region_list ?_
              refine list_pure E rfl rfl (by decide) (rn_move E rfl rfl) ?_; clear E a; intro a E
              refine list_pure E rfl rfl (by decide) (rn_assign E rfl rfl) ?_; clear E a; intro a E
              refine wpList_nil ?_
              refine then_k hK ?_; clear hK; clear K
              refine wp_ret ?_
              refine then_ret ?_; clear hK; clear K
              refine in_ret ?_
              refine then_ret ?_; clear hK; clear K
              refine then_ret ?_
              refine in_ret ?_
              refine then_ret ?_; clear hK; clear K
              refine ret1 E rfl rfl ?_
              exact ⟨_, rfl, rfl, (S.only (Bs := [O]) (sel_cons (by repeat (first | exact pk1 | apply pick_tail)) (sel_nil _))).tr⟩
            · have hb50n := hb50; replace hb50n := Nrm.nrm hb50n
              skip
              refine list_guard_yes E rfl rfl rfl rfl hb50 rfl (by decide) (rn_move E rfl rfl) ?_; clear E a; intro a E
              refine list_guard_yes E rfl rfl rfl rfl hb50 rfl (by decide) (rn_move E rfl rfl) ?_; clear E a; intro a E
              refine list_guard_yes E rfl rfl rfl rfl hb50 rfl (by decide) (by first | exact rn_indexAddr1 E rfl rfl rfl rfl rfl rfl (by omega) | exact rn_indexAddr E rfl rfl rfl rfl rfl rfl (by omega) | exact rn_indexAddr_array E rfl rfl rfl rfl rfl rfl (by omega)) ?_; clear E a; intro a E
              refine list_guard_yes E rfl rfl rfl rfl hb50 rfl (by decide) (rn_loadc E rfl rfl rfl (hO.at1 (S.stab.at (by repeat (first | exact mm1 | assumption | apply List.Mem.tail))) hil)) ?_; clear E a; intro a E
              refine list_guard_yes E rfl rfl rfl rfl hb50 rfl (by decide) (rn_gtr E rfl rfl rfl) ?_; clear E a; intro a E
              refine list_pure E rfl rfl (by decide) (rn_pick_no' E rfl rfl hb50 rfl) ?_; clear E a; intro a E
              refine wpList_nil ?_
              refine then_k hK ?_; clear hK; clear K
              refine if_bool E rfl (fun hb => ?_) (fun hb => ?_)
              · replace hb := Nrm.nrm hb
                refine wp_seq_k ?_; intro K hK
                refine region_list ?_
                refine list_pure E rfl rfl (by decide) (rn_move E rfl rfl) ?_; clear E a; intro a E
                refine list_pure E rfl rfl (by decide) (rn_assign E rfl rfl) ?_; clear E a; intro a E
                refine wpList_nil ?_
                refine then_k hK ?_; clear hK; clear K
                refine wp_ret ?_
                refine then_ret ?_; clear hK; clear K
                refine in_ret ?_
                refine then_ret ?_; clear hK; clear K
                refine then_ret ?_
                refine in_ret ?_
                refine then_ret ?_; clear hK; clear K
                refine ret1 E rfl rfl ?_
                exact ⟨_, rfl, rfl, (S.only (Bs := [O]) (sel_cons (by repeat (first | exact pk1 | apply pick_tail)) (sel_nil _))).tr⟩
              · replace hb := Nrm.nrm hb
                refine wp_skip ?_
                refine then_k hK ?_; clear hK; clear K
                refine wp_seq_k ?_; intro K hK
                have hdv : l[i] / need ≤ l[i] := Int.ediv_le_self _ (by omega)
                have hdn : 0 ≤ l[i] / need := Int.ediv_nonneg (by omega) (by omega)
                refine region_list ?_
                refine list_pure E rfl rfl (by decide) (rn_move E rfl rfl) ?_; clear E a; intro a E
                refine list_pure E rfl rfl (by decide) (rn_move E rfl rfl) ?_; clear E a; intro a E
                refine list_pure E rfl rfl (by decide) (rn_move E rfl rfl) ?_; clear E a; intro a E
                refine list_pure E rfl rfl (by decide) (by first | exact rn_indexAddr1 E rfl rfl rfl rfl rfl rfl (by omega) | exact rn_indexAddr E rfl rfl rfl rfl rfl rfl (by omega) | exact rn_indexAddr_array E rfl rfl rfl rfl rfl rfl (by omega)) ?_; clear E a; intro a E
                refine list_pure E rfl rfl (by decide) (rn_loadc E rfl rfl rfl (hO.at1 (S.stab.at (by repeat (first | exact mm1 | assumption | apply List.Mem.tail))) hil)) ?_; clear E a; intro a E
                refine list_pure E rfl rfl (by decide) (rn_move E rfl rfl) ?_; clear E a; intro a E
                refine list_pure E rfl rfl (by decide) (rn_quo E rfl rfl rfl (by first | decide | omega) (show IntKind.i64.wrap (l[i].tdiv need) = l[i] / need by rw [Int.tdiv_eq_ediv_of_nonneg (by omega)]; exact w_in (by omega))) ?_; clear E a; intro a E
                refine list_pure E rfl rfl (by decide) (rn_add E rfl rfl rfl (w_in (by omega))) ?_; clear E a; intro a E
                refine list_pure E rfl rfl (by decide) (rn_assign E rfl rfl) ?_; clear E a; intro a E
                refine wpList_nil ?_
                refine then_k hK ?_; clear hK; clear K
                refine region_list ?_
                refine list_pure E rfl rfl (by decide) (rn_move E rfl rfl) ?_; clear E a; intro a E
                refine list_pure E rfl rfl (by decide) (rn_move E rfl rfl) ?_; clear E a; intro a E
                refine list_wp rfl (wp_bslice (cells := [_]) E S rfl rfl (by decide) rfl rfl rfl rfl rfl (by decide) rfl ?_); clear E S a; intro a w b68 E S
                refine list_wp rfl (wp_append (by' := 8) E S rfl rfl (by decide) rfl rfl hD (by repeat (first | exact pk1 | apply pick_tail)) ((rd1i _ _ _).src (S.stab.at (by repeat (first | exact mm1 | assumption | apply List.Mem.tail))) rfl) rfl rfl rfl rfl rfl rfl (by simp only [maxLen]; omega) (by omega) ?_); clear E S a; intro a w v69 C69 E S hB69
                refine list_pure E rfl rfl (by decide) (rn_assign E rfl rfl) ?_; clear E a; intro a E
                refine wpList_nil ?_
                refine in_normal ?_
                refine then_k hK ?_; clear hK; clear K
                refine region_list ?_
                refine list_pure E rfl rfl (by decide) (rn_move E rfl rfl) ?_; clear E a; intro a E
                refine list_pure E rfl rfl (by decide) (rn_add E rfl rfl rfl (by first | exact wa_lit (y := 1) (by omega) | exact w_in (by omega) | exact w_inu (by omega) | exact rfl)) ?_; clear E a; intro a E
                refine list_pure E rfl rfl (by decide) (rn_assign E rfl rfl) ?_; clear E a; intro a E
                refine wpList_nil ?_
                refine then_normal ?_
                exact ⟨_, by omega, i + 1, C69, v69, rfl, by omega, fun x hx => by
                  rw [take_succ_at l hil] at hx
                  rcases List.mem_append.1 hx with hx | hx
                  · exact hgd x hx
                  · rw [List.mem_singleton.1 hx]; omega, by rw [List.replicate_succ', List.map_append]; exact hB69, ⟨_, S.front2 (A := O) (B := C69) (by repeat (first | exact pk1 | apply pick_tail)) (by repeat (first | exact pk1 | apply pick_tail))⟩, by rw [want_take hil]; exact E.keep (keep_cons rfl (keep_cons rfl (keep_cons rfl (keep_cons rfl (keep_cons rfl (keep_cons rfl keep_nil))))))⟩
          · replace hb := Nrm.nrm hb
            refine wp_exit ?_
            refine then_exit ?_; clear hK; clear K
            refine then_exit ?_
            refine in_exit ?_
            refine then_k hK ?_; clear hK; clear K
            refine wp_seq_k ?_; intro K hK
            obtain rfl : i = l.length := by omega
            rw [List.take_length] at hgd E
            have hbad : Al.badSizes l = false := by
              simp only [Al.badSizes, Bool.or_eq_false_iff, decide_eq_false_iff_not, List.any_eq_false, decide_eq_true_eq]
              exact ⟨⟨by omega, by omega⟩, fun n hn => by have := hgd n hn; omega⟩
            have hst := start_nil hbad
            have S := S.addNil
            refine region_list ?_
            refine list_pure E rfl rfl (by decide) (rn_move E rfl rfl) ?_; clear E a; intro a E
            refine list_call E rfl rfl (by decide) rfl Try.func7 rfl (by kernel_rfl) rfl (anew_ret l O _ hO hlm [] [] _ (Rd.nil [] 3) (by simp) _ (S.hp.sel (sel_cons (by repeat (first | exact pk1 | apply pick_tail)) (sel_cons (by repeat (first | exact pk1 | apply pick_tail)) (sel_nil _))))) ?_
            rintro v72 w hN; clear E a; intro a E
            obtain ⟨y, p, A, h, rfl, hA, hT⟩ := hN.resolve_left (fun z => by rw [hst] at z; cases z.1); rw [hst] at h; cases h; have S := S.call (sel_cons (by repeat (first | exact pk1 | apply pick_tail)) (sel_cons (by repeat (first | exact pk1 | apply pick_tail)) (sel_nil _))) hT
            refine list_pure E rfl rfl (by decide) (rn_move E rfl rfl) ?_; clear E a; intro a E
            refine list_pure E rfl rfl (by decide) (rn_extract E rfl rfl rfl) ?_; clear E a; intro a E
            refine list_pure E rfl rfl (by decide) (rn_extract E rfl rfl rfl) ?_; clear E a; intro a E
            refine list_pure E rfl rfl (by decide) (rn_assign E rfl rfl) ?_; clear E a; intro a E
            refine list_pure E rfl rfl (by decide) (rn_assign E rfl rfl) ?_; clear E a; intro a E
            refine wpList_nil ?_
            refine then_k hK ?_; clear hK; clear K
            refine wp_seq_k ?_; intro K hK
            refine wp_seq_k ?_; intro K hK
            refine region_list ?_
            refine list_pure E rfl rfl (by decide) (rn_move E rfl rfl) ?_; clear E a; intro a E
            refine list_pure E rfl rfl (by decide) (by first | exact rn_eql E rfl rfl rfl | exact rn_eql_ptr_nil E rfl rfl rfl rfl | exact rn_eql_bool E rfl rfl rfl rfl | exact rn_eql_string E rfl rfl rfl) ?_; clear E a; intro a E
            refine list_pure E rfl rfl (by decide) (rn_move E rfl rfl) ?_; clear E a; intro a E
            refine guard_false E (t := 77) rfl (rfl) (fun hb77 => ?_)
            refine list_guard_yes E rfl rfl rfl rfl hb77 rfl (by decide) (rn_move E rfl rfl) ?_; clear E a; intro a E
            refine list_guard_yes E rfl rfl rfl rfl hb77 rfl (by decide) (by first | exact rn_neq E rfl rfl rfl | exact rn_neq_ptr_nil E rfl rfl rfl rfl | exact rn_neq_bool E rfl rfl rfl rfl | exact rn_neq_string E rfl rfl rfl) ?_; clear E a; intro a E
            refine list_pure E rfl rfl (by decide) (rn_pick_no' E rfl rfl hb77 rfl) ?_; clear E a; intro a E
            refine list_pure E rfl rfl (by decide) (rn_move E rfl rfl) ?_; clear E a; intro a E
            refine guard_false E (t := 81) rfl (rfl) (fun hb81 => ?_)
            refine list_guard_yes E rfl rfl rfl rfl hb81 rfl (by decide) (rn_move E rfl rfl) ?_; clear E a; intro a E
            refine list_guard_yes E rfl rfl rfl rfl hb81 rfl (by decide) (rn_not E rfl rfl) ?_; clear E a; intro a E
            refine list_pure E rfl rfl (by decide) (rn_pick_no' E rfl rfl hb81 rfl) ?_; clear E a; intro a E
            refine wpList_nil ?_
            refine then_k hK ?_; clear hK; clear K
            refine if_false' E rfl (rfl) ?_
            refine wp_skip ?_
            refine then_k hK ?_; clear hK; clear K
            refine wp_seq_k ?_; intro K hK
            refine wp_seq_k ?_; intro K hK
            replace E := E.keep (e' := [(0, _), (1, _), (6, _), (7, _), (9, _)]) (keep_cons rfl (keep_cons rfl (keep_cons rfl (keep_cons rfl (keep_cons rfl (keep_nil))))))
            obtain ⟨hwb1, hwb2⟩ := want_bd (need := need) (by omega) hgd
            have hDr : Rd D 1 v7 (List.replicate l.length need).length ((List.replicate l.length need).map iv) := by rw [List.length_replicate]; exact hD.rd
            obtain ⟨want, hwant⟩ : ∃ want : Nat, (want : Int) = wantL l need := ⟨(wantL l need).toNat, by omega⟩
            rw [← hwant] at E
            have hlo : ∀ n ∈ l, n ≤ 8191 := fun n hn => by have := (hgd n hn).2; omega
            refine region_list ?_
            refine list_pure E rfl rfl (by decide) (rn_assign E rfl rfl) ?_; clear E a; intro a E
            refine wpList_nil ?_
            refine then_k hK ?_; clear hK; clear K
            refine wp_block ?_
            refine wp_loop_ghost (fun (m : Nat) (a : Act) (w' : World) => ∃ (rd : Nat) (A : Chunk), m = 2 - rd ∧ rd ≤ 2 ∧ AlC p (Al.new l) A ∧ (∃ Xs, St w0 [O] w' (A :: O :: D :: Xs)) ∧ Fr a 182 [(0, .slice ad l.length c), (1, .int .i64 need), (6, .int .i64 want), (7, v7), (9, ptr p), (11, .int .i64 rd)]) (2 - 0) ?_ ?_
            · exact ⟨0, A, rfl, by omega, hA, ⟨_, S.front3 (A := A) (B := O) (C := D) (by repeat (first | exact pk1 | apply pick_tail)) (by repeat (first | exact pk1 | apply pick_tail)) (by repeat (first | exact pk1 | apply pick_tail))⟩, E.keep (keep_cons rfl (keep_cons rfl (keep_cons rfl (keep_cons rfl (keep_cons rfl (keep_cons rfl keep_nil))))))⟩
            clear E; clear a; (try clear S); rintro m a w ⟨rd, A, rfl, hrd, hA, ⟨Xs, S⟩, E⟩
            refine wp_seq_k ?_; intro K hK
            refine wp_seq_k ?_; intro K hK
            refine region_list ?_
            refine list_pure E rfl rfl (by decide) (rn_move E rfl rfl) ?_; clear E a; intro a E
            refine list_pure E rfl rfl (by decide) (rn_lss E rfl rfl rfl) ?_; clear E a; intro a E
            refine wpList_nil ?_
            refine then_k hK ?_; clear hK; clear K
            refine if_bool E rfl (fun hb => ?_) (fun hb => ?_)
            · replace hb := Nrm.nrm hb
              refine wp_skip ?_
              refine then_k hK ?_; clear hK; clear K
              refine wp_seq_k ?_; intro K hK
              refine wp_block ?_
              refine wp_seq_k ?_; intro K hK
              refine region_list ?_
              refine list_pure E rfl rfl (by decide) (rn_assign E rfl rfl) ?_; clear E a; intro a E
              refine wpList_nil ?_
              refine then_k hK ?_; clear hK; clear K
              refine wp_seq_k ?_; intro K hK
              refine region_list ?_
              refine list_pure E rfl rfl (by decide) (rn_assign E rfl rfl) ?_; clear E a; intro a E
              refine wpList_nil ?_
              refine then_k hK ?_; clear hK; clear K
              refine wp_seq_k ?_; intro K hK
              refine wp_block ?_
              refine wp_loop_ghost (fun (m : Nat) (a : Act) (w' : World) => ∃ (cs : List Int) (got : List Pl) (y : Al) (A B : Chunk) (v12 : Value) (f : Int), m = (want - got.length) + (if f = 0 then 1 else 0) ∧ Wh need y cs got ∧ y.sizes = l ∧ AlC p y A ∧ Buf B 33 3 v12 got.length (got.flatMap Pl.lay) ∧ (f = 0 ∨ (f = 3 ∧ got.length = want)) ∧ (∃ Xs, St w0 [O] w' (A :: B :: O :: D :: Xs)) ∧ Fr a 182 [(0, .slice ad l.length c), (1, .int .i64 need), (6, .int .i64 want), (7, v7), (9, ptr p), (11, .int .i64 rd), (12, v12), (13, .int .i64 f)]) ((want - 0) + 1) ?_ ?_
              · exact ⟨_, [], Al.new l, A, [], _, 0, rfl, Wh.new hbad hlo, rfl, hA, Buf.nil _ _, .inl rfl, ⟨_, S.addNil.perm2⟩, E.keep (keep_cons rfl (keep_cons rfl (keep_cons rfl (keep_cons rfl (keep_cons rfl (keep_cons rfl (keep_cons rfl (keep_cons rfl keep_nil))))))))⟩
              clear E; clear a; (try clear S); rintro m a w ⟨cs, got, y, A, B, v12, f, rfl, hW, hys, hA, hB, hf, ⟨Xs, S⟩, E⟩
              refine wp_seq_k ?_; intro K hK
              refine wp_seq_k ?_; intro K hK
              have hgl := hW.le (by omega)
              rw [hys, ← hwant] at hgl
              obtain ⟨b1, b2', rfl⟩ := hB.slice
              refine region_list ?_
              refine list_pure E rfl rfl (by decide) (rn_move E rfl rfl) ?_; clear E a; intro a E
              refine list_pure E rfl rfl (by decide) (by first | exact rn_eql E rfl rfl rfl | exact rn_eql_ptr_nil E rfl rfl rfl rfl | exact rn_eql_bool E rfl rfl rfl rfl | exact rn_eql_string E rfl rfl rfl) ?_; clear E a; intro a E
              refine list_pure E rfl rfl (by decide) (rn_move E rfl rfl) ?_; clear E a; intro a E
              refine guard_split E (t := 91) rfl (fun hb91 => ?_) (fun hb91 => ?_)
              · have hb91n := hb91; replace hb91n := Nrm.nrm hb91n
                skip
                refine list_guard_yes E rfl rfl rfl rfl hb91 rfl (by decide) (rn_move E rfl rfl) ?_; clear E a; intro a E
                refine list_guard_yes E rfl rfl rfl rfl hb91 rfl (by decide) (by first | exact rn_len E rfl rfl rfl | exact rn_len_str E rfl rfl rfl | exact rn_len_string E rfl rfl rfl) ?_; clear E a; intro a E
                refine list_guard_yes E rfl rfl rfl rfl hb91 rfl (by decide) (rn_move E rfl rfl) ?_; clear E a; intro a E
                refine list_guard_yes E rfl rfl rfl rfl hb91 rfl (by decide) (rn_leq E rfl rfl rfl) ?_; clear E a; intro a E
                refine list_pure E rfl rfl (by decide) (rn_pick_yes' E rfl rfl hb91 rfl) ?_; clear E a; intro a E
                refine wpList_nil ?_
                refine then_k hK ?_; clear hK; clear K
                refine if_true' E rfl ((by simp; omega)) ?_
                refine wp_skip ?_
                refine then_k hK ?_; clear hK; clear K
                refine wp_block ?_
                refine wp_seq_k ?_; intro K hK
                refine region_list ?_
                refine list_pure E rfl rfl (by decide) (rn_move E rfl rfl) ?_; clear E a; intro a E
                refine list_pure E rfl rfl (by decide) (rn_move E rfl rfl) ?_; clear E a; intro a E
                refine list_call E rfl rfl (by decide) rfl Try.func8 rfl (by kernel_rfl) rfl (take_ret p y A hA D _ (List.replicate l.length need) (by simp; omega) (fun x hx => by rw [List.eq_of_mem_replicate hx]; omega) hDr _ (S.hp.sel (sel_cons (by repeat (first | exact pk1 | apply pick_tail)) (sel_cons (by repeat (first | exact pk1 | apply pick_tail)) (sel_nil _))))) ?_
                rintro v100 w ⟨rfl, A1, hA1, hT⟩; clear E a; intro a E
                have S := S.call2 (sel_cons (by repeat (first | exact pk1 | apply pick_tail)) (sel_cons (by repeat (first | exact pk1 | apply pick_tail)) (sel_nil _))) hT; have hWt := hW.take (by omega); rw [hys] at hWt
                refine list_pure E rfl rfl (by decide) (rn_move E rfl rfl) ?_; clear E a; intro a E
                refine list_pure E rfl rfl (by decide) (rn_extract E rfl rfl rfl) ?_; clear E a; intro a E
                refine list_pure E rfl rfl (by decide) (rn_extract E rfl rfl rfl) ?_; clear E a; intro a E
                refine list_wp rfl (wp_alloc E S rfl rfl (by decide) rfl rfl rfl ?_); clear E S a; intro a w b14 E S
                refine list_wp rfl (wp_storeN E S rfl rfl rfl rfl (by simp [Value.oneCell']) rfl (by repeat (first | exact pk1 | apply pick_tail)) (by simp) ?_); clear E S a; intro a w E S; simp only [List.take_succ_cons, List.take_zero, List.drop_succ_cons, List.drop_zero, List.cons_append, List.nil_append, List.append_nil, List.length_cons, List.length_nil, Nat.zero_add, Nat.add_zero] at S
                refine list_pure E rfl rfl (by decide) (rn_assign E rfl rfl) ?_; clear E a; intro a E
                refine wpList_nil ?_
                refine then_k hK ?_; clear hK; clear K
                refine wp_seq_k ?_; intro K hK
                refine region_list ?_
                refine list_pure E rfl rfl (by decide) (rn_move E rfl rfl) ?_; clear E a; intro a E
                refine list_pure E rfl rfl (by decide) (rn_assign E rfl rfl) ?_; clear E a; intro a E
                refine wpList_nil ?_
                refine then_k hK ?_; clear hK; clear K
                refine wp_seq_k ?_; intro K hK
                refine region_list ?_
                refine list_pure E rfl rfl (by decide) (rn_move E rfl rfl) ?_; clear E a; intro a E
                refine list_pure E rfl rfl (by decide) (by first | exact rn_eql E rfl rfl rfl | exact rn_eql_ptr_nil E rfl rfl rfl rfl | exact rn_eql_bool E rfl rfl rfl rfl | exact rn_eql_string E rfl rfl rfl) ?_; clear E a; intro a E
                refine wpList_nil ?_
                refine then_k hK ?_; clear hK; clear K
                refine if_bool E rfl (fun hb => ?_) (fun hb => ?_)
                · replace hb := Nrm.nrm hb
                  refine region_list ?_
                  refine list_pure E rfl rfl (by decide) (rn_move E rfl rfl) ?_; clear E a; intro a E
                  refine list_pure E rfl rfl (by decide) (rn_load_blk (vs := [_, _, _]) E rfl rfl rfl (S.get (by repeat (first | exact pk1 | apply pick_tail))) rfl rfl) ?_; clear E a; intro a E
                  refine list_wp rfl (wp_bslice (cells := [_, _, _]) E S rfl rfl (by decide) rfl rfl rfl rfl rfl (by decide) rfl ?_); clear E S a; intro a w b108 E S
                  refine list_wp rfl (wp_append (by' := 24) E S rfl rfl (by decide) rfl rfl hB (by repeat (first | exact pk1 | apply pick_tail)) ((rd1s _ _ _ _ _).src (S.stab.at (by repeat (first | exact mm1 | assumption | apply List.Mem.tail))) rfl) rfl rfl rfl rfl rfl rfl (by simp only [maxLen]; omega) (by omega) ?_); clear E S a; intro a w v109 C109 E S hB109
                  refine list_pure E rfl rfl (by decide) (rn_assign E rfl rfl) ?_; clear E a; intro a E
                  refine wpList_nil ?_
                  refine in_normal ?_
                  refine then_normal ?_
                  obtain ⟨cs', h0, hW', hs'⟩ := hWt.resolve_left (fun z => by have := z.2.1; omega)
                  have hle := hW'.le (by omega)
                  rw [hs', ← hwant, List.length_append, List.length_singleton] at hle
                  exact ⟨_, by rw [if_pos hb, if_pos hb91n, List.length_append, List.length_singleton]; omega, cs', _, _, A1, C109, _, _, rfl, hW', hs', hA1, by simpa [Pl.lay] using hB109, .inl hb, ⟨_, S.front4 (A := A1) (B := C109) (C := O) (D := D) (by repeat (first | exact pk1 | apply pick_tail)) (by repeat (first | exact pk1 | apply pick_tail)) (by repeat (first | exact pk1 | apply pick_tail)) (by repeat (first | exact pk1 | apply pick_tail))⟩, E.keep (keep_cons rfl (keep_cons rfl (keep_cons rfl (keep_cons rfl (keep_cons rfl (keep_cons rfl (keep_cons rfl (keep_cons rfl keep_nil))))))))⟩
                · replace hb := Nrm.nrm hb
                  refine wp_skip ?_
                  refine in_normal ?_
                  refine then_normal ?_
                  obtain ⟨hy, h3, hgw⟩ := hWt.resolve_right (fun ⟨_, h0, _⟩ => hb h0)
                  rw [hy] at hA1
                  exact ⟨_, by rw [if_neg hb, if_pos hb91n]; omega, cs, got, y, A1, B, _, _, rfl, hW, hys, hA1, hB, .inr ⟨h3, by omega⟩, ⟨_, S.front4 (A := A1) (B := B) (C := O) (D := D) (by repeat (first | exact pk1 | apply pick_tail)) (by repeat (first | exact pk1 | apply pick_tail)) (by repeat (first | exact pk1 | apply pick_tail)) (by repeat (first | exact pk1 | apply pick_tail))⟩, E.keep (keep_cons rfl (keep_cons rfl (keep_cons rfl (keep_cons rfl (keep_cons rfl (keep_cons rfl (keep_cons rfl (keep_cons rfl keep_nil))))))))⟩
              · have hb91n := hb91; replace hb91n := Nrm.nrm hb91n
                skip
                refine list_guard_no E rfl rfl rfl rfl hb91 rfl (by decide) ?_; clear E a; intro a E
                refine list_guard_no E rfl rfl rfl rfl hb91 rfl (by decide) ?_; clear E a; intro a E
                refine list_guard_no E rfl rfl rfl rfl hb91 rfl (by decide) ?_; clear E a; intro a E
                refine list_guard_no E rfl rfl rfl rfl hb91 rfl (by decide) ?_; clear E a; intro a E
                refine list_pure E rfl rfl (by decide) (rn_pick_no' E rfl rfl hb91 rfl) ?_; clear E a; intro a E
                refine wpList_nil ?_
                refine then_k hK ?_; clear hK; clear K
                refine if_false' E rfl rfl ?_
                refine wp_exit ?_
                refine then_exit ?_; clear hK; clear K
                refine then_exit ?_
                refine in_exit ?_
                refine then_k hK ?_; clear hK; clear K
                refine wp_seq_k ?_; intro K hK
                refine wp_seq_k ?_; intro K hK
                obtain ⟨rfl, hgw⟩ := hf.resolve_left hb91n
                refine region_list ?_
                refine list_pure E rfl rfl (by decide) (rn_move E rfl rfl) ?_; clear E a; intro a E
                refine list_pure E rfl rfl (by decide) (by first | exact rn_len E rfl rfl rfl | exact rn_len_str E rfl rfl rfl | exact rn_len_string E rfl rfl rfl) ?_; clear E a; intro a E
                refine list_pure E rfl rfl (by decide) (rn_move E rfl rfl) ?_; clear E a; intro a E
                refine list_pure E rfl rfl (by decide) (by first | exact rn_neq E rfl rfl rfl | exact rn_neq_ptr_nil E rfl rfl rfl rfl | exact rn_neq_bool E rfl rfl rfl rfl | exact rn_neq_string E rfl rfl rfl) ?_; clear E a; intro a E
                refine list_pure E rfl rfl (by decide) (rn_move E rfl rfl) ?_; clear E a; intro a E
                refine guard_false E (t := 114) rfl ((by simp; omega)) (fun hb114 => ?_)
                refine list_guard_yes E rfl rfl rfl rfl hb114 rfl (by decide) (rn_move E rfl rfl) ?_; clear E a; intro a E
                refine list_guard_yes E rfl rfl rfl rfl hb114 rfl (by decide) (by first | exact rn_neq E rfl rfl rfl | exact rn_neq_ptr_nil E rfl rfl rfl rfl | exact rn_neq_bool E rfl rfl rfl rfl | exact rn_neq_string E rfl rfl rfl) ?_; clear E a; intro a E
                refine list_pure E rfl rfl (by decide) (rn_pick_no' E rfl rfl hb114 rfl) ?_; clear E a; intro a E
                refine wpList_nil ?_
                refine then_k hK ?_; clear hK; clear K
                refine if_false' E rfl (rfl) ?_
                refine wp_skip ?_
                refine then_k hK ?_; clear hK; clear K
                refine wp_seq_k ?_; intro K hK
                refine wp_seq_k ?_; intro K hK
                refine region_list ?_
                refine list_pure E rfl rfl (by decide) (rn_assign E rfl rfl) ?_; clear E a; intro a E
                refine wpList_nil ?_
                refine then_k hK ?_; clear hK; clear K
                refine wp_block ?_
                refine wp_loop_ghost (fun (m : Nat) (a : Act) (w' : World) => ∃ (j : Nat) (y : Al) (A : Chunk), m = got.length - j ∧ j ≤ got.length ∧ Sc y (got.drop j) (got.take j) ∧ y.by_ = byW 7 (got.take j) ∧ y.sizes = l ∧ AlC p y A ∧ (∃ Xs, St w0 [O] w' (A :: B :: O :: D :: Xs)) ∧ Fr a 182 [(0, .slice ad l.length c), (1, .int .i64 need), (6, .int .i64 want), (7, v7), (9, ptr p), (11, .int .i64 rd), (12, .slice b1 got.length b2'), (16, .int .i64 j)]) (got.length - 0) ?_ ?_
                · exact ⟨0, y, A, rfl, by omega, hW.sc, hW.sf.by_, hys, hA, ⟨Xs, S⟩, E.keep (keep_cons rfl (keep_cons rfl (keep_cons rfl (keep_cons rfl (keep_cons rfl (keep_cons rfl (keep_cons rfl (keep_cons rfl keep_nil))))))))⟩
                clear E; clear a; (try clear S); rintro m a w ⟨j, y, A, rfl, hj, hsc, hby, hys, hA, ⟨Xs, S⟩, E⟩
                refine wp_seq_k ?_; intro K hK
                refine wp_seq_k ?_; intro K hK
                refine region_list ?_
                refine list_pure E rfl rfl (by decide) (rn_move E rfl rfl) ?_; clear E a; intro a E
                refine list_pure E rfl rfl (by decide) (rn_move E rfl rfl) ?_; clear E a; intro a E
                refine list_pure E rfl rfl (by decide) (by first | exact rn_len E rfl rfl rfl | exact rn_len_str E rfl rfl rfl | exact rn_len_string E rfl rfl rfl) ?_; clear E a; intro a E
                refine list_pure E rfl rfl (by decide) (rn_lss E rfl rfl rfl) ?_; clear E a; intro a E
                refine wpList_nil ?_
                refine then_k hK ?_; clear hK; clear K
                refine if_bool E rfl (fun hb => ?_) (fun hb => ?_)
                · replace hb := Nrm.nrm hb
                  refine wp_skip ?_
                  refine then_k hK ?_; clear hK; clear K
                  refine wp_seq_k ?_; intro K hK
                  refine wp_block ?_
                  refine wp_seq_k ?_; intro K hK
                  have hjl : j < got.length := by omega
                  obtain ⟨gb, rfl⟩ := hB.addr (by omega)
                  have hbl : ∀ g ∈ y.by_, g.2.length ≤ 1000000000000 := fun g hg => by
                    rw [hby] at hg; unfold byW at hg; split at hg
                    · cases hg
                    · rw [List.mem_singleton.1 hg]; simp only [List.length_take]; omega
                  rw [List.drop_eq_getElem_cons hjl] at hsc
                  obtain ⟨l1, l2, l3, l4, hsc2⟩ := hsc.letgo (A := []) (p := got[j]) (B := got.drop (j + 1)) (txg := 7) (by omega)
                  rw [List.nil_append, ← take_succ_at got hjl] at hsc2
                  rw [hby, byW_add, ← take_succ_at got hjl] at l2
                  rw [hys] at l3
                  refine region_list ?_
                  refine list_pure E rfl rfl (by decide) (rn_move E rfl rfl) ?_; clear E a; intro a E
                  refine list_pure E rfl rfl (by decide) (rn_move E rfl rfl) ?_; clear E a; intro a E
                  refine list_pure E rfl rfl (by decide) (rn_move E rfl rfl) ?_; clear E a; intro a E
                  refine list_pure E rfl rfl (by decide) (by first | exact rn_indexAddr1 E rfl rfl rfl rfl rfl rfl (by omega) | exact rn_indexAddr E rfl rfl rfl rfl rfl rfl (by omega) | exact rn_indexAddr_array E rfl rfl rfl rfl rfl rfl (by omega)) ?_; clear E a; intro a E
                  refine list_pure E rfl rfl (by decide) (rn_load_aggc (vs := [_, _, _]) E rfl rfl rfl rfl (hB.rd.elem (lay := Pl.lay) Pl.lay_len (S.stab.at (by repeat (first | exact mm1 | assumption | apply List.Mem.tail))) hjl)) ?_; clear E a; intro a E
                  refine list_call E rfl rfl (by decide) rfl Try.func10 rfl (by kernel_rfl) rfl (afree_ret p y got[j] 7 (by omega) hbl A hA _ (S.hp.sel (sel_cons (by repeat (first | exact pk1 | apply pick_tail)) (sel_nil _)))) ?_
                  rintro v129 w ⟨rfl, A1, hA1, hT⟩; clear E a; intro a E
                  have S := S.call1 (sel_cons (by repeat (first | exact pk1 | apply pick_tail)) (sel_nil _)) hT
                  refine list_pure E rfl rfl (by decide) (rn_assign E rfl rfl) ?_; clear E a; intro a E
                  refine wpList_nil ?_
                  refine then_k hK ?_; clear hK; clear K
                  refine wp_seq_k ?_; intro K hK
                  obtain ⟨y1, hy1⟩ : ∃ y1, y1 = (y.letgo got[j] 7).1 := ⟨_, rfl⟩
                  rw [← hy1] at hA1 hsc2 l2 l3
                  have hnh : y1.held got[j] = false := hsc2.not_held (by rw [take_succ_at got hjl]; exact List.mem_append_right _ (List.mem_singleton.2 rfl))
                  have e2 : y1.letgo got[j] 7 = (y1, 110) := by simp [Al.letgo, hnh]
                  have hbl2 : ∀ g ∈ y1.by_, g.2.length ≤ 1000000000000 := fun g hg => by
                    rw [l2] at hg; unfold byW at hg; split at hg
                    · cases hg
                    · rw [List.mem_singleton.1 hg]; simp only [List.length_take]; omega
                  refine region_list ?_
                  refine list_pure E rfl rfl (by decide) (rn_move E rfl rfl) ?_; clear E a; intro a E
                  refine list_pure E rfl rfl (by decide) (rn_move E rfl rfl) ?_; clear E a; intro a E
                  refine list_pure E rfl rfl (by decide) (rn_move E rfl rfl) ?_; clear E a; intro a E
                  refine list_pure E rfl rfl (by decide) (by first | exact rn_indexAddr1 E rfl rfl rfl rfl rfl rfl (by omega) | exact rn_indexAddr E rfl rfl rfl rfl rfl rfl (by omega) | exact rn_indexAddr_array E rfl rfl rfl rfl rfl rfl (by omega)) ?_; clear E a; intro a E
                  refine list_pure E rfl rfl (by decide) (rn_load_aggc (vs := [_, _, _]) E rfl rfl rfl rfl (hB.rd.elem (lay := Pl.lay) Pl.lay_len (S.stab.at (by repeat (first | exact mm1 | assumption | apply List.Mem.tail))) hjl)) ?_; clear E a; intro a E
                  refine list_call E rfl rfl (by decide) rfl Try.func10 rfl (by kernel_rfl) rfl (afree_ret p y1 got[j] 7 (by omega) hbl2 A1 hA1 _ (S.hp.sel (sel_cons (by repeat (first | exact pk1 | apply pick_tail)) (sel_nil _)))) ?_
                  rintro v135 w ⟨rfl, A2, hA2, hT⟩; clear E a; intro a E
                  have S := S.call1 (sel_cons (by repeat (first | exact pk1 | apply pick_tail)) (sel_nil _)) hT; rw [e2] at hA2 E; dsimp only at hA2 E
                  refine list_pure E rfl rfl (by decide) (rn_assign E rfl rfl) ?_; clear E a; intro a E
                  refine wpList_nil ?_
                  refine then_k hK ?_; clear hK; clear K
                  refine wp_seq_k ?_; intro K hK
                  refine region_list ?_
                  refine list_pure E rfl rfl (by decide) (rn_move E rfl rfl) ?_; clear E a; intro a E
                  refine list_pure E rfl rfl (by decide) (by first | exact rn_neq E rfl rfl rfl | exact rn_neq_ptr_nil E rfl rfl rfl rfl | exact rn_neq_bool E rfl rfl rfl rfl | exact rn_neq_string E rfl rfl rfl) ?_; clear E a; intro a E
                  refine list_pure E rfl rfl (by decide) (rn_move E rfl rfl) ?_; clear E a; intro a E
                  refine guard_false E (t := 138) rfl ((by rw [l1]; rfl)) (fun hb138 => ?_)
                  refine list_guard_yes E rfl rfl rfl rfl hb138 rfl (by decide) (rn_move E rfl rfl) ?_; clear E a; intro a E
                  refine list_guard_yes E rfl rfl rfl rfl hb138 rfl (by decide) (by first | exact rn_neq E rfl rfl rfl | exact rn_neq_ptr_nil E rfl rfl rfl rfl | exact rn_neq_bool E rfl rfl rfl rfl | exact rn_neq_string E rfl rfl rfl) ?_; clear E a; intro a E
                  refine list_pure E rfl rfl (by decide) (rn_pick_no' E rfl rfl hb138 rfl) ?_; clear E a; intro a E
                  refine wpList_nil ?_
                  refine then_k hK ?_; clear hK; clear K
                  refine if_false' E rfl (rfl) ?_
                  refine wp_skip ?_
                  refine in_normal ?_
                  refine then_k hK ?_; clear hK; clear K
                  refine region_list ?_
                  refine list_pure E rfl rfl (by decide) (rn_move E rfl rfl) ?_; clear E a; intro a E
                  refine list_pure E rfl rfl (by decide) (rn_add E rfl rfl rfl (by first | exact wa_lit (y := 1) (by omega) | exact w_in (by omega) | exact w_inu (by omega) | exact rfl)) ?_; clear E a; intro a E
                  refine list_pure E rfl rfl (by decide) (rn_assign E rfl rfl) ?_; clear E a; intro a E
                  refine wpList_nil ?_
                  refine then_normal ?_
                  exact ⟨_, by omega, j + 1, y1, A2, rfl, by omega, hsc2, l2, l3, hA2, ⟨_, S⟩, E.keep (keep_cons rfl (keep_cons rfl (keep_cons rfl (keep_cons rfl (keep_cons rfl (keep_cons rfl (keep_cons rfl (keep_cons rfl keep_nil))))))))⟩
                · replace hb := Nrm.nrm hb
                  refine wp_exit ?_
                  refine then_exit ?_; clear hK; clear K
                  refine then_exit ?_
                  refine in_exit ?_
                  refine then_k hK ?_; clear hK; clear K
                  refine wp_seq_k ?_; intro K hK
                  refine wp_seq_k ?_; intro K hK
                  obtain rfl : j = got.length := by omega
                  rw [List.drop_length, List.take_length] at hsc
                  rw [List.take_length] at hby
                  have hwt : y.waiting = want * need := by
                    show sumL (y.waits.map manyL) = _
                    rw [hsc.sumW, sum_many hW.many, hgw]
                  have hmul : 0 ≤ (want : Int) * need ∧ (want : Int) * need ≤ 8000 * 1000 := ⟨Int.mul_nonneg (by omega) (by omega), Int.mul_le_mul (by omega) (by omega) (by omega) (by omega)⟩
                  refine region_list ?_
                  refine list_pure E rfl rfl (by decide) (rn_move E rfl rfl) ?_; clear E a; intro a E
                  refine list_call E rfl rfl (by decide) rfl Try.func12 rfl (by kernel_rfl) rfl (awaiting_ret p y A hA _ (S.hp.sel (sel_cons (by repeat (first | exact pk1 | apply pick_tail)) (sel_nil _)))) ?_
                  rintro v143 w ⟨rfl, hT⟩; clear E a; intro a E
                  have S := S.call1 (sel_cons (by repeat (first | exact pk1 | apply pick_tail)) (sel_nil _)) hT
                  refine list_pure E rfl rfl (by decide) (rn_move E rfl rfl) ?_; clear E a; intro a E
                  refine list_pure E rfl rfl (by decide) (rn_move E rfl rfl) ?_; clear E a; intro a E
                  refine list_pure E rfl rfl (by decide) (rn_mul E rfl rfl rfl (w_in (by omega))) ?_; clear E a; intro a E
                  refine list_pure E rfl rfl (by decide) (by first | exact rn_neq E rfl rfl rfl | exact rn_neq_ptr_nil E rfl rfl rfl rfl | exact rn_neq_bool E rfl rfl rfl rfl | exact rn_neq_string E rfl rfl rfl) ?_; clear E a; intro a E
                  refine wpList_nil ?_
                  refine then_k hK ?_; clear hK; clear K
                  refine if_false' E rfl ((by rw [hwt]; simp)) ?_
                  refine wp_skip ?_
                  refine then_k hK ?_; clear hK; clear K
                  refine wp_seq_k ?_; intro K hK
                  refine region_list ?_
                  refine list_pure E rfl rfl (by decide) (rn_move E rfl rfl) ?_; clear E a; intro a E
                  refine list_call E rfl rfl (by decide) rfl Try.func11 rfl (by kernel_rfl) rfl (async_ret p y 8 (by omega) A hA _ (S.hp.sel (sel_cons (by repeat (first | exact pk1 | apply pick_tail)) (sel_nil _)))) ?_
                  rintro v149 w ⟨y8, A8, hs8, hA8, hT⟩; clear E a; intro a E
                  have S := S.call1 (sel_cons (by repeat (first | exact pk1 | apply pick_tail)) (sel_nil _)) hT; obtain rfl := sync8 hby hs8
                  refine wpList_nil ?_
                  refine then_k hK ?_; clear hK; clear K
                  refine wp_seq_k ?_; intro K hK
                  refine region_list ?_
                  refine list_pure E rfl rfl (by decide) (rn_move E rfl rfl) ?_; clear E a; intro a E
                  refine list_call E rfl rfl (by decide) rfl Try.func12 rfl (by kernel_rfl) rfl (awaiting_ret p _ A8 hA8 _ (S.hp.sel (sel_cons (by repeat (first | exact pk1 | apply pick_tail)) (sel_nil _)))) ?_
                  rintro v151 w ⟨rfl, hT⟩; clear E a; intro a E
                  have S := S.call1 (sel_cons (by repeat (first | exact pk1 | apply pick_tail)) (sel_nil _)) hT
                  refine list_pure E rfl rfl (by decide) (rn_assign E rfl rfl) ?_; clear E a; intro a E
                  refine wpList_nil ?_
                  refine then_k hK ?_; clear hK; clear K
                  refine wp_seq_k ?_; intro K hK
                  refine region_list ?_
                  refine list_pure E rfl rfl (by decide) (rn_move E rfl rfl) ?_; clear E a; intro a E
                  refine list_call E rfl rfl (by decide) rfl Try.func11 rfl (by kernel_rfl) rfl (async_ret p _ 9 (by omega) A8 hA8 _ (S.hp.sel (sel_cons (by repeat (first | exact pk1 | apply pick_tail)) (sel_nil _)))) ?_
                  rintro v153 w ⟨y9, A9, hs9, hA9, hT⟩; clear E a; intro a E
                  have S := S.call1 (sel_cons (by repeat (first | exact pk1 | apply pick_tail)) (sel_nil _)) hT; obtain rfl := sync9 hsc hby hs9; rw [hys] at hA9
                  refine wpList_nil ?_
                  refine then_k hK ?_; clear hK; clear K
                  refine wp_seq_k ?_; intro K hK
                  refine region_list ?_
                  refine list_pure E rfl rfl (by decide) (rn_move E rfl rfl) ?_; clear E a; intro a E
                  refine list_pure E rfl rfl (by decide) (rn_move E rfl rfl) ?_; clear E a; intro a E
                  refine list_pure E rfl rfl (by decide) (rn_move E rfl rfl) ?_; clear E a; intro a E
                  refine list_pure E rfl rfl (by decide) (rn_mul E rfl rfl rfl (w_in (by omega))) ?_; clear E a; intro a E
                  refine list_pure E rfl rfl (by decide) (by first | exact rn_neq E rfl rfl rfl | exact rn_neq_ptr_nil E rfl rfl rfl rfl | exact rn_neq_bool E rfl rfl rfl rfl | exact rn_neq_string E rfl rfl rfl) ?_; clear E a; intro a E
                  refine list_pure E rfl rfl (by decide) (rn_move E rfl rfl) ?_; clear E a; intro a E
                  refine guard_false E (t := 159) rfl ((by rw [hwt]; simp)) (fun hb159 => ?_)
                  refine list_guard_yes E rfl rfl rfl rfl hb159 rfl (by decide) (rn_move E rfl rfl) ?_; clear E a; intro a E
                  refine list_guard_wp E rfl rfl rfl rfl hb159 ?_; refine wp_call' E rfl (by decide) rfl Try.func12 rfl (by kernel_rfl) rfl (awaiting_ret p _ A9 hA9 _ (S.hp.sel (sel_cons (by repeat (first | exact pk1 | apply pick_tail)) (sel_nil _)))) ?_
                  rintro v161 w ⟨rfl, hT⟩; clear E a; intro a E
                  have S := S.call1 (sel_cons (by repeat (first | exact pk1 | apply pick_tail)) (sel_nil _)) hT; have hw0 : (Al.new l).waiting = 0 := (sc_new hbad hlo).sumW
                  refine list_guard_yes E rfl rfl rfl rfl hb159 rfl (by decide) (by first | exact rn_neq E rfl rfl rfl | exact rn_neq_ptr_nil E rfl rfl rfl rfl | exact rn_neq_bool E rfl rfl rfl rfl | exact rn_neq_string E rfl rfl rfl) ?_; clear E a; intro a E
                  refine list_pure E rfl rfl (by decide) (rn_pick_no' E rfl rfl hb159 rfl) ?_; clear E a; intro a E
                  refine wpList_nil ?_
                  refine then_k hK ?_; clear hK; clear K
                  refine if_false' E rfl ((by rw [hw0]; rfl)) ?_
                  refine wp_skip ?_
                  refine in_normal ?_
                  refine then_k hK ?_; clear hK; clear K
                  refine region_list ?_
                  refine list_pure E rfl rfl (by decide) (rn_move E rfl rfl) ?_; clear E a; intro a E
                  refine list_pure E rfl rfl (by decide) (rn_add E rfl rfl rfl (by first | exact wa_lit (y := 1) (by omega) | exact w_in (by omega) | exact w_inu (by omega) | exact rfl)) ?_; clear E a; intro a E
                  refine list_pure E rfl rfl (by decide) (rn_assign E rfl rfl) ?_; clear E a; intro a E
                  refine wpList_nil ?_
                  refine then_normal ?_
                  exact ⟨_, by omega, rd + 1, A9, rfl, by omega, hA9, ⟨_, S.front3 (A := A9) (B := O) (C := D) (by repeat (first | exact pk1 | apply pick_tail)) (by repeat (first | exact pk1 | apply pick_tail)) (by repeat (first | exact pk1 | apply pick_tail))⟩, E.keep (keep_cons rfl (keep_cons rfl (keep_cons rfl (keep_cons rfl (keep_cons rfl (keep_cons rfl keep_nil))))))⟩
            · replace hb := Nrm.nrm hb
              refine wp_exit ?_
              refine then_exit ?_; clear hK; clear K
              refine then_exit ?_
              refine in_exit ?_
              refine then_k hK ?_; clear hK; clear K
              refine wp_seq_k ?_; intro K hK
              refine wp_seq_k ?_; intro K hK
              refine region_list ?_
              refine list_pure E rfl rfl (by decide) (rn_assign E rfl rfl) ?_; clear E a; intro a E
              refine wpList_nil ?_
              refine then_k hK ?_; clear hK; clear K
              refine wp_block ?_
              refine wp_loop_ghost (fun (m : Nat) (a : Act) (w' : World) => ∃ i : Nat, m = l.length - i ∧ i ≤ l.length ∧ (∃ Xs, St w0 [O] w' (A :: O :: Xs)) ∧ Fr a 182 [(0, .slice ad l.length c), (9, ptr p), (20, .int .i64 i)]) (l.length - 0) ?_ ?_
              · exact ⟨0, rfl, by omega, ⟨_, S⟩, E.keep (keep_cons rfl (keep_cons rfl (keep_cons rfl keep_nil)))⟩
              clear E; clear a; (try clear S); rintro m a w ⟨i, rfl, hi2, ⟨Xs, S⟩, E⟩
              refine wp_seq_k ?_; intro K hK
              refine wp_seq_k ?_; intro K hK
              refine region_list ?_
              refine list_pure E rfl rfl (by decide) (rn_move E rfl rfl) ?_; clear E a; intro a E
              refine list_pure E rfl rfl (by decide) (rn_move E rfl rfl) ?_; clear E a; intro a E
              refine list_pure E rfl rfl (by decide) (by first | exact rn_len E rfl rfl rfl | exact rn_len_str E rfl rfl rfl | exact rn_len_string E rfl rfl rfl) ?_; clear E a; intro a E
              refine list_pure E rfl rfl (by decide) (rn_lss E rfl rfl rfl) ?_; clear E a; intro a E
              refine wpList_nil ?_
              refine then_k hK ?_; clear hK; clear K
              refine if_bool E rfl (fun hb => ?_) (fun hb => ?_)
              · replace hb := Nrm.nrm hb
                refine wp_skip ?_
                refine then_k hK ?_; clear hK; clear K
                refine wp_seq_k ?_; intro K hK
                refine wp_block ?_
                refine wp_seq_k ?_; intro K hK
                have hil : i < l.length := by omega
                obtain ⟨ab, ao, rfl⟩ := hO.addr (by omega)
                have hrm := new_room hbad hil
                rw [getD_at hil] at hrm
                refine region_mix S (.ofL [(0, 0), (1, 0), (3, 0), (4, 0), (5, 0), (6, 0), (2, 1), (7, 0)]) [O] (fun h => h.sub (by first | (simp; done) | (simp +contextual; done) | (simp [*]; done))) (by kernel_rfl) (by kernel_rfl) ?_
                clear S; intro w S
                refine mix_pure E rfl rfl rfl (by decide) (fun w h => rn_move E rfl rfl) ?_; clear E a; intro a E
                refine mix_pure E rfl rfl rfl (by decide) (fun w h => rn_move E rfl rfl) ?_; clear E a; intro a E
                refine mix_pure E rfl rfl rfl (by decide) (fun w h => rn_move E rfl rfl) ?_; clear E a; intro a E
                refine mix_pure E rfl rfl rfl (by decide) (fun w h => rn_move E rfl rfl) ?_; clear E a; intro a E
                refine mix_pure E rfl rfl rfl (by decide) (fun w h => by first | exact rn_indexAddr1 E rfl rfl rfl rfl rfl rfl (by omega) | exact rn_indexAddr E rfl rfl rfl rfl rfl rfl (by omega) | exact rn_indexAddr_array E rfl rfl rfl rfl rfl rfl (by omega)) ?_; clear E a; intro a E
                refine mix_pure E rfl rfl rfl (by decide) (fun w h => rn_loadc E rfl rfl rfl (hO.at1 (h.at (by repeat (first | exact mm1 | assumption | apply List.Mem.tail))) hil)) ?_; clear E a; intro a E
                refine mix_call E rfl rfl rfl (by decide) rfl Try.func13 rfl (by kernel_rfl) rfl (aroom_ret p _ i (by omega) A hA _ (S.hp.sel (sel_cons (by repeat (first | exact pk1 | apply pick_tail)) (sel_nil _)))) ?_
                rintro v172 w ⟨rfl, hT⟩; clear E a; intro a E
                have S := S.call1 (sel_cons (by repeat (first | exact pk1 | apply pick_tail)) (sel_nil _)) hT; rw [hrm] at E
                refine ⟨S.stab.sub (by first | (simp; done) | (simp +contextual; done) | (simp [*]; done)), ?_⟩
                refine mix_pure E rfl rfl rfl (by decide) (fun w h => by first | exact rn_neq E rfl rfl rfl | exact rn_neq_ptr_nil E rfl rfl rfl rfl | exact rn_neq_bool E rfl rfl rfl rfl | exact rn_neq_string E rfl rfl rfl) ?_; clear E a; intro a E
                refine mix_nil ?_
                refine then_k hK ?_; clear hK; clear K
                refine if_false' E rfl ((by simp)) ?_
                refine wp_skip ?_
                refine in_normal ?_
                refine then_k hK ?_; clear hK; clear K
                refine region_list ?_
                refine list_pure E rfl rfl (by decide) (rn_move E rfl rfl) ?_; clear E a; intro a E
                refine list_pure E rfl rfl (by decide) (rn_add E rfl rfl rfl (by first | exact wa_lit (y := 1) (by omega) | exact w_in (by omega) | exact w_inu (by omega) | exact rfl)) ?_; clear E a; intro a E
                refine list_pure E rfl rfl (by decide) (rn_assign E rfl rfl) ?_; clear E a; intro a E
                refine wpList_nil ?_
                refine then_normal ?_
                exact ⟨_, by omega, i + 1, rfl, by omega, ⟨_, S⟩, E.keep (keep_cons rfl (keep_cons rfl (keep_cons rfl keep_nil)))⟩
              · replace hb := Nrm.nrm hb
                refine wp_exit ?_
                refine then_exit ?_; clear hK; clear K
                refine then_exit ?_
                refine in_exit ?_
                refine then_k hK ?_; clear hK; clear K
                refine wp_seq_k ?_; intro K hK
                refine region_list ?_
                refine list_pure E rfl rfl (by decide) (rn_move E rfl rfl) ?_; clear E a; intro a E
                refine list_call E rfl rfl (by decide) rfl Try.func14 rfl (by kernel_rfl) rfl (ataken_ret p _ A hA _ (S.hp.sel (sel_cons (by repeat (first | exact pk1 | apply pick_tail)) (sel_nil _)))) ?_
                rintro v179 w ⟨T, hT1, hT⟩; clear E a; intro a E
                rw [new_taken hbad] at hT1; obtain ⟨t1, t2, rfl⟩ := hT1.slice; have S := S.call2 (sel_cons (by repeat (first | exact pk1 | apply pick_tail)) (sel_nil _)) hT
                refine list_pure E rfl rfl (by decide) (by first | exact rn_len E rfl rfl rfl | exact rn_len_str E rfl rfl rfl | exact rn_len_string E rfl rfl rfl) ?_; clear E a; intro a E
                refine list_pure E rfl rfl (by decide) (by first | exact rn_eql E rfl rfl rfl | exact rn_eql_ptr_nil E rfl rfl rfl rfl | exact rn_eql_bool E rfl rfl rfl rfl | exact rn_eql_string E rfl rfl rfl) ?_; clear E a; intro a E
                refine list_pure E rfl rfl (by decide) (rn_assign E rfl rfl) ?_; clear E a; intro a E
                refine wpList_nil ?_
                refine then_k hK ?_; clear hK; clear K
                refine wp_ret ?_
                refine ret1 E rfl rfl ?_
                exact ⟨_, rfl, rfl, (S.only (Bs := [O]) (sel_cons (by repeat (first | exact pk1 | apply pick_tail)) (sel_nil _))).tr⟩
  -- unused annotation: if r2@x
  -- unused annotation: if r9@x

theorem flat_ints (l : List Int) : (l.flatMap fun z => [Value.int .i64 z]) = l.map iv := by
  induction l with
  | nil => rfl
  | cons a r ih => rw [List.flatMap_cons, ih]; rfl
theorem whole_row (O : Chunk) (v : Value) (l : List Int) (hO : Rd O 1 v l.length (l.flatMap fun z => [Value.int .i64 z])) (_hg : ∀ z ∈ l, -9223372036854775808 ≤ z ∧ z ≤ 9223372036854775807) (hl : l.length ≤ 140737488351232) (need : Int) (_hn : -9223372036854775808 ≤ need ∧ need ≤ 9223372036854775807) (w0 : World) (H : Hp w0 [O]) :
    Ret Try.prog 4 #[v, .int .i64 need] w0 fun u w' => u = .bool true ∧ Trs w0 w' [O] [O] := by
  rw [flat_ints] at hO
  exact whole_walk O v l hO (by omega) need w0 H
end Go.Proofs.Ytenhebjhoicpjaa
