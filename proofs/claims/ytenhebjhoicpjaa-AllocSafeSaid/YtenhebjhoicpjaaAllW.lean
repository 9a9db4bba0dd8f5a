/-
  AllocSafe, the walk.
-/
import Derived.Test.YtenhebjhoicpjaaAllS
namespace Go.Proofs.Ytenhebjhoicpjaa
open Go.Sl
set_option maxRecDepth 10000

theorem safe_walk (O : Chunk) (size : Int) (v : Value) (l : List Int) (hO : Rd O 1 v l.length (l.map iv)) (hlm : l.length ≤ 140737488355328) (hg : ∀ x ∈ l, x ≤ 9223372036854775807) (u' : Value) (d : List Int) (hO2 : Rd O 1 u' d.length (d.map iv)) (w0 : World) (H : Hp w0 [O]) :
    Ret Try.prog 3 #[.int .i64 size, v, u'] w0 fun u w' => u = .bool true ∧ Trs w0 w' [O] [O] := by
  have S := St.begin H
  obtain ⟨ad, c, rfl⟩ := hO.slice
  obtain ⟨ad2, c2, rfl⟩ := hO2.slice
  refine enter3 186 Try.func3 rfl rfl (by decide) ?_; intro a E
  refine wp_seq_k ?_; intro K hK
  refine region_list ?_
  refine list_pure E rfl rfl (by decide) (rn_assign E rfl rfl) ?_; clear E a; intro a E
  refine wpList_nil ?_
  refine then_k hK ?_; clear hK; clear K
  refine wp_seq_k ?_; intro K hK
  refine region_list ?_
  refine list_call E rfl rfl (by decide) rfl Try.func6 rfl (by kernel_rfl) rfl (awake_ret _) ?_
  rintro v23 w ⟨rfl, hT⟩; clear E a; intro a E
  have S := S.quiet hT
  refine list_pure E rfl rfl (by decide) (rn_assign E rfl rfl) ?_; clear E a; intro a E
  refine wpList_nil ?_
  refine then_k hK ?_; clear hK; clear K
  refine wp_seq_k ?_; intro K hK
  refine wp_seq_k ?_; intro K hK
  refine region_list ?_
  refine list_pure E rfl rfl (by decide) (rn_move E rfl rfl) ?_; clear E a; intro a E
  refine list_pure E rfl rfl (by decide) (rn_lss E rfl rfl rfl) ?_; clear E a; intro a E
  refine list_pure E rfl rfl (by decide) (rn_move E rfl rfl) ?_; clear E a; intro a E
  refine guard_split E (t := 26) rfl (fun hb26 => ?_) (fun hb26 => ?_)
  · have hb26n := hb26; replace hb26n := Nrm.nrm hb26n
    skip
    refine list_guard_no E rfl rfl rfl rfl hb26 rfl (by decide) ?_; clear E a; intro a E
    refine list_guard_no E rfl rfl rfl rfl hb26 rfl (by decide) ?_; clear E a; intro a E
    refine list_pure E rfl rfl (by decide) (rn_pick_yes' E rfl rfl hb26 rfl) ?_; clear E a; intro a E
    refine wpList_nil ?_
    refine then_k hK ?_; clear hK; clear K
    refine if_true' E rfl rfl ?_
    refine wp_seq_k ?_; intro K hK
    refine region_list ?_
    refine list_pure E rfl rfl (by decide) (rn_move E rfl rfl) ?_; clear E a; intro a E
    refine list_pure E rfl rfl (by decide) (rn_assign E rfl rfl) ?_; clear E a; intro a E
    refine wpList_nil ?_
    refine then_k hK ?_; clear hK; clear K
    refine wp_ret ?_
    refine then_ret ?_; clear hK; clear K
    refine ret1 E rfl rfl ?_
    exact ⟨_, rfl, rfl, S.tr⟩
  · have hb26n := hb26; replace hb26n := Nrm.nrm hb26n
    skip
    refine list_guard_yes E rfl rfl rfl rfl hb26 rfl (by decide) (rn_move E rfl rfl) ?_; clear E a; intro a E
    refine list_guard_yes E rfl rfl rfl rfl hb26 rfl (by decide) (rn_gtr E rfl rfl rfl) ?_; clear E a; intro a E
    refine list_pure E rfl rfl (by decide) (rn_pick_no' E rfl rfl hb26 rfl) ?_; clear E a; intro a E
    refine wpList_nil ?_
    refine then_k hK ?_; clear hK; clear K
    refine if_bool E rfl (fun hb => ?_) (fun hb => ?_)
    · replace hb := Nrm.nrm hb
      refine wp_seq_k ?_; intro K hK
      refine region_list ?_
      refine list_pure E rfl rfl (by decide) (rn_move E rfl rfl) ?_; clear E a; intro a E
      refine list_pure E rfl rfl (by decide) (rn_assign E rfl rfl) ?_; clear E a; intro a E
      refine wpList_nil ?_
      refine then_k hK ?_; clear hK; clear K
      refine wp_ret ?_
      refine then_ret ?_; clear hK; clear K
      refine ret1 E rfl rfl ?_
      exact ⟨_, rfl, rfl, S.tr⟩
    · replace hb := Nrm.nrm hb
      refine wp_skip ?_
      refine then_k hK ?_; clear hK; clear K
      refine wp_seq_k ?_; intro K hK
      have hbad := single_bad (size := size) (by omega)
      have hst := start_nil hbad
      have S := S.addNil
      refine region_list ?_
      refine list_pure E rfl rfl (by decide) (rn_move E rfl rfl) ?_; clear E a; intro a E
      refine list_wp rfl (wp_bslice (cells := [_]) E S rfl rfl (by decide) rfl rfl rfl rfl rfl (by decide) rfl ?_); clear E S a; intro a w b33 E S
      refine list_call E rfl rfl (by decide) rfl Try.func7 rfl (by kernel_rfl) rfl (anew_ret [size] [(b33, cel [.int .i64 size] 3)] _ (rd1i _ _ _) (by simp) [] [] _ (Rd.nil [] 3) (by simp) _ (S.hp.sel (sel_cons (by repeat (first | exact pk1 | apply pick_tail)) (sel_cons (by repeat (first | exact pk1 | apply pick_tail)) (sel_nil _))))) ?_
      rintro v34 w hN; clear E a; intro a E
      obtain ⟨y, p, A, h, rfl, hA, hT⟩ := hN.resolve_left (fun z => by rw [hst] at z; cases z.1); rw [hst] at h; cases h; have S := S.call (sel_cons (by repeat (first | exact pk1 | apply pick_tail)) (sel_cons (by repeat (first | exact pk1 | apply pick_tail)) (sel_nil _))) hT
      refine list_pure E rfl rfl (by decide) (rn_move E rfl rfl) ?_; clear E a; intro a E
      refine list_pure E rfl rfl (by decide) (rn_extract E rfl rfl rfl) ?_; clear E a; intro a E
      refine list_pure E rfl rfl (by decide) (rn_extract E rfl rfl rfl) ?_; clear E a; intro a E
      refine list_pure E rfl rfl (by decide) (rn_assign E rfl rfl) ?_; clear E a; intro a E
      refine list_pure E rfl rfl (by decide) (rn_assign E rfl rfl) ?_; clear E a; intro a E
      refine wpList_nil ?_
      refine then_k hK ?_; clear hK; clear K
      refine wp_seq_k ?_; intro K hK
      refine wp_seq_k ?_; intro K hK
      refine region_list ?_
      refine list_pure E rfl rfl (by decide) (rn_move E rfl rfl) ?_; clear E a; intro a E
      refine list_pure E rfl rfl (by decide) (by first | exact rn_eql E rfl rfl rfl | exact rn_eql_ptr_nil E rfl rfl rfl rfl | exact rn_eql_bool E rfl rfl rfl rfl | exact rn_eql_string E rfl rfl rfl) ?_; clear E a; intro a E
      refine list_pure E rfl rfl (by decide) (rn_move E rfl rfl) ?_; clear E a; intro a E
      refine guard_false E (t := 39) rfl (rfl) (fun hb39 => ?_)
      refine list_guard_yes E rfl rfl rfl rfl hb39 rfl (by decide) (rn_move E rfl rfl) ?_; clear E a; intro a E
      refine list_guard_yes E rfl rfl rfl rfl hb39 rfl (by decide) (by first | exact rn_neq E rfl rfl rfl | exact rn_neq_ptr_nil E rfl rfl rfl rfl | exact rn_neq_bool E rfl rfl rfl rfl | exact rn_neq_string E rfl rfl rfl) ?_; clear E a; intro a E
      refine list_pure E rfl rfl (by decide) (rn_pick_no' E rfl rfl hb39 rfl) ?_; clear E a; intro a E
      refine list_pure E rfl rfl (by decide) (rn_move E rfl rfl) ?_; clear E a; intro a E
      refine guard_false E (t := 43) rfl (rfl) (fun hb43 => ?_)
      refine list_guard_yes E rfl rfl rfl rfl hb43 rfl (by decide) (rn_move E rfl rfl) ?_; clear E a; intro a E
      refine list_guard_yes E rfl rfl rfl rfl hb43 rfl (by decide) (rn_not E rfl rfl) ?_; clear E a; intro a E
      refine list_pure E rfl rfl (by decide) (rn_pick_no' E rfl rfl hb43 rfl) ?_; clear E a; intro a E
      refine wpList_nil ?_
      refine then_k hK ?_; clear hK; clear K
      refine if_false' E rfl (rfl) ?_
      refine wp_skip ?_
      refine then_k hK ?_; clear hK; clear K
      refine wp_seq_k ?_; intro K hK
      replace E := E.keep (e' := [(0, _), (1, _), (2, _), (6, _), (8, _)]) (keep_cons rfl (keep_cons rfl (keep_cons rfl (keep_cons rfl (keep_cons rfl (keep_nil))))))
      refine region_list ?_
      refine list_pure E rfl rfl (by decide) (rn_assign E rfl rfl) ?_; clear E a; intro a E
      refine wpList_nil ?_
      refine then_k hK ?_; clear hK; clear K
      refine wp_seq_k ?_; intro K hK
      refine region_list ?_
      refine list_pure E rfl rfl (by decide) (rn_assign E rfl rfl) ?_; clear E a; intro a E
      refine wpList_nil ?_
      refine then_k hK ?_; clear hK; clear K
      refine wp_seq_k ?_; intro K hK
      refine region_list ?_
      refine list_pure E rfl rfl (by decide) (rn_assign E rfl rfl) ?_; clear E a; intro a E
      refine wpList_nil ?_
      refine then_k hK ?_; clear hK; clear K
      refine wp_seq_k ?_; intro K hK
      refine wp_seq_k ?_; intro K hK
      refine region_list ?_
      refine list_pure E rfl rfl (by decide) (rn_assign E rfl rfl) ?_; clear E a; intro a E
      refine wpList_nil ?_
      refine then_k hK ?_; clear hK; clear K
      refine wp_block ?_
      refine wp_loop_ghost (fun (m : Nat) (a : Act) (w' : World) => ∃ (i : Nat) (y : Al) (A : Chunk) (held old fresh : List Pl) (Bh Bo Bf : Chunk) (vh vo vf : Value), m = l.length - i ∧ i ≤ l.length ∧ Sfe size i y held old fresh ∧ AlC p y A ∧ PlB Bh vh held ∧ PlB Bo vo old ∧ PlB Bf vf fresh ∧ (∃ Xs, St w0 [O] w' (A :: Bh :: Bo :: Bf :: O :: Xs)) ∧ Fr a 186 [(0, .int .i64 size), (1, .slice ad l.length c), (2, .slice ad2 d.length c2), (8, ptr p), (10, vh), (11, vo), (12, vf), (13, .int .i64 i)]) (l.length - 0) ?_ ?_
      · exact ⟨0, Al.new [size], A, [], [], [], [], [], [], _, _, _, rfl, by omega, ⟨by simpa using sc_new hbad (by simp; omega), rfl, rfl, by simp, by simp⟩, hA, Buf.nil _ _, Buf.nil _ _, Buf.nil _ _, ⟨_, S.addNil.addNil.addNil.front5 (A := A) (B := []) (C := []) (D := []) (F := O) (by repeat (first | exact pk1 | apply pick_tail)) (by repeat (first | exact pk1 | apply pick_tail)) (by repeat (first | exact pk1 | apply pick_tail)) (by repeat (first | exact pk1 | apply pick_tail)) (by repeat (first | exact pk1 | apply pick_tail))⟩, E.keep (keep_cons rfl (keep_cons rfl (keep_cons rfl (keep_cons rfl (keep_cons rfl (keep_cons rfl (keep_cons rfl (keep_cons rfl keep_nil))))))))⟩
      clear E; clear a; (try clear S); rintro m a w ⟨i, y, A, held, old, fresh, Bh, Bo, Bf, vh, vo, vf, rfl, hi, hS, hA, hBh, hBo, hBf, ⟨Xs, S⟩, E⟩
      refine wp_seq_k ?_; intro K hK
      refine wp_seq_k ?_; intro K hK
      refine region_list ?_
      refine list_pure E rfl rfl (by decide) (rn_move E rfl rfl) ?_; clear E a; intro a E
      refine list_pure E rfl rfl (by decide) (rn_move E rfl rfl) ?_; clear E a; intro a E
      refine list_pure E rfl rfl (by decide) (by first | exact rn_len E rfl rfl rfl | exact rn_len_str E rfl rfl rfl | exact rn_len_string E rfl rfl rfl) ?_; clear E a; intro a E
      refine list_pure E rfl rfl (by decide) (rn_lss E rfl rfl rfl) ?_; clear E a; intro a E
      refine wpList_nil ?_
      refine then_k hK ?_; clear hK; clear K
      refine if_bool E rfl (fun hb => ?_) (fun hb => ?_)
      · replace hb := Nrm.nrm hb
        refine wp_skip ?_
        refine then_k hK ?_; clear hK; clear K
        refine wp_seq_k ?_; intro K hK
        refine wp_block ?_
        refine wp_seq_k ?_; intro K hK
        refine region_list ?_
        refine list_pure E rfl rfl (by decide) (rn_move E rfl rfl) ?_; clear E a; intro a E
        refine list_pure E rfl rfl (by decide) (rn_add E rfl rfl rfl (by first | exact wa_lit (y := 1) (by omega) | exact w_in (by omega) | exact w_inu (by omega) | exact rfl)) ?_; clear E a; intro a E
        refine list_pure E rfl rfl (by decide) (by first | exact rn_convert E rfl rfl rfl rfl (by first | exact wu8 _ | exact w_nat (by omega) | exact w_natu (by omega) | exact w_in (by omega) | exact w_inu (by omega) | exact rfl) | exact rn_string E rfl rfl rfl rfl rfl (by assumption) (S.stab.at (by simp))) ?_; clear E a; intro a E
        refine list_pure E rfl rfl (by decide) (rn_assign E rfl rfl) ?_; clear E a; intro a E
        refine wpList_nil ?_
        refine then_k hK ?_; clear hK; clear K
        refine wp_seq_k ?_; intro K hK
        have hil : i < l.length := by omega
        obtain ⟨ab, ao, rfl⟩ := hO.addr (by omega)
        have hhl := hS.hl (by omega)
        refine region_list ?_
        refine list_pure E rfl rfl (by decide) (rn_move E rfl rfl) ?_; clear E a; intro a E
        refine list_pure E rfl rfl (by decide) (rn_move E rfl rfl) ?_; clear E a; intro a E
        refine list_pure E rfl rfl (by decide) (rn_move E rfl rfl) ?_; clear E a; intro a E
        refine list_pure E rfl rfl (by decide) (by first | exact rn_indexAddr1 E rfl rfl rfl rfl rfl rfl (by omega) | exact rn_indexAddr E rfl rfl rfl rfl rfl rfl (by omega) | exact rn_indexAddr_array E rfl rfl rfl rfl rfl rfl (by omega)) ?_; clear E a; intro a E
        refine list_pure E rfl rfl (by decide) (rn_loadc E rfl rfl rfl (hO.at1 (S.stab.at (by repeat (first | exact mm1 | assumption | apply List.Mem.tail))) hil)) ?_; clear E a; intro a E
        refine list_wp rfl (wp_bslice (cells := [_]) E S rfl rfl (by decide) rfl rfl rfl rfl rfl (by decide) rfl ?_); clear E S a; intro a w b62 E S
        refine list_call E rfl rfl (by decide) rfl Try.func8 rfl (by kernel_rfl) rfl (take_ret p y A hA [(b62, cel [.int .i64 l[i]] 3)] _ [l[i]] (by simp) (by simp; exact hg _ (List.getElem_mem _)) (rd1i _ _ _) _ (S.hp.sel (sel_cons (by repeat (first | exact pk1 | apply pick_tail)) (sel_cons (by repeat (first | exact pk1 | apply pick_tail)) (sel_nil _))))) ?_
        rintro v63 w ⟨rfl, A1, hA1, hT⟩; clear E a; intro a E
        have S := S.call2 (sel_cons (by repeat (first | exact pk1 | apply pick_tail)) (sel_cons (by repeat (first | exact pk1 | apply pick_tail)) (sel_nil _))) hT; have hTk := hS.take l[i]
        refine list_pure E rfl rfl (by decide) (rn_move E rfl rfl) ?_; clear E a; intro a E
        refine list_pure E rfl rfl (by decide) (rn_extract E rfl rfl rfl) ?_; clear E a; intro a E
        refine list_pure E rfl rfl (by decide) (rn_extract E rfl rfl rfl) ?_; clear E a; intro a E
        refine list_wp rfl (wp_alloc E S rfl rfl (by decide) rfl rfl rfl ?_); clear E S a; intro a w b15 E S
        refine list_wp rfl (wp_storeN E S rfl rfl rfl rfl (by simp [Value.oneCell']) rfl (by repeat (first | exact pk1 | apply pick_tail)) (by simp) ?_); clear E S a; intro a w E S; simp only [List.take_succ_cons, List.take_zero, List.drop_succ_cons, List.drop_zero, List.cons_append, List.nil_append, List.append_nil, List.length_cons, List.length_nil, Nat.zero_add, Nat.add_zero] at S
        refine list_pure E rfl rfl (by decide) (rn_assign E rfl rfl) ?_; clear E a; intro a E
        refine wpList_nil ?_
        refine then_k hK ?_; clear hK; clear K
        refine wp_seq_k ?_; intro K hK
        refine wp_seq_k ?_; intro K hK
        obtain ⟨y1, q, er, htk⟩ : ∃ y1 q er, y.take [l[i]] = (y1, q, er) := ⟨_, _, _, rfl⟩
        rw [htk] at hA1 E S hTk
        dsimp only at hA1 E S hTk
        refine region_list ?_
        refine list_pure E rfl rfl (by decide) (rn_move E rfl rfl) ?_; clear E a; intro a E
        refine list_pure E rfl rfl (by decide) (by first | exact rn_eql E rfl rfl rfl | exact rn_eql_ptr_nil E rfl rfl rfl rfl | exact rn_eql_bool E rfl rfl rfl rfl | exact rn_eql_string E rfl rfl rfl) ?_; clear E a; intro a E
        refine wpList_nil ?_
        refine then_k hK ?_; clear hK; clear K
        refine wp_join (fun (a : Act) (w' : World) => ∃ (y2 : Al) (A2 : Chunk) (held2 : List Pl) (Bh2 : Chunk) (vh2 : Value), Sfe size i y2 held2 old fresh ∧ AlC p y2 A2 ∧ PlB Bh2 vh2 held2 ∧ (∃ Xs, St w0 [O] w' (A2 :: Bh2 :: Bo :: Bf :: O :: Xs)) ∧ Fr a 186 [(0, .int .i64 size), (1, .slice (some ⟨ab, ao, none⟩) l.length c), (2, .slice ad2 d.length c2), (8, ptr p), (10, vh2), (11, vo), (12, vf), (13, .int .i64 i), (14, .int .u64 (i + 1 : Nat))]) ?_ ?_
        · skip
          refine if_bool E rfl (fun hb => ?_) (fun hb => ?_)
          · replace hb := Nrm.nrm hb
            refine wp_seq_k ?_; intro K hK
            refine wp_seq_k ?_; intro K hK
            obtain ⟨h1', h2', rfl⟩ := hBh.slice
            obtain ⟨o1', o2', rfl⟩ := hBo.slice
            obtain ⟨f1', f2', rfl⟩ := hBf.slice
            have ho1 := hS.o1
            have hf1 := hS.f1
            obtain ⟨-, hS2, hqm, hq0, hqn, hqs, hap⟩ := hTk.resolve_left (fun z => z.1 hb)
            have S := S.front6 (A := A1) (B := [(b15, _)]) (C := Bh) (D := Bo) (F := Bf) (G := O) (by repeat (first | exact pk1 | apply pick_tail)) (by repeat (first | exact pk1 | apply pick_tail)) (by repeat (first | exact pk1 | apply pick_tail)) (by repeat (first | exact pk1 | apply pick_tail)) (by repeat (first | exact pk1 | apply pick_tail)) (by repeat (first | exact pk1 | apply pick_tail))
            refine region_list ?_
            refine list_pure E rfl rfl (by decide) (rn_assign E rfl rfl) ?_; clear E a; intro a E
            refine wpList_nil ?_
            refine then_k hK ?_; clear hK; clear K
            refine wp_block ?_
            refine wp_loop_ghost (fun (m : Nat) (a : Act) (w' : World) => ∃ j : Nat, m = held.length - j ∧ j ≤ held.length ∧ (∃ Xs, St w0 [O] w' (A1 :: [(b15, cel [.int .i64 q.top, .int .i64 q.sp.at_, .int .i64 q.sp.many] 33)] :: Bh :: Bo :: Bf :: O :: Xs)) ∧ Fr a 186 [(0, .int .i64 size), (1, .slice (some ⟨ab, ao, none⟩) l.length c), (2, .slice ad2 d.length c2), (8, ptr p), (10, .slice h1' held.length h2'), (11, .slice o1' old.length o2'), (12, .slice f1' fresh.length f2'), (13, .int .i64 i), (14, .int .u64 (i + 1 : Nat)), (15, ptr b15), (17, .int .i64 j)]) (held.length - 0) ?_ ?_
            · exact ⟨0, rfl, by omega, ⟨_, S⟩, E.keep (keep_cons rfl (keep_cons rfl (keep_cons rfl (keep_cons rfl (keep_cons rfl (keep_cons rfl (keep_cons rfl (keep_cons rfl (keep_cons rfl (keep_cons rfl (keep_cons rfl keep_nil)))))))))))⟩
            clear E; clear a; (try clear S); rintro m a w ⟨j, rfl, hj, ⟨Xs, S⟩, E⟩
            refine wp_seq_k ?_; intro K hK
            refine wp_seq_k ?_; intro K hK
            refine region_list ?_
            refine list_pure E rfl rfl (by decide) (rn_move E rfl rfl) ?_; clear E a; intro a E
            refine list_pure E rfl rfl (by decide) (rn_move E rfl rfl) ?_; clear E a; intro a E
            refine list_pure E rfl rfl (by decide) (by first | exact rn_len E rfl rfl rfl | exact rn_len_str E rfl rfl rfl | exact rn_len_string E rfl rfl rfl) ?_; clear E a; intro a E
            refine list_pure E rfl rfl (by decide) (rn_lss E rfl rfl rfl) ?_; clear E a; intro a E
            refine wpList_nil ?_
            refine then_k hK ?_; clear hK; clear K
            refine if_bool E rfl (fun hb => ?_) (fun hb => ?_)
            · replace hb := Nrm.nrm hb
              refine wp_skip ?_
              refine then_k hK ?_; clear hK; clear K
              refine wp_seq_k ?_; intro K hK
              refine wp_block ?_
              refine wp_seq_k ?_; intro K hK
              have hjl : j < held.length := by omega
              obtain ⟨cb, rfl⟩ := hBh.addr (by omega)
              have hBb := hBh.rd
              obtain ⟨hm1, hm2⟩ := hap held[j] (by simp)
              refine region_mix S (.ofL [(0, 0), (1, 0), (2, 0), (3, 0), (4, 0), (5, 3)]) [[(b15, cel [.int .i64 q.top, .int .i64 q.sp.at_, .int .i64 q.sp.many] 33)], Bh] (fun h => h.sub (by first | (simp; done) | (simp +contextual; done) | (simp [*]; done))) (by kernel_rfl) (by kernel_rfl) ?_
              clear S; intro w S
              refine mix_pure E rfl rfl rfl (by decide) (fun w h => rn_load_blk (vs := [_, _, _]) E rfl rfl rfl (h.one (by repeat (first | exact mm1 | assumption | apply List.Mem.tail))) rfl rfl) ?_; clear E a; intro a E
              refine mix_pure E rfl rfl rfl (by decide) (fun w h => rn_move E rfl rfl) ?_; clear E a; intro a E
              refine mix_pure E rfl rfl rfl (by decide) (fun w h => rn_move E rfl rfl) ?_; clear E a; intro a E
              refine mix_pure E rfl rfl rfl (by decide) (fun w h => by first | exact rn_indexAddr1 E rfl rfl rfl rfl rfl rfl (by omega) | exact rn_indexAddr E rfl rfl rfl rfl rfl rfl (by omega) | exact rn_indexAddr_array E rfl rfl rfl rfl rfl rfl (by omega)) ?_; clear E a; intro a E
              refine mix_pure E rfl rfl rfl (by decide) (fun w h => rn_load_aggc (vs := [_, _, _]) E rfl rfl rfl rfl (hBb.elem (lay := Pl.lay) Pl.lay_len (h.at (by repeat (first | exact mm1 | assumption | apply List.Mem.tail))) hjl)) ?_; clear E a; intro a E
              refine mix_call3 E rfl rfl rfl (by decide) rfl Try.func9 rfl (by kernel_rfl) rfl (meets2_ret q held[j] hqm hm1 _ _ S.hp) ?_
              rintro v79 w ⟨rfl, hT⟩; clear E a; intro a E
              have S := S.all hT; rw [hm2] at E
              refine mix_nil ?_
              refine then_k hK ?_; clear hK; clear K
              refine if_false' E rfl (rfl) ?_
              refine wp_skip ?_
              refine in_normal ?_
              refine then_k hK ?_; clear hK; clear K
              refine region_list ?_
              refine list_pure E rfl rfl (by decide) (rn_move E rfl rfl) ?_; clear E a; intro a E
              refine list_pure E rfl rfl (by decide) (rn_add E rfl rfl rfl (by first | exact wa_lit (y := 1) (by omega) | exact w_in (by omega) | exact w_inu (by omega) | exact rfl)) ?_; clear E a; intro a E
              refine list_pure E rfl rfl (by decide) (rn_assign E rfl rfl) ?_; clear E a; intro a E
              refine wpList_nil ?_
              refine then_normal ?_
              exact ⟨_, by omega, j + 1, rfl, by omega, ⟨_, S⟩, E.keep (keep_cons rfl (keep_cons rfl (keep_cons rfl (keep_cons rfl (keep_cons rfl (keep_cons rfl (keep_cons rfl (keep_cons rfl (keep_cons rfl (keep_cons rfl (keep_cons rfl keep_nil)))))))))))⟩
            · replace hb := Nrm.nrm hb
              refine wp_exit ?_
              refine then_exit ?_; clear hK; clear K
              refine then_exit ?_
              refine in_exit ?_
              refine then_k hK ?_; clear hK; clear K
              refine wp_seq_k ?_; intro K hK
              refine wp_seq_k ?_; intro K hK
              refine region_list ?_
              refine list_pure E rfl rfl (by decide) (rn_assign E rfl rfl) ?_; clear E a; intro a E
              refine wpList_nil ?_
              refine then_k hK ?_; clear hK; clear K
              refine wp_block ?_
              refine wp_loop_ghost (fun (m : Nat) (a : Act) (w' : World) => ∃ j : Nat, m = old.length - j ∧ j ≤ old.length ∧ (∃ Xs, St w0 [O] w' (A1 :: [(b15, cel [.int .i64 q.top, .int .i64 q.sp.at_, .int .i64 q.sp.many] 33)] :: Bh :: Bo :: Bf :: O :: Xs)) ∧ Fr a 186 [(0, .int .i64 size), (1, .slice (some ⟨ab, ao, none⟩) l.length c), (2, .slice ad2 d.length c2), (8, ptr p), (10, .slice h1' held.length h2'), (11, .slice o1' old.length o2'), (12, .slice f1' fresh.length f2'), (13, .int .i64 i), (14, .int .u64 (i + 1 : Nat)), (15, ptr b15), (18, .int .i64 j)]) (old.length - 0) ?_ ?_
              · exact ⟨0, rfl, by omega, ⟨_, S⟩, E.keep (keep_cons rfl (keep_cons rfl (keep_cons rfl (keep_cons rfl (keep_cons rfl (keep_cons rfl (keep_cons rfl (keep_cons rfl (keep_cons rfl (keep_cons rfl (keep_cons rfl keep_nil)))))))))))⟩
              clear E; clear a; (try clear S); rintro m a w ⟨j, rfl, hj, ⟨Xs, S⟩, E⟩
              refine wp_seq_k ?_; intro K hK
              refine wp_seq_k ?_; intro K hK
              refine region_list ?_
              refine list_pure E rfl rfl (by decide) (rn_move E rfl rfl) ?_; clear E a; intro a E
              refine list_pure E rfl rfl (by decide) (rn_move E rfl rfl) ?_; clear E a; intro a E
              refine list_pure E rfl rfl (by decide) (by first | exact rn_len E rfl rfl rfl | exact rn_len_str E rfl rfl rfl | exact rn_len_string E rfl rfl rfl) ?_; clear E a; intro a E
              refine list_pure E rfl rfl (by decide) (rn_lss E rfl rfl rfl) ?_; clear E a; intro a E
              refine wpList_nil ?_
              refine then_k hK ?_; clear hK; clear K
              refine if_bool E rfl (fun hb => ?_) (fun hb => ?_)
              · replace hb := Nrm.nrm hb
                refine wp_skip ?_
                refine then_k hK ?_; clear hK; clear K
                refine wp_seq_k ?_; intro K hK
                refine wp_block ?_
                refine wp_seq_k ?_; intro K hK
                have hjl : j < old.length := by omega
                obtain ⟨cb, rfl⟩ := hBo.addr (by omega)
                have hBb := hBo.rd
                obtain ⟨hm1, hm2⟩ := hap old[j] (by simp)
                refine region_mix S (.ofL [(0, 0), (1, 0), (2, 0), (3, 0), (4, 0), (5, 3)]) [[(b15, cel [.int .i64 q.top, .int .i64 q.sp.at_, .int .i64 q.sp.many] 33)], Bo] (fun h => h.sub (by first | (simp; done) | (simp +contextual; done) | (simp [*]; done))) (by kernel_rfl) (by kernel_rfl) ?_
                clear S; intro w S
                refine mix_pure E rfl rfl rfl (by decide) (fun w h => rn_load_blk (vs := [_, _, _]) E rfl rfl rfl (h.one (by repeat (first | exact mm1 | assumption | apply List.Mem.tail))) rfl rfl) ?_; clear E a; intro a E
                refine mix_pure E rfl rfl rfl (by decide) (fun w h => rn_move E rfl rfl) ?_; clear E a; intro a E
                refine mix_pure E rfl rfl rfl (by decide) (fun w h => rn_move E rfl rfl) ?_; clear E a; intro a E
                refine mix_pure E rfl rfl rfl (by decide) (fun w h => by first | exact rn_indexAddr1 E rfl rfl rfl rfl rfl rfl (by omega) | exact rn_indexAddr E rfl rfl rfl rfl rfl rfl (by omega) | exact rn_indexAddr_array E rfl rfl rfl rfl rfl rfl (by omega)) ?_; clear E a; intro a E
                refine mix_pure E rfl rfl rfl (by decide) (fun w h => rn_load_aggc (vs := [_, _, _]) E rfl rfl rfl rfl (hBb.elem (lay := Pl.lay) Pl.lay_len (h.at (by repeat (first | exact mm1 | assumption | apply List.Mem.tail))) hjl)) ?_; clear E a; intro a E
                refine mix_call3 E rfl rfl rfl (by decide) rfl Try.func9 rfl (by kernel_rfl) rfl (meets2_ret q old[j] hqm hm1 _ _ S.hp) ?_
                rintro v91 w ⟨rfl, hT⟩; clear E a; intro a E
                have S := S.all hT; rw [hm2] at E
                refine mix_nil ?_
                refine then_k hK ?_; clear hK; clear K
                refine if_false' E rfl (rfl) ?_
                refine wp_skip ?_
                refine in_normal ?_
                refine then_k hK ?_; clear hK; clear K
                refine region_list ?_
                refine list_pure E rfl rfl (by decide) (rn_move E rfl rfl) ?_; clear E a; intro a E
                refine list_pure E rfl rfl (by decide) (rn_add E rfl rfl rfl (by first | exact wa_lit (y := 1) (by omega) | exact w_in (by omega) | exact w_inu (by omega) | exact rfl)) ?_; clear E a; intro a E
                refine list_pure E rfl rfl (by decide) (rn_assign E rfl rfl) ?_; clear E a; intro a E
                refine wpList_nil ?_
                refine then_normal ?_
                exact ⟨_, by omega, j + 1, rfl, by omega, ⟨_, S⟩, E.keep (keep_cons rfl (keep_cons rfl (keep_cons rfl (keep_cons rfl (keep_cons rfl (keep_cons rfl (keep_cons rfl (keep_cons rfl (keep_cons rfl (keep_cons rfl (keep_cons rfl keep_nil)))))))))))⟩
              · replace hb := Nrm.nrm hb
                refine wp_exit ?_
                refine then_exit ?_; clear hK; clear K
                refine then_exit ?_
                refine in_exit ?_
                refine then_k hK ?_; clear hK; clear K
                refine wp_seq_k ?_; intro K hK
                refine wp_seq_k ?_; intro K hK
                refine region_list ?_
                refine list_pure E rfl rfl (by decide) (rn_assign E rfl rfl) ?_; clear E a; intro a E
                refine wpList_nil ?_
                refine then_k hK ?_; clear hK; clear K
                refine wp_block ?_
                refine wp_loop_ghost (fun (m : Nat) (a : Act) (w' : World) => ∃ j : Nat, m = fresh.length - j ∧ j ≤ fresh.length ∧ (∃ Xs, St w0 [O] w' (A1 :: [(b15, cel [.int .i64 q.top, .int .i64 q.sp.at_, .int .i64 q.sp.many] 33)] :: Bh :: Bo :: Bf :: O :: Xs)) ∧ Fr a 186 [(0, .int .i64 size), (1, .slice (some ⟨ab, ao, none⟩) l.length c), (2, .slice ad2 d.length c2), (8, ptr p), (10, .slice h1' held.length h2'), (11, .slice o1' old.length o2'), (12, .slice f1' fresh.length f2'), (13, .int .i64 i), (14, .int .u64 (i + 1 : Nat)), (15, ptr b15), (19, .int .i64 j)]) (fresh.length - 0) ?_ ?_
                · exact ⟨0, rfl, by omega, ⟨_, S⟩, E.keep (keep_cons rfl (keep_cons rfl (keep_cons rfl (keep_cons rfl (keep_cons rfl (keep_cons rfl (keep_cons rfl (keep_cons rfl (keep_cons rfl (keep_cons rfl (keep_cons rfl keep_nil)))))))))))⟩
                clear E; clear a; (try clear S); rintro m a w ⟨j, rfl, hj, ⟨Xs, S⟩, E⟩
                refine wp_seq_k ?_; intro K hK
                refine wp_seq_k ?_; intro K hK
                refine region_list ?_
                refine list_pure E rfl rfl (by decide) (rn_move E rfl rfl) ?_; clear E a; intro a E
                refine list_pure E rfl rfl (by decide) (rn_move E rfl rfl) ?_; clear E a; intro a E
                refine list_pure E rfl rfl (by decide) (by first | exact rn_len E rfl rfl rfl | exact rn_len_str E rfl rfl rfl | exact rn_len_string E rfl rfl rfl) ?_; clear E a; intro a E
                refine list_pure E rfl rfl (by decide) (rn_lss E rfl rfl rfl) ?_; clear E a; intro a E
                refine wpList_nil ?_
                refine then_k hK ?_; clear hK; clear K
                refine if_bool E rfl (fun hb => ?_) (fun hb => ?_)
                · replace hb := Nrm.nrm hb
                  refine wp_skip ?_
                  refine then_k hK ?_; clear hK; clear K
                  refine wp_seq_k ?_; intro K hK
                  refine wp_block ?_
                  refine wp_seq_k ?_; intro K hK
                  have hjl : j < fresh.length := by omega
                  obtain ⟨cb, rfl⟩ := hBf.addr (by omega)
                  have hBb := hBf.rd
                  obtain ⟨hm1, hm2⟩ := hap fresh[j] (by simp)
                  refine region_mix S (.ofL [(0, 0), (1, 0), (2, 0), (3, 0), (4, 0), (5, 3)]) [[(b15, cel [.int .i64 q.top, .int .i64 q.sp.at_, .int .i64 q.sp.many] 33)], Bf] (fun h => h.sub (by first | (simp; done) | (simp +contextual; done) | (simp [*]; done))) (by kernel_rfl) (by kernel_rfl) ?_
                  clear S; intro w S
                  refine mix_pure E rfl rfl rfl (by decide) (fun w h => rn_load_blk (vs := [_, _, _]) E rfl rfl rfl (h.one (by repeat (first | exact mm1 | assumption | apply List.Mem.tail))) rfl rfl) ?_; clear E a; intro a E
                  refine mix_pure E rfl rfl rfl (by decide) (fun w h => rn_move E rfl rfl) ?_; clear E a; intro a E
                  refine mix_pure E rfl rfl rfl (by decide) (fun w h => rn_move E rfl rfl) ?_; clear E a; intro a E
                  refine mix_pure E rfl rfl rfl (by decide) (fun w h => by first | exact rn_indexAddr1 E rfl rfl rfl rfl rfl rfl (by omega) | exact rn_indexAddr E rfl rfl rfl rfl rfl rfl (by omega) | exact rn_indexAddr_array E rfl rfl rfl rfl rfl rfl (by omega)) ?_; clear E a; intro a E
                  refine mix_pure E rfl rfl rfl (by decide) (fun w h => rn_load_aggc (vs := [_, _, _]) E rfl rfl rfl rfl (hBb.elem (lay := Pl.lay) Pl.lay_len (h.at (by repeat (first | exact mm1 | assumption | apply List.Mem.tail))) hjl)) ?_; clear E a; intro a E
                  refine mix_call3 E rfl rfl rfl (by decide) rfl Try.func9 rfl (by kernel_rfl) rfl (meets2_ret q fresh[j] hqm hm1 _ _ S.hp) ?_
                  rintro v103 w ⟨rfl, hT⟩; clear E a; intro a E
                  have S := S.all hT; rw [hm2] at E
                  refine mix_nil ?_
                  refine then_k hK ?_; clear hK; clear K
                  refine if_false' E rfl (rfl) ?_
                  refine wp_skip ?_
                  refine in_normal ?_
                  refine then_k hK ?_; clear hK; clear K
                  refine region_list ?_
                  refine list_pure E rfl rfl (by decide) (rn_move E rfl rfl) ?_; clear E a; intro a E
                  refine list_pure E rfl rfl (by decide) (rn_add E rfl rfl rfl (by first | exact wa_lit (y := 1) (by omega) | exact w_in (by omega) | exact w_inu (by omega) | exact rfl)) ?_; clear E a; intro a E
                  refine list_pure E rfl rfl (by decide) (rn_assign E rfl rfl) ?_; clear E a; intro a E
                  refine wpList_nil ?_
                  refine then_normal ?_
                  exact ⟨_, by omega, j + 1, rfl, by omega, ⟨_, S⟩, E.keep (keep_cons rfl (keep_cons rfl (keep_cons rfl (keep_cons rfl (keep_cons rfl (keep_cons rfl (keep_cons rfl (keep_cons rfl (keep_cons rfl (keep_cons rfl (keep_cons rfl keep_nil)))))))))))⟩
                · replace hb := Nrm.nrm hb
                  refine wp_exit ?_
                  refine then_exit ?_; clear hK; clear K
                  refine then_exit ?_
                  refine in_exit ?_
                  refine then_k hK ?_; clear hK; clear K
                  refine wp_seq_k ?_; intro K hK
                  refine wp_seq_k ?_; intro K hK
                  refine region_mix S (.ofL [(0, 0), (1, 0), (2, 0), (3, 0), (4, 0), (5, 0), (6, 0), (7, 0), (8, 0), (9, 0), (10, 0), (11, 0), (12, 0), (13, 0), (14, 0), (15, 0), (16, 0), (17, 0), (18, 0), (19, 0), (20, 0), (21, 0), (22, 0), (23, 0), (24, 0)]) [[(b15, cel [.int .i64 q.top, .int .i64 q.sp.at_, .int .i64 q.sp.many] 33)], O] (fun h => h.sub (by first | (simp; done) | (simp +contextual; done) | (simp [*]; done))) (by kernel_rfl) (by kernel_rfl) ?_
                  clear S; intro w S
                  refine mix_pure E rfl rfl rfl (by decide) (fun w h => by first | exact rn_fieldAddr0 (q := 1) E rfl rfl rfl | exact rn_fieldAddr (q := 1) E rfl rfl rfl) ?_; clear E a; intro a E
                  refine mix_pure E rfl rfl rfl (by decide) (fun w h => by first | exact rn_fieldAddr0 (q := 0) E rfl rfl rfl | exact rn_fieldAddr (q := 0) E rfl rfl rfl) ?_; clear E a; intro a E
                  refine mix_pure E rfl rfl rfl (by decide) (fun w h => by first | exact rn_load E rfl rfl rfl (h.one (by repeat (first | exact mm1 | assumption | apply List.Mem.tail))) rfl | exact rn_loadc E rfl rfl rfl (by assumption)) ?_; clear E a; intro a E
                  refine mix_pure E rfl rfl rfl (by decide) (fun w h => rn_lss E rfl rfl rfl) ?_; clear E a; intro a E
                  refine mix_pure E rfl rfl rfl (by decide) (fun w h => rn_move E rfl rfl) ?_; clear E a; intro a E
                  refine guard_false E (t := 108) rfl ((decide_eq_false (by omega))) (fun hb108 => ?_)
                  refine mix_guard_yes E rfl rfl rfl rfl rfl hb108 rfl (by decide) (fun w h => by first | exact rn_fieldAddr0 (q := 1) E rfl rfl rfl | exact rn_fieldAddr (q := 1) E rfl rfl rfl) ?_; clear E a; intro a E
                  refine mix_guard_yes E rfl rfl rfl rfl rfl hb108 rfl (by decide) (fun w h => by first | exact rn_fieldAddr0 (q := 1) E rfl rfl rfl | exact rn_fieldAddr (q := 1) E rfl rfl rfl) ?_; clear E a; intro a E
                  refine mix_guard_yes E rfl rfl rfl rfl rfl hb108 rfl (by decide) (fun w h => by first | exact rn_load E rfl rfl rfl (h.one (by repeat (first | exact mm1 | assumption | apply List.Mem.tail))) rfl | exact rn_loadc E rfl rfl rfl (by assumption)) ?_; clear E a; intro a E
                  refine mix_guard_yes E rfl rfl rfl rfl rfl hb108 rfl (by decide) (fun w h => rn_move E rfl rfl) ?_; clear E a; intro a E
                  refine mix_guard_yes E rfl rfl rfl rfl rfl hb108 rfl (by decide) (fun w h => rn_move E rfl rfl) ?_; clear E a; intro a E
                  refine mix_guard_yes E rfl rfl rfl rfl rfl hb108 rfl (by decide) (fun w h => by first | exact rn_indexAddr1 E rfl rfl rfl rfl rfl rfl (by omega) | exact rn_indexAddr E rfl rfl rfl rfl rfl rfl (by omega) | exact rn_indexAddr_array E rfl rfl rfl rfl rfl rfl (by omega)) ?_; clear E a; intro a E
                  refine mix_guard_yes E rfl rfl rfl rfl rfl hb108 rfl (by decide) (fun w h => rn_loadc E rfl rfl rfl (hO.at1 (h.at (by repeat (first | exact mm1 | assumption | apply List.Mem.tail))) hil)) ?_; clear E a; intro a E
                  refine mix_guard_yes E rfl rfl rfl rfl rfl hb108 rfl (by decide) (fun w h => by first | exact rn_neq E rfl rfl rfl | exact rn_neq_ptr_nil E rfl rfl rfl rfl | exact rn_neq_bool E rfl rfl rfl rfl | exact rn_neq_string E rfl rfl rfl) ?_; clear E a; intro a E
                  refine mix_pure E rfl rfl rfl (by decide) (fun w h => rn_pick_no' E rfl rfl hb108 rfl) ?_; clear E a; intro a E
                  refine mix_pure E rfl rfl rfl (by decide) (fun w h => rn_move E rfl rfl) ?_; clear E a; intro a E
                  refine guard_false E (t := 118) rfl ((by rw [hqn]; simp)) (fun hb118 => ?_)
                  refine mix_guard_yes E rfl rfl rfl rfl rfl hb118 rfl (by decide) (fun w h => by first | exact rn_fieldAddr0 (q := 1) E rfl rfl rfl | exact rn_fieldAddr (q := 1) E rfl rfl rfl) ?_; clear E a; intro a E
                  refine mix_guard_yes E rfl rfl rfl rfl rfl hb118 rfl (by decide) (fun w h => by first | exact rn_fieldAddr0 (q := 0) E rfl rfl rfl | exact rn_fieldAddr (q := 0) E rfl rfl rfl) ?_; clear E a; intro a E
                  refine mix_guard_yes E rfl rfl rfl rfl rfl hb118 rfl (by decide) (fun w h => by first | exact rn_load E rfl rfl rfl (h.one (by repeat (first | exact mm1 | assumption | apply List.Mem.tail))) rfl | exact rn_loadc E rfl rfl rfl (by assumption)) ?_; clear E a; intro a E
                  refine mix_guard_yes E rfl rfl rfl rfl rfl hb118 rfl (by decide) (fun w h => by first | exact rn_fieldAddr0 (q := 1) E rfl rfl rfl | exact rn_fieldAddr (q := 1) E rfl rfl rfl) ?_; clear E a; intro a E
                  refine mix_guard_yes E rfl rfl rfl rfl rfl hb118 rfl (by decide) (fun w h => by first | exact rn_fieldAddr0 (q := 1) E rfl rfl rfl | exact rn_fieldAddr (q := 1) E rfl rfl rfl) ?_; clear E a; intro a E
                  refine mix_guard_yes E rfl rfl rfl rfl rfl hb118 rfl (by decide) (fun w h => by first | exact rn_load E rfl rfl rfl (h.one (by repeat (first | exact mm1 | assumption | apply List.Mem.tail))) rfl | exact rn_loadc E rfl rfl rfl (by assumption)) ?_; clear E a; intro a E
                  refine mix_guard_yes E rfl rfl rfl rfl rfl hb118 rfl (by decide) (fun w h => rn_add E rfl rfl rfl (w_in (by have := Sp.may_iff.1 hqm; omega))) ?_; clear E a; intro a E
                  refine mix_guard_yes E rfl rfl rfl rfl rfl hb118 rfl (by decide) (fun w h => rn_move E rfl rfl) ?_; clear E a; intro a E
                  refine mix_guard_yes E rfl rfl rfl rfl rfl hb118 rfl (by decide) (fun w h => rn_gtr E rfl rfl rfl) ?_; clear E a; intro a E
                  refine mix_pure E rfl rfl rfl (by decide) (fun w h => rn_pick_no' E rfl rfl hb118 rfl) ?_; clear E a; intro a E
                  refine mix_nil ?_
                  refine then_k hK ?_; clear hK; clear K
                  refine if_false' E rfl ((decide_eq_false (by omega))) ?_
                  refine wp_skip ?_
                  refine then_k hK ?_; clear hK; clear K
                  refine region_list ?_
                  refine list_pure E rfl rfl (by decide) (rn_move E rfl rfl) ?_; clear E a; intro a E
                  refine list_pure E rfl rfl (by decide) (rn_load_blk (vs := [_, _, _]) E rfl rfl rfl (S.get (by repeat (first | exact pk1 | apply pick_tail))) rfl rfl) ?_; clear E a; intro a E
                  refine list_wp rfl (wp_bslice (cells := [_, _, _]) E S rfl rfl (by decide) rfl rfl rfl rfl rfl (by decide) rfl ?_); clear E S a; intro a w b131 E S
                  refine list_wp rfl (wp_append (by' := 24) E S rfl rfl (by decide) rfl rfl hBh (by repeat (first | exact pk1 | apply pick_tail)) ((rd1s _ _ _ _ _).src (S.stab.at (by repeat (first | exact mm1 | assumption | apply List.Mem.tail))) rfl) rfl rfl rfl rfl rfl rfl (by simp only [maxLen]; omega) (by omega) ?_); clear E S a; intro a w v132 C132 E S hB132
                  refine list_pure E rfl rfl (by decide) (rn_assign E rfl rfl) ?_; clear E a; intro a E
                  refine wpList_nil ?_
                  refine joined_here ?_
                  exact ⟨y1, A1, held ++ [q], C132, _, hS2, hA1, by simpa [PlB, Pl.lay] using hB132, ⟨_, S.front5 (A := A1) (B := C132) (C := Bo) (D := Bf) (F := O) (by repeat (first | exact pk1 | apply pick_tail)) (by repeat (first | exact pk1 | apply pick_tail)) (by repeat (first | exact pk1 | apply pick_tail)) (by repeat (first | exact pk1 | apply pick_tail)) (by repeat (first | exact pk1 | apply pick_tail))⟩, E.keep (keep_cons rfl (keep_cons rfl (keep_cons rfl (keep_cons rfl (keep_cons rfl (keep_cons rfl (keep_cons rfl (keep_cons rfl (keep_cons rfl keep_nil)))))))))⟩
          · replace hb := Nrm.nrm hb
            refine wp_skip ?_
            refine joined_here ?_
            exact ⟨y, A1, held, Bh, vh, hS, (hTk.resolve_right (fun z => hb z.1)).2 ▸ hA1, hBh, ⟨_, S.front5 (A := A1) (B := Bh) (C := Bo) (D := Bf) (F := O) (by repeat (first | exact pk1 | apply pick_tail)) (by repeat (first | exact pk1 | apply pick_tail)) (by repeat (first | exact pk1 | apply pick_tail)) (by repeat (first | exact pk1 | apply pick_tail)) (by repeat (first | exact pk1 | apply pick_tail))⟩, E.keep (keep_cons rfl (keep_cons rfl (keep_cons rfl (keep_cons rfl (keep_cons rfl (keep_cons rfl (keep_cons rfl (keep_cons rfl (keep_cons rfl keep_nil)))))))))⟩
        · clear S E a; intro a w J; obtain ⟨y2, A2, held2, Bh2, vh2, hS2, hA2, hBh2, ⟨Xs, S⟩, E⟩ := J
          refine then_k hK ?_; clear hK; clear K
          refine wp_seq_k ?_; intro K hK
          refine region_list ?_
          refine list_pure E rfl rfl (by decide) (rn_move E rfl rfl) ?_; clear E a; intro a E
          refine list_pure E rfl rfl (by decide) (rn_assign E rfl rfl) ?_; clear E a; intro a E
          refine wpList_nil ?_
          refine then_k hK ?_; clear hK; clear K
          refine wp_seq_k ?_; intro K hK
          refine region_list ?_
          refine list_pure E rfl rfl (by decide) (rn_assign E rfl rfl) ?_; clear E a; intro a E
          refine wpList_nil ?_
          refine then_k hK ?_; clear hK; clear K
          refine wp_seq_k ?_; intro K hK
          refine wp_seq_k ?_; intro K hK
          obtain ⟨h1', h2', rfl⟩ := hBh2.slice
          have hhl2 := hS2.hl (by omega)
          refine wp_join (fun (a : Act) (w' : World) => ∃ bb : Bool, (bb = true → ∃ h : i < d.length, 0 ≤ d[i] ∧ 0 < held2.length) ∧ (∃ Xs, St w0 [O] w' (A2 :: Bh2 :: Bo :: Bf :: O :: Xs)) ∧ Fr a 186 [(0, .int .i64 size), (1, .slice (some ⟨ab, ao, none⟩) l.length c), (2, .slice ad2 d.length c2), (8, ptr p), (10, .slice h1' held2.length h2'), (11, vf), (12, .slice none 0 0), (13, .int .i64 i), (14, .int .u64 (i + 1 : Nat)), (149, .bool bb)]) ?_ ?_
          · skip
            refine region_list ?_
            refine list_pure E rfl rfl (by decide) (rn_move E rfl rfl) ?_; clear E a; intro a E
            refine list_pure E rfl rfl (by decide) (rn_move E rfl rfl) ?_; clear E a; intro a E
            refine list_pure E rfl rfl (by decide) (by first | exact rn_len E rfl rfl rfl | exact rn_len_str E rfl rfl rfl | exact rn_len_string E rfl rfl rfl) ?_; clear E a; intro a E
            refine list_pure E rfl rfl (by decide) (rn_lss E rfl rfl rfl) ?_; clear E a; intro a E
            refine list_pure E rfl rfl (by decide) (rn_move E rfl rfl) ?_; clear E a; intro a E
            refine guard_split E (t := 138) rfl (fun hb138 => ?_) (fun hb138 => ?_)
            · have hb138n := hb138; replace hb138n := Nrm.nrm hb138n
              obtain ⟨eb, eo, rfl⟩ := hO2.addr (by omega)
              refine list_guard_yes E rfl rfl rfl rfl hb138 rfl (by decide) (rn_move E rfl rfl) ?_; clear E a; intro a E
              refine list_guard_yes E rfl rfl rfl rfl hb138 rfl (by decide) (rn_move E rfl rfl) ?_; clear E a; intro a E
              refine list_guard_yes E rfl rfl rfl rfl hb138 rfl (by decide) (by first | exact rn_indexAddr1 E rfl rfl rfl rfl rfl rfl (by omega) | exact rn_indexAddr E rfl rfl rfl rfl rfl rfl (by omega) | exact rn_indexAddr_array E rfl rfl rfl rfl rfl rfl (by omega)) ?_; clear E a; intro a E
              refine list_guard_yes E rfl rfl rfl rfl hb138 rfl (by decide) (rn_loadc E rfl rfl rfl (hO2.at1 (S.stab.at (by repeat (first | exact mm1 | assumption | apply List.Mem.tail))) (by omega))) ?_; clear E a; intro a E
              refine list_guard_yes E rfl rfl rfl rfl hb138 rfl (by decide) (rn_geq E rfl rfl rfl) ?_; clear E a; intro a E
              refine list_pure E rfl rfl (by decide) (rn_pick_yes' E rfl rfl hb138 rfl) ?_; clear E a; intro a E
              refine list_pure E rfl rfl (by decide) (rn_move E rfl rfl) ?_; clear E a; intro a E
              refine guard_split E (t := 145) rfl (fun hb145 => ?_) (fun hb145 => ?_)
              · have hb145n := hb145; replace hb145n := Nrm.nrm hb145n
                refine list_guard_yes E rfl rfl rfl rfl hb145 rfl (by decide) (rn_move E rfl rfl) ?_; clear E a; intro a E
                refine list_guard_yes E rfl rfl rfl rfl hb145 rfl (by decide) (by first | exact rn_len E rfl rfl rfl | exact rn_len_str E rfl rfl rfl | exact rn_len_string E rfl rfl rfl) ?_; clear E a; intro a E
                refine list_guard_yes E rfl rfl rfl rfl hb145 rfl (by decide) (rn_gtr E rfl rfl rfl) ?_; clear E a; intro a E
                refine list_pure E rfl rfl (by decide) (rn_pick_yes' E rfl rfl hb145 rfl) ?_; clear E a; intro a E
                refine wpList_nil ?_
                refine joined_here ?_
                exact ⟨_, fun h => ⟨by omega, by omega, by simpa using h⟩, ⟨_, S⟩, E.keep (keep_cons rfl (keep_cons rfl (keep_cons rfl (keep_cons rfl (keep_cons rfl (keep_cons rfl (keep_cons rfl (keep_cons rfl (keep_cons rfl (keep_cons rfl keep_nil))))))))))⟩
              · have hb145n := hb145; replace hb145n := Nrm.nrm hb145n
                refine list_guard_no E rfl rfl rfl rfl hb145 rfl (by decide) ?_; clear E a; intro a E
                refine list_guard_no E rfl rfl rfl rfl hb145 rfl (by decide) ?_; clear E a; intro a E
                refine list_guard_no E rfl rfl rfl rfl hb145 rfl (by decide) ?_; clear E a; intro a E
                refine list_pure E rfl rfl (by decide) (rn_pick_no' E rfl rfl hb145 rfl) ?_; clear E a; intro a E
                refine wpList_nil ?_
                refine joined_here ?_
                exact ⟨_, fun h => by simp at h, ⟨_, S⟩, E.keep (keep_cons rfl (keep_cons rfl (keep_cons rfl (keep_cons rfl (keep_cons rfl (keep_cons rfl (keep_cons rfl (keep_cons rfl (keep_cons rfl (keep_cons rfl keep_nil))))))))))⟩
            · have hb138n := hb138; replace hb138n := Nrm.nrm hb138n
              skip
              refine list_guard_no E rfl rfl rfl rfl hb138 rfl (by decide) ?_; clear E a; intro a E
              refine list_guard_no E rfl rfl rfl rfl hb138 rfl (by decide) ?_; clear E a; intro a E
              refine list_guard_no E rfl rfl rfl rfl hb138 rfl (by decide) ?_; clear E a; intro a E
              refine list_guard_no E rfl rfl rfl rfl hb138 rfl (by decide) ?_; clear E a; intro a E
              refine list_guard_no E rfl rfl rfl rfl hb138 rfl (by decide) ?_; clear E a; intro a E
              refine list_pure E rfl rfl (by decide) (rn_pick_no' E rfl rfl hb138 rfl) ?_; clear E a; intro a E
              refine list_pure E rfl rfl (by decide) (rn_move E rfl rfl) ?_; clear E a; intro a E
              refine list_guard_no E rfl rfl rfl rfl rfl rfl (by decide) ?_; clear E a; intro a E
              refine list_guard_no E rfl rfl rfl rfl rfl rfl (by decide) ?_; clear E a; intro a E
              refine list_guard_no E rfl rfl rfl rfl rfl rfl (by decide) ?_; clear E a; intro a E
              refine list_pure E rfl rfl (by decide) (rn_pick_no' E rfl rfl rfl rfl) ?_; clear E a; intro a E
              refine wpList_nil ?_
              refine joined_here ?_
              exact ⟨_, fun h => by simp at h, ⟨_, S⟩, E.keep (keep_cons rfl (keep_cons rfl (keep_cons rfl (keep_cons rfl (keep_cons rfl (keep_cons rfl (keep_cons rfl (keep_cons rfl (keep_cons rfl (keep_cons rfl keep_nil))))))))))⟩
          · clear E S a; intro a w J; obtain ⟨bb, hbb, ⟨Xs, S⟩, E⟩ := J
            refine then_k hK ?_; clear hK; clear K
            refine wp_join (fun (a : Act) (w' : World) => ∃ (y3 : Al) (A3 : Chunk) (held3 news : List Pl) (Bh3 Bn : Chunk) (vh3 vn : Value), Sfm size i y3 held3 old fresh news ∧ AlC p y3 A3 ∧ PlB Bh3 vh3 held3 ∧ PlB Bn vn news ∧ (∃ Xs, St w0 [O] w' (A3 :: Bh3 :: Bf :: Bn :: O :: Xs)) ∧ Fr a 186 [(0, .int .i64 size), (1, .slice (some ⟨ab, ao, none⟩) l.length c), (2, .slice ad2 d.length c2), (8, ptr p), (10, vh3), (11, vf), (12, vn), (13, .int .i64 i), (14, .int .u64 (i + 1 : Nat))]) ?_ ?_
            · skip
              refine if_bool E rfl (fun hb => ?_) (fun hb => ?_)
              · replace hb := Nrm.nrm hb
                refine wp_seq_k ?_; intro K hK
                obtain ⟨hid, hd0, hh0⟩ := hbb hb
                obtain ⟨eb, eo, rfl⟩ := hO2.addr (by omega)
                obtain ⟨k, hk, hkl⟩ := tmod_at hd0 hh0
                obtain ⟨gb, rfl⟩ := hBh2.addr (by omega)
                have hcap := hBh2.cap_le
                refine region_list ?_
                refine list_pure E rfl rfl (by decide) (rn_move E rfl rfl) ?_; clear E a; intro a E
                refine list_pure E rfl rfl (by decide) (rn_move E rfl rfl) ?_; clear E a; intro a E
                refine list_pure E rfl rfl (by decide) (by first | exact rn_indexAddr1 E rfl rfl rfl rfl rfl rfl (by omega) | exact rn_indexAddr E rfl rfl rfl rfl rfl rfl (by omega) | exact rn_indexAddr_array E rfl rfl rfl rfl rfl rfl (by omega)) ?_; clear E a; intro a E
                refine list_pure E rfl rfl (by decide) (rn_loadc E rfl rfl rfl (hO2.at1 (S.stab.at (by repeat (first | exact mm1 | assumption | apply List.Mem.tail))) hid)) ?_; clear E a; intro a E
                refine list_pure E rfl rfl (by decide) (rn_move E rfl rfl) ?_; clear E a; intro a E
                refine list_pure E rfl rfl (by decide) (by first | exact rn_len E rfl rfl rfl | exact rn_len_str E rfl rfl rfl | exact rn_len_string E rfl rfl rfl) ?_; clear E a; intro a E
                refine list_pure E rfl rfl (by decide) (rn_rem E rfl rfl rfl (by first | decide | omega) hk) ?_; clear E a; intro a E
                refine list_pure E rfl rfl (by decide) (rn_assign E rfl rfl) ?_; clear E a; intro a E
                refine wpList_nil ?_
                refine then_k hK ?_; clear hK; clear K
                refine wp_seq_k ?_; intro K hK
                refine region_list ?_
                refine list_pure E rfl rfl (by decide) (rn_move E rfl rfl) ?_; clear E a; intro a E
                refine list_pure E rfl rfl (by decide) (rn_move E rfl rfl) ?_; clear E a; intro a E
                refine list_pure E rfl rfl (by decide) (rn_move E rfl rfl) ?_; clear E a; intro a E
                refine list_pure E rfl rfl (by decide) (by first | exact rn_indexAddr1 E rfl rfl rfl rfl rfl rfl (by omega) | exact rn_indexAddr E rfl rfl rfl rfl rfl rfl (by omega) | exact rn_indexAddr_array E rfl rfl rfl rfl rfl rfl (by omega)) ?_; clear E a; intro a E
                refine list_pure E rfl rfl (by decide) (rn_load_aggc (vs := [_, _, _]) E rfl rfl rfl rfl (hBh2.rd.elem (lay := Pl.lay) Pl.lay_len (S.stab.at (by repeat (first | exact mm1 | assumption | apply List.Mem.tail))) hkl)) ?_; clear E a; intro a E
                refine list_pure E rfl rfl (by decide) (rn_move E rfl rfl) ?_; clear E a; intro a E
                refine list_call E rfl rfl (by decide) rfl Try.func10 rfl (by kernel_rfl) rfl (afree_ret p y2 held2[k] (i + 1 : Nat) (by omega) hS2.bl A2 hA2 _ (S.hp.sel (sel_cons (by repeat (first | exact pk1 | apply pick_tail)) (sel_nil _)))) ?_
                rintro v163 w ⟨rfl, A3, hA3, hT⟩; clear E a; intro a E
                have S := S.call1 (sel_cons (by repeat (first | exact pk1 | apply pick_tail)) (sel_nil _)) hT; obtain ⟨hc0, hS3⟩ := hS2.drop hkl (by omega); rw [hc0] at E; have S := S.addNil.addNil
                refine list_pure E rfl rfl (by decide) (rn_assign E rfl rfl) ?_; clear E a; intro a E
                refine wpList_nil ?_
                refine then_k hK ?_; clear hK; clear K
                refine wp_seq_k ?_; intro K hK
                refine wp_seq_k ?_; intro K hK
                refine region_list ?_
                refine list_pure E rfl rfl (by decide) (rn_move E rfl rfl) ?_; clear E a; intro a E
                refine list_pure E rfl rfl (by decide) (by first | exact rn_neq E rfl rfl rfl | exact rn_neq_ptr_nil E rfl rfl rfl rfl | exact rn_neq_bool E rfl rfl rfl rfl | exact rn_neq_string E rfl rfl rfl) ?_; clear E a; intro a E
                refine wpList_nil ?_
                refine then_k hK ?_; clear hK; clear K
                refine if_false' E rfl (rfl) ?_
                refine wp_skip ?_
                refine then_k hK ?_; clear hK; clear K
                refine wp_seq_k ?_; intro K hK
                refine region_list ?_
                refine list_pure E rfl rfl (by decide) (rn_move E rfl rfl) ?_; clear E a; intro a E
                refine list_pure E rfl rfl (by decide) (rn_move E rfl rfl) ?_; clear E a; intro a E
                refine list_pure E rfl rfl (by decide) (rn_move E rfl rfl) ?_; clear E a; intro a E
                refine list_pure E rfl rfl (by decide) (by first | exact rn_indexAddr1 E rfl rfl rfl rfl rfl rfl (by omega) | exact rn_indexAddr E rfl rfl rfl rfl rfl rfl (by omega) | exact rn_indexAddr_array E rfl rfl rfl rfl rfl rfl (by omega)) ?_; clear E a; intro a E
                refine list_pure E rfl rfl (by decide) (rn_load_aggc (vs := [_, _, _]) E rfl rfl rfl rfl (hBh2.rd.elem (lay := Pl.lay) Pl.lay_len (S.stab.at (by repeat (first | exact mm1 | assumption | apply List.Mem.tail))) hkl)) ?_; clear E a; intro a E
                refine list_wp rfl (wp_bslice (cells := [_, _, _]) E S rfl rfl (by decide) rfl rfl rfl rfl rfl (by decide) rfl ?_); clear E S a; intro a w b171 E S
                refine list_wp rfl (wp_append (by' := 24) E S rfl rfl (by decide) rfl rfl (Buf.nil _ _) (by repeat (first | exact pk1 | apply pick_tail)) ((rd1s _ _ _ _ _).src (S.stab.at (by repeat (first | exact mm1 | assumption | apply List.Mem.tail))) rfl) rfl rfl rfl rfl rfl rfl (by simp only [maxLen]; omega) (by omega) ?_); clear E S a; intro a w v172 C172 E S hB172
                refine list_pure E rfl rfl (by decide) (rn_assign E rfl rfl) ?_; clear E a; intro a E
                refine wpList_nil ?_
                refine then_k hK ?_; clear hK; clear K
                refine wp_seq_k ?_; intro K hK
                refine region_list ?_
                refine list_pure E rfl rfl (by decide) (rn_move E rfl rfl) ?_; clear E a; intro a E
                refine list_pure E rfl rfl (by decide) (rn_move E rfl rfl) ?_; clear E a; intro a E
                refine list_pure E rfl rfl (by decide) (rn_add E rfl rfl rfl (by first | exact wa_lit (y := 1) (by omega) | exact w_in (by omega) | exact w_inu (by omega) | exact rfl)) ?_; clear E a; intro a E
                refine list_pure E rfl rfl (by decide) (rn_slice_l (s := 3) E rfl rfl rfl rfl rfl rfl (by omega)) ?_; clear E a; intro a E
                refine list_wp rfl (wp_append (by' := 24) E S rfl rfl (by decide) rfl rfl (Buf.nil _ _) (by repeat (first | exact pk1 | apply pick_tail)) ((hBh2.rd.piece rfl (by omega) (by omega) (by omega)).src (S.stab.at (by repeat (first | exact mm1 | assumption | apply List.Mem.tail))) rfl) rfl rfl rfl rfl rfl rfl (by simp only [maxLen]; omega) (by omega) ?_); clear E S a; intro a w v177 C177 E S hB177
                refine list_pure E rfl rfl (by decide) (rn_assign E rfl rfl) ?_; clear E a; intro a E
                refine wpList_nil ?_
                refine then_k hK ?_; clear hK; clear K
                refine region_list ?_
                refine list_pure E rfl rfl (by decide) (rn_move E rfl rfl) ?_; clear E a; intro a E
                refine list_pure E rfl rfl (by decide) (rn_move E rfl rfl) ?_; clear E a; intro a E
                refine list_pure E rfl rfl (by decide) (rn_slice_h (s := 3) E rfl rfl rfl rfl rfl rfl (by omega)) ?_; clear E a; intro a E
                rw [sliced_to] at E
                refine list_pure E rfl rfl (by decide) (rn_move E rfl rfl) ?_; clear E a; intro a E
                refine list_wp rfl (wp_append (by' := 24) E S rfl rfl (by decide) rfl rfl (hBh2.prefix (by omega)) (by repeat (first | exact pk1 | apply pick_tail)) (hB177.rd.src (S.stab.at (by repeat (first | exact mm1 | assumption | apply List.Mem.tail))) rfl) rfl rfl rfl rfl rfl rfl (by simp only [maxLen]; omega) (by omega) ?_); clear E S a; intro a w v182 C182 E S hB182
                refine list_pure E rfl rfl (by decide) (rn_assign E rfl rfl) ?_; clear E a; intro a E
                refine wpList_nil ?_
                refine joined_here ?_
                exact ⟨_, A3, _, [held2[k]], C182, C172, _, _, hS3, hA3, plB_cut hkl hB182, by simpa [PlB, Pl.lay] using hB172, ⟨_, S.front5 (A := A3) (B := C182) (C := Bf) (D := C172) (F := O) (by repeat (first | exact pk1 | apply pick_tail)) (by repeat (first | exact pk1 | apply pick_tail)) (by repeat (first | exact pk1 | apply pick_tail)) (by repeat (first | exact pk1 | apply pick_tail)) (by repeat (first | exact pk1 | apply pick_tail))⟩, E.keep (keep_cons rfl (keep_cons rfl (keep_cons rfl (keep_cons rfl (keep_cons rfl (keep_cons rfl (keep_cons rfl (keep_cons rfl (keep_cons rfl keep_nil)))))))))⟩
              · replace hb := Nrm.nrm hb
                refine wp_skip ?_
                refine joined_here ?_
                exact ⟨y2, A2, held2, [], Bh2, [], _, _, hS2.mid, hA2, hBh2, Buf.nil _ _, ⟨_, S.addNil.front5 (A := A2) (B := Bh2) (C := Bf) (D := []) (F := O) (by repeat (first | exact pk1 | apply pick_tail)) (by repeat (first | exact pk1 | apply pick_tail)) (by repeat (first | exact pk1 | apply pick_tail)) (by repeat (first | exact pk1 | apply pick_tail)) (by repeat (first | exact pk1 | apply pick_tail))⟩, E.keep (keep_cons rfl (keep_cons rfl (keep_cons rfl (keep_cons rfl (keep_cons rfl (keep_cons rfl (keep_cons rfl (keep_cons rfl (keep_cons rfl keep_nil)))))))))⟩
            · clear S E a; intro a w J; obtain ⟨y3, A3, held3, news, Bh3, Bn, vh3, vn, hS3, hA3, hBh3, hBn, ⟨Xs, S⟩, E⟩ := J
              refine then_k hK ?_; clear hK; clear K
              refine region_list ?_
              refine list_pure E rfl rfl (by decide) (rn_move E rfl rfl) ?_; clear E a; intro a E
              refine list_pure E rfl rfl (by decide) (rn_move E rfl rfl) ?_; clear E a; intro a E
              refine list_call E rfl rfl (by decide) rfl Try.func11 rfl (by kernel_rfl) rfl (async_ret p y3 (i + 1 : Nat) (by omega) A3 hA3 _ (S.hp.sel (sel_cons (by repeat (first | exact pk1 | apply pick_tail)) (sel_nil _)))) ?_
              rintro v185 w ⟨y4, A4, hs4, hA4, hT⟩; clear E a; intro a E
              have S := S.call1 (sel_cons (by repeat (first | exact pk1 | apply pick_tail)) (sel_nil _)) hT; have hS4 := hS3.sync hs4
              refine wpList_nil ?_
              refine in_normal ?_
              refine then_k hK ?_; clear hK; clear K
              refine region_list ?_
              refine list_pure E rfl rfl (by decide) (rn_move E rfl rfl) ?_; clear E a; intro a E
              refine list_pure E rfl rfl (by decide) (rn_add E rfl rfl rfl (by first | exact wa_lit (y := 1) (by omega) | exact w_in (by omega) | exact w_inu (by omega) | exact rfl)) ?_; clear E a; intro a E
              refine list_pure E rfl rfl (by decide) (rn_assign E rfl rfl) ?_; clear E a; intro a E
              refine wpList_nil ?_
              refine then_normal ?_
              exact ⟨_, by omega, i + 1, y4, A4, held3, fresh, news, Bh3, Bf, Bn, _, _, _, rfl, by omega, hS4, hA4, hBh3, hBf, hBn, ⟨_, S.front5 (A := A4) (B := Bh3) (C := Bf) (D := Bn) (F := O) (by repeat (first | exact pk1 | apply pick_tail)) (by repeat (first | exact pk1 | apply pick_tail)) (by repeat (first | exact pk1 | apply pick_tail)) (by repeat (first | exact pk1 | apply pick_tail)) (by repeat (first | exact pk1 | apply pick_tail))⟩, E.keep (keep_cons rfl (keep_cons rfl (keep_cons rfl (keep_cons rfl (keep_cons rfl (keep_cons rfl (keep_cons rfl (keep_cons rfl keep_nil))))))))⟩
      · replace hb := Nrm.nrm hb
        refine wp_exit ?_
        refine then_exit ?_; clear hK; clear K
        refine then_exit ?_
        refine in_exit ?_
        refine then_k hK ?_; clear hK; clear K
        refine wp_seq_k ?_; intro K hK
        refine region_list ?_
        refine list_pure E rfl rfl (by decide) (rn_assign E rfl rfl) ?_; clear E a; intro a E
        refine wpList_nil ?_
        refine then_k hK ?_; clear hK; clear K
        refine wp_ret ?_
        refine ret1 E rfl rfl ?_
        exact ⟨_, rfl, rfl, (S.only (Bs := [O]) (sel_cons (by repeat (first | exact pk1 | apply pick_tail)) (sel_nil _))).tr⟩
  -- unused annotation: if r2@x

theorem safe_row (O : Chunk) (size : Int) (_hs : -9223372036854775808 ≤ size ∧ size ≤ 9223372036854775807) (v : Value) (l : List Int) (hO : Rd O 1 v l.length (l.flatMap fun z => [Value.int .i64 z])) (hg : ∀ z ∈ l, -9223372036854775808 ≤ z ∧ z ≤ 9223372036854775807) (hl : l.length ≤ 140737488351232)
    (u' : Value) (d : List Int) (hO2 : Rd O 1 u' d.length (d.flatMap fun z => [Value.int .i64 z])) (_hg2 : ∀ z ∈ d, -9223372036854775808 ≤ z ∧ z ≤ 9223372036854775807) (_hl2 : d.length ≤ 140737488351232) (w0 : World) (H : Hp w0 [O]) :
    Ret Try.prog 3 #[.int .i64 size, v, u'] w0 fun u w' => u = .bool true ∧ Trs w0 w' [O] [O] := by
  rw [flat_ints] at hO hO2
  exact safe_walk O size v l hO (by omega) (fun x hx => (hg x hx).2) u' d hO2 w0 H
end Go.Proofs.Ytenhebjhoicpjaa
