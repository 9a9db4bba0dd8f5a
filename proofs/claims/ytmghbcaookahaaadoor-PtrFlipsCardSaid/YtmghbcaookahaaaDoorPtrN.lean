/-
  Labels, uberblocks, pointers: a byte turned is told.
-/
import Derived.Test.YtmghbcaookahaaaDoorPtrM
namespace Go.Proofs.YtmghbcaookahaaaDoor
open Go.Sl
set_option maxRecDepth 10000

set_option maxHeartbeats 4000000 in
theorem flips_walk (O : Chunk) (a : Value × Lbl) (hg : LabG O a.1 a.2) (u : Ub) (hu : u.Ok) (x : Pt) (ho : x.Ok) (at_ : Int) (hat : -9223372036854775808 ≤ at_ ∧ at_ ≤ 9223372036854775807) (mk : UInt8) (_ : True) (w0 : World) (H : Hp w0 [O]) :
    Ret Tryd.prog 8 #[lbagg a.2 a.1, u.agg, x.agg, .int .i64 at_, .int .u8 mk.toNat] w0 fun r w' => r = .bool true ∧ Trs w0 w' [O] [O] := by
  have S := St.begin H
  obtain ⟨lv, l⟩ := a
  obtain ⟨hL, hlen, hlo⟩ := hg
  simp only at hL hlen hlo
  obtain ⟨adl, cl, rfl⟩ := hL.slice
  change Ret Tryd.prog _ #[.agg #[.int .u64 l.pool, .slice adl l.tops.length cl, .int .i64 l.top, .int .i64 l.place], u.agg, x.agg, .int .i64 at_, .int .u8 mk.toNat] w0 _
  obtain ⟨g, hgE⟩ : ∃ z, z = lbE l := ⟨_, rfl⟩
  obtain ⟨m2, hm2⟩ : ∃ z, z = (lbO l).length := ⟨_, rfl⟩
  have B1 : g ≠ 0 → m2 = 0 := fun h => by rw [hm2, lbO_no (by rw [← hgE]; exact h)]; rfl
  have B2 : g = 0 → m2 = 128 := fun k => by
    have h' : lbE l = 0 := by rw [← hgE]; exact k
    rw [hm2, lbO_ok h']; exact whole_length (by have := lbB_small h'; omega)
  obtain ⟨i, hi⟩ : ∃ z, z = ubE u := ⟨_, rfl⟩
  obtain ⟨m3, hm3⟩ : ∃ z, z = (ubO u).length := ⟨_, rfl⟩
  have C1 : i ≠ 0 → m3 = 0 := fun h => by rw [hm3, ubO_no (by rw [← hi]; exact h)]; rfl
  have C2 : i = 0 → m3 = 128 := fun k => by
    have h' : ubE u = 0 := by rw [← hi]; exact k
    rw [hm3, ubO_ok h']; exact whole_length (by rw [ubB_length]; omega)
  obtain ⟨e, he⟩ : ∃ z, z = ptE x := ⟨_, rfl⟩
  obtain ⟨m1, hm1⟩ : ∃ z, z = (ptO x).length := ⟨_, rfl⟩
  have A1 : e ≠ 0 → m1 = 0 := fun h => by rw [hm1, ptO_no (by rw [← he]; exact h)]; rfl
  have A2 : e = 0 → m1 = 64 := fun k => by
    have h' : ptE x = 0 := by rw [← he]; exact k
    rw [hm1, ptO_ok h']; exact ptenc_length x
  refine enter5 151 Tryd.func8 rfl rfl (by decide) ?_; intro a E
  refine wp_seq_k ?_; intro K hK
  refine region_list ?_
  refine list_wp rfl (wp_box E S rfl rfl (by decide) rfl rfl ?_); clear E S a; intro a w b5 E S
  refine list_wp rfl (wp_box E S rfl rfl (by decide) rfl rfl ?_); clear E S a; intro a w b6 E S
  refine list_wp rfl (wp_box E S rfl rfl (by decide) rfl rfl ?_); clear E S a; intro a w b7 E S
  refine list_pure E rfl rfl (by decide) (rn_assign E rfl rfl) ?_; clear E a; intro a E
  refine wpList_nil ?_
  refine then_k hK ?_; clear hK; clear K
  refine wp_seq_k ?_; intro K hK
  refine region_list ?_
  refine list_call E rfl rfl (by decide) rfl Tryd.func9 rfl (by kernel_rfl) rfl (awake_ret _) ?_
  rintro v25 w ⟨rfl, hT⟩; clear E a; intro a E
  have S := S.quiet hT
  refine list_pure E rfl rfl (by decide) (rn_assign E rfl rfl) ?_; clear E a; intro a E
  refine wpList_nil ?_
  refine then_k hK ?_; clear hK; clear K
  refine wp_seq_k ?_; intro K hK
  refine wp_seq_k ?_; intro K hK
  refine wp_join (fun (a : Act) (w' : World) => ∃ bt : Bool, (bt = false ↔ 0 ≤ at_ ∧ at_ ≤ 127 ∧ mk.toNat ≠ 0) ∧ St w0 [O] w' [[(b7, cel x.lay 26)], [(b6, cel u.lay 45)], [(b5, cel [.int .u64 l.pool, .slice adl l.tops.length cl, .int .i64 l.top, .int .i64 l.place] 37)], O] ∧ Fr a 151 [(3, .int .i64 at_), (4, .int .u8 mk.toNat), (5, ptr b5), (6, ptr b6), (7, ptr b7), (11, .bool true), (39, .bool bt)]) ?_ ?_
  · skip
    refine region_list ?_
    refine list_pure E rfl rfl (by decide) (rn_move E rfl rfl) ?_; clear E a; intro a E
    refine list_pure E rfl rfl (by decide) (rn_not E rfl rfl) ?_; clear E a; intro a E
    refine list_pure E rfl rfl (by decide) (rn_move E rfl rfl) ?_; clear E a; intro a E
    refine guard_false E (t := 28) rfl (rfl) (fun hb28 => ?_)
    refine list_guard_yes E rfl rfl rfl rfl hb28 rfl (by decide) (rn_move E rfl rfl) ?_; clear E a; intro a E
    refine list_guard_yes E rfl rfl rfl rfl hb28 rfl (by decide) (rn_lss E rfl rfl rfl) ?_; clear E a; intro a E
    refine list_pure E rfl rfl (by decide) (rn_pick_no' E rfl rfl hb28 rfl) ?_; clear E a; intro a E
    refine list_pure E rfl rfl (by decide) (rn_move E rfl rfl) ?_; clear E a; intro a E
    refine guard_split E (t := 32) rfl (fun hb32 => ?_) (fun hb32 => ?_)
    · have hb32n := hb32; replace hb32n := Nrm.nrm hb32n
      refine list_guard_no E rfl rfl rfl rfl hb32 rfl (by decide) ?_; clear E a; intro a E
      refine list_guard_no E rfl rfl rfl rfl hb32 rfl (by decide) ?_; clear E a; intro a E
      refine list_pure E rfl rfl (by decide) (rn_pick_yes' E rfl rfl hb32 rfl) ?_; clear E a; intro a E
      refine list_pure E rfl rfl (by decide) (rn_move E rfl rfl) ?_; clear E a; intro a E
      refine list_guard_no E rfl rfl rfl rfl rfl rfl (by decide) ?_; clear E a; intro a E
      refine list_guard_no E rfl rfl rfl rfl rfl rfl (by decide) ?_; clear E a; intro a E
      refine list_pure E rfl rfl (by decide) (rn_pick_yes' E rfl rfl rfl rfl) ?_; clear E a; intro a E
      refine wpList_nil ?_
      refine joined_here ?_
      exact ⟨_, by simp; omega, S, E.keep (keep_cons rfl (keep_cons rfl (keep_cons rfl (keep_cons rfl (keep_cons rfl (keep_cons rfl (keep_cons rfl keep_nil)))))))⟩
    · have hb32n := hb32; replace hb32n := Nrm.nrm hb32n
      refine list_guard_yes E rfl rfl rfl rfl hb32 rfl (by decide) (rn_move E rfl rfl) ?_; clear E a; intro a E
      refine list_guard_yes E rfl rfl rfl rfl hb32 rfl (by decide) (rn_gtr E rfl rfl rfl) ?_; clear E a; intro a E
      refine list_pure E rfl rfl (by decide) (rn_pick_no' E rfl rfl hb32 rfl) ?_; clear E a; intro a E
      refine list_pure E rfl rfl (by decide) (rn_move E rfl rfl) ?_; clear E a; intro a E
      refine guard_split E (t := 36) rfl (fun hb36 => ?_) (fun hb36 => ?_)
      · have hb36n := hb36; replace hb36n := Nrm.nrm hb36n
        refine list_guard_no E rfl rfl rfl rfl hb36 rfl (by decide) ?_; clear E a; intro a E
        refine list_guard_no E rfl rfl rfl rfl hb36 rfl (by decide) ?_; clear E a; intro a E
        refine list_pure E rfl rfl (by decide) (rn_pick_yes' E rfl rfl hb36 rfl) ?_; clear E a; intro a E
        refine wpList_nil ?_
        refine joined_here ?_
        exact ⟨_, by simp; omega, S, E.keep (keep_cons rfl (keep_cons rfl (keep_cons rfl (keep_cons rfl (keep_cons rfl (keep_cons rfl (keep_cons rfl keep_nil)))))))⟩
      · have hb36n := hb36; replace hb36n := Nrm.nrm hb36n
        refine list_guard_yes E rfl rfl rfl rfl hb36 rfl (by decide) (rn_move E rfl rfl) ?_; clear E a; intro a E
        refine list_guard_yes E rfl rfl rfl rfl hb36 rfl (by decide) (by first | exact rn_eql E rfl rfl rfl | exact rn_eql_ptr_nil E rfl rfl rfl rfl | exact rn_eql_bool E rfl rfl rfl rfl | exact rn_eql_string E rfl rfl rfl) ?_; clear E a; intro a E
        refine list_pure E rfl rfl (by decide) (rn_pick_no' E rfl rfl hb36 rfl) ?_; clear E a; intro a E
        refine wpList_nil ?_
        refine joined_here ?_
        exact ⟨_, by simp; omega, S, E.keep (keep_cons rfl (keep_cons rfl (keep_cons rfl (keep_cons rfl (keep_cons rfl (keep_cons rfl (keep_cons rfl keep_nil)))))))⟩
  · clear E S a; intro a w J; obtain ⟨bt, hbt, S, E⟩ := J
    dsimp only [Ub.lay, Pt.lay] at S
    refine then_k hK ?_; clear hK; clear K
    refine if_bool E rfl (fun hb => ?_) (fun hb => ?_)
    · replace hb := Nrm.nrm hb
      skip
      refine wp_seq_k ?_; intro K hK
      refine region_list ?_
      refine list_pure E rfl rfl (by decide) (rn_move E rfl rfl) ?_; clear E a; intro a E
      refine list_pure E rfl rfl (by decide) (rn_assign E rfl rfl) ?_; clear E a; intro a E
      refine wpList_nil ?_
      refine then_k hK ?_; clear hK; clear K
      refine wp_ret ?_
      refine then_ret ?_; clear hK; clear K
      refine ret1 E rfl rfl ?_
      exact ⟨_, rfl, rfl, (S.only (Bs := [O]) (sel_cons (by repeat (first | exact pk1 | apply pick_tail)) (sel_nil _))).tr⟩
    · replace hb := Nrm.nrm hb
      obtain ⟨h1, h2, h3⟩ := hbt.1 hb
      obtain ⟨pn, rfl⟩ : ∃ n : Nat, at_ = n := ⟨at_.toNat, by omega⟩
      have hmk : mk ≠ 0 := fun q => h3 (by rw [q]; rfl)
      refine wp_skip ?_
      refine then_k hK ?_; clear hK; clear K
      refine wp_seq_k ?_; intro K hK
      refine region_list ?_
      refine list_pure E rfl rfl (by decide) (rn_load_blk (vs := [_, _, _, _]) E rfl rfl rfl (S.get (by repeat (first | exact pk1 | apply pick_tail))) rfl rfl) ?_; clear E a; intro a E
      refine list_call E rfl rfl (by decide) rfl Tryd.func15 rfl (by kernel_rfl) rfl (lbencode_ret O _ l hL hlo _ (S.hp.sel (sel_cons (by repeat (first | exact pk1 | apply pick_tail)) (sel_nil _)))) ?_
      rintro v43 w ⟨vd, Cd, rfl, hCd, hT⟩; clear E a; intro a E
      have S := S.call2 (sel_cons (by repeat (first | exact pk1 | apply pick_tail)) (sel_nil _)) hT; rw [← hgE] at E; obtain ⟨add, cd, rfl⟩ := hCd.slice; rw [← hm2] at E hCd
      refine list_pure E rfl rfl (by decide) (rn_move E rfl rfl) ?_; clear E a; intro a E
      refine list_pure E rfl rfl (by decide) (rn_extract E rfl rfl rfl) ?_; clear E a; intro a E
      refine list_pure E rfl rfl (by decide) (rn_extract E rfl rfl rfl) ?_; clear E a; intro a E
      refine list_pure E rfl rfl (by decide) (rn_assign E rfl rfl) ?_; clear E a; intro a E
      refine list_pure E rfl rfl (by decide) (rn_assign E rfl rfl) ?_; clear E a; intro a E
      refine wpList_nil ?_
      refine then_k hK ?_; clear hK; clear K
      refine wp_seq_k ?_; intro K hK
      refine wp_seq_k ?_; intro K hK
      refine wp_join (fun (a : Act) (w' : World) => ∃ bt : Bool, bt = false ∧ (∃ Ls, St w0 [O] w' (Cd :: O :: [(b6, cel u.lay 45)] :: [(b7, cel x.lay 26)] :: Ls)) ∧ Fr a 151 [(3, .int .i64 pn), (4, .int .u8 mk.toNat), (6, ptr b6), (7, ptr b7), (11, .bool true), (12, .slice add m2 cd), (13, .int .i64 g), (52, .bool bt)]) ?_ ?_
      · skip
        refine region_list ?_
        refine list_pure E rfl rfl (by decide) (rn_move E rfl rfl) ?_; clear E a; intro a E
        refine list_pure E rfl rfl (by decide) (by first | exact rn_eql E rfl rfl rfl | exact rn_eql_ptr_nil E rfl rfl rfl rfl | exact rn_eql_bool E rfl rfl rfl rfl | exact rn_eql_string E rfl rfl rfl) ?_; clear E a; intro a E
        refine list_pure E rfl rfl (by decide) (rn_move E rfl rfl) ?_; clear E a; intro a E
        refine guard_split E (t := 48) rfl (fun hb48 => ?_) (fun hb48 => ?_)
        · have hb48n := hb48; replace hb48n := Nrm.nrm hb48n
          refine list_guard_yes E rfl rfl rfl rfl hb48 rfl (by decide) (rn_move E rfl rfl) ?_; clear E a; intro a E
          refine list_guard_yes E rfl rfl rfl rfl hb48 rfl (by decide) (by first | exact rn_len E rfl rfl rfl | exact rn_len_str E rfl rfl rfl | exact rn_len_string E rfl rfl rfl) ?_; clear E a; intro a E
          refine list_guard_yes E rfl rfl rfl rfl hb48 rfl (by decide) (by first | exact rn_neq E rfl rfl rfl | exact rn_neq_ptr_nil E rfl rfl rfl rfl | exact rn_neq_bool E rfl rfl rfl rfl | exact rn_neq_string E rfl rfl rfl) ?_; clear E a; intro a E
          refine list_pure E rfl rfl (by decide) (rn_pick_yes' E rfl rfl hb48 rfl) ?_; clear E a; intro a E
          refine wpList_nil ?_
          refine joined_here ?_
          exact ⟨_, by first | rfl | (simp; omega), ⟨_, S.front4 (A := Cd) (by repeat (first | exact pk1 | apply pick_tail)) (B := O) (by repeat (first | exact pk1 | apply pick_tail)) (C := [(b6, _)]) (by repeat (first | exact pk1 | apply pick_tail)) (D := [(b7, _)]) (by repeat (first | exact pk1 | apply pick_tail))⟩, E.keep (keep_cons rfl (keep_cons rfl (keep_cons rfl (keep_cons rfl (keep_cons rfl (keep_cons rfl (keep_cons rfl (keep_cons rfl keep_nil))))))))⟩
        · have hb48n := hb48; replace hb48n := Nrm.nrm hb48n
          refine list_guard_no E rfl rfl rfl rfl hb48 rfl (by decide) ?_; clear E a; intro a E
          refine list_guard_no E rfl rfl rfl rfl hb48 rfl (by decide) ?_; clear E a; intro a E
          refine list_guard_no E rfl rfl rfl rfl hb48 rfl (by decide) ?_; clear E a; intro a E
          refine list_pure E rfl rfl (by decide) (rn_pick_no' E rfl rfl hb48 rfl) ?_; clear E a; intro a E
          refine wpList_nil ?_
          refine joined_here ?_
          exact ⟨_, by first | rfl | (simp; omega), ⟨_, S.front4 (A := Cd) (by repeat (first | exact pk1 | apply pick_tail)) (B := O) (by repeat (first | exact pk1 | apply pick_tail)) (C := [(b6, _)]) (by repeat (first | exact pk1 | apply pick_tail)) (D := [(b7, _)]) (by repeat (first | exact pk1 | apply pick_tail))⟩, E.keep (keep_cons rfl (keep_cons rfl (keep_cons rfl (keep_cons rfl (keep_cons rfl (keep_cons rfl (keep_cons rfl (keep_cons rfl keep_nil))))))))⟩
      · clear E S a; intro a w J; obtain ⟨bt, hbf, ⟨Ls, S⟩, E⟩ := J
        dsimp only [Ub.lay, Pt.lay] at S
        refine then_k hK ?_; clear hK; clear K
        refine if_false' E rfl (hbf) ?_
        refine wp_skip ?_
        refine then_k hK ?_; clear hK; clear K
        refine wp_seq_k ?_; intro K hK
        refine wp_seq_k ?_; intro K hK
        refine region_list ?_
        refine list_pure E rfl rfl (by decide) (rn_move E rfl rfl) ?_; clear E a; intro a E
        refine list_pure E rfl rfl (by decide) (by first | exact rn_eql E rfl rfl rfl | exact rn_eql_ptr_nil E rfl rfl rfl rfl | exact rn_eql_bool E rfl rfl rfl rfl | exact rn_eql_string E rfl rfl rfl) ?_; clear E a; intro a E
        refine wpList_nil ?_
        refine then_k hK ?_; clear hK; clear K
        refine wp_join (fun (a : Act) (w' : World) => (∃ Ls, St w0 [O] w' (O :: [(b6, cel u.lay 45)] :: [(b7, cel x.lay 26)] :: Ls)) ∧ Fr a 151 [(3, .int .i64 pn), (4, .int .u8 mk.toNat), (6, ptr b6), (7, ptr b7), (11, .bool true)]) ?_ ?_
        · skip
          refine if_bool E rfl (fun hb => ?_) (fun hb => ?_)
          · replace hb := Nrm.nrm hb
            refine wp_seq_k ?_; intro K hK
            have hg0 : lbE l = 0 := by rw [← hgE]; exact hb
            have hwl := B2 hb
            obtain ⟨gd, rfl⟩ := hCd.addr (by omega)
            have hpl : pn < (lbO l).length := by omega
            refine region_list ?_
            refine list_pure E rfl rfl (by decide) (rn_move E rfl rfl) ?_; clear E a; intro a E
            refine list_pure E rfl rfl (by decide) (rn_move E rfl rfl) ?_; clear E a; intro a E
            refine list_pure E rfl rfl (by decide) (rn_move E rfl rfl) ?_; clear E a; intro a E
            refine list_pure E rfl rfl (by decide) (rn_move E rfl rfl) ?_; clear E a; intro a E
            refine list_pure E rfl rfl (by decide) (by first | exact rn_indexAddr1 E rfl rfl rfl rfl rfl rfl (by omega) | exact rn_indexAddr E rfl rfl rfl rfl rfl rfl (by omega) | exact rn_indexAddr_array E rfl rfl rfl rfl rfl rfl (by omega)) ?_; clear E a; intro a E
            refine list_pure E rfl rfl (by decide) (rn_loadc E rfl rfl rfl (hCd.rd.cells (S.stab.at (by repeat (first | exact mm1 | apply List.Mem.tail))) rfl pn _ (byt_get _ hpl))) ?_; clear E a; intro a E
            refine list_pure E rfl rfl (by decide) (rn_move E rfl rfl) ?_; clear E a; intro a E
            refine list_pure E rfl rfl (by decide) (rn_xor E rfl rfl rfl (xor8 _ _)) ?_; clear E a; intro a E
            refine list_pure E rfl rfl (by decide) (by first | exact rn_indexAddr1 E rfl rfl rfl rfl rfl rfl (by omega) | exact rn_indexAddr E rfl rfl rfl rfl rfl rfl (by omega) | exact rn_indexAddr_array E rfl rfl rfl rfl rfl rfl (by omega)) ?_; clear E a; intro a E
            refine list_wp rfl (wp_elem1 E S rfl rfl rfl rfl rfl rfl hCd (by repeat (first | exact pk1 | apply pick_tail)) (i := pn) (by rw [byt_length]; omega) (Nat.zero_add _) ?_); clear E S a; intro a w Cs9 E hBs9 S
            refine wpList_nil ?_
            refine then_k hK ?_; clear hK; clear K
            refine wp_seq_k ?_; intro K hK
            rw [byt_turn] at hBs9
            have hy : (lbO l)[pn] ^^^ mk ≠ (lbO l)[pn] := xor_ne hmk
            obtain ⟨y, hyE⟩ : ∃ y, y = (lbO l)[pn] ^^^ mk := ⟨_, rfl⟩
            rw [← hyE] at hy hBs9
            have hfl := lbdec_flip hg0 (p := pn) (by omega) (y := y) (by rw [← lbO_ok hg0]; exact fun _ => hy)
            rw [← lbO_ok hg0] at hfl
            have hsl : ((lbO l).set pn y).length = m2 := by rw [List.length_set]; exact hm2.symm
            have hBs9 : Buf Cs9 5 1 (.slice (some ⟨gd, 0, none⟩) m2 cd) ((lbO l).set pn y).length (byt ((lbO l).set pn y)) := by rw [hsl]; exact hBs9
            refine region_list ?_
            refine list_pure E rfl rfl (by decide) (rn_move E rfl rfl) ?_; clear E a; intro a E
            refine list_call E rfl rfl (by decide) rfl Tryd.func26 rfl (by kernel_rfl) rfl (lbdecode_ret Cs9 _ ((lbO l).set pn y) hBs9.rd (buf_hcap hBs9) _ (S.hp.sel (sel_cons (by repeat (first | exact pk1 | apply pick_tail)) (sel_nil _)))) ?_
            rintro v66 w ⟨vm, M, rfl, hM, hT⟩; clear E a; intro a E
            have S := S.call2 (sel_cons (by repeat (first | exact pk1 | apply pick_tail)) (sel_nil _)) hT; rw [hfl.1, hfl.2] at E; rw [hfl.2] at hM; obtain ⟨adm, cm, rfl⟩ := hM.slice
            refine list_pure E rfl rfl (by decide) (rn_move E rfl rfl) ?_; clear E a; intro a E
            refine list_pure E rfl rfl (by decide) (rn_extract E rfl rfl rfl) ?_; clear E a; intro a E
            refine list_pure E rfl rfl (by decide) (rn_extract E rfl rfl rfl) ?_; clear E a; intro a E
            refine list_wp rfl (wp_alloc E S rfl rfl (by decide) rfl rfl rfl ?_); clear E S a; intro a w b14 E S
            refine list_wp rfl (wp_storeN E S rfl rfl rfl rfl (by simp [Value.oneCell']) rfl (by repeat (first | exact pk1 | apply pick_tail)) (by simp) ?_); clear E S a; intro a w E S; simp only [List.take_succ_cons, List.take_zero, List.drop_succ_cons, List.drop_zero, List.cons_append, List.nil_append, List.append_nil, List.length_cons, List.length_nil, Nat.zero_add, Nat.add_zero] at S
            refine list_pure E rfl rfl (by decide) (rn_assign E rfl rfl) ?_; clear E a; intro a E
            refine wpList_nil ?_
            refine then_k hK ?_; clear hK; clear K
            refine wp_seq_k ?_; intro K hK
            replace E := E.keep (e' := [(3, _), (4, _), (6, _), (7, _), (11, _), (14, _), (15, _)]) (keep_cons rfl (keep_cons rfl (keep_cons rfl (keep_cons rfl (keep_cons rfl (keep_cons rfl (keep_cons rfl (keep_nil))))))))
            refine region_list ?_
            refine list_pure E rfl rfl (by decide) (rn_load_blk (vs := [_, _, _, _]) E rfl rfl rfl (S.get (by repeat (first | exact pk1 | apply pick_tail))) rfl rfl) ?_; clear E a; intro a E
            refine list_pure E rfl rfl (by decide) (rn_build (cells := [_, _, _, _]) E rfl rfl rfl) ?_; clear E a; intro a E
            refine list_call E rfl rfl (by decide) rfl Tryd.func17 rfl (by kernel_rfl) rfl (samelb_ret M [] _ (.slice none 0 0) lbZero lbZero hM.rd (Rd.nil _ _) (by decide) _ (S.addNil.hp.sel (sel_cons (by repeat (first | exact pk1 | apply pick_tail)) (sel_cons (by repeat (first | exact pk1 | apply pick_tail)) (sel_nil _))))) ?_
            rintro v71 w ⟨rfl, hT⟩; clear E a; intro a E
            have S := S.addNil.call2 (sel_cons (by repeat (first | exact pk1 | apply pick_tail)) (sel_cons (by repeat (first | exact pk1 | apply pick_tail)) (sel_nil _))) hT; rw [decide_eq_true (rfl : lbZero = lbZero)] at E
            refine list_pure E rfl rfl (by decide) (rn_assign E rfl rfl) ?_; clear E a; intro a E
            refine wpList_nil ?_
            refine then_k hK ?_; clear hK; clear K
            refine wp_seq_k ?_; intro K hK
            refine region_list ?_
            refine list_pure E rfl rfl (by decide) (rn_move E rfl rfl) ?_; clear E a; intro a E
            refine list_pure E rfl rfl (by decide) (by first | exact rn_neq E rfl rfl rfl | exact rn_neq_ptr_nil E rfl rfl rfl rfl | exact rn_neq_bool E rfl rfl rfl rfl | exact rn_neq_string E rfl rfl rfl) ?_; clear E a; intro a E
            refine list_pure E rfl rfl (by decide) (rn_move E rfl rfl) ?_; clear E a; intro a E
            refine guard_false E (t := 74) rfl (rfl) (fun hb74 => ?_)
            refine list_guard_yes E rfl rfl rfl rfl hb74 rfl (by decide) (rn_move E rfl rfl) ?_; clear E a; intro a E
            refine list_guard_yes E rfl rfl rfl rfl hb74 rfl (by decide) (rn_not E rfl rfl) ?_; clear E a; intro a E
            refine list_pure E rfl rfl (by decide) (rn_pick_no' E rfl rfl hb74 rfl) ?_; clear E a; intro a E
            refine wpList_nil ?_
            refine then_k hK ?_; clear hK; clear K
            refine if_false' E rfl (rfl) ?_
            refine wp_skip ?_
            refine joined_here ?_
            exact ⟨⟨_, S.front3 (A := O) (by repeat (first | exact pk1 | apply pick_tail)) (B := [(b6, _)]) (by repeat (first | exact pk1 | apply pick_tail)) (C := [(b7, _)]) (by repeat (first | exact pk1 | apply pick_tail))⟩, E.keep (keep_cons rfl (keep_cons rfl (keep_cons rfl (keep_cons rfl (keep_cons rfl keep_nil)))))⟩
          · replace hb := Nrm.nrm hb
            refine wp_skip ?_
            refine joined_here ?_
            exact ⟨⟨_, S.front3 (A := O) (by repeat (first | exact pk1 | apply pick_tail)) (B := [(b6, _)]) (by repeat (first | exact pk1 | apply pick_tail)) (C := [(b7, _)]) (by repeat (first | exact pk1 | apply pick_tail))⟩, E.keep (keep_cons rfl (keep_cons rfl (keep_cons rfl (keep_cons rfl (keep_cons rfl keep_nil)))))⟩
        · clear S E a; intro a w J; obtain ⟨⟨Ls, S⟩, E⟩ := J
          dsimp only [Ub.lay, Pt.lay] at S
          refine then_k hK ?_; clear hK; clear K
          refine wp_seq_k ?_; intro K hK
          refine region_list ?_
          refine list_pure E rfl rfl (by decide) (rn_load_blk (vs := [_, _, _, _, _, _, _, _, _, _, _, _]) E rfl rfl rfl (S.get (by repeat (first | exact pk1 | apply pick_tail))) rfl rfl) ?_; clear E a; intro a E
          refine list_call E rfl rfl (by decide) rfl Tryd.func20 rfl (by kernel_rfl) rfl (ubencode_ret u hu _) ?_
          rintro v80 w ⟨vx, Cx, rfl, hCx, hT⟩; clear E a; intro a E
          have S := S.fresh hT; rw [← hi] at E; obtain ⟨adx, cx, rfl⟩ := hCx.slice; rw [← hm3] at E hCx
          refine list_pure E rfl rfl (by decide) (rn_move E rfl rfl) ?_; clear E a; intro a E
          refine list_pure E rfl rfl (by decide) (rn_extract E rfl rfl rfl) ?_; clear E a; intro a E
          refine list_pure E rfl rfl (by decide) (rn_extract E rfl rfl rfl) ?_; clear E a; intro a E
          refine list_pure E rfl rfl (by decide) (rn_assign E rfl rfl) ?_; clear E a; intro a E
          refine list_pure E rfl rfl (by decide) (rn_assign E rfl rfl) ?_; clear E a; intro a E
          refine wpList_nil ?_
          refine then_k hK ?_; clear hK; clear K
          refine wp_seq_k ?_; intro K hK
          refine wp_seq_k ?_; intro K hK
          refine wp_join (fun (a : Act) (w' : World) => ∃ bt : Bool, bt = false ∧ (∃ Ls, St w0 [O] w' (Cx :: O :: [(b7, cel x.lay 26)] :: Ls)) ∧ Fr a 151 [(3, .int .i64 pn), (4, .int .u8 mk.toNat), (7, ptr b7), (11, .bool true), (17, .slice adx m3 cx), (18, .int .i64 i), (89, .bool bt)]) ?_ ?_
          · skip
            refine region_list ?_
            refine list_pure E rfl rfl (by decide) (rn_move E rfl rfl) ?_; clear E a; intro a E
            refine list_pure E rfl rfl (by decide) (by first | exact rn_eql E rfl rfl rfl | exact rn_eql_ptr_nil E rfl rfl rfl rfl | exact rn_eql_bool E rfl rfl rfl rfl | exact rn_eql_string E rfl rfl rfl) ?_; clear E a; intro a E
            refine list_pure E rfl rfl (by decide) (rn_move E rfl rfl) ?_; clear E a; intro a E
            refine guard_split E (t := 85) rfl (fun hb85 => ?_) (fun hb85 => ?_)
            · have hb85n := hb85; replace hb85n := Nrm.nrm hb85n
              refine list_guard_yes E rfl rfl rfl rfl hb85 rfl (by decide) (rn_move E rfl rfl) ?_; clear E a; intro a E
              refine list_guard_yes E rfl rfl rfl rfl hb85 rfl (by decide) (by first | exact rn_len E rfl rfl rfl | exact rn_len_str E rfl rfl rfl | exact rn_len_string E rfl rfl rfl) ?_; clear E a; intro a E
              refine list_guard_yes E rfl rfl rfl rfl hb85 rfl (by decide) (by first | exact rn_neq E rfl rfl rfl | exact rn_neq_ptr_nil E rfl rfl rfl rfl | exact rn_neq_bool E rfl rfl rfl rfl | exact rn_neq_string E rfl rfl rfl) ?_; clear E a; intro a E
              refine list_pure E rfl rfl (by decide) (rn_pick_yes' E rfl rfl hb85 rfl) ?_; clear E a; intro a E
              refine wpList_nil ?_
              refine joined_here ?_
              exact ⟨_, by first | rfl | (simp; omega), ⟨_, S.front3 (A := Cx) (by repeat (first | exact pk1 | apply pick_tail)) (B := O) (by repeat (first | exact pk1 | apply pick_tail)) (C := [(b7, _)]) (by repeat (first | exact pk1 | apply pick_tail))⟩, E.keep (keep_cons rfl (keep_cons rfl (keep_cons rfl (keep_cons rfl (keep_cons rfl (keep_cons rfl (keep_cons rfl keep_nil)))))))⟩
            · have hb85n := hb85; replace hb85n := Nrm.nrm hb85n
              refine list_guard_no E rfl rfl rfl rfl hb85 rfl (by decide) ?_; clear E a; intro a E
              refine list_guard_no E rfl rfl rfl rfl hb85 rfl (by decide) ?_; clear E a; intro a E
              refine list_guard_no E rfl rfl rfl rfl hb85 rfl (by decide) ?_; clear E a; intro a E
              refine list_pure E rfl rfl (by decide) (rn_pick_no' E rfl rfl hb85 rfl) ?_; clear E a; intro a E
              refine wpList_nil ?_
              refine joined_here ?_
              exact ⟨_, by first | rfl | (simp; omega), ⟨_, S.front3 (A := Cx) (by repeat (first | exact pk1 | apply pick_tail)) (B := O) (by repeat (first | exact pk1 | apply pick_tail)) (C := [(b7, _)]) (by repeat (first | exact pk1 | apply pick_tail))⟩, E.keep (keep_cons rfl (keep_cons rfl (keep_cons rfl (keep_cons rfl (keep_cons rfl (keep_cons rfl (keep_cons rfl keep_nil)))))))⟩
          · clear E S a; intro a w J; obtain ⟨bt, hbf, ⟨Ls, S⟩, E⟩ := J
            dsimp only [Pt.lay] at S
            refine then_k hK ?_; clear hK; clear K
            refine if_false' E rfl (hbf) ?_
            refine wp_skip ?_
            refine then_k hK ?_; clear hK; clear K
            refine wp_seq_k ?_; intro K hK
            refine wp_seq_k ?_; intro K hK
            refine region_list ?_
            refine list_pure E rfl rfl (by decide) (rn_move E rfl rfl) ?_; clear E a; intro a E
            refine list_pure E rfl rfl (by decide) (by first | exact rn_eql E rfl rfl rfl | exact rn_eql_ptr_nil E rfl rfl rfl rfl | exact rn_eql_bool E rfl rfl rfl rfl | exact rn_eql_string E rfl rfl rfl) ?_; clear E a; intro a E
            refine wpList_nil ?_
            refine then_k hK ?_; clear hK; clear K
            refine wp_join (fun (a : Act) (w' : World) => (∃ Ls, St w0 [O] w' (O :: [(b7, cel x.lay 26)] :: Ls)) ∧ Fr a 151 [(3, .int .i64 pn), (4, .int .u8 mk.toNat), (7, ptr b7), (11, .bool true)]) ?_ ?_
            · skip
              refine if_bool E rfl (fun hb => ?_) (fun hb => ?_)
              · replace hb := Nrm.nrm hb
                refine wp_seq_k ?_; intro K hK
                have hg0 : ubE u = 0 := by rw [← hi]; exact hb
                have hwl := C2 hb
                obtain ⟨gd, rfl⟩ := hCx.addr (by omega)
                have hpl : pn < (ubO u).length := by omega
                refine region_list ?_
                refine list_pure E rfl rfl (by decide) (rn_move E rfl rfl) ?_; clear E a; intro a E
                refine list_pure E rfl rfl (by decide) (rn_move E rfl rfl) ?_; clear E a; intro a E
                refine list_pure E rfl rfl (by decide) (rn_move E rfl rfl) ?_; clear E a; intro a E
                refine list_pure E rfl rfl (by decide) (rn_move E rfl rfl) ?_; clear E a; intro a E
                refine list_pure E rfl rfl (by decide) (by first | exact rn_indexAddr1 E rfl rfl rfl rfl rfl rfl (by omega) | exact rn_indexAddr E rfl rfl rfl rfl rfl rfl (by omega) | exact rn_indexAddr_array E rfl rfl rfl rfl rfl rfl (by omega)) ?_; clear E a; intro a E
                refine list_pure E rfl rfl (by decide) (rn_loadc E rfl rfl rfl (hCx.rd.cells (S.stab.at (by repeat (first | exact mm1 | apply List.Mem.tail))) rfl pn _ (byt_get _ hpl))) ?_; clear E a; intro a E
                refine list_pure E rfl rfl (by decide) (rn_move E rfl rfl) ?_; clear E a; intro a E
                refine list_pure E rfl rfl (by decide) (rn_xor E rfl rfl rfl (xor8 _ _)) ?_; clear E a; intro a E
                refine list_pure E rfl rfl (by decide) (by first | exact rn_indexAddr1 E rfl rfl rfl rfl rfl rfl (by omega) | exact rn_indexAddr E rfl rfl rfl rfl rfl rfl (by omega) | exact rn_indexAddr_array E rfl rfl rfl rfl rfl rfl (by omega)) ?_; clear E a; intro a E
                refine list_wp rfl (wp_elem1 E S rfl rfl rfl rfl rfl rfl hCx (by repeat (first | exact pk1 | apply pick_tail)) (i := pn) (by rw [byt_length]; omega) (Nat.zero_add _) ?_); clear E S a; intro a w Cs9 E hBs9 S
                refine wpList_nil ?_
                refine then_k hK ?_; clear hK; clear K
                refine wp_seq_k ?_; intro K hK
                rw [byt_turn] at hBs9
                have hy : (ubO u)[pn] ^^^ mk ≠ (ubO u)[pn] := xor_ne hmk
                obtain ⟨y, hyE⟩ : ∃ y, y = (ubO u)[pn] ^^^ mk := ⟨_, rfl⟩
                rw [← hyE] at hy hBs9
                have hfl := ubdec_flip (u := u) (p := pn) (by omega) (y := y) (by rw [← ubO_ok hg0]; exact fun _ => hy)
                rw [← ubO_ok hg0] at hfl
                have hsl : ((ubO u).set pn y).length = m3 := by rw [List.length_set]; exact hm3.symm
                have hBs9 : Buf Cs9 5 1 (.slice (some ⟨gd, 0, none⟩) m3 cx) ((ubO u).set pn y).length (byt ((ubO u).set pn y)) := by rw [hsl]; exact hBs9
                refine region_list ?_
                refine list_pure E rfl rfl (by decide) (rn_move E rfl rfl) ?_; clear E a; intro a E
                refine list_call E rfl rfl (by decide) rfl Tryd.func28 rfl (by kernel_rfl) rfl (ubdecode_ret Cs9 _ ((ubO u).set pn y) hBs9.rd (buf_hcap hBs9) _ (S.hp.sel (sel_cons (by repeat (first | exact pk1 | apply pick_tail)) (sel_nil _)))) ?_
                rintro v103 w ⟨rfl, hT⟩; clear E a; intro a E
                have S := S.call1 (sel_cons (by repeat (first | exact pk1 | apply pick_tail)) (sel_nil _)) hT; rw [hfl.1, hfl.2] at E
                refine list_pure E rfl rfl (by decide) (rn_move E rfl rfl) ?_; clear E a; intro a E
                refine list_pure E rfl rfl (by decide) (rn_extract E rfl rfl rfl) ?_; clear E a; intro a E
                refine list_pure E rfl rfl (by decide) (rn_extract E rfl rfl rfl) ?_; clear E a; intro a E
                refine list_wp rfl (wp_alloc E S rfl rfl (by decide) rfl rfl rfl ?_); clear E S a; intro a w b19 E S
                refine list_wp rfl (wp_storeN E S rfl rfl rfl rfl (by simp [Value.oneCell']) rfl (by repeat (first | exact pk1 | apply pick_tail)) (by simp) ?_); clear E S a; intro a w E S; simp only [List.take_succ_cons, List.take_zero, List.drop_succ_cons, List.drop_zero, List.cons_append, List.nil_append, List.append_nil, List.length_cons, List.length_nil, Nat.zero_add, Nat.add_zero] at S
                refine list_pure E rfl rfl (by decide) (rn_assign E rfl rfl) ?_; clear E a; intro a E
                refine wpList_nil ?_
                refine then_k hK ?_; clear hK; clear K
                refine wp_seq_k ?_; intro K hK
                replace E := E.keep (e' := [(3, _), (4, _), (7, _), (11, _), (19, _), (20, _)]) (keep_cons rfl (keep_cons rfl (keep_cons rfl (keep_cons rfl (keep_cons rfl (keep_cons rfl (keep_nil)))))))
                refine region_list ?_
                refine list_pure E rfl rfl (by decide) (rn_move E rfl rfl) ?_; clear E a; intro a E
                refine list_pure E rfl rfl (by decide) (by first | exact rn_neq E rfl rfl rfl | exact rn_neq_ptr_nil E rfl rfl rfl rfl | exact rn_neq_bool E rfl rfl rfl rfl | exact rn_neq_string E rfl rfl rfl) ?_; clear E a; intro a E
                refine list_pure E rfl rfl (by decide) (rn_move E rfl rfl) ?_; clear E a; intro a E
                refine guard_false E (t := 108) rfl (rfl) (fun hb108 => ?_)
                refine list_guard_yes E rfl rfl rfl rfl hb108 rfl (by decide) (rn_load_blk (vs := [_, _, _, _, _, _, _, _, _, _, _, _]) E rfl rfl rfl (S.get (by repeat (first | exact pk1 | apply pick_tail))) rfl rfl) ?_; clear E a; intro a E
                refine list_guard_yes E rfl rfl rfl rfl hb108 rfl (by decide) (rn_build (cells := [_, _, _, _, _, _, _, _, _, _, _, _]) E rfl rfl rfl) ?_; clear E a; intro a E
                refine list_guard_yes E rfl rfl rfl rfl hb108 rfl (by decide) (by first | exact rn_neq_pair E rfl rfl rfl rfl (by kernel_rfl) (by kernel_rfl) rfl rfl rfl | exact rn_neq_cells E rfl rfl rfl rfl (by kernel_rfl) (by kernel_rfl) rfl) ?_; clear E a; intro a E
                refine list_pure E rfl rfl (by decide) (rn_pick_no' E rfl rfl hb108 rfl) ?_; clear E a; intro a E
                refine wpList_nil ?_
                refine then_k hK ?_; clear hK; clear K
                refine if_false' E rfl (rfl) ?_
                refine wp_skip ?_
                refine joined_here ?_
                exact ⟨⟨_, S.front2 (A := O) (by repeat (first | exact pk1 | apply pick_tail)) (B := [(b7, _)]) (by repeat (first | exact pk1 | apply pick_tail))⟩, E.keep (keep_cons rfl (keep_cons rfl (keep_cons rfl (keep_cons rfl keep_nil))))⟩
              · replace hb := Nrm.nrm hb
                refine wp_skip ?_
                refine joined_here ?_
                exact ⟨⟨_, S.front2 (A := O) (by repeat (first | exact pk1 | apply pick_tail)) (B := [(b7, _)]) (by repeat (first | exact pk1 | apply pick_tail))⟩, E.keep (keep_cons rfl (keep_cons rfl (keep_cons rfl (keep_cons rfl keep_nil))))⟩
            · clear S E a; intro a w J; obtain ⟨⟨Ls, S⟩, E⟩ := J
              dsimp only [Pt.lay] at S
              refine then_k hK ?_; clear hK; clear K
              refine wp_seq_k ?_; intro K hK
              refine region_list ?_
              refine list_pure E rfl rfl (by decide) (rn_load_blk (vs := [_, _, _, _, _, _, _, _, _]) E rfl rfl rfl (S.get (by repeat (first | exact pk1 | apply pick_tail))) rfl rfl) ?_; clear E a; intro a E
              refine list_call E rfl rfl (by decide) rfl Tryd.func10 rfl (by kernel_rfl) rfl (ptencode_ret x ho _) ?_
              rintro v115 w ⟨vx, Cx, rfl, hCx, hT⟩; clear E a; intro a E
              have S := S.fresh hT; rw [← he] at E; obtain ⟨adx, cx, rfl⟩ := hCx.slice; rw [← hm1] at E hCx
              refine list_pure E rfl rfl (by decide) (rn_move E rfl rfl) ?_; clear E a; intro a E
              refine list_pure E rfl rfl (by decide) (rn_extract E rfl rfl rfl) ?_; clear E a; intro a E
              refine list_pure E rfl rfl (by decide) (rn_extract E rfl rfl rfl) ?_; clear E a; intro a E
              refine list_pure E rfl rfl (by decide) (rn_assign E rfl rfl) ?_; clear E a; intro a E
              refine list_pure E rfl rfl (by decide) (rn_assign E rfl rfl) ?_; clear E a; intro a E
              refine wpList_nil ?_
              refine then_k hK ?_; clear hK; clear K
              refine wp_seq_k ?_; intro K hK
              refine wp_seq_k ?_; intro K hK
              refine wp_join (fun (a : Act) (w' : World) => ∃ bt : Bool, bt = false ∧ (∃ Ls, St w0 [O] w' (Cx :: O :: [(b7, cel x.lay 26)] :: Ls)) ∧ Fr a 151 [(3, .int .i64 pn), (4, .int .u8 mk.toNat), (7, ptr b7), (11, .bool true), (21, .slice adx m1 cx), (22, .int .i64 e), (124, .bool bt)]) ?_ ?_
              · skip
                refine region_list ?_
                refine list_pure E rfl rfl (by decide) (rn_move E rfl rfl) ?_; clear E a; intro a E
                refine list_pure E rfl rfl (by decide) (by first | exact rn_eql E rfl rfl rfl | exact rn_eql_ptr_nil E rfl rfl rfl rfl | exact rn_eql_bool E rfl rfl rfl rfl | exact rn_eql_string E rfl rfl rfl) ?_; clear E a; intro a E
                refine list_pure E rfl rfl (by decide) (rn_move E rfl rfl) ?_; clear E a; intro a E
                refine guard_split E (t := 120) rfl (fun hb120 => ?_) (fun hb120 => ?_)
                · have hb120n := hb120; replace hb120n := Nrm.nrm hb120n
                  refine list_guard_yes E rfl rfl rfl rfl hb120 rfl (by decide) (rn_move E rfl rfl) ?_; clear E a; intro a E
                  refine list_guard_yes E rfl rfl rfl rfl hb120 rfl (by decide) (by first | exact rn_len E rfl rfl rfl | exact rn_len_str E rfl rfl rfl | exact rn_len_string E rfl rfl rfl) ?_; clear E a; intro a E
                  refine list_guard_yes E rfl rfl rfl rfl hb120 rfl (by decide) (by first | exact rn_neq E rfl rfl rfl | exact rn_neq_ptr_nil E rfl rfl rfl rfl | exact rn_neq_bool E rfl rfl rfl rfl | exact rn_neq_string E rfl rfl rfl) ?_; clear E a; intro a E
                  refine list_pure E rfl rfl (by decide) (rn_pick_yes' E rfl rfl hb120 rfl) ?_; clear E a; intro a E
                  refine wpList_nil ?_
                  refine joined_here ?_
                  exact ⟨_, by first | rfl | (simp; omega), ⟨_, S.front3 (A := Cx) (by repeat (first | exact pk1 | apply pick_tail)) (B := O) (by repeat (first | exact pk1 | apply pick_tail)) (C := [(b7, _)]) (by repeat (first | exact pk1 | apply pick_tail))⟩, E.keep (keep_cons rfl (keep_cons rfl (keep_cons rfl (keep_cons rfl (keep_cons rfl (keep_cons rfl (keep_cons rfl keep_nil)))))))⟩
                · have hb120n := hb120; replace hb120n := Nrm.nrm hb120n
                  refine list_guard_no E rfl rfl rfl rfl hb120 rfl (by decide) ?_; clear E a; intro a E
                  refine list_guard_no E rfl rfl rfl rfl hb120 rfl (by decide) ?_; clear E a; intro a E
                  refine list_guard_no E rfl rfl rfl rfl hb120 rfl (by decide) ?_; clear E a; intro a E
                  refine list_pure E rfl rfl (by decide) (rn_pick_no' E rfl rfl hb120 rfl) ?_; clear E a; intro a E
                  refine wpList_nil ?_
                  refine joined_here ?_
                  exact ⟨_, by first | rfl | (simp; omega), ⟨_, S.front3 (A := Cx) (by repeat (first | exact pk1 | apply pick_tail)) (B := O) (by repeat (first | exact pk1 | apply pick_tail)) (C := [(b7, _)]) (by repeat (first | exact pk1 | apply pick_tail))⟩, E.keep (keep_cons rfl (keep_cons rfl (keep_cons rfl (keep_cons rfl (keep_cons rfl (keep_cons rfl (keep_cons rfl keep_nil)))))))⟩
              · clear E S a; intro a w J; obtain ⟨bt, hbf, ⟨Ls, S⟩, E⟩ := J
                dsimp only [Pt.lay] at S
                refine then_k hK ?_; clear hK; clear K
                refine if_false' E rfl (hbf) ?_
                refine wp_skip ?_
                refine then_k hK ?_; clear hK; clear K
                refine wp_seq_k ?_; intro K hK
                refine wp_seq_k ?_; intro K hK
                refine region_list ?_
                refine list_pure E rfl rfl (by decide) (rn_move E rfl rfl) ?_; clear E a; intro a E
                refine list_pure E rfl rfl (by decide) (by first | exact rn_eql E rfl rfl rfl | exact rn_eql_ptr_nil E rfl rfl rfl rfl | exact rn_eql_bool E rfl rfl rfl rfl | exact rn_eql_string E rfl rfl rfl) ?_; clear E a; intro a E
                refine wpList_nil ?_
                refine then_k hK ?_; clear hK; clear K
                refine wp_join (fun (a : Act) (w' : World) => (∃ Ls, St w0 [O] w' (O :: Ls)) ∧ Fr a 151 [(11, .bool true)]) ?_ ?_
                · skip
                  refine if_bool E rfl (fun hb => ?_) (fun hb => ?_)
                  · replace hb := Nrm.nrm hb
                    refine wp_seq_k ?_; intro K hK
                    have hg0 : ptE x = 0 := by rw [← he]; exact hb
                    have hwl := A2 hb
                    obtain ⟨gd, rfl⟩ := hCx.addr (by omega)
                    have hpl : pn % 64 < (ptO x).length := by omega
                    refine region_list ?_
                    refine list_pure E rfl rfl (by decide) (rn_move E rfl rfl) ?_; clear E a; intro a E
                    refine list_pure E rfl rfl (by decide) (rn_move E rfl rfl) ?_; clear E a; intro a E
                    refine list_pure E rfl rfl (by decide) (rn_rem E rfl rfl rfl (by decide) (by first | exact wr_lit (y := 64) | exact rfl)) ?_; clear E a; intro a E
                    refine list_pure E rfl rfl (by decide) (rn_move E rfl rfl) ?_; clear E a; intro a E
                    refine list_pure E rfl rfl (by decide) (rn_move E rfl rfl) ?_; clear E a; intro a E
                    refine list_pure E rfl rfl (by decide) (rn_rem E rfl rfl rfl (by decide) (by first | exact wr_lit (y := 64) | exact rfl)) ?_; clear E a; intro a E
                    refine list_pure E rfl rfl (by decide) (by first | exact rn_indexAddr1 E rfl rfl rfl rfl rfl rfl (by omega) | exact rn_indexAddr E rfl rfl rfl rfl rfl rfl (by omega) | exact rn_indexAddr_array E rfl rfl rfl rfl rfl rfl (by omega)) ?_; clear E a; intro a E
                    refine list_pure E rfl rfl (by decide) (rn_loadc E rfl rfl rfl (hCx.rd.cells (S.stab.at (by repeat (first | exact mm1 | apply List.Mem.tail))) rfl (pn % 64) _ (byt_get _ hpl))) ?_; clear E a; intro a E
                    refine list_pure E rfl rfl (by decide) (rn_move E rfl rfl) ?_; clear E a; intro a E
                    refine list_pure E rfl rfl (by decide) (rn_xor E rfl rfl rfl (xor8 _ _)) ?_; clear E a; intro a E
                    refine list_pure E rfl rfl (by decide) (by first | exact rn_indexAddr1 E rfl rfl rfl rfl rfl rfl (by omega) | exact rn_indexAddr E rfl rfl rfl rfl rfl rfl (by omega) | exact rn_indexAddr_array E rfl rfl rfl rfl rfl rfl (by omega)) ?_; clear E a; intro a E
                    refine list_wp rfl (wp_elem1 E S rfl rfl rfl rfl rfl rfl hCx (by repeat (first | exact pk1 | apply pick_tail)) (i := pn % 64) (by rw [byt_length]; omega) (Nat.zero_add _) ?_); clear E S a; intro a w Cs11 E hBs11 S
                    refine wpList_nil ?_
                    refine then_k hK ?_; clear hK; clear K
                    refine wp_seq_k ?_; intro K hK
                    rw [byt_turn] at hBs11
                    have hy : (ptO x)[pn % 64] ^^^ mk ≠ (ptO x)[pn % 64] := xor_ne hmk
                    obtain ⟨y, hyE⟩ : ∃ y, y = (ptO x)[pn % 64] ^^^ mk := ⟨_, rfl⟩
                    rw [← hyE] at hy hBs11
                    have hfl := pt_turned (x := x) hg0 (p := pn % 64) (by omega) (y := y) (by rw [← ptO_ok hg0]; exact fun _ => hy)
                    rw [← ptO_ok hg0] at hfl
                    have hsl : ((ptO x).set (pn % 64) y).length = m1 := by rw [List.length_set]; exact hm1.symm
                    have hBs11 : Buf Cs11 5 1 (.slice (some ⟨gd, 0, none⟩) m1 cx) ((ptO x).set (pn % 64) y).length (byt ((ptO x).set (pn % 64) y)) := by rw [hsl]; exact hBs11
                    obtain ⟨ze, hze⟩ : ∃ z, z = ptdecE ((ptO x).set (pn % 64) y) := ⟨_, rfl⟩
                    obtain ⟨zv, hzv⟩ : ∃ z, z = ptdec ((ptO x).set (pn % 64) y) := ⟨_, rfl⟩
                    rw [← hze, ← hzv] at hfl
                    refine region_list ?_
                    refine list_pure E rfl rfl (by decide) (rn_move E rfl rfl) ?_; clear E a; intro a E
                    refine list_call E rfl rfl (by decide) rfl Tryd.func24 rfl (by kernel_rfl) rfl (ptdecode_ret Cs11 _ ((ptO x).set (pn % 64) y) hBs11.rd _ (S.hp.sel (sel_cons (by repeat (first | exact pk1 | apply pick_tail)) (sel_nil _)))) ?_
                    rintro v140 w ⟨rfl, hT⟩; clear E a; intro a E
                    have S := S.call1 (sel_cons (by repeat (first | exact pk1 | apply pick_tail)) (sel_nil _)) hT; rw [← hze, ← hzv] at E
                    refine list_pure E rfl rfl (by decide) (rn_move E rfl rfl) ?_; clear E a; intro a E
                    refine list_pure E rfl rfl (by decide) (rn_extract E rfl rfl rfl) ?_; clear E a; intro a E
                    refine list_pure E rfl rfl (by decide) (rn_extract E rfl rfl rfl) ?_; clear E a; intro a E
                    refine list_wp rfl (wp_alloc E S rfl rfl (by decide) rfl rfl rfl ?_); clear E S a; intro a w b23 E S
                    refine list_wp rfl (wp_storeN E S rfl rfl rfl rfl (by simp [Value.oneCell']) rfl (by repeat (first | exact pk1 | apply pick_tail)) (by simp) ?_); clear E S a; intro a w E S; simp only [List.take_succ_cons, List.take_zero, List.drop_succ_cons, List.drop_zero, List.cons_append, List.nil_append, List.append_nil, List.length_cons, List.length_nil, Nat.zero_add, Nat.add_zero] at S
                    refine list_pure E rfl rfl (by decide) (rn_assign E rfl rfl) ?_; clear E a; intro a E
                    refine wpList_nil ?_
                    refine then_k hK ?_; clear hK; clear K
                    refine wp_seq_k ?_; intro K hK
                    replace E := E.keep (e' := [(7, _), (11, _), (23, _), (24, _)]) (keep_cons rfl (keep_cons rfl (keep_cons rfl (keep_cons rfl (keep_nil)))))
                    refine wp_join (fun (a : Act) (w' : World) => ∃ bt : Bool, bt = false ∧ (∃ Ls, St w0 [O] w' (O :: Ls)) ∧ Fr a 151 [(11, .bool true), (149, .bool bt)]) ?_ ?_
                    · skip
                      refine region_list ?_
                      refine list_pure E rfl rfl (by decide) (rn_move E rfl rfl) ?_; clear E a; intro a E
                      refine list_pure E rfl rfl (by decide) (by first | exact rn_eql E rfl rfl rfl | exact rn_eql_ptr_nil E rfl rfl rfl rfl | exact rn_eql_bool E rfl rfl rfl rfl | exact rn_eql_string E rfl rfl rfl) ?_; clear E a; intro a E
                      refine list_pure E rfl rfl (by decide) (rn_move E rfl rfl) ?_; clear E a; intro a E
                      refine guard_split E (t := 145) rfl (fun hb145 => ?_) (fun hb145 => ?_)
                      · have hb145n := hb145; replace hb145n := Nrm.nrm hb145n
                        refine list_guard_yes E rfl rfl rfl rfl hb145 rfl (by decide) (rn_load_blk (vs := [_, _, _, _, _, _, _, _, _]) E rfl rfl rfl (S.get (by repeat (first | exact pk1 | apply pick_tail))) rfl rfl) ?_; clear E a; intro a E
                        refine list_guard_yes E rfl rfl rfl rfl hb145 rfl (by decide) (rn_load_blk (vs := [_, _, _, _, _, _, _, _, _]) E rfl rfl rfl (S.get (by repeat (first | exact pk1 | apply pick_tail))) rfl rfl) ?_; clear E a; intro a E
                        refine list_guard_yes E rfl rfl rfl rfl hb145 rfl (by decide) (by first | exact rn_eql_pair E rfl rfl rfl rfl (by kernel_rfl) (by kernel_rfl) rfl rfl rfl | exact rn_eql_cells E rfl rfl rfl rfl (by kernel_rfl) (by kernel_rfl) rfl) ?_; clear E a; intro a E
                        refine list_pure E rfl rfl (by decide) (rn_pick_yes' E rfl rfl hb145 rfl) ?_; clear E a; intro a E
                        refine wpList_nil ?_
                        refine joined_here ?_
                        exact ⟨_, (by have hne := hfl hb145n; show Pt.eqB zv x = false; cases hq : Pt.eqB zv x; rfl; exact absurd ((Pt.eqB_iff zv x).1 hq) hne), ⟨_, S.front1 (A := O) (by repeat (first | exact pk1 | apply pick_tail))⟩, E.keep (keep_cons rfl (keep_cons rfl keep_nil))⟩
                      · have hb145n := hb145; replace hb145n := Nrm.nrm hb145n
                        refine list_guard_no E rfl rfl rfl rfl hb145 rfl (by decide) ?_; clear E a; intro a E
                        refine list_guard_no E rfl rfl rfl rfl hb145 rfl (by decide) ?_; clear E a; intro a E
                        refine list_guard_no E rfl rfl rfl rfl hb145 rfl (by decide) ?_; clear E a; intro a E
                        refine list_pure E rfl rfl (by decide) (rn_pick_no' E rfl rfl hb145 rfl) ?_; clear E a; intro a E
                        refine wpList_nil ?_
                        refine joined_here ?_
                        exact ⟨_, rfl, ⟨_, S.front1 (A := O) (by repeat (first | exact pk1 | apply pick_tail))⟩, E.keep (keep_cons rfl (keep_cons rfl keep_nil))⟩
                    · clear E S a; intro a w J; obtain ⟨bt, hbf, ⟨Ls, S⟩, E⟩ := J
                      refine then_k hK ?_; clear hK; clear K
                      refine if_false' E rfl (hbf) ?_
                      refine wp_skip ?_
                      refine joined_here ?_
                      exact ⟨⟨_, S.front1 (A := O) (by repeat (first | exact pk1 | apply pick_tail))⟩, E.keep (keep_cons rfl keep_nil)⟩
                  · replace hb := Nrm.nrm hb
                    refine wp_skip ?_
                    refine joined_here ?_
                    exact ⟨⟨_, S.front1 (A := O) (by repeat (first | exact pk1 | apply pick_tail))⟩, E.keep (keep_cons rfl keep_nil)⟩
                · clear S E a; intro a w J; obtain ⟨⟨Ls, S⟩, E⟩ := J
                  refine then_k hK ?_; clear hK; clear K
                  refine wp_seq_k ?_; intro K hK
                  refine region_list ?_
                  refine list_pure E rfl rfl (by decide) (rn_move E rfl rfl) ?_; clear E a; intro a E
                  refine list_pure E rfl rfl (by decide) (rn_assign E rfl rfl) ?_; clear E a; intro a E
                  refine wpList_nil ?_
                  refine then_k hK ?_; clear hK; clear K
                  refine wp_ret ?_
                  refine ret1 E rfl rfl ?_
                  exact ⟨_, rfl, rfl, (S.only (Bs := [O]) (sel_cons (by repeat (first | exact pk1 | apply pick_tail)) (sel_nil _))).tr⟩
end Go.Proofs.YtmghbcaookahaaaDoor
