/-
  Pointers, labels, uberblocks: there and back; a byte turned.
-/
import Derived.Test.YtmghbcaookahaaaDoorPtrL
namespace Go.Sl
theorem byt_turn (ys : List UInt8) (i : Nat) (y : UInt8) : (byt ys).set i (.int .u8 y.toNat) = byt (ys.set i y) := by simp [byt, List.map_set]
theorem xor8 (x y : UInt8) : bits .xor .u8 (x.toNat : Int) (y.toNat : Int) = ((x ^^^ y).toNat : Int) := by
  have h2 : ∀ z : Nat, z < 256 → (BitVec.ofInt 8 (z : Int)).toNat = z := fun z hz => by
    rw [BitVec.ofInt_natCast, BitVec.toNat_ofNat]; exact Nat.mod_eq_of_lt hz
  have hx := x.toNat_lt
  have hy := y.toNat_lt
  show IntKind.u8.wrap (((BitVec.ofInt 8 (x.toNat : Int) ^^^ BitVec.ofInt 8 (y.toNat : Int)).toNat : Nat) : Int) = _
  rw [BitVec.toNat_xor, h2 _ hx, h2 _ hy, UInt8.toNat_xor]
  have : x.toNat ^^^ y.toNat < 2 ^ 8 := Nat.xor_lt_two_pow hx hy
  rw [IntKind.wrap_u8]; omega
theorem xor_ne {x m : UInt8} (h : m ≠ 0) : x ^^^ m ≠ x := fun q => h (by
  have := congrArg (fun t => x ^^^ t) q
  simpa [← UInt8.xor_assoc] using this)
/-- A pointer that is read off turned bytes is another one. -/
theorem pt_turned {x : Pt} (h : ptE x = 0) {p : Nat} (hp : p < 64) {y : UInt8} (hy : ∀ h : p < (ptenc x).length, y ≠ (ptenc x)[p]) (h0 : ptdecE ((ptenc x).set p y) = 0) : ptdec ((ptenc x).set p y) ≠ x := fun q => by
  have h2 := (ptenc_dec h0).2
  rw [q] at h2
  have hl := ptenc_length x
  have hg : (ptenc x)[p]? = ((ptenc x).set p y)[p]? := by rw [← h2]
  rw [List.getElem?_set_self (by omega), List.getElem?_eq_getElem (by omega)] at hg
  exact hy (by omega) (Option.some.inj hg).symm
end Go.Sl
namespace Go.Proofs.YtmghbcaookahaaaDoor
open Go.Sl
set_option maxRecDepth 10000

set_option maxHeartbeats 4000000 in
theorem back_walk (O : Chunk) (x : Pt) (ho : x.Ok) (a : Value × Lbl) (hg : LabG O a.1 a.2) (u : Ub) (hu : u.Ok) (v : Value) (b : List UInt8) (hO : Rd O 1 v b.length (byt b)) (hbl : b.length ≤ 140737488351232) (hcap : ∃ ad c, v = .slice ad b.length c ∧ b.length ≤ c) (w0 : World) (H : Hp w0 [O]) :
    Ret Tryd.prog 7 #[x.agg, lbagg a.2 a.1, u.agg, v] w0 fun r w' => r = .bool true ∧ Trs w0 w' [O] [O] := by
  have S := St.begin H
  obtain ⟨lv, l⟩ := a
  obtain ⟨hL, hlen, hlo⟩ := hg
  simp only at hL hlen hlo
  obtain ⟨adl, cl, rfl⟩ := hL.slice
  change Ret Tryd.prog _ #[x.agg, .agg #[.int .u64 l.pool, .slice adl l.tops.length cl, .int .i64 l.top, .int .i64 l.place], u.agg, v] w0 _
  -- the pointer
  obtain ⟨e, he⟩ : ∃ z, z = ptE x := ⟨_, rfl⟩
  obtain ⟨f, hf⟩ : ∃ z, z = ptdecE (ptO x) := ⟨_, rfl⟩
  obtain ⟨q, hq⟩ : ∃ z, z = ptdec (ptO x) := ⟨_, rfl⟩
  obtain ⟨n1', hn1⟩ : ∃ z, z = (ptO x).length := ⟨_, rfl⟩
  have A1 : e ≠ 0 → n1' = 0 := fun h => by rw [hn1, ptO_no (by rw [← he]; exact h)]; rfl
  have A2 : e = 0 → f = 0 ∧ q = x ∧ n1' = 64 := fun h => by
    have h' : ptE x = 0 := by rw [← he]; exact h
    rw [hf, hq, hn1, ptO_ok h']; exact ⟨(ptdec_enc h' ho).1, (ptdec_enc h' ho).2, ptenc_length x⟩
  have A3 : (e ≠ 0 ∧ n1' = 0) ∨ (e = 0 ∧ f = 0 ∧ q = x ∧ n1' = 64) := by
    by_cases h : e = 0
    · exact .inr ⟨h, A2 h⟩
    · exact .inl ⟨h, A1 h⟩
  -- the label
  obtain ⟨g, hgE⟩ : ∃ z, z = lbE l := ⟨_, rfl⟩
  obtain ⟨h, hh⟩ : ∃ z, z = lbdecE (lbO l) := ⟨_, rfl⟩
  obtain ⟨m, hm⟩ : ∃ z, z = lbdec (lbO l) := ⟨_, rfl⟩
  obtain ⟨n2', hn2⟩ : ∃ z, z = (lbO l).length := ⟨_, rfl⟩
  have B1 : g ≠ 0 → n2' = 0 := fun h => by rw [hn2, lbO_no (by rw [← hgE]; exact h)]; rfl
  have B2 : g = 0 → h = 0 ∧ l = m ∧ n2' = 128 := fun k => by
    have h' : lbE l = 0 := by rw [← hgE]; exact k
    rw [hh, hm, hn2, lbO_ok h']; exact ⟨(lbdec_enc h' hlo).1, (lbdec_enc h' hlo).2.symm, whole_length (by have := lbB_small h'; omega)⟩
  have B3 : (g ≠ 0 ∧ n2' = 0) ∨ (g = 0 ∧ h = 0 ∧ l = m ∧ n2' = 128) := by
    by_cases h : g = 0
    · exact .inr ⟨h, B2 h⟩
    · exact .inl ⟨h, B1 h⟩
  -- the uberblock
  obtain ⟨i, hi⟩ : ∃ z, z = ubE u := ⟨_, rfl⟩
  obtain ⟨j, hj⟩ : ∃ z, z = ubdecE (ubO u) := ⟨_, rfl⟩
  obtain ⟨vu, hvu⟩ : ∃ z, z = ubdec (ubO u) := ⟨_, rfl⟩
  obtain ⟨n3', hn3⟩ : ∃ z, z = (ubO u).length := ⟨_, rfl⟩
  have C1 : i ≠ 0 → n3' = 0 := fun h => by rw [hn3, ubO_no (by rw [← hi]; exact h)]; rfl
  have C2 : i = 0 → j = 0 ∧ vu = u ∧ n3' = 128 := fun k => by
    have h' : ubE u = 0 := by rw [← hi]; exact k
    rw [hj, hvu, hn3, ubO_ok h']; exact ⟨(ubdec_enc h' hu).1, (ubdec_enc h' hu).2, whole_length (by rw [ubB_length]; omega)⟩
  have C3 : (i ≠ 0 ∧ n3' = 0) ∨ (i = 0 ∧ j = 0 ∧ vu = u ∧ n3' = 128) := by
    by_cases h : i = 0
    · exact .inr ⟨h, C2 h⟩
    · exact .inl ⟨h, C1 h⟩
  -- the bytes
  obtain ⟨k, hk⟩ : ∃ z, z = ptdecE b := ⟨_, rfl⟩
  obtain ⟨r, hr⟩ : ∃ z, z = ptdec b := ⟨_, rfl⟩
  have D0 : ptE r = 0 := by rw [hr]; exact ptdec_may b
  have Dok : r.Ok := by rw [hr]; exact ptdec_ok b
  have D2 : k = 0 → ptO r = b := fun q => by rw [ptO_ok D0, hr]; exact (ptenc_dec (by rw [← hk]; exact q)).2
  obtain ⟨s, hs⟩ : ∃ z, z = ubdecE b := ⟨_, rfl⟩
  obtain ⟨o, ho'⟩ : ∃ z, z = ubdec b := ⟨_, rfl⟩
  have Eok : o.Ok := by
    rw [ho']; unfold ubdec; split
    · exact ⟨by have := nm_lt (b.take 96) 4 8; rw [p8] at this; exact this, by have := nm_lt (b.take 96) 12 8; rw [p8] at this; exact this, by have := nm_lt (b.take 96) 20 8; rw [p8] at this; exact this, ptAt_ok _ _⟩
    · exact ⟨by decide, by decide, by decide, ptZero_ok⟩
  have E2 : s = 0 → ubE o = 0 ∧ ubO o = b := fun q => by
    have h1 := ubenc_dec (b := b) (by rw [← hs]; exact q)
    rw [← ho'] at h1
    exact ⟨h1.1, by rw [ubO_ok h1.1]; exact h1.2⟩
  obtain ⟨w1, hw1⟩ : ∃ z, z = ubE o := ⟨_, rfl⟩
  refine enter4 191 Tryd.func7 rfl rfl (by decide) ?_; intro a E
  refine wp_seq_k ?_; intro K hK
  refine region_list ?_
  refine list_wp rfl (wp_box E S rfl rfl (by decide) rfl rfl ?_); clear E S a; intro a w b4 E S
  refine list_wp rfl (wp_box E S rfl rfl (by decide) rfl rfl ?_); clear E S a; intro a w b5 E S
  refine list_wp rfl (wp_box E S rfl rfl (by decide) rfl rfl ?_); clear E S a; intro a w b6 E S
  refine list_pure E rfl rfl (by decide) (rn_assign E rfl rfl) ?_; clear E a; intro a E
  refine wpList_nil ?_
  refine then_k hK ?_; clear hK; clear K
  refine wp_seq_k ?_; intro K hK
  refine region_list ?_
  refine list_call E rfl rfl (by decide) rfl Tryd.func9 rfl (by kernel_rfl) rfl (awake_ret _) ?_
  rintro v35 w ⟨rfl, hT⟩; clear E a; intro a E
  have S := S.quiet hT
  refine list_pure E rfl rfl (by decide) (rn_assign E rfl rfl) ?_; clear E a; intro a E
  refine wpList_nil ?_
  refine then_k hK ?_; clear hK; clear K
  refine wp_seq_k ?_; intro K hK
  refine region_list ?_
  refine list_pure E rfl rfl (by decide) (rn_load_blk (vs := [_, _, _, _, _, _, _, _, _]) E rfl rfl rfl (S.get (by repeat (first | exact pk1 | apply pick_tail))) rfl rfl) ?_; clear E a; intro a E
  refine list_call E rfl rfl (by decide) rfl Tryd.func10 rfl (by kernel_rfl) rfl (ptencode_ret x ho _) ?_
  rintro v38 w ⟨vc, Cc, rfl, hCc, hT⟩; clear E a; intro a E
  have S := S.fresh hT; rw [← he] at E; obtain ⟨adc, cc, rfl⟩ := hCc.slice; rw [← hn1] at E; have hCc : Buf Cc 5 1 (.slice adc n1' cc) (ptO x).length (byt (ptO x)) := (by rw [hn1]; exact hCc)
  refine list_pure E rfl rfl (by decide) (rn_move E rfl rfl) ?_; clear E a; intro a E
  refine list_pure E rfl rfl (by decide) (rn_extract E rfl rfl rfl) ?_; clear E a; intro a E
  refine list_pure E rfl rfl (by decide) (rn_extract E rfl rfl rfl) ?_; clear E a; intro a E
  refine list_pure E rfl rfl (by decide) (rn_assign E rfl rfl) ?_; clear E a; intro a E
  refine list_pure E rfl rfl (by decide) (rn_assign E rfl rfl) ?_; clear E a; intro a E
  refine wpList_nil ?_
  refine then_k hK ?_; clear hK; clear K
  refine wp_seq_k ?_; intro K hK
  refine region_list ?_
  refine list_pure E rfl rfl (by decide) (rn_move E rfl rfl) ?_; clear E a; intro a E
  refine list_call E rfl rfl (by decide) rfl Tryd.func24 rfl (by kernel_rfl) rfl (ptdecode_ret Cc _ (ptO x) hCc.rd _ (S.hp.sel (sel_cons (by repeat (first | exact pk1 | apply pick_tail)) (sel_nil _)))) ?_
  rintro v43 w ⟨rfl, hT⟩; clear E a; intro a E
  have S := S.call1 (sel_cons (by repeat (first | exact pk1 | apply pick_tail)) (sel_nil _)) hT; rw [← hf, ← hq] at E
  refine list_pure E rfl rfl (by decide) (rn_move E rfl rfl) ?_; clear E a; intro a E
  refine list_pure E rfl rfl (by decide) (rn_extract E rfl rfl rfl) ?_; clear E a; intro a E
  refine list_pure E rfl rfl (by decide) (rn_extract E rfl rfl rfl) ?_; clear E a; intro a E
  refine list_wp rfl (wp_alloc E S rfl rfl (by decide) rfl rfl rfl ?_); clear E S a; intro a w b12 E S
  refine list_wp rfl (wp_storeN E S rfl rfl rfl rfl (by simp [Value.oneCell']) rfl (by repeat (first | exact pk1 | apply pick_tail)) (by simp) ?_); clear E S a; intro a w E S; simp only [List.take_succ_cons, List.take_zero, List.drop_succ_cons, List.drop_zero, List.cons_append, List.nil_append, List.append_nil, List.length_cons, List.length_nil, Nat.zero_add, Nat.add_zero] at S
  refine list_pure E rfl rfl (by decide) (rn_assign E rfl rfl) ?_; clear E a; intro a E
  refine wpList_nil ?_
  refine then_k hK ?_; clear hK; clear K
  refine wp_seq_k ?_; intro K hK
  replace E := E.keep (e' := [(3, _), (4, _), (5, _), (6, _), (8, _), (9, _), (10, _), (11, _), (12, _), (13, _)]) (keep_cons rfl (keep_cons rfl (keep_cons rfl (keep_cons rfl (keep_cons rfl (keep_cons rfl (keep_cons rfl (keep_cons rfl (keep_cons rfl (keep_cons rfl (keep_nil)))))))))))
  refine region_list ?_
  refine list_pure E rfl rfl (by decide) (rn_load_blk (vs := [_, _, _, _]) E rfl rfl rfl (S.get (by repeat (first | exact pk1 | apply pick_tail))) rfl rfl) ?_; clear E a; intro a E
  refine list_call E rfl rfl (by decide) rfl Tryd.func15 rfl (by kernel_rfl) rfl (lbencode_ret O _ l hL hlo _ (S.hp.sel (sel_cons (by repeat (first | exact pk1 | apply pick_tail)) (sel_nil _)))) ?_
  rintro v48 w ⟨vd, Cd, rfl, hCd, hT⟩; clear E a; intro a E
  have S := S.call2 (sel_cons (by repeat (first | exact pk1 | apply pick_tail)) (sel_nil _)) hT; rw [← hgE] at E; obtain ⟨add, cd, rfl⟩ := hCd.slice; rw [← hn2] at E; have hCd : Buf Cd 5 1 (.slice add n2' cd) (lbO l).length (byt (lbO l)) := (by rw [hn2]; exact hCd)
  refine list_pure E rfl rfl (by decide) (rn_move E rfl rfl) ?_; clear E a; intro a E
  refine list_pure E rfl rfl (by decide) (rn_extract E rfl rfl rfl) ?_; clear E a; intro a E
  refine list_pure E rfl rfl (by decide) (rn_extract E rfl rfl rfl) ?_; clear E a; intro a E
  refine list_pure E rfl rfl (by decide) (rn_assign E rfl rfl) ?_; clear E a; intro a E
  refine list_pure E rfl rfl (by decide) (rn_assign E rfl rfl) ?_; clear E a; intro a E
  refine wpList_nil ?_
  refine then_k hK ?_; clear hK; clear K
  refine wp_seq_k ?_; intro K hK
  refine region_list ?_
  refine list_pure E rfl rfl (by decide) (rn_move E rfl rfl) ?_; clear E a; intro a E
  refine list_call E rfl rfl (by decide) rfl Tryd.func26 rfl (by kernel_rfl) rfl (lbdecode_ret Cd _ (lbO l) hCd.rd (buf_hcap hCd) _ (S.hp.sel (sel_cons (by repeat (first | exact pk1 | apply pick_tail)) (sel_nil _)))) ?_
  rintro v53 w ⟨vm, M, rfl, hM, hT⟩; clear E a; intro a E
  have S := S.call2 (sel_cons (by repeat (first | exact pk1 | apply pick_tail)) (sel_nil _)) hT; rw [← hh, ← hm] at E; rw [← hm] at hM; obtain ⟨adm, cm, rfl⟩ := hM.slice
  refine list_pure E rfl rfl (by decide) (rn_move E rfl rfl) ?_; clear E a; intro a E
  refine list_pure E rfl rfl (by decide) (rn_extract E rfl rfl rfl) ?_; clear E a; intro a E
  refine list_pure E rfl rfl (by decide) (rn_extract E rfl rfl rfl) ?_; clear E a; intro a E
  refine list_wp rfl (wp_alloc E S rfl rfl (by decide) rfl rfl rfl ?_); clear E S a; intro a w b16 E S
  refine list_wp rfl (wp_storeN E S rfl rfl rfl rfl (by simp [Value.oneCell']) rfl (by repeat (first | exact pk1 | apply pick_tail)) (by simp) ?_); clear E S a; intro a w E S; simp only [List.take_succ_cons, List.take_zero, List.drop_succ_cons, List.drop_zero, List.cons_append, List.nil_append, List.append_nil, List.length_cons, List.length_nil, Nat.zero_add, Nat.add_zero] at S
  refine list_pure E rfl rfl (by decide) (rn_assign E rfl rfl) ?_; clear E a; intro a E
  refine wpList_nil ?_
  refine then_k hK ?_; clear hK; clear K
  refine wp_seq_k ?_; intro K hK
  replace E := E.keep (e' := [(3, _), (4, _), (5, _), (6, _), (8, _), (9, _), (10, _), (11, _), (12, _), (13, _), (14, _), (15, _), (16, _), (17, _)]) (keep_cons rfl (keep_cons rfl (keep_cons rfl (keep_cons rfl (keep_cons rfl (keep_cons rfl (keep_cons rfl (keep_cons rfl (keep_cons rfl (keep_cons rfl (keep_cons rfl (keep_cons rfl (keep_cons rfl (keep_cons rfl (keep_nil)))))))))))))))
  refine region_list ?_
  refine list_pure E rfl rfl (by decide) (rn_load_blk (vs := [_, _, _, _, _, _, _, _, _, _, _, _]) E rfl rfl rfl (S.get (by repeat (first | exact pk1 | apply pick_tail))) rfl rfl) ?_; clear E a; intro a E
  refine list_call E rfl rfl (by decide) rfl Tryd.func20 rfl (by kernel_rfl) rfl (ubencode_ret u hu _) ?_
  rintro v58 w ⟨vx, Cx, rfl, hCx, hT⟩; clear E a; intro a E
  have S := S.fresh hT; rw [← hi] at E; obtain ⟨adx, cx, rfl⟩ := hCx.slice; rw [← hn3] at E; have hCx : Buf Cx 5 1 (.slice adx n3' cx) (ubO u).length (byt (ubO u)) := (by rw [hn3]; exact hCx)
  refine list_pure E rfl rfl (by decide) (rn_move E rfl rfl) ?_; clear E a; intro a E
  refine list_pure E rfl rfl (by decide) (rn_extract E rfl rfl rfl) ?_; clear E a; intro a E
  refine list_pure E rfl rfl (by decide) (rn_extract E rfl rfl rfl) ?_; clear E a; intro a E
  refine list_pure E rfl rfl (by decide) (rn_assign E rfl rfl) ?_; clear E a; intro a E
  refine list_pure E rfl rfl (by decide) (rn_assign E rfl rfl) ?_; clear E a; intro a E
  refine wpList_nil ?_
  refine then_k hK ?_; clear hK; clear K
  refine wp_seq_k ?_; intro K hK
  refine region_list ?_
  refine list_pure E rfl rfl (by decide) (rn_move E rfl rfl) ?_; clear E a; intro a E
  refine list_call E rfl rfl (by decide) rfl Tryd.func28 rfl (by kernel_rfl) rfl (ubdecode_ret Cx _ (ubO u) hCx.rd (buf_hcap hCx) _ (S.hp.sel (sel_cons (by repeat (first | exact pk1 | apply pick_tail)) (sel_nil _)))) ?_
  rintro v63 w ⟨rfl, hT⟩; clear E a; intro a E
  have S := S.call1 (sel_cons (by repeat (first | exact pk1 | apply pick_tail)) (sel_nil _)) hT; rw [← hj, ← hvu] at E
  refine list_pure E rfl rfl (by decide) (rn_move E rfl rfl) ?_; clear E a; intro a E
  refine list_pure E rfl rfl (by decide) (rn_extract E rfl rfl rfl) ?_; clear E a; intro a E
  refine list_pure E rfl rfl (by decide) (rn_extract E rfl rfl rfl) ?_; clear E a; intro a E
  refine list_wp rfl (wp_alloc E S rfl rfl (by decide) rfl rfl rfl ?_); clear E S a; intro a w b20 E S
  refine list_wp rfl (wp_storeN E S rfl rfl rfl rfl (by simp [Value.oneCell']) rfl (by repeat (first | exact pk1 | apply pick_tail)) (by simp) ?_); clear E S a; intro a w E S; simp only [List.take_succ_cons, List.take_zero, List.drop_succ_cons, List.drop_zero, List.cons_append, List.nil_append, List.append_nil, List.length_cons, List.length_nil, Nat.zero_add, Nat.add_zero] at S
  refine list_pure E rfl rfl (by decide) (rn_assign E rfl rfl) ?_; clear E a; intro a E
  refine wpList_nil ?_
  refine then_k hK ?_; clear hK; clear K
  refine wp_seq_k ?_; intro K hK
  replace E := E.keep (e' := [(3, _), (4, _), (5, _), (6, _), (8, _), (9, _), (10, _), (11, _), (12, _), (13, _), (14, _), (15, _), (16, _), (17, _), (18, _), (19, _), (20, _), (21, _)]) (keep_cons rfl (keep_cons rfl (keep_cons rfl (keep_cons rfl (keep_cons rfl (keep_cons rfl (keep_cons rfl (keep_cons rfl (keep_cons rfl (keep_cons rfl (keep_cons rfl (keep_cons rfl (keep_cons rfl (keep_cons rfl (keep_cons rfl (keep_cons rfl (keep_cons rfl (keep_cons rfl (keep_nil)))))))))))))))))))
  refine region_list ?_
  refine list_pure E rfl rfl (by decide) (rn_load_blk (vs := [_, _, _, _]) E rfl rfl rfl (S.get (by repeat (first | exact pk1 | apply pick_tail))) rfl rfl) ?_; clear E a; intro a E
  refine list_pure E rfl rfl (by decide) (rn_load_blk (vs := [_, _, _, _]) E rfl rfl rfl (S.get (by repeat (first | exact pk1 | apply pick_tail))) rfl rfl) ?_; clear E a; intro a E
  refine list_call E rfl rfl (by decide) rfl Tryd.func17 rfl (by kernel_rfl) rfl (samelb_ret O M _ _ l m hL hM.rd (by omega) _ (S.hp.sel (sel_cons (by repeat (first | exact pk1 | apply pick_tail)) (sel_cons (by repeat (first | exact pk1 | apply pick_tail)) (sel_nil _))))) ?_
  rintro v68 w ⟨rfl, hT⟩; clear E a; intro a E
  have S := S.call2 (sel_cons (by repeat (first | exact pk1 | apply pick_tail)) (sel_cons (by repeat (first | exact pk1 | apply pick_tail)) (sel_nil _))) hT
  refine list_pure E rfl rfl (by decide) (rn_assign E rfl rfl) ?_; clear E a; intro a E
  refine wpList_nil ?_
  refine then_k hK ?_; clear hK; clear K
  refine wp_seq_k ?_; intro K hK
  refine wp_join (fun (a : Act) (w' : World) => ∃ bt : Bool, bt = true ∧ (∃ Ls, St w0 [O] w' (O :: [(b6, cel u.lay 45)] :: [(b20, cel vu.lay 45)] :: Ls)) ∧ Fr a 191 [(3, v), (6, ptr b6), (9, .bool true), (14, .slice add n2' cd), (15, .int .i64 g), (17, .int .i64 h), (18, .slice adx n3' cx), (19, .int .i64 i), (20, ptr b20), (21, .int .i64 j), (22, .bool (decide (l = m))), (23, .bool bt)]) ?_ ?_
  · skip
    refine region_list ?_
    refine list_pure E rfl rfl (by decide) (rn_move E rfl rfl) ?_; clear E a; intro a E
    rcases A3 with ⟨a1, a2⟩ | ⟨a1, a2, a3, a4⟩
    · skip
      refine list_pure E rfl rfl (by decide) (by first | exact rn_neq E rfl rfl rfl | exact rn_neq_ptr_nil E rfl rfl rfl rfl | exact rn_neq_bool E rfl rfl rfl rfl | exact rn_neq_string E rfl rfl rfl) ?_; clear E a; intro a E
      refine list_pure E rfl rfl (by decide) (rn_move E rfl rfl) ?_; clear E a; intro a E
      refine guard_true E (t := 71) rfl ((by simp [a1])) (fun hb71 => ?_)
      refine list_guard_yes E rfl rfl rfl rfl hb71 rfl (by decide) (rn_move E rfl rfl) ?_; clear E a; intro a E
      refine list_guard_yes E rfl rfl rfl rfl hb71 rfl (by decide) (by first | exact rn_len E rfl rfl rfl | exact rn_len_str E rfl rfl rfl | exact rn_len_string E rfl rfl rfl) ?_; clear E a; intro a E
      refine list_guard_yes E rfl rfl rfl rfl hb71 rfl (by decide) (by first | exact rn_eql E rfl rfl rfl | exact rn_eql_ptr_nil E rfl rfl rfl rfl | exact rn_eql_bool E rfl rfl rfl rfl | exact rn_eql_string E rfl rfl rfl) ?_; clear E a; intro a E
      refine list_pure E rfl rfl (by decide) (rn_pick_yes' E rfl rfl hb71 rfl) ?_; clear E a; intro a E
      refine list_pure E rfl rfl (by decide) (rn_move E rfl rfl) ?_; clear E a; intro a E
      refine guard_true E (t := 76) rfl ((by simp [a2])) (fun hb76 => ?_)
      refine list_guard_no E rfl rfl rfl rfl hb76 rfl (by decide) ?_; clear E a; intro a E
      refine list_guard_no E rfl rfl rfl rfl hb76 rfl (by decide) ?_; clear E a; intro a E
      refine list_guard_no E rfl rfl rfl rfl hb76 rfl (by decide) ?_; clear E a; intro a E
      refine list_guard_undef E rfl rfl rfl rfl rfl (by decide) ?_; clear E a; intro a E
      refine list_guard_undef E rfl rfl rfl rfl rfl (by decide) ?_; clear E a; intro a E
      refine list_guard_undef E rfl rfl rfl rfl rfl (by decide) ?_; clear E a; intro a E
      refine list_guard_no E rfl rfl rfl rfl hb76 rfl (by decide) ?_; clear E a; intro a E
      refine list_guard_no E rfl rfl rfl rfl hb76 rfl (by decide) ?_; clear E a; intro a E
      refine list_guard_undef E rfl rfl rfl rfl rfl (by decide) ?_; clear E a; intro a E
      refine list_guard_undef E rfl rfl rfl rfl rfl (by decide) ?_; clear E a; intro a E
      refine list_guard_undef E rfl rfl rfl rfl rfl (by decide) ?_; clear E a; intro a E
      refine list_guard_no E rfl rfl rfl rfl hb76 rfl (by decide) ?_; clear E a; intro a E
      refine list_pure E rfl rfl (by decide) (rn_pick_yes' E rfl rfl hb76 rfl) ?_; clear E a; intro a E
      refine list_pure E rfl rfl (by decide) (rn_assign E rfl rfl) ?_; clear E a; intro a E
      refine wpList_nil ?_
      refine joined_here ?_
      exact ⟨_, rfl, ⟨_, S.front3 (A := O) (by repeat (first | exact pk1 | apply pick_tail)) (B := [(b6, _)]) (by repeat (first | exact pk1 | apply pick_tail)) (C := [(b20, _)]) (by repeat (first | exact pk1 | apply pick_tail))⟩, E.keep (keep_cons rfl (keep_cons rfl (keep_cons rfl (keep_cons rfl (keep_cons rfl (keep_cons rfl (keep_cons rfl (keep_cons rfl (keep_cons rfl (keep_cons rfl (keep_cons rfl (keep_cons rfl keep_nil))))))))))))⟩
    · skip
      refine list_pure E rfl rfl (by decide) (by first | exact rn_neq E rfl rfl rfl | exact rn_neq_ptr_nil E rfl rfl rfl rfl | exact rn_neq_bool E rfl rfl rfl rfl | exact rn_neq_string E rfl rfl rfl) ?_; clear E a; intro a E
      refine list_pure E rfl rfl (by decide) (rn_move E rfl rfl) ?_; clear E a; intro a E
      refine guard_false E (t := 71) rfl ((by simp [a1])) (fun hb71 => ?_)
      refine list_guard_no E rfl rfl rfl rfl hb71 rfl (by decide) ?_; clear E a; intro a E
      refine list_guard_no E rfl rfl rfl rfl hb71 rfl (by decide) ?_; clear E a; intro a E
      refine list_guard_no E rfl rfl rfl rfl hb71 rfl (by decide) ?_; clear E a; intro a E
      refine list_pure E rfl rfl (by decide) (rn_pick_no' E rfl rfl hb71 rfl) ?_; clear E a; intro a E
      refine list_pure E rfl rfl (by decide) (rn_move E rfl rfl) ?_; clear E a; intro a E
      refine list_guard_yes E rfl rfl rfl rfl rfl rfl (by decide) (rn_move E rfl rfl) ?_; clear E a; intro a E
      refine list_guard_yes E rfl rfl rfl rfl rfl rfl (by decide) (by first | exact rn_eql E rfl rfl rfl | exact rn_eql_ptr_nil E rfl rfl rfl rfl | exact rn_eql_bool E rfl rfl rfl rfl | exact rn_eql_string E rfl rfl rfl) ?_; clear E a; intro a E
      refine list_guard_yes E rfl rfl rfl rfl rfl rfl (by decide) (rn_move E rfl rfl) ?_; clear E a; intro a E
      refine guard_true E (t := 79) rfl ((by simp [a2])) (fun hb79 => ?_)
      refine list_guard_yes E rfl rfl rfl rfl hb79 rfl (by decide) (rn_load_blk (vs := [_, _, _, _, _, _, _, _, _]) E rfl rfl rfl (S.get (by repeat (first | exact pk1 | apply pick_tail))) rfl rfl) ?_; clear E a; intro a E
      refine list_guard_yes E rfl rfl rfl rfl hb79 rfl (by decide) (rn_load_blk (vs := [_, _, _, _, _, _, _, _, _]) E rfl rfl rfl (S.get (by repeat (first | exact pk1 | apply pick_tail))) rfl rfl) ?_; clear E a; intro a E
      refine list_guard_yes E rfl rfl rfl rfl hb79 rfl (by decide) (by first | exact rn_eql_pair E rfl rfl rfl rfl (by kernel_rfl) (by kernel_rfl) rfl rfl rfl | exact rn_eql_cells E rfl rfl rfl rfl (by kernel_rfl) (by kernel_rfl) rfl) ?_; clear E a; intro a E
      refine list_guard_yes E rfl rfl rfl rfl rfl rfl (by decide) (rn_pick_yes' E rfl rfl hb79 rfl) ?_; clear E a; intro a E
      refine list_guard_yes E rfl rfl rfl rfl rfl rfl (by decide) (rn_move E rfl rfl) ?_; clear E a; intro a E
      refine guard_true E (t := 84) rfl ((by rw [a3]; simp)) (fun hb84 => ?_)
      refine list_guard_yes E rfl rfl rfl rfl hb84 rfl (by decide) (rn_move E rfl rfl) ?_; clear E a; intro a E
      refine list_guard_yes E rfl rfl rfl rfl hb84 rfl (by decide) (by first | exact rn_len E rfl rfl rfl | exact rn_len_str E rfl rfl rfl | exact rn_len_string E rfl rfl rfl) ?_; clear E a; intro a E
      refine list_guard_yes E rfl rfl rfl rfl hb84 rfl (by decide) (by first | exact rn_eql E rfl rfl rfl | exact rn_eql_ptr_nil E rfl rfl rfl rfl | exact rn_eql_bool E rfl rfl rfl rfl | exact rn_eql_string E rfl rfl rfl) ?_; clear E a; intro a E
      refine list_guard_yes E rfl rfl rfl rfl rfl rfl (by decide) (rn_pick_yes' E rfl rfl hb84 rfl) ?_; clear E a; intro a E
      refine list_pure E rfl rfl (by decide) (rn_pick_no' E rfl rfl rfl rfl) ?_; clear E a; intro a E
      refine list_pure E rfl rfl (by decide) (rn_assign E rfl rfl) ?_; clear E a; intro a E
      refine wpList_nil ?_
      refine joined_here ?_
      exact ⟨_, by simp [a4], ⟨_, S.front3 (A := O) (by repeat (first | exact pk1 | apply pick_tail)) (B := [(b6, _)]) (by repeat (first | exact pk1 | apply pick_tail)) (C := [(b20, _)]) (by repeat (first | exact pk1 | apply pick_tail))⟩, E.keep (keep_cons rfl (keep_cons rfl (keep_cons rfl (keep_cons rfl (keep_cons rfl (keep_cons rfl (keep_cons rfl (keep_cons rfl (keep_cons rfl (keep_cons rfl (keep_cons rfl (keep_cons rfl keep_nil))))))))))))⟩
  · clear E S a; intro a w J; obtain ⟨bt, rfl, ⟨Ls, S⟩, E⟩ := J
    dsimp only [Ub.lay] at S
    refine then_k hK ?_; clear hK; clear K
    refine wp_seq_k ?_; intro K hK
    refine wp_join (fun (a : Act) (w' : World) => ∃ bt : Bool, bt = true ∧ (∃ Ls, St w0 [O] w' (O :: [(b6, cel u.lay 45)] :: [(b20, cel vu.lay 45)] :: Ls)) ∧ Fr a 191 [(3, v), (6, ptr b6), (9, .bool true), (18, .slice adx n3' cx), (19, .int .i64 i), (20, ptr b20), (21, .int .i64 j), (23, .bool true), (24, .bool bt)]) ?_ ?_
    · skip
      refine region_list ?_
      refine list_pure E rfl rfl (by decide) (rn_move E rfl rfl) ?_; clear E a; intro a E
      rcases B3 with ⟨a1, a2⟩ | ⟨a1, a2, a3, a4⟩
      · skip
        refine list_pure E rfl rfl (by decide) (by first | exact rn_neq E rfl rfl rfl | exact rn_neq_ptr_nil E rfl rfl rfl rfl | exact rn_neq_bool E rfl rfl rfl rfl | exact rn_neq_string E rfl rfl rfl) ?_; clear E a; intro a E
        refine list_pure E rfl rfl (by decide) (rn_move E rfl rfl) ?_; clear E a; intro a E
        refine guard_true E (t := 92) rfl ((by simp [a1])) (fun hb92 => ?_)
        refine list_guard_yes E rfl rfl rfl rfl hb92 rfl (by decide) (rn_move E rfl rfl) ?_; clear E a; intro a E
        refine list_guard_yes E rfl rfl rfl rfl hb92 rfl (by decide) (by first | exact rn_len E rfl rfl rfl | exact rn_len_str E rfl rfl rfl | exact rn_len_string E rfl rfl rfl) ?_; clear E a; intro a E
        refine list_guard_yes E rfl rfl rfl rfl hb92 rfl (by decide) (by first | exact rn_eql E rfl rfl rfl | exact rn_eql_ptr_nil E rfl rfl rfl rfl | exact rn_eql_bool E rfl rfl rfl rfl | exact rn_eql_string E rfl rfl rfl) ?_; clear E a; intro a E
        refine list_pure E rfl rfl (by decide) (rn_pick_yes' E rfl rfl hb92 rfl) ?_; clear E a; intro a E
        refine list_pure E rfl rfl (by decide) (rn_move E rfl rfl) ?_; clear E a; intro a E
        refine guard_true E (t := 97) rfl ((by simp [a2])) (fun hb97 => ?_)
        refine list_guard_no E rfl rfl rfl rfl hb97 rfl (by decide) ?_; clear E a; intro a E
        refine list_guard_no E rfl rfl rfl rfl hb97 rfl (by decide) ?_; clear E a; intro a E
        refine list_guard_no E rfl rfl rfl rfl hb97 rfl (by decide) ?_; clear E a; intro a E
        refine list_guard_undef E rfl rfl rfl rfl rfl (by decide) ?_; clear E a; intro a E
        refine list_guard_no E rfl rfl rfl rfl hb97 rfl (by decide) ?_; clear E a; intro a E
        refine list_guard_no E rfl rfl rfl rfl hb97 rfl (by decide) ?_; clear E a; intro a E
        refine list_guard_undef E rfl rfl rfl rfl rfl (by decide) ?_; clear E a; intro a E
        refine list_guard_undef E rfl rfl rfl rfl rfl (by decide) ?_; clear E a; intro a E
        refine list_guard_undef E rfl rfl rfl rfl rfl (by decide) ?_; clear E a; intro a E
        refine list_guard_no E rfl rfl rfl rfl hb97 rfl (by decide) ?_; clear E a; intro a E
        refine list_pure E rfl rfl (by decide) (rn_pick_yes' E rfl rfl hb97 rfl) ?_; clear E a; intro a E
        refine list_pure E rfl rfl (by decide) (rn_assign E rfl rfl) ?_; clear E a; intro a E
        refine wpList_nil ?_
        refine joined_here ?_
        exact ⟨_, rfl, ⟨_, S⟩, E.keep (keep_cons rfl (keep_cons rfl (keep_cons rfl (keep_cons rfl (keep_cons rfl (keep_cons rfl (keep_cons rfl (keep_cons rfl (keep_cons rfl keep_nil)))))))))⟩
      · skip
        refine list_pure E rfl rfl (by decide) (by first | exact rn_neq E rfl rfl rfl | exact rn_neq_ptr_nil E rfl rfl rfl rfl | exact rn_neq_bool E rfl rfl rfl rfl | exact rn_neq_string E rfl rfl rfl) ?_; clear E a; intro a E
        refine list_pure E rfl rfl (by decide) (rn_move E rfl rfl) ?_; clear E a; intro a E
        refine guard_false E (t := 92) rfl ((by simp [a1])) (fun hb92 => ?_)
        refine list_guard_no E rfl rfl rfl rfl hb92 rfl (by decide) ?_; clear E a; intro a E
        refine list_guard_no E rfl rfl rfl rfl hb92 rfl (by decide) ?_; clear E a; intro a E
        refine list_guard_no E rfl rfl rfl rfl hb92 rfl (by decide) ?_; clear E a; intro a E
        refine list_pure E rfl rfl (by decide) (rn_pick_no' E rfl rfl hb92 rfl) ?_; clear E a; intro a E
        refine list_pure E rfl rfl (by decide) (rn_move E rfl rfl) ?_; clear E a; intro a E
        refine list_guard_yes E rfl rfl rfl rfl rfl rfl (by decide) (rn_move E rfl rfl) ?_; clear E a; intro a E
        refine list_guard_yes E rfl rfl rfl rfl rfl rfl (by decide) (by first | exact rn_eql E rfl rfl rfl | exact rn_eql_ptr_nil E rfl rfl rfl rfl | exact rn_eql_bool E rfl rfl rfl rfl | exact rn_eql_string E rfl rfl rfl) ?_; clear E a; intro a E
        refine list_guard_yes E rfl rfl rfl rfl rfl rfl (by decide) (rn_move E rfl rfl) ?_; clear E a; intro a E
        refine guard_true E (t := 100) rfl ((by simp [a2])) (fun hb100 => ?_)
        refine list_guard_yes E rfl rfl rfl rfl hb100 rfl (by decide) (rn_move E rfl rfl) ?_; clear E a; intro a E
        refine list_guard_yes E rfl rfl rfl rfl rfl rfl (by decide) (rn_pick_yes' E rfl rfl hb100 rfl) ?_; clear E a; intro a E
        refine list_guard_yes E rfl rfl rfl rfl rfl rfl (by decide) (rn_move E rfl rfl) ?_; clear E a; intro a E
        refine guard_true E (t := 103) rfl ((by rw [a3]; simp)) (fun hb103 => ?_)
        refine list_guard_yes E rfl rfl rfl rfl hb103 rfl (by decide) (rn_move E rfl rfl) ?_; clear E a; intro a E
        refine list_guard_yes E rfl rfl rfl rfl hb103 rfl (by decide) (by first | exact rn_len E rfl rfl rfl | exact rn_len_str E rfl rfl rfl | exact rn_len_string E rfl rfl rfl) ?_; clear E a; intro a E
        refine list_guard_yes E rfl rfl rfl rfl hb103 rfl (by decide) (by first | exact rn_eql E rfl rfl rfl | exact rn_eql_ptr_nil E rfl rfl rfl rfl | exact rn_eql_bool E rfl rfl rfl rfl | exact rn_eql_string E rfl rfl rfl) ?_; clear E a; intro a E
        refine list_guard_yes E rfl rfl rfl rfl rfl rfl (by decide) (rn_pick_yes' E rfl rfl hb103 rfl) ?_; clear E a; intro a E
        refine list_pure E rfl rfl (by decide) (rn_pick_no' E rfl rfl rfl rfl) ?_; clear E a; intro a E
        refine list_pure E rfl rfl (by decide) (rn_assign E rfl rfl) ?_; clear E a; intro a E
        refine wpList_nil ?_
        refine joined_here ?_
        exact ⟨_, by simp [a4], ⟨_, S⟩, E.keep (keep_cons rfl (keep_cons rfl (keep_cons rfl (keep_cons rfl (keep_cons rfl (keep_cons rfl (keep_cons rfl (keep_cons rfl (keep_cons rfl keep_nil)))))))))⟩
    · clear E S a; intro a w J; obtain ⟨bt, rfl, ⟨Ls, S⟩, E⟩ := J
      dsimp only [Ub.lay] at S
      refine then_k hK ?_; clear hK; clear K
      refine wp_seq_k ?_; intro K hK
      refine wp_join (fun (a : Act) (w' : World) => ∃ bt : Bool, bt = true ∧ (∃ Ls, St w0 [O] w' (O :: Ls)) ∧ Fr a 191 [(3, v), (9, .bool true), (23, .bool true), (24, .bool true), (25, .bool bt)]) ?_ ?_
      · skip
        refine region_list ?_
        refine list_pure E rfl rfl (by decide) (rn_move E rfl rfl) ?_; clear E a; intro a E
        rcases C3 with ⟨a1, a2⟩ | ⟨a1, a2, a3, a4⟩
        · skip
          refine list_pure E rfl rfl (by decide) (by first | exact rn_neq E rfl rfl rfl | exact rn_neq_ptr_nil E rfl rfl rfl rfl | exact rn_neq_bool E rfl rfl rfl rfl | exact rn_neq_string E rfl rfl rfl) ?_; clear E a; intro a E
          refine list_pure E rfl rfl (by decide) (rn_move E rfl rfl) ?_; clear E a; intro a E
          refine guard_true E (t := 111) rfl ((by simp [a1])) (fun hb111 => ?_)
          refine list_guard_yes E rfl rfl rfl rfl hb111 rfl (by decide) (rn_move E rfl rfl) ?_; clear E a; intro a E
          refine list_guard_yes E rfl rfl rfl rfl hb111 rfl (by decide) (by first | exact rn_len E rfl rfl rfl | exact rn_len_str E rfl rfl rfl | exact rn_len_string E rfl rfl rfl) ?_; clear E a; intro a E
          refine list_guard_yes E rfl rfl rfl rfl hb111 rfl (by decide) (by first | exact rn_eql E rfl rfl rfl | exact rn_eql_ptr_nil E rfl rfl rfl rfl | exact rn_eql_bool E rfl rfl rfl rfl | exact rn_eql_string E rfl rfl rfl) ?_; clear E a; intro a E
          refine list_pure E rfl rfl (by decide) (rn_pick_yes' E rfl rfl hb111 rfl) ?_; clear E a; intro a E
          refine list_pure E rfl rfl (by decide) (rn_move E rfl rfl) ?_; clear E a; intro a E
          refine guard_true E (t := 116) rfl ((by simp [a2])) (fun hb116 => ?_)
          refine list_guard_no E rfl rfl rfl rfl hb116 rfl (by decide) ?_; clear E a; intro a E
          refine list_guard_no E rfl rfl rfl rfl hb116 rfl (by decide) ?_; clear E a; intro a E
          refine list_guard_no E rfl rfl rfl rfl hb116 rfl (by decide) ?_; clear E a; intro a E
          refine list_guard_undef E rfl rfl rfl rfl rfl (by decide) ?_; clear E a; intro a E
          refine list_guard_undef E rfl rfl rfl rfl rfl (by decide) ?_; clear E a; intro a E
          refine list_guard_undef E rfl rfl rfl rfl rfl (by decide) ?_; clear E a; intro a E
          refine list_guard_no E rfl rfl rfl rfl hb116 rfl (by decide) ?_; clear E a; intro a E
          refine list_guard_no E rfl rfl rfl rfl hb116 rfl (by decide) ?_; clear E a; intro a E
          refine list_guard_undef E rfl rfl rfl rfl rfl (by decide) ?_; clear E a; intro a E
          refine list_guard_undef E rfl rfl rfl rfl rfl (by decide) ?_; clear E a; intro a E
          refine list_guard_undef E rfl rfl rfl rfl rfl (by decide) ?_; clear E a; intro a E
          refine list_guard_no E rfl rfl rfl rfl hb116 rfl (by decide) ?_; clear E a; intro a E
          refine list_pure E rfl rfl (by decide) (rn_pick_yes' E rfl rfl hb116 rfl) ?_; clear E a; intro a E
          refine list_pure E rfl rfl (by decide) (rn_assign E rfl rfl) ?_; clear E a; intro a E
          refine wpList_nil ?_
          refine joined_here ?_
          exact ⟨_, rfl, ⟨_, S⟩, E.keep (keep_cons rfl (keep_cons rfl (keep_cons rfl (keep_cons rfl (keep_cons rfl keep_nil)))))⟩
        · skip
          refine list_pure E rfl rfl (by decide) (by first | exact rn_neq E rfl rfl rfl | exact rn_neq_ptr_nil E rfl rfl rfl rfl | exact rn_neq_bool E rfl rfl rfl rfl | exact rn_neq_string E rfl rfl rfl) ?_; clear E a; intro a E
          refine list_pure E rfl rfl (by decide) (rn_move E rfl rfl) ?_; clear E a; intro a E
          refine guard_false E (t := 111) rfl ((by simp [a1])) (fun hb111 => ?_)
          refine list_guard_no E rfl rfl rfl rfl hb111 rfl (by decide) ?_; clear E a; intro a E
          refine list_guard_no E rfl rfl rfl rfl hb111 rfl (by decide) ?_; clear E a; intro a E
          refine list_guard_no E rfl rfl rfl rfl hb111 rfl (by decide) ?_; clear E a; intro a E
          refine list_pure E rfl rfl (by decide) (rn_pick_no' E rfl rfl hb111 rfl) ?_; clear E a; intro a E
          refine list_pure E rfl rfl (by decide) (rn_move E rfl rfl) ?_; clear E a; intro a E
          refine list_guard_yes E rfl rfl rfl rfl rfl rfl (by decide) (rn_move E rfl rfl) ?_; clear E a; intro a E
          refine list_guard_yes E rfl rfl rfl rfl rfl rfl (by decide) (by first | exact rn_eql E rfl rfl rfl | exact rn_eql_ptr_nil E rfl rfl rfl rfl | exact rn_eql_bool E rfl rfl rfl rfl | exact rn_eql_string E rfl rfl rfl) ?_; clear E a; intro a E
          refine list_guard_yes E rfl rfl rfl rfl rfl rfl (by decide) (rn_move E rfl rfl) ?_; clear E a; intro a E
          refine guard_true E (t := 119) rfl ((by simp [a2])) (fun hb119 => ?_)
          refine list_guard_yes E rfl rfl rfl rfl hb119 rfl (by decide) (rn_load_blk (vs := [_, _, _, _, _, _, _, _, _, _, _, _]) E rfl rfl rfl (S.get (by repeat (first | exact pk1 | apply pick_tail))) rfl rfl) ?_; clear E a; intro a E
          refine list_guard_yes E rfl rfl rfl rfl hb119 rfl (by decide) (rn_load_blk (vs := [_, _, _, _, _, _, _, _, _, _, _, _]) E rfl rfl rfl (S.get (by repeat (first | exact pk1 | apply pick_tail))) rfl rfl) ?_; clear E a; intro a E
          refine list_guard_yes E rfl rfl rfl rfl hb119 rfl (by decide) (by first | exact rn_eql_pair E rfl rfl rfl rfl (by kernel_rfl) (by kernel_rfl) rfl rfl rfl | exact rn_eql_cells E rfl rfl rfl rfl (by kernel_rfl) (by kernel_rfl) rfl) ?_; clear E a; intro a E
          refine list_guard_yes E rfl rfl rfl rfl rfl rfl (by decide) (rn_pick_yes' E rfl rfl hb119 rfl) ?_; clear E a; intro a E
          refine list_guard_yes E rfl rfl rfl rfl rfl rfl (by decide) (rn_move E rfl rfl) ?_; clear E a; intro a E
          refine guard_true E (t := 124) rfl ((by rw [a3]; simp)) (fun hb124 => ?_)
          refine list_guard_yes E rfl rfl rfl rfl hb124 rfl (by decide) (rn_move E rfl rfl) ?_; clear E a; intro a E
          refine list_guard_yes E rfl rfl rfl rfl hb124 rfl (by decide) (by first | exact rn_len E rfl rfl rfl | exact rn_len_str E rfl rfl rfl | exact rn_len_string E rfl rfl rfl) ?_; clear E a; intro a E
          refine list_guard_yes E rfl rfl rfl rfl hb124 rfl (by decide) (by first | exact rn_eql E rfl rfl rfl | exact rn_eql_ptr_nil E rfl rfl rfl rfl | exact rn_eql_bool E rfl rfl rfl rfl | exact rn_eql_string E rfl rfl rfl) ?_; clear E a; intro a E
          refine list_guard_yes E rfl rfl rfl rfl rfl rfl (by decide) (rn_pick_yes' E rfl rfl hb124 rfl) ?_; clear E a; intro a E
          refine list_pure E rfl rfl (by decide) (rn_pick_no' E rfl rfl rfl rfl) ?_; clear E a; intro a E
          refine list_pure E rfl rfl (by decide) (rn_assign E rfl rfl) ?_; clear E a; intro a E
          refine wpList_nil ?_
          refine joined_here ?_
          exact ⟨_, by simp [a4], ⟨_, S⟩, E.keep (keep_cons rfl (keep_cons rfl (keep_cons rfl (keep_cons rfl (keep_cons rfl keep_nil)))))⟩
      · clear E S a; intro a w J; obtain ⟨bt, rfl, ⟨Ls, S⟩, E⟩ := J
        refine then_k hK ?_; clear hK; clear K
        refine wp_seq_k ?_; intro K hK
        refine region_list ?_
        refine list_pure E rfl rfl (by decide) (rn_move E rfl rfl) ?_; clear E a; intro a E
        refine list_call E rfl rfl (by decide) rfl Tryd.func24 rfl (by kernel_rfl) rfl (ptdecode_ret O v b hO _ (S.hp.sel (sel_cons (by repeat (first | exact pk1 | apply pick_tail)) (sel_nil _)))) ?_
        rintro v132 w ⟨rfl, hT⟩; clear E a; intro a E
        have S := S.call1 (sel_cons (by repeat (first | exact pk1 | apply pick_tail)) (sel_nil _)) hT; rw [← hk, ← hr] at E
        refine list_pure E rfl rfl (by decide) (rn_move E rfl rfl) ?_; clear E a; intro a E
        refine list_pure E rfl rfl (by decide) (rn_extract E rfl rfl rfl) ?_; clear E a; intro a E
        refine list_pure E rfl rfl (by decide) (rn_extract E rfl rfl rfl) ?_; clear E a; intro a E
        refine list_wp rfl (wp_alloc E S rfl rfl (by decide) rfl rfl rfl ?_); clear E S a; intro a w b26 E S
        refine list_wp rfl (wp_storeN E S rfl rfl rfl rfl (by simp [Value.oneCell']) rfl (by repeat (first | exact pk1 | apply pick_tail)) (by simp) ?_); clear E S a; intro a w E S; simp only [List.take_succ_cons, List.take_zero, List.drop_succ_cons, List.drop_zero, List.cons_append, List.nil_append, List.append_nil, List.length_cons, List.length_nil, Nat.zero_add, Nat.add_zero] at S
        refine list_pure E rfl rfl (by decide) (rn_assign E rfl rfl) ?_; clear E a; intro a E
        refine wpList_nil ?_
        refine then_k hK ?_; clear hK; clear K
        refine wp_seq_k ?_; intro K hK
        refine region_list ?_
        refine list_pure E rfl rfl (by decide) (rn_load_blk (vs := [_, _, _, _, _, _, _, _, _]) E rfl rfl rfl (S.get (by repeat (first | exact pk1 | apply pick_tail))) rfl rfl) ?_; clear E a; intro a E
        refine list_call E rfl rfl (by decide) rfl Tryd.func10 rfl (by kernel_rfl) rfl (ptencode_ret r Dok _) ?_
        rintro v137 w ⟨va, Ca, rfl, hCa, hT⟩; clear E a; intro a E
        have S := S.fresh hT; rw [D0] at E
        refine list_pure E rfl rfl (by decide) (rn_move E rfl rfl) ?_; clear E a; intro a E
        refine list_pure E rfl rfl (by decide) (rn_extract E rfl rfl rfl) ?_; clear E a; intro a E
        refine list_pure E rfl rfl (by decide) (rn_extract E rfl rfl rfl) ?_; clear E a; intro a E
        refine list_pure E rfl rfl (by decide) (rn_assign E rfl rfl) ?_; clear E a; intro a E
        refine list_pure E rfl rfl (by decide) (rn_assign E rfl rfl) ?_; clear E a; intro a E
        refine wpList_nil ?_
        refine then_k hK ?_; clear hK; clear K
        refine wp_seq_k ?_; intro K hK
        refine region_list ?_
        refine list_pure E rfl rfl (by decide) (rn_move E rfl rfl) ?_; clear E a; intro a E
        refine list_call E rfl rfl (by decide) rfl Tryd.func28 rfl (by kernel_rfl) rfl (ubdecode_ret O v b hO hcap _ (S.hp.sel (sel_cons (by repeat (first | exact pk1 | apply pick_tail)) (sel_nil _)))) ?_
        rintro v142 w ⟨rfl, hT⟩; clear E a; intro a E
        have S := S.call1 (sel_cons (by repeat (first | exact pk1 | apply pick_tail)) (sel_nil _)) hT; rw [← hs, ← ho'] at E
        refine list_pure E rfl rfl (by decide) (rn_move E rfl rfl) ?_; clear E a; intro a E
        refine list_pure E rfl rfl (by decide) (rn_extract E rfl rfl rfl) ?_; clear E a; intro a E
        refine list_pure E rfl rfl (by decide) (rn_extract E rfl rfl rfl) ?_; clear E a; intro a E
        refine list_wp rfl (wp_alloc E S rfl rfl (by decide) rfl rfl rfl ?_); clear E S a; intro a w b30 E S
        refine list_wp rfl (wp_storeN E S rfl rfl rfl rfl (by simp [Value.oneCell']) rfl (by repeat (first | exact pk1 | apply pick_tail)) (by simp) ?_); clear E S a; intro a w E S; simp only [List.take_succ_cons, List.take_zero, List.drop_succ_cons, List.drop_zero, List.cons_append, List.nil_append, List.append_nil, List.length_cons, List.length_nil, Nat.zero_add, Nat.add_zero] at S
        refine list_pure E rfl rfl (by decide) (rn_assign E rfl rfl) ?_; clear E a; intro a E
        refine wpList_nil ?_
        refine then_k hK ?_; clear hK; clear K
        refine wp_seq_k ?_; intro K hK
        replace E := E.keep (e' := [(3, _), (9, _), (23, _), (24, _), (25, _), (27, _), (28, _), (29, _), (30, _), (31, _)]) (keep_cons rfl (keep_cons rfl (keep_cons rfl (keep_cons rfl (keep_cons rfl (keep_cons rfl (keep_cons rfl (keep_cons rfl (keep_cons rfl (keep_cons rfl (keep_nil)))))))))))
        refine region_list ?_
        refine list_pure E rfl rfl (by decide) (rn_load_blk (vs := [_, _, _, _, _, _, _, _, _, _, _, _]) E rfl rfl rfl (S.get (by repeat (first | exact pk1 | apply pick_tail))) rfl rfl) ?_; clear E a; intro a E
        refine list_call E rfl rfl (by decide) rfl Tryd.func20 rfl (by kernel_rfl) rfl (ubencode_ret o Eok _) ?_
        rintro v147 w ⟨vt, Ct, rfl, hCt, hT⟩; clear E a; intro a E
        have S := S.fresh hT; rw [← hw1] at E
        refine list_pure E rfl rfl (by decide) (rn_move E rfl rfl) ?_; clear E a; intro a E
        refine list_pure E rfl rfl (by decide) (rn_extract E rfl rfl rfl) ?_; clear E a; intro a E
        refine list_pure E rfl rfl (by decide) (rn_extract E rfl rfl rfl) ?_; clear E a; intro a E
        refine list_pure E rfl rfl (by decide) (rn_assign E rfl rfl) ?_; clear E a; intro a E
        refine list_pure E rfl rfl (by decide) (rn_assign E rfl rfl) ?_; clear E a; intro a E
        refine wpList_nil ?_
        refine then_k hK ?_; clear hK; clear K
        refine wp_seq_k ?_; intro K hK
        refine wp_join (fun (a : Act) (w' : World) => ∃ bt : Bool, bt = true ∧ (∃ Ls, St w0 [O] w' (O :: Ls)) ∧ Fr a 191 [(9, .bool true), (23, .bool true), (24, .bool true), (25, .bool true), (34, .bool bt)]) ?_ ?_
        · skip
          refine region_list ?_
          refine list_pure E rfl rfl (by decide) (rn_move E rfl rfl) ?_; clear E a; intro a E
          rcases (show (k ≠ 0 ∧ s ≠ 0) ∨ (k ≠ 0 ∧ s = 0) ∨ (k = 0 ∧ s ≠ 0) ∨ (k = 0 ∧ s = 0) by omega) with ⟨a1, a2⟩ | ⟨a1, a2⟩ | ⟨a1, a2⟩ | ⟨a1, a2⟩
          · skip
            refine list_pure E rfl rfl (by decide) (by first | exact rn_neq E rfl rfl rfl | exact rn_neq_ptr_nil E rfl rfl rfl rfl | exact rn_neq_bool E rfl rfl rfl rfl | exact rn_neq_string E rfl rfl rfl) ?_; clear E a; intro a E
            refine list_pure E rfl rfl (by decide) (rn_move E rfl rfl) ?_; clear E a; intro a E
            refine guard_true E (t := 152) rfl ((by simp [a1])) (fun hb152 => ?_)
            refine list_guard_no E rfl rfl rfl rfl hb152 rfl (by decide) ?_; clear E a; intro a E
            refine list_guard_no E rfl rfl rfl rfl hb152 rfl (by decide) ?_; clear E a; intro a E
            refine list_guard_no E rfl rfl rfl rfl hb152 rfl (by decide) ?_; clear E a; intro a E
            refine list_guard_undef E rfl rfl rfl rfl rfl (by decide) ?_; clear E a; intro a E
            refine list_guard_undef E rfl rfl rfl rfl rfl (by decide) ?_; clear E a; intro a E
            refine list_guard_undef E rfl rfl rfl rfl rfl (by decide) ?_; clear E a; intro a E
            refine list_guard_undef E rfl rfl rfl rfl rfl (by decide) ?_; clear E a; intro a E
            refine list_guard_undef E rfl rfl rfl rfl rfl (by decide) ?_; clear E a; intro a E
            refine list_guard_no E rfl rfl rfl rfl hb152 rfl (by decide) ?_; clear E a; intro a E
            refine list_pure E rfl rfl (by decide) (rn_pick_yes' E rfl rfl hb152 rfl) ?_; clear E a; intro a E
            refine list_pure E rfl rfl (by decide) (rn_move E rfl rfl) ?_; clear E a; intro a E
            refine list_guard_yes E rfl rfl rfl rfl rfl rfl (by decide) (rn_move E rfl rfl) ?_; clear E a; intro a E
            refine list_guard_yes E rfl rfl rfl rfl rfl rfl (by decide) (by first | exact rn_neq E rfl rfl rfl | exact rn_neq_ptr_nil E rfl rfl rfl rfl | exact rn_neq_bool E rfl rfl rfl rfl | exact rn_neq_string E rfl rfl rfl) ?_; clear E a; intro a E
            refine list_guard_yes E rfl rfl rfl rfl rfl rfl (by decide) (rn_move E rfl rfl) ?_; clear E a; intro a E
            refine guard_true E (t := 166) rfl ((by simp [a2])) (fun hb166 => ?_)
            refine list_guard_no E rfl rfl rfl rfl hb166 rfl (by decide) ?_; clear E a; intro a E
            refine list_guard_no E rfl rfl rfl rfl hb166 rfl (by decide) ?_; clear E a; intro a E
            refine list_guard_no E rfl rfl rfl rfl hb166 rfl (by decide) ?_; clear E a; intro a E
            refine list_guard_undef E rfl rfl rfl rfl rfl (by decide) ?_; clear E a; intro a E
            refine list_guard_undef E rfl rfl rfl rfl rfl (by decide) ?_; clear E a; intro a E
            refine list_guard_undef E rfl rfl rfl rfl rfl (by decide) ?_; clear E a; intro a E
            refine list_guard_undef E rfl rfl rfl rfl rfl (by decide) ?_; clear E a; intro a E
            refine list_guard_undef E rfl rfl rfl rfl rfl (by decide) ?_; clear E a; intro a E
            refine list_guard_no E rfl rfl rfl rfl hb166 rfl (by decide) ?_; clear E a; intro a E
            refine list_guard_yes E rfl rfl rfl rfl rfl rfl (by decide) (rn_pick_yes' E rfl rfl hb166 rfl) ?_; clear E a; intro a E
            refine list_pure E rfl rfl (by decide) (rn_pick_yes' E rfl rfl rfl rfl) ?_; clear E a; intro a E
            refine list_pure E rfl rfl (by decide) (rn_assign E rfl rfl) ?_; clear E a; intro a E
            refine wpList_nil ?_
            refine joined_here ?_
            exact ⟨_, rfl, ⟨_, S.front1 (A := O) (by repeat (first | exact pk1 | apply pick_tail))⟩, E.keep (keep_cons rfl (keep_cons rfl (keep_cons rfl (keep_cons rfl (keep_cons rfl keep_nil)))))⟩
          · skip
            refine list_pure E rfl rfl (by decide) (by first | exact rn_neq E rfl rfl rfl | exact rn_neq_ptr_nil E rfl rfl rfl rfl | exact rn_neq_bool E rfl rfl rfl rfl | exact rn_neq_string E rfl rfl rfl) ?_; clear E a; intro a E
            refine list_pure E rfl rfl (by decide) (rn_move E rfl rfl) ?_; clear E a; intro a E
            refine guard_true E (t := 152) rfl ((by simp [a1])) (fun hb152 => ?_)
            refine list_guard_no E rfl rfl rfl rfl hb152 rfl (by decide) ?_; clear E a; intro a E
            refine list_guard_no E rfl rfl rfl rfl hb152 rfl (by decide) ?_; clear E a; intro a E
            refine list_guard_no E rfl rfl rfl rfl hb152 rfl (by decide) ?_; clear E a; intro a E
            refine list_guard_undef E rfl rfl rfl rfl rfl (by decide) ?_; clear E a; intro a E
            refine list_guard_undef E rfl rfl rfl rfl rfl (by decide) ?_; clear E a; intro a E
            refine list_guard_undef E rfl rfl rfl rfl rfl (by decide) ?_; clear E a; intro a E
            refine list_guard_undef E rfl rfl rfl rfl rfl (by decide) ?_; clear E a; intro a E
            refine list_guard_undef E rfl rfl rfl rfl rfl (by decide) ?_; clear E a; intro a E
            refine list_guard_no E rfl rfl rfl rfl hb152 rfl (by decide) ?_; clear E a; intro a E
            refine list_pure E rfl rfl (by decide) (rn_pick_yes' E rfl rfl hb152 rfl) ?_; clear E a; intro a E
            refine list_pure E rfl rfl (by decide) (rn_move E rfl rfl) ?_; clear E a; intro a E
            refine list_guard_yes E rfl rfl rfl rfl rfl rfl (by decide) (rn_move E rfl rfl) ?_; clear E a; intro a E
            refine list_guard_yes E rfl rfl rfl rfl rfl rfl (by decide) (by first | exact rn_neq E rfl rfl rfl | exact rn_neq_ptr_nil E rfl rfl rfl rfl | exact rn_neq_bool E rfl rfl rfl rfl | exact rn_neq_string E rfl rfl rfl) ?_; clear E a; intro a E
            refine list_guard_yes E rfl rfl rfl rfl rfl rfl (by decide) (rn_move E rfl rfl) ?_; clear E a; intro a E
            refine guard_false E (t := 166) rfl ((by simp [a2])) (fun hb166 => ?_)
            refine list_guard_yes E rfl rfl rfl rfl hb166 rfl (by decide) (rn_move E rfl rfl) ?_; clear E a; intro a E
            refine list_guard_yes E rfl rfl rfl rfl hb166 rfl (by decide) (by first | exact rn_eql E rfl rfl rfl | exact rn_eql_ptr_nil E rfl rfl rfl rfl | exact rn_eql_bool E rfl rfl rfl rfl | exact rn_eql_string E rfl rfl rfl) ?_; clear E a; intro a E
            refine list_guard_yes E rfl rfl rfl rfl hb166 rfl (by decide) (rn_move E rfl rfl) ?_; clear E a; intro a E
            refine guard_true E (t := 169) rfl ((by rw [hw1, (E2 a2).1]; rfl)) (fun hb169 => ?_)
            refine list_guard_yes E rfl rfl rfl rfl hb169 rfl (by decide) (rn_move E rfl rfl) ?_; clear E a; intro a E
            refine list_guard_yes E rfl rfl rfl rfl hb169 rfl (by decide) (rn_string E rfl rfl rfl rfl rfl hCt.rd (S.stab.at (by repeat (first | exact mm1 | apply List.Mem.tail)))) ?_; clear E a; intro a E
            refine list_guard_yes E rfl rfl rfl rfl hb169 rfl (by decide) (rn_move E rfl rfl) ?_; clear E a; intro a E
            refine list_guard_yes E rfl rfl rfl rfl hb169 rfl (by decide) (rn_string E rfl rfl rfl rfl rfl hO (S.stab.at (by repeat (first | exact mm1 | apply List.Mem.tail)))) ?_; clear E a; intro a E
            refine list_guard_yes E rfl rfl rfl rfl hb169 rfl (by decide) (by first | exact rn_eql E rfl rfl rfl | exact rn_eql_ptr_nil E rfl rfl rfl rfl | exact rn_eql_bool E rfl rfl rfl rfl | exact rn_eql_string E rfl rfl rfl) ?_; clear E a; intro a E
            refine list_guard_yes E rfl rfl rfl rfl hb166 rfl (by decide) (rn_pick_yes' E rfl rfl hb169 rfl) ?_; clear E a; intro a E
            refine list_guard_yes E rfl rfl rfl rfl rfl rfl (by decide) (rn_pick_no' E rfl rfl hb166 rfl) ?_; clear E a; intro a E
            refine list_pure E rfl rfl (by decide) (rn_pick_yes' E rfl rfl rfl rfl) ?_; clear E a; intro a E
            refine list_pure E rfl rfl (by decide) (rn_assign E rfl rfl) ?_; clear E a; intro a E
            refine wpList_nil ?_
            refine joined_here ?_
            exact ⟨_, decide_eq_true (E2 a2).2, ⟨_, S.front1 (A := O) (by repeat (first | exact pk1 | apply pick_tail))⟩, E.keep (keep_cons rfl (keep_cons rfl (keep_cons rfl (keep_cons rfl (keep_cons rfl keep_nil)))))⟩
          · skip
            refine list_pure E rfl rfl (by decide) (by first | exact rn_neq E rfl rfl rfl | exact rn_neq_ptr_nil E rfl rfl rfl rfl | exact rn_neq_bool E rfl rfl rfl rfl | exact rn_neq_string E rfl rfl rfl) ?_; clear E a; intro a E
            refine list_pure E rfl rfl (by decide) (rn_move E rfl rfl) ?_; clear E a; intro a E
            refine guard_false E (t := 152) rfl ((by simp [a1])) (fun hb152 => ?_)
            refine list_guard_yes E rfl rfl rfl rfl hb152 rfl (by decide) (rn_move E rfl rfl) ?_; clear E a; intro a E
            refine list_guard_yes E rfl rfl rfl rfl hb152 rfl (by decide) (by first | exact rn_eql E rfl rfl rfl | exact rn_eql_ptr_nil E rfl rfl rfl rfl | exact rn_eql_bool E rfl rfl rfl rfl | exact rn_eql_string E rfl rfl rfl) ?_; clear E a; intro a E
            refine list_guard_yes E rfl rfl rfl rfl hb152 rfl (by decide) (rn_move E rfl rfl) ?_; clear E a; intro a E
            refine guard_true E (t := 155) rfl (rfl) (fun hb155 => ?_)
            refine list_guard_yes E rfl rfl rfl rfl hb155 rfl (by decide) (rn_move E rfl rfl) ?_; clear E a; intro a E
            refine list_guard_yes E rfl rfl rfl rfl hb155 rfl (by decide) (rn_string E rfl rfl rfl rfl rfl hCa.rd (S.stab.at (by repeat (first | exact mm1 | apply List.Mem.tail)))) ?_; clear E a; intro a E
            refine list_guard_yes E rfl rfl rfl rfl hb155 rfl (by decide) (rn_move E rfl rfl) ?_; clear E a; intro a E
            refine list_guard_yes E rfl rfl rfl rfl hb155 rfl (by decide) (rn_string E rfl rfl rfl rfl rfl hO (S.stab.at (by repeat (first | exact mm1 | apply List.Mem.tail)))) ?_; clear E a; intro a E
            refine list_guard_yes E rfl rfl rfl rfl hb155 rfl (by decide) (by first | exact rn_eql E rfl rfl rfl | exact rn_eql_ptr_nil E rfl rfl rfl rfl | exact rn_eql_bool E rfl rfl rfl rfl | exact rn_eql_string E rfl rfl rfl) ?_; clear E a; intro a E
            refine list_guard_yes E rfl rfl rfl rfl hb152 rfl (by decide) (rn_pick_yes' E rfl rfl hb155 rfl) ?_; clear E a; intro a E
            refine list_pure E rfl rfl (by decide) (rn_pick_no' E rfl rfl hb152 rfl) ?_; clear E a; intro a E
            refine list_pure E rfl rfl (by decide) (rn_move E rfl rfl) ?_; clear E a; intro a E
            refine guard_true E (t := 163) rfl ((by first | rfl | exact decide_eq_true (D2 a1))) (fun hb163 => ?_)
            refine list_guard_yes E rfl rfl rfl rfl hb163 rfl (by decide) (rn_move E rfl rfl) ?_; clear E a; intro a E
            refine list_guard_yes E rfl rfl rfl rfl hb163 rfl (by decide) (by first | exact rn_neq E rfl rfl rfl | exact rn_neq_ptr_nil E rfl rfl rfl rfl | exact rn_neq_bool E rfl rfl rfl rfl | exact rn_neq_string E rfl rfl rfl) ?_; clear E a; intro a E
            refine list_guard_yes E rfl rfl rfl rfl hb163 rfl (by decide) (rn_move E rfl rfl) ?_; clear E a; intro a E
            refine guard_true E (t := 166) rfl ((by simp [a2])) (fun hb166 => ?_)
            refine list_guard_no E rfl rfl rfl rfl hb166 rfl (by decide) ?_; clear E a; intro a E
            refine list_guard_no E rfl rfl rfl rfl hb166 rfl (by decide) ?_; clear E a; intro a E
            refine list_guard_no E rfl rfl rfl rfl hb166 rfl (by decide) ?_; clear E a; intro a E
            refine list_guard_undef E rfl rfl rfl rfl rfl (by decide) ?_; clear E a; intro a E
            refine list_guard_undef E rfl rfl rfl rfl rfl (by decide) ?_; clear E a; intro a E
            refine list_guard_undef E rfl rfl rfl rfl rfl (by decide) ?_; clear E a; intro a E
            refine list_guard_undef E rfl rfl rfl rfl rfl (by decide) ?_; clear E a; intro a E
            refine list_guard_undef E rfl rfl rfl rfl rfl (by decide) ?_; clear E a; intro a E
            refine list_guard_no E rfl rfl rfl rfl hb166 rfl (by decide) ?_; clear E a; intro a E
            refine list_guard_yes E rfl rfl rfl rfl hb163 rfl (by decide) (rn_pick_yes' E rfl rfl hb166 rfl) ?_; clear E a; intro a E
            refine list_pure E rfl rfl (by decide) (rn_pick_yes' E rfl rfl hb163 rfl) ?_; clear E a; intro a E
            refine list_pure E rfl rfl (by decide) (rn_assign E rfl rfl) ?_; clear E a; intro a E
            refine wpList_nil ?_
            refine joined_here ?_
            exact ⟨_, rfl, ⟨_, S.front1 (A := O) (by repeat (first | exact pk1 | apply pick_tail))⟩, E.keep (keep_cons rfl (keep_cons rfl (keep_cons rfl (keep_cons rfl (keep_cons rfl keep_nil)))))⟩
          · skip
            refine list_pure E rfl rfl (by decide) (by first | exact rn_neq E rfl rfl rfl | exact rn_neq_ptr_nil E rfl rfl rfl rfl | exact rn_neq_bool E rfl rfl rfl rfl | exact rn_neq_string E rfl rfl rfl) ?_; clear E a; intro a E
            refine list_pure E rfl rfl (by decide) (rn_move E rfl rfl) ?_; clear E a; intro a E
            refine guard_false E (t := 152) rfl ((by simp [a1])) (fun hb152 => ?_)
            refine list_guard_yes E rfl rfl rfl rfl hb152 rfl (by decide) (rn_move E rfl rfl) ?_; clear E a; intro a E
            refine list_guard_yes E rfl rfl rfl rfl hb152 rfl (by decide) (by first | exact rn_eql E rfl rfl rfl | exact rn_eql_ptr_nil E rfl rfl rfl rfl | exact rn_eql_bool E rfl rfl rfl rfl | exact rn_eql_string E rfl rfl rfl) ?_; clear E a; intro a E
            refine list_guard_yes E rfl rfl rfl rfl hb152 rfl (by decide) (rn_move E rfl rfl) ?_; clear E a; intro a E
            refine guard_true E (t := 155) rfl (rfl) (fun hb155 => ?_)
            refine list_guard_yes E rfl rfl rfl rfl hb155 rfl (by decide) (rn_move E rfl rfl) ?_; clear E a; intro a E
            refine list_guard_yes E rfl rfl rfl rfl hb155 rfl (by decide) (rn_string E rfl rfl rfl rfl rfl hCa.rd (S.stab.at (by repeat (first | exact mm1 | apply List.Mem.tail)))) ?_; clear E a; intro a E
            refine list_guard_yes E rfl rfl rfl rfl hb155 rfl (by decide) (rn_move E rfl rfl) ?_; clear E a; intro a E
            refine list_guard_yes E rfl rfl rfl rfl hb155 rfl (by decide) (rn_string E rfl rfl rfl rfl rfl hO (S.stab.at (by repeat (first | exact mm1 | apply List.Mem.tail)))) ?_; clear E a; intro a E
            refine list_guard_yes E rfl rfl rfl rfl hb155 rfl (by decide) (by first | exact rn_eql E rfl rfl rfl | exact rn_eql_ptr_nil E rfl rfl rfl rfl | exact rn_eql_bool E rfl rfl rfl rfl | exact rn_eql_string E rfl rfl rfl) ?_; clear E a; intro a E
            refine list_guard_yes E rfl rfl rfl rfl hb152 rfl (by decide) (rn_pick_yes' E rfl rfl hb155 rfl) ?_; clear E a; intro a E
            refine list_pure E rfl rfl (by decide) (rn_pick_no' E rfl rfl hb152 rfl) ?_; clear E a; intro a E
            refine list_pure E rfl rfl (by decide) (rn_move E rfl rfl) ?_; clear E a; intro a E
            refine guard_true E (t := 163) rfl ((by first | rfl | exact decide_eq_true (D2 a1))) (fun hb163 => ?_)
            refine list_guard_yes E rfl rfl rfl rfl hb163 rfl (by decide) (rn_move E rfl rfl) ?_; clear E a; intro a E
            refine list_guard_yes E rfl rfl rfl rfl hb163 rfl (by decide) (by first | exact rn_neq E rfl rfl rfl | exact rn_neq_ptr_nil E rfl rfl rfl rfl | exact rn_neq_bool E rfl rfl rfl rfl | exact rn_neq_string E rfl rfl rfl) ?_; clear E a; intro a E
            refine list_guard_yes E rfl rfl rfl rfl hb163 rfl (by decide) (rn_move E rfl rfl) ?_; clear E a; intro a E
            refine guard_false E (t := 166) rfl ((by simp [a2])) (fun hb166 => ?_)
            refine list_guard_yes E rfl rfl rfl rfl hb166 rfl (by decide) (rn_move E rfl rfl) ?_; clear E a; intro a E
            refine list_guard_yes E rfl rfl rfl rfl hb166 rfl (by decide) (by first | exact rn_eql E rfl rfl rfl | exact rn_eql_ptr_nil E rfl rfl rfl rfl | exact rn_eql_bool E rfl rfl rfl rfl | exact rn_eql_string E rfl rfl rfl) ?_; clear E a; intro a E
            refine list_guard_yes E rfl rfl rfl rfl hb166 rfl (by decide) (rn_move E rfl rfl) ?_; clear E a; intro a E
            refine guard_true E (t := 169) rfl ((by rw [hw1, (E2 a2).1]; rfl)) (fun hb169 => ?_)
            refine list_guard_yes E rfl rfl rfl rfl hb169 rfl (by decide) (rn_move E rfl rfl) ?_; clear E a; intro a E
            refine list_guard_yes E rfl rfl rfl rfl hb169 rfl (by decide) (rn_string E rfl rfl rfl rfl rfl hCt.rd (S.stab.at (by repeat (first | exact mm1 | apply List.Mem.tail)))) ?_; clear E a; intro a E
            refine list_guard_yes E rfl rfl rfl rfl hb169 rfl (by decide) (rn_move E rfl rfl) ?_; clear E a; intro a E
            refine list_guard_yes E rfl rfl rfl rfl hb169 rfl (by decide) (rn_string E rfl rfl rfl rfl rfl hO (S.stab.at (by repeat (first | exact mm1 | apply List.Mem.tail)))) ?_; clear E a; intro a E
            refine list_guard_yes E rfl rfl rfl rfl hb169 rfl (by decide) (by first | exact rn_eql E rfl rfl rfl | exact rn_eql_ptr_nil E rfl rfl rfl rfl | exact rn_eql_bool E rfl rfl rfl rfl | exact rn_eql_string E rfl rfl rfl) ?_; clear E a; intro a E
            refine list_guard_yes E rfl rfl rfl rfl hb166 rfl (by decide) (rn_pick_yes' E rfl rfl hb169 rfl) ?_; clear E a; intro a E
            refine list_guard_yes E rfl rfl rfl rfl hb163 rfl (by decide) (rn_pick_no' E rfl rfl hb166 rfl) ?_; clear E a; intro a E
            refine list_pure E rfl rfl (by decide) (rn_pick_yes' E rfl rfl hb163 rfl) ?_; clear E a; intro a E
            refine list_pure E rfl rfl (by decide) (rn_assign E rfl rfl) ?_; clear E a; intro a E
            refine wpList_nil ?_
            refine joined_here ?_
            exact ⟨_, decide_eq_true (E2 a2).2, ⟨_, S.front1 (A := O) (by repeat (first | exact pk1 | apply pick_tail))⟩, E.keep (keep_cons rfl (keep_cons rfl (keep_cons rfl (keep_cons rfl (keep_cons rfl keep_nil)))))⟩
        · clear E S a; intro a w J; obtain ⟨bt, rfl, ⟨Ls, S⟩, E⟩ := J
          refine then_k hK ?_; clear hK; clear K
          refine wp_seq_k ?_; intro K hK
          refine region_list ?_
          refine list_pure E rfl rfl (by decide) (rn_move E rfl rfl) ?_; clear E a; intro a E
          refine list_pure E rfl rfl (by decide) (rn_move E rfl rfl) ?_; clear E a; intro a E
          refine guard_true E (t := 179) rfl (rfl) (fun hb179 => ?_)
          refine list_guard_yes E rfl rfl rfl rfl hb179 rfl (by decide) (rn_move E rfl rfl) ?_; clear E a; intro a E
          refine list_pure E rfl rfl (by decide) (rn_pick_yes' E rfl rfl hb179 rfl) ?_; clear E a; intro a E
          refine list_pure E rfl rfl (by decide) (rn_move E rfl rfl) ?_; clear E a; intro a E
          refine guard_true E (t := 182) rfl (rfl) (fun hb182 => ?_)
          refine list_guard_yes E rfl rfl rfl rfl hb182 rfl (by decide) (rn_move E rfl rfl) ?_; clear E a; intro a E
          refine list_pure E rfl rfl (by decide) (rn_pick_yes' E rfl rfl hb182 rfl) ?_; clear E a; intro a E
          refine list_pure E rfl rfl (by decide) (rn_move E rfl rfl) ?_; clear E a; intro a E
          refine guard_true E (t := 185) rfl (rfl) (fun hb185 => ?_)
          refine list_guard_yes E rfl rfl rfl rfl hb185 rfl (by decide) (rn_move E rfl rfl) ?_; clear E a; intro a E
          refine list_pure E rfl rfl (by decide) (rn_pick_yes' E rfl rfl hb185 rfl) ?_; clear E a; intro a E
          refine list_pure E rfl rfl (by decide) (rn_move E rfl rfl) ?_; clear E a; intro a E
          refine guard_true E (t := 188) rfl (rfl) (fun hb188 => ?_)
          refine list_guard_yes E rfl rfl rfl rfl hb188 rfl (by decide) (rn_move E rfl rfl) ?_; clear E a; intro a E
          refine list_pure E rfl rfl (by decide) (rn_pick_yes' E rfl rfl hb188 rfl) ?_; clear E a; intro a E
          refine list_pure E rfl rfl (by decide) (rn_assign E rfl rfl) ?_; clear E a; intro a E
          refine wpList_nil ?_
          refine then_k hK ?_; clear hK; clear K
          refine wp_ret ?_
          refine ret1 E rfl rfl ?_
          exact ⟨_, rfl, rfl, (S.only (Bs := [O]) (sel_cons (by repeat (first | exact pk1 | apply pick_tail)) (sel_nil _))).tr⟩
end Go.Proofs.YtmghbcaookahaaaDoor
