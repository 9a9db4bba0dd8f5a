/-
  DiskApart.
-/
import Derived.Test.YtpppaohhnlgfoaaRackR
namespace Go.Sl
theorem wrN_app {d a : Nat} {b : List UInt8} : ∀ (k i : Nat) (s : Pw) (nw : List UInt8) (ws : List Wt), ∃ t, (wrN d a b k i s nw ws).2.2.1 = ws ++ t ∧ ∀ w ∈ t, w.d = d
  | 0, i, s, nw, ws => ⟨[], by simp [wrN], by simp⟩
  | k + 1, i, s, nw, ws => by
    rw [wrN]
    split
    · exact ⟨[], by simp, by simp⟩
    · obtain ⟨t, h1, h2⟩ := wrN_app (d := d) (a := a) (b := b) k (i + 1) { s with left := if 0 < s.left then s.left - 1 else s.left, wr := s.wr + 1 } (setS nw (a + i) (secB b i)) (ws ++ [mkW d (a + i) (secB b i)])
      refine ⟨mkW d (a + i) (secB b i) :: t, by rw [h1]; simp, fun w hw => ?_⟩
      rcases List.mem_cons.1 hw with rfl | hw
      · rfl
      · exact h2 w hw
/-- A write while the power stays, in one word. -/
theorem wrS_one {d n : Nat} {at_ : Int} {b : List UInt8} (s : Pw) (hs : s.off = false) (hl : s.left = -1) (nw : List UInt8) (ws : List Wt) (hnw : nw.length = n) :
    ∃ (e : Int) (k : Nat) (t : List Wt) (nw' : List UInt8), wrS d n at_ b s false nw ws = (⟨-1, false, s.wr + k⟩, nw', ws ++ t, e) ∧ (∀ w ∈ t, w.d = d) ∧ t.length = k ∧ nw'.length = n ∧ ((e = 0 ∧ k = b.length / 128 ∧ wrMay n at_ b) ∨ (e = 1 ∧ k = 0 ∧ ¬ wrMay n at_ b ∧ nw' = nw)) := by
  by_cases hm : wrMay n at_ b
  · have he : wrS d n at_ b s false nw ws = wrN d at_.toNat b (b.length / 128) 0 s nw ws := by
      unfold wrS; rw [if_neg (by simp [hs]), if_neg (by simp), if_neg (fun q => q hm)]
    obtain ⟨h1, h2, h3, h4, h5⟩ := wrN_big (d := d) (a := at_.toNat) (b := b) (b.length / 128) 0 s nw ws (.inl (by omega))
    obtain ⟨t, h6, h7⟩ := wrN_app (d := d) (a := at_.toNat) (b := b) (b.length / 128) 0 s nw ws
    have h5 := h5 (by omega)
    have hlen : ∀ (k i : Nat) (s : Pw) (nw : List UInt8) (ws : List Wt), nw.length = n → 128 * (at_.toNat + i + k) ≤ n → 128 * (i + k) ≤ b.length → (wrN d at_.toNat b k i s nw ws).2.1.length = n := by
      intro k
      induction k with
      | zero => intro i s nw ws h _ _; exact h
      | succ k ih =>
        intro i s nw ws h h2 h3
        rw [wrN]
        split
        · exact h
        · exact ih (i + 1) _ _ _ (by rw [setS_length (by omega) (secB_length (by omega))]; exact h) (by omega) (by omega)
    obtain ⟨m1, m2, m3, m4⟩ := hm
    have hl9 := hlen (b.length / 128) 0 s nw ws hnw (by omega) (by omega)
    rw [he]
    obtain ⟨z, hz⟩ : ∃ z, z = wrN d at_.toNat b (b.length / 128) 0 s nw ws := ⟨_, rfl⟩
    rw [← hz] at h1 h2 h3 h4 h5 h6 hl9 ⊢
    obtain ⟨⟨l, o, r⟩, nw', ws', e⟩ := z
    simp only at h1 h2 h3 h4 h5 h6 hl9
    subst h1 h3 h5 h6
    rw [List.length_append] at h4
    exact ⟨0, b.length / 128, t, nw', by rw [h2, hs, hl], h7, by omega, hl9, .inl ⟨rfl, rfl, m1, m2, m3, m4⟩⟩
  · refine ⟨1, 0, [], nw, ?_, by simp, rfl, hnw, .inr ⟨rfl, rfl, hm, rfl⟩⟩
    unfold wrS; rw [if_neg (by simp [hs]), if_neg (by simp), if_pos hm]
    obtain ⟨l, o, r⟩ := s
    simp only at hs hl
    subst hs hl
    simp
theorem outW_app (d : Nat) (a b : List Wt) : outW d (a ++ b) = outW d a ++ outW d b := by simp [outW]
theorem outW_ne {d e : Nat} {ws : List Wt} (h : ∀ w ∈ ws, w.d = e) (hne : e ≠ d) : outW d ws = ws := by
  rw [outW, List.filter_eq_self]
  intro w hw; simp [h w hw, hne]
theorem upW_none (ws : List Wt) (ds : List Dk) : upW ws [] ds = ds := by
  rw [upW_map]
  conv => rhs; rw [← List.map_id ds]
  exact List.map_congr_left fun x _ => by rw [upS_none]; rfl
theorem flat_bools (l : List Bool) : (l.flatMap fun z => [Value.bool z]) = l.map Value.bool := by
  induction l with
  | nil => rfl
  | cons x r ih => rw [List.flatMap_cons, ih]; rfl
end Go.Sl
namespace Go.Proofs.Ytpppaohhnlgfoaa
open Go.Sl
set_option maxRecDepth 10000

set_option maxHeartbeats 4000000 in
theorem apart_walk (O : Chunk) (va : Value) (xa : List UInt8) (ha : Rd O 1 va xa.length (byt xa)) (hal : xa.length ≤ 140737488351232) (hac : ∃ ad c, va = .slice ad xa.length c ∧ xa.length ≤ c)
    (vb : Value) (xb : List UInt8) (hb0 : Rd O 1 vb xb.length (byt xb)) (hbl : xb.length ≤ 140737488351232) (hbc : ∃ ad c, vb = .slice ad xb.length c ∧ xb.length ≤ c) (fl : Bool) (vs : Value) (st : List Bool) (hst0 : Rd O 1 vs st.length (st.flatMap fun z => [.bool z])) (_hg : ∀ z ∈ st, True) (_hsl : st.length ≤ 140737488351232) (w0 : World) (H : Hp w0 [O]) :
    Ret Try.prog 5 #[va, vb, .bool fl, vs] w0 fun u w' => u = .bool true ∧ Trs w0 w' [O] [O] := by
  have S := St.begin H
  have hst : Rd O 1 vs st.length (st.map Value.bool) := by rw [← flat_bools]; exact hst0
  obtain ⟨ada, ca, rfl, hca⟩ := hac
  obtain ⟨adb, cb, rfl, hcb⟩ := hbc
  obtain ⟨ads, cs, rfl⟩ := hst.slice
  obtain ⟨Z, hZ⟩ : ∃ Z, Z = List.replicate (8 * 128) (0 : UInt8) := ⟨_, rfl⟩
  have hZl : Z.length = 1024 := by rw [hZ]; simp
  refine enter4 195 Try.func5 rfl rfl (by decide) ?_; intro a E
  refine wp_seq_k ?_; intro K hK
  refine region_list ?_
  refine list_pure E rfl rfl (by decide) (rn_assign E rfl rfl) ?_; clear E a; intro a E
  refine wpList_nil ?_
  refine then_k hK ?_; clear hK; clear K
  refine wp_seq_k ?_; intro K hK
  refine region_list ?_
  refine list_call E rfl rfl (by decide) rfl Try.func7 rfl (by kernel_rfl) rfl (awake_ret _) ?_
  rintro v32 w ⟨rfl, hT⟩; clear E a; intro a E
  have S := S.quiet hT
  refine list_pure E rfl rfl (by decide) (rn_assign E rfl rfl) ?_; clear E a; intro a E
  refine wpList_nil ?_
  refine then_k hK ?_; clear hK; clear K
  refine wp_seq_k ?_; intro K hK
  refine region_list ?_
  refine list_call E rfl rfl (by decide) rfl Try.func8 rfl (by kernel_rfl) rfl (rk_newp _) ?_
  rintro v33 w ⟨p, P, rfl, hP, hT⟩; clear E a; intro a E
  have S := S.fresh hT
  refine list_pure E rfl rfl (by decide) (rn_assign E rfl rfl) ?_; clear E a; intro a E
  refine wpList_nil ?_
  refine then_k hK ?_; clear hK; clear K
  refine wp_seq_k ?_; intro K hK
  refine region_list ?_
  refine list_call E rfl rfl (by decide) rfl Try.func8 rfl (by kernel_rfl) rfl (rk_newp _) ?_
  rintro v34 w ⟨q, Q, rfl, hQ, hT⟩; clear E a; intro a E
  have S := S.fresh hT
  refine list_pure E rfl rfl (by decide) (rn_assign E rfl rfl) ?_; clear E a; intro a E
  refine wpList_nil ?_
  refine then_k hK ?_; clear hK; clear K
  refine wp_seq_k ?_; intro K hK
  refine region_list ?_
  refine list_pure E rfl rfl (by decide) (rn_move E rfl rfl) ?_; clear E a; intro a E
  refine list_call E rfl rfl (by decide) rfl Try.func9 rfl (by kernel_rfl) rfl (rk_new p _ P hP (by simp) 8 (by omega) (by omega) _ (S.hp.sel (sel_cons (by repeat (first | exact pk1 | apply pick_tail)) (sel_nil _)))) ?_
  rintro v37 w ⟨dx, gpx, gnx, P1, rfl, -, hP1, hT⟩; clear E a; intro a E
  have S := S.call1 (sel_cons (by repeat (first | exact pk1 | apply pick_tail)) (sel_nil _)) hT; clear hP; rename_i hP; clear hP
  simp only [Rk.add, List.nil_append, ← hZ] at hP1
  refine list_pure E rfl rfl (by decide) (rn_move E rfl rfl) ?_; clear E a; intro a E
  refine list_pure E rfl rfl (by decide) (rn_extract E rfl rfl rfl) ?_; clear E a; intro a E
  refine list_pure E rfl rfl (by decide) (rn_extract E rfl rfl rfl) ?_; clear E a; intro a E
  refine list_pure E rfl rfl (by decide) (rn_assign E rfl rfl) ?_; clear E a; intro a E
  refine list_pure E rfl rfl (by decide) (rn_assign E rfl rfl) ?_; clear E a; intro a E
  refine wpList_nil ?_
  refine then_k hK ?_; clear hK; clear K
  refine wp_seq_k ?_; intro K hK
  refine region_list ?_
  refine list_pure E rfl rfl (by decide) (rn_move E rfl rfl) ?_; clear E a; intro a E
  refine list_call E rfl rfl (by decide) rfl Try.func9 rfl (by kernel_rfl) rfl (rk_new p _ P1 hP1 (by simp) 8 (by omega) (by omega) _ (S.hp.sel (sel_cons (by repeat (first | exact pk1 | apply pick_tail)) (sel_nil _)))) ?_
  rintro v42 w ⟨dy, gpy, gny, P2, rfl, hxy, hP2, hT⟩; clear E a; intro a E
  have S := S.call1 (sel_cons (by repeat (first | exact pk1 | apply pick_tail)) (sel_nil _)) hT
  simp only [Rk.add, List.cons_append, List.nil_append, ← hZ] at hP2
  have hxy : dx ≠ dy := hxy _ (List.mem_singleton.2 rfl)
  refine list_pure E rfl rfl (by decide) (rn_move E rfl rfl) ?_; clear E a; intro a E
  refine list_pure E rfl rfl (by decide) (rn_extract E rfl rfl rfl) ?_; clear E a; intro a E
  refine list_pure E rfl rfl (by decide) (rn_extract E rfl rfl rfl) ?_; clear E a; intro a E
  refine list_pure E rfl rfl (by decide) (rn_assign E rfl rfl) ?_; clear E a; intro a E
  refine list_pure E rfl rfl (by decide) (rn_assign E rfl rfl) ?_; clear E a; intro a E
  refine wpList_nil ?_
  refine then_k hK ?_; clear hK; clear K
  refine wp_seq_k ?_; intro K hK
  replace E := E.keep (e' := [(0, _), (1, _), (2, _), (3, _), (8, _), (9, _), (10, _), (11, _), (12, _), (13, _), (14, _), (15, _)]) (keep_cons rfl (keep_cons rfl (keep_cons rfl (keep_cons rfl (keep_cons rfl (keep_cons rfl (keep_cons rfl (keep_cons rfl (keep_cons rfl (keep_cons rfl (keep_cons rfl (keep_cons rfl (keep_nil)))))))))))))
  refine region_list ?_
  refine list_pure E rfl rfl (by decide) (rn_move E rfl rfl) ?_; clear E a; intro a E
  refine list_call E rfl rfl (by decide) rfl Try.func9 rfl (by kernel_rfl) rfl (rk_new q _ Q hQ (by simp) 8 (by omega) (by omega) _ (S.hp.sel (sel_cons (by repeat (first | exact pk1 | apply pick_tail)) (sel_nil _)))) ?_
  rintro v47 w ⟨dz, gpz, gnz, Q1, rfl, -, hQ1, hT⟩; clear E a; intro a E
  have S := S.call1 (sel_cons (by repeat (first | exact pk1 | apply pick_tail)) (sel_nil _)) hT
  simp only [Rk.add, List.nil_append, ← hZ] at hQ1
  refine list_pure E rfl rfl (by decide) (rn_move E rfl rfl) ?_; clear E a; intro a E
  refine list_pure E rfl rfl (by decide) (rn_extract E rfl rfl rfl) ?_; clear E a; intro a E
  refine list_pure E rfl rfl (by decide) (rn_extract E rfl rfl rfl) ?_; clear E a; intro a E
  refine list_pure E rfl rfl (by decide) (rn_assign E rfl rfl) ?_; clear E a; intro a E
  refine list_pure E rfl rfl (by decide) (rn_assign E rfl rfl) ?_; clear E a; intro a E
  refine wpList_nil ?_
  refine then_k hK ?_; clear hK; clear K
  refine wp_seq_k ?_; intro K hK
  refine wp_seq_k ?_; intro K hK
  refine region_list ?_
  refine list_pure E rfl rfl (by decide) (rn_move E rfl rfl) ?_; clear E a; intro a E
  refine list_pure E rfl rfl (by decide) (rn_not E rfl rfl) ?_; clear E a; intro a E
  refine list_pure E rfl rfl (by decide) (rn_move E rfl rfl) ?_; clear E a; intro a E
  refine guard_false E (t := 52) rfl (rfl) (fun hb52 => ?_)
  refine list_guard_yes E rfl rfl rfl rfl hb52 rfl (by decide) (rn_move E rfl rfl) ?_; clear E a; intro a E
  refine list_guard_yes E rfl rfl rfl rfl hb52 rfl (by decide) (by first | exact rn_neq E rfl rfl rfl | exact rn_neq_ptr_nil E rfl rfl rfl rfl | exact rn_neq_bool E rfl rfl rfl rfl | exact rn_neq_string E rfl rfl rfl) ?_; clear E a; intro a E
  refine list_pure E rfl rfl (by decide) (rn_pick_no' E rfl rfl hb52 rfl) ?_; clear E a; intro a E
  refine list_pure E rfl rfl (by decide) (rn_move E rfl rfl) ?_; clear E a; intro a E
  refine guard_false E (t := 56) rfl (rfl) (fun hb56 => ?_)
  refine list_guard_yes E rfl rfl rfl rfl hb56 rfl (by decide) (rn_move E rfl rfl) ?_; clear E a; intro a E
  refine list_guard_yes E rfl rfl rfl rfl hb56 rfl (by decide) (by first | exact rn_neq E rfl rfl rfl | exact rn_neq_ptr_nil E rfl rfl rfl rfl | exact rn_neq_bool E rfl rfl rfl rfl | exact rn_neq_string E rfl rfl rfl) ?_; clear E a; intro a E
  refine list_pure E rfl rfl (by decide) (rn_pick_no' E rfl rfl hb56 rfl) ?_; clear E a; intro a E
  refine list_pure E rfl rfl (by decide) (rn_move E rfl rfl) ?_; clear E a; intro a E
  refine guard_false E (t := 60) rfl (rfl) (fun hb60 => ?_)
  refine list_guard_yes E rfl rfl rfl rfl hb60 rfl (by decide) (rn_move E rfl rfl) ?_; clear E a; intro a E
  refine list_guard_yes E rfl rfl rfl rfl hb60 rfl (by decide) (by first | exact rn_neq E rfl rfl rfl | exact rn_neq_ptr_nil E rfl rfl rfl rfl | exact rn_neq_bool E rfl rfl rfl rfl | exact rn_neq_string E rfl rfl rfl) ?_; clear E a; intro a E
  refine list_pure E rfl rfl (by decide) (rn_pick_no' E rfl rfl hb60 rfl) ?_; clear E a; intro a E
  refine wpList_nil ?_
  refine then_k hK ?_; clear hK; clear K
  refine if_false' E rfl (rfl) ?_
  refine wp_skip ?_
  refine then_k hK ?_; clear hK; clear K
  refine wp_seq_k ?_; intro K hK
  replace E := E.keep (e' := [(0, _), (1, _), (2, _), (3, _), (8, _), (10, _), (11, _), (12, _), (14, _), (16, _)]) (keep_cons rfl (keep_cons rfl (keep_cons rfl (keep_cons rfl (keep_cons rfl (keep_cons rfl (keep_cons rfl (keep_cons rfl (keep_cons rfl (keep_cons rfl (keep_nil)))))))))))
  refine region_list ?_
  refine list_pure E rfl rfl (by decide) (rn_move E rfl rfl) ?_; clear E a; intro a E
  refine list_pure E rfl rfl (by decide) (rn_move E rfl rfl) ?_; clear E a; intro a E
  refine list_call E rfl rfl (by decide) rfl Try.func10 rfl (by kernel_rfl) rfl (rk_write p _ P2 hP2 ⟨dx, gpx, gnx, Z, Z, false⟩ (by simp) (by simp) (by simp) (by simp) 0 (by omega) _ xa O ha ⟨_, _, rfl, hca⟩ _ (S.hp.sel (sel_cons (by repeat (first | exact pk1 | apply pick_tail)) (sel_cons (by repeat (first | exact pk1 | apply pick_tail)) (sel_nil _))))) ?_
  rintro v66 w ⟨P3, rfl, hP3, hT⟩; clear E a; intro a E
  have S := S.call2 (sel_cons (by repeat (first | exact pk1 | apply pick_tail)) (sel_cons (by repeat (first | exact pk1 | apply pick_tail)) (sel_nil _))) hT
  obtain ⟨e1, k1, t1, n1, hw1, ht1, htl1, hn1, hc1⟩ := wrS_one (d := dx) (n := 1024) (at_ := 0) (b := xa) ⟨-1, false, 0⟩ rfl rfl Z [] hZl
  have hk1 : k1 ≤ 8 := by rcases hc1 with ⟨_, h, h1⟩ | ⟨_, h, _⟩; unfold wrMay at h1; omega; omega
  have hW : Rk.writeE ⟨⟨-1, false, 0⟩, [], [⟨dx, gpx, gnx, Z, Z, false⟩, ⟨dy, gpy, gny, Z, Z, false⟩]⟩ ⟨dx, gpx, gnx, Z, Z, false⟩ 0 xa = e1 := by simp only [Rk.writeE, hZl, hw1]
  rw [hW] at E
  have hP3 : RkC p ⟨⟨-1, false, k1⟩, t1, [⟨dx, gpx, gnx, Z, n1, false⟩, ⟨dy, gpy, gny, Z, Z, false⟩]⟩ P3 := by simpa [Rk.write, hZl, hw1, setD, Ne.symm hxy] using hP3
  refine list_pure E rfl rfl (by decide) (rn_assign E rfl rfl) ?_; clear E a; intro a E
  refine wpList_nil ?_
  refine then_k hK ?_; clear hK; clear K
  refine wp_seq_k ?_; intro K hK
  refine region_list ?_
  refine list_pure E rfl rfl (by decide) (rn_move E rfl rfl) ?_; clear E a; intro a E
  refine list_pure E rfl rfl (by decide) (rn_move E rfl rfl) ?_; clear E a; intro a E
  refine list_call E rfl rfl (by decide) rfl Try.func10 rfl (by kernel_rfl) rfl (rk_write p _ P3 hP3 ⟨dy, gpy, gny, Z, Z, false⟩ (by simp) (by simp only; omega) (by simp only; omega) (by simp) 0 (by omega) _ xb O hb0 ⟨_, _, rfl, hcb⟩ _ (S.hp.sel (sel_cons (by repeat (first | exact pk1 | apply pick_tail)) (sel_cons (by repeat (first | exact pk1 | apply pick_tail)) (sel_nil _))))) ?_
  rintro v69 w ⟨P4, rfl, hP4, hT⟩; clear E a; intro a E
  have S := S.call2 (sel_cons (by repeat (first | exact pk1 | apply pick_tail)) (sel_cons (by repeat (first | exact pk1 | apply pick_tail)) (sel_nil _))) hT
  obtain ⟨e2, k2, t2, n2, hw2, ht2, htl2, hn2, hc2⟩ := wrS_one (d := dy) (n := 1024) (at_ := 0) (b := xb) ⟨-1, false, k1⟩ rfl rfl Z t1 hZl
  have hP4 : RkC p ⟨⟨-1, false, k1 + k2⟩, t1 ++ t2, [⟨dx, gpx, gnx, Z, n1, false⟩, ⟨dy, gpy, gny, Z, n2, false⟩]⟩ P4 := by simpa [Rk.write, hZl, hw2, setD, hxy] using hP4
  refine wpList_nil ?_
  refine then_k hK ?_; clear hK; clear K
  refine wp_seq_k ?_; intro K hK
  refine region_list ?_
  refine list_pure E rfl rfl (by decide) (rn_move E rfl rfl) ?_; clear E a; intro a E
  refine list_pure E rfl rfl (by decide) (rn_move E rfl rfl) ?_; clear E a; intro a E
  refine list_call E rfl rfl (by decide) rfl Try.func10 rfl (by kernel_rfl) rfl (rk_write q _ Q1 hQ1 ⟨dz, gpz, gnz, Z, Z, false⟩ (by simp) (by simp) (by simp) (by simp) 0 (by omega) _ xa O ha ⟨_, _, rfl, hca⟩ _ (S.hp.sel (sel_cons (by repeat (first | exact pk1 | apply pick_tail)) (sel_cons (by repeat (first | exact pk1 | apply pick_tail)) (sel_nil _))))) ?_
  rintro v72 w ⟨Q2, rfl, hQ2, hT⟩; clear E a; intro a E
  have S := S.call2 (sel_cons (by repeat (first | exact pk1 | apply pick_tail)) (sel_cons (by repeat (first | exact pk1 | apply pick_tail)) (sel_nil _))) hT
  obtain ⟨e3, k3, t3, n3, hw3, ht3, htl3, hn3, hc3⟩ := wrS_one (d := dz) (n := 1024) (at_ := 0) (b := xa) ⟨-1, false, 0⟩ rfl rfl Z [] hZl
  have hQ2 : RkC q ⟨⟨-1, false, k3⟩, t3, [⟨dz, gpz, gnz, Z, n3, false⟩]⟩ Q2 := by simpa [Rk.write, hZl, hw3, setD] using hQ2
  have ho1 : outW dx t1 = [] := outW_self ht1
  have ho2 : outW dy t1 = t1 := outW_ne ht1 hxy
  have ho3 : outW dx t2 = t2 := outW_ne ht2 (Ne.symm hxy)
  have ho4 : outW dy t2 = [] := outW_self ht2
  refine wpList_nil ?_
  refine then_k hK ?_; clear hK; clear K
  refine wp_seq_k ?_; intro K hK
  refine wp_seq_k ?_; intro K hK
  refine region_list ?_
  refine list_pure E rfl rfl (by decide) (rn_move E rfl rfl) ?_; clear E a; intro a E
  refine wpList_nil ?_
  refine then_k hK ?_; clear hK; clear K
  refine wp_join (fun (a : Act) (w' : World) => ∃ (xp : List UInt8) (ws : List Wt) (P5 : Chunk), (fl = true → xp = n1 ∧ ws = t2) ∧ (fl = false → xp = Z ∧ ws = t1 ++ t2) ∧ RkC p ⟨⟨-1, false, k1 + k2⟩, ws, [⟨dx, gpx, gnx, xp, n1, false⟩, ⟨dy, gpy, gny, Z, n2, false⟩]⟩ P5 ∧ St w0 [O] w' [P5, Q2, O] ∧ Fr a 195 [(0, .slice ada xa.length ca), (2, .bool fl), (3, .slice ads st.length cs), (10, ptr p), (11, ptr q), (12, ptr dx), (14, ptr dy), (16, ptr dz), (18, .int .i64 e1)]) ?_ ?_
  · skip
    refine if_bool E rfl (fun hb => ?_) (fun hb => ?_)
    · replace hb := Nrm.nrm hb
      refine region_list ?_
      refine list_pure E rfl rfl (by decide) (rn_move E rfl rfl) ?_; clear E a; intro a E
      refine list_call E rfl rfl (by decide) rfl Try.func11 rfl (by kernel_rfl) rfl (rk_flush p _ P4 hP4 ⟨dx, gpx, gnx, Z, n1, false⟩ (by simp) _ (S.hp.sel (sel_cons (by repeat (first | exact pk1 | apply pick_tail)) (sel_nil _)))) ?_
      rintro v75 w ⟨rfl, P5, hP5, hT⟩; clear E a; intro a E
      have S := S.call1 (sel_cons (by repeat (first | exact pk1 | apply pick_tail)) (sel_nil _)) hT
      have hP5 : RkC p ⟨⟨-1, false, k1 + k2⟩, t2, [⟨dx, gpx, gnx, n1, n1, false⟩, ⟨dy, gpy, gny, Z, n2, false⟩]⟩ P5 := by simpa [Rk.flush, flE, flW, flP, setD, Ne.symm hxy, outW_app, ho1, ho3] using hP5
      refine wpList_nil ?_
      refine joined_here ?_
      exact ⟨n1, t2, P5, fun _ => ⟨rfl, rfl⟩, fun h => absurd (hb.symm.trans h) (by simp), hP5, S.front3 (A := P5) (by repeat (first | exact pk1 | apply pick_tail)) (B := Q2) (by repeat (first | exact pk1 | apply pick_tail)) (C := O) (by repeat (first | exact pk1 | apply pick_tail)), E.keep (keep_cons rfl (keep_cons rfl (keep_cons rfl (keep_cons rfl (keep_cons rfl (keep_cons rfl (keep_cons rfl (keep_cons rfl (keep_cons rfl keep_nil)))))))))⟩
    · replace hb := Nrm.nrm hb
      refine wp_skip ?_
      refine joined_here ?_
      exact ⟨Z, t1 ++ t2, P4, fun h => absurd (hb.symm.trans h) (by simp), fun _ => ⟨rfl, rfl⟩, hP4, S.front3 (A := P4) (by repeat (first | exact pk1 | apply pick_tail)) (B := Q2) (by repeat (first | exact pk1 | apply pick_tail)) (C := O) (by repeat (first | exact pk1 | apply pick_tail)), E.keep (keep_cons rfl (keep_cons rfl (keep_cons rfl (keep_cons rfl (keep_cons rfl (keep_cons rfl (keep_cons rfl (keep_cons rfl (keep_cons rfl keep_nil)))))))))⟩
  · clear S E a; intro a w J; obtain ⟨xp, ws, P5, hf1, hf2, hP5, S, E⟩ := J
    refine then_k hK ?_; clear hK; clear K
    refine wp_seq_k ?_; intro K hK
    have hxpl : xp.length = 1024 := by cases hfl : fl; rw [(hf2 hfl).1]; exact hZl; rw [(hf1 hfl).1]; exact hn1
    have hlf : outW dy ws = if fl then [] else t1 := by cases hfl : fl; rw [(hf2 hfl).2, outW_app, ho2, ho4]; simp; rw [(hf1 hfl).2, ho4]; simp
    refine region_list ?_
    refine list_pure E rfl rfl (by decide) (rn_move E rfl rfl) ?_; clear E a; intro a E
    refine list_call E rfl rfl (by decide) rfl Try.func13 rfl (by kernel_rfl) rfl (rk_waiting p _ P5 hP5 _ (S.hp.sel (sel_cons (by repeat (first | exact pk1 | apply pick_tail)) (sel_nil _)))) ?_
    rintro v77 w ⟨rfl, hT⟩; clear E a; intro a E
    have S := S.call1 (sel_cons (by repeat (first | exact pk1 | apply pick_tail)) (sel_nil _)) hT
    refine list_pure E rfl rfl (by decide) (rn_assign E rfl rfl) ?_; clear E a; intro a E
    refine wpList_nil ?_
    refine then_k hK ?_; clear hK; clear K
    refine wp_seq_k ?_; intro K hK
    refine region_list ?_
    refine list_pure E rfl rfl (by decide) (rn_move E rfl rfl) ?_; clear E a; intro a E
    refine list_call E rfl rfl (by decide) rfl Try.func12 rfl (by kernel_rfl) rfl (rk_read q _ Q2 hQ2 ⟨dz, gpz, gnz, Z, n3, false⟩ (by simp) 0 8 (by omega) _ (S.hp.sel (sel_cons (by repeat (first | exact pk1 | apply pick_tail)) (sel_nil _)))) ?_
    rintro v80 w ⟨vz2, Cz2, rfl, hz2, hT⟩; clear E a; intro a E
    have S := S.call2 (sel_cons (by repeat (first | exact pk1 | apply pick_tail)) (sel_nil _)) hT
    have hr3 : rdS ⟨-1, false, k3⟩ false n3 0 8 = (0, n3) := rdS_all rfl (k := 8) (by omega)
    simp only [hr3] at hz2 E
    refine list_pure E rfl rfl (by decide) (rn_move E rfl rfl) ?_; clear E a; intro a E
    refine list_pure E rfl rfl (by decide) (rn_extract E rfl rfl rfl) ?_; clear E a; intro a E
    refine list_pure E rfl rfl (by decide) (rn_extract E rfl rfl rfl) ?_; clear E a; intro a E
    refine list_pure E rfl rfl (by decide) (rn_assign E rfl rfl) ?_; clear E a; intro a E
    refine list_pure E rfl rfl (by decide) (rn_assign E rfl rfl) ?_; clear E a; intro a E
    refine wpList_nil ?_
    refine then_k hK ?_; clear hK; clear K
    refine wp_seq_k ?_; intro K hK
    refine region_list ?_
    refine list_pure E rfl rfl (by decide) (rn_move E rfl rfl) ?_; clear E a; intro a E
    refine list_call E rfl rfl (by decide) rfl Try.func19 rfl (by kernel_rfl) rfl (rk_fail p _ P5 hP5 ⟨dy, gpy, gny, Z, n2, false⟩ (by simp) _ (S.hp.sel (sel_cons (by repeat (first | exact pk1 | apply pick_tail)) (sel_nil _)))) ?_
    rintro v84 w ⟨P6, hP6, hT⟩; clear E a; intro a E
    have S := S.call1 (sel_cons (by repeat (first | exact pk1 | apply pick_tail)) (sel_nil _)) hT
    have hP6 : RkC p ⟨⟨-1, false, k1 + k2⟩, outW dy ws, [⟨dx, gpx, gnx, xp, n1, false⟩, ⟨dy, gpy, gny, Z, Z, true⟩]⟩ P6 := by simpa [Rk.fail, setD, hxy] using hP6
    refine wpList_nil ?_
    refine then_k hK ?_; clear hK; clear K
    refine wp_seq_k ?_; intro K hK
    refine region_list ?_
    refine list_pure E rfl rfl (by decide) (rn_move E rfl rfl) ?_; clear E a; intro a E
    refine list_call E rfl rfl (by decide) rfl Try.func13 rfl (by kernel_rfl) rfl (rk_waiting p _ P6 hP6 _ (S.hp.sel (sel_cons (by repeat (first | exact pk1 | apply pick_tail)) (sel_nil _)))) ?_
    rintro v86 w ⟨rfl, hT⟩; clear E a; intro a E
    have S := S.call1 (sel_cons (by repeat (first | exact pk1 | apply pick_tail)) (sel_nil _)) hT
    simp only [hlf] at E
    refine list_pure E rfl rfl (by decide) (rn_assign E rfl rfl) ?_; clear E a; intro a E
    refine wpList_nil ?_
    refine then_k hK ?_; clear hK; clear K
    refine wp_seq_k ?_; intro K hK
    refine wp_seq_k ?_; intro K hK
    replace E := E.keep (e' := [(0, _), (2, _), (3, _), (10, _), (11, _), (12, _), (14, _), (16, _), (18, _), (19, _), (20, _), (22, _)]) (keep_cons rfl (keep_cons rfl (keep_cons rfl (keep_cons rfl (keep_cons rfl (keep_cons rfl (keep_cons rfl (keep_cons rfl (keep_cons rfl (keep_cons rfl (keep_cons rfl (keep_cons rfl (keep_nil)))))))))))))
    refine region_list ?_
    refine list_pure E rfl rfl (by decide) (rn_move E rfl rfl) ?_; clear E a; intro a E
    refine list_pure E rfl rfl (by decide) (by first | exact rn_neq E rfl rfl rfl | exact rn_neq_ptr_nil E rfl rfl rfl rfl | exact rn_neq_bool E rfl rfl rfl rfl | exact rn_neq_string E rfl rfl rfl) ?_; clear E a; intro a E
    refine list_pure E rfl rfl (by decide) (rn_move E rfl rfl) ?_; clear E a; intro a E
    refine guard_split E (t := 89) rfl (fun hb89 => ?_) (fun hb89 => ?_)
    · have hb89n := hb89; replace hb89n := Nrm.nrm hb89n
      refine list_guard_no E rfl rfl rfl rfl hb89 rfl (by decide) ?_; clear E a; intro a E
      refine list_pure E rfl rfl (by decide) (rn_pick_yes' E rfl rfl hb89 rfl) ?_; clear E a; intro a E
      refine wpList_nil ?_
      refine then_k hK ?_; clear hK; clear K
      refine wp_join (fun (a : Act) (w' : World) => ∃ lf : Nat, lf = xa.length / 128 ∧ St w0 [O] w' [P6, Cz2, Q2, O] ∧ Fr a 195 [(0, .slice ada xa.length ca), (2, .bool fl), (3, .slice ads st.length cs), (10, ptr p), (11, ptr q), (12, ptr dx), (14, ptr dy), (16, ptr dz), (18, .int .i64 e1), (19, .int .i64 ws.length), (20, vz2), (22, .int .i64 lf)]) ?_ ?_
      · skip
        refine if_true' E rfl rfl ?_
        have h9 : (if fl = true then [] else t1).length ≤ 8 := by
          by_cases hq : fl = true
          · rw [if_pos hq]; simp
          · rw [if_neg hq]; omega
        refine region_list ?_
        refine list_pure E rfl rfl (by decide) (rn_move E rfl rfl) ?_; clear E a; intro a E
        refine list_pure E rfl rfl (by decide) (rn_move E rfl rfl) ?_; clear E a; intro a E
        refine list_pure E rfl rfl (by decide) (by first | exact rn_len E rfl rfl rfl | exact rn_len_str E rfl rfl rfl | exact rn_len_string E rfl rfl rfl) ?_; clear E a; intro a E
        refine list_pure E rfl rfl (by decide) (rn_quo E rfl rfl rfl (by decide) (by first | exact wq_lit (y := 128) (by omega) | exact wq_litu (y := 128) (by omega) | exact rfl)) ?_; clear E a; intro a E
        refine list_pure E rfl rfl (by decide) (rn_add E rfl rfl rfl (by first | exact wa1 (by omega) | exact w_in (by omega) | exact w_inu (by omega) | exact rfl)) ?_; clear E a; intro a E
        refine list_pure E rfl rfl (by decide) (rn_assign E rfl rfl) ?_; clear E a; intro a E
        refine wpList_nil ?_
        refine joined_here ?_
        have h9 : (if fl = true then [] else t1).length = 0 := by
          rcases hc1 with h | ⟨_, h, _⟩
          · omega
          · split; rfl; omega
        refine ⟨_, ?_, S.front4 (A := P6) (by repeat (first | exact pk1 | apply pick_tail)) (B := Cz2) (by repeat (first | exact pk1 | apply pick_tail)) (C := Q2) (by repeat (first | exact pk1 | apply pick_tail)) (D := O) (by repeat (first | exact pk1 | apply pick_tail)), E.keep (keep_cons rfl (keep_cons rfl (keep_cons rfl (keep_cons rfl (keep_cons rfl (keep_cons rfl (keep_cons rfl (keep_cons rfl (keep_cons rfl (keep_cons rfl (keep_cons rfl (keep_cons rfl keep_nil))))))))))))⟩
        omega
      · clear S E a; intro a w J; obtain ⟨lf, hlfe, S, E⟩ := J
        refine then_k hK ?_; clear hK; clear K
        refine wp_seq_k ?_; intro K hK
        refine region_list ?_
        refine list_pure E rfl rfl (by decide) (rn_move E rfl rfl) ?_; clear E a; intro a E
        refine list_pure E rfl rfl (by decide) (by first | exact rn_len E rfl rfl rfl | exact rn_len_str E rfl rfl rfl | exact rn_len_string E rfl rfl rfl) ?_; clear E a; intro a E
        refine list_pure E rfl rfl (by decide) (rn_quo E rfl rfl rfl (by decide) (by first | exact wq_lit (y := 128) (by omega) | exact wq_litu (y := 128) (by omega) | exact rfl)) ?_; clear E a; intro a E
        refine list_pure E rfl rfl (by decide) (rn_assign E rfl rfl) ?_; clear E a; intro a E
        refine wpList_nil ?_
        refine then_k hK ?_; clear hK; clear K
        refine wp_seq_k ?_; intro K hK
        refine wp_seq_k ?_; intro K hK
        refine region_list ?_
        refine list_pure E rfl rfl (by decide) (rn_move E rfl rfl) ?_; clear E a; intro a E
        refine list_pure E rfl rfl (by decide) (by first | exact rn_eql E rfl rfl rfl | exact rn_eql_ptr_nil E rfl rfl rfl rfl | exact rn_eql_bool E rfl rfl rfl rfl | exact rn_eql_string E rfl rfl rfl) ?_; clear E a; intro a E
        refine list_pure E rfl rfl (by decide) (rn_move E rfl rfl) ?_; clear E a; intro a E
        refine guard_split E (t := 102) rfl (fun hb102 => ?_) (fun hb102 => ?_)
        · have hb102n := hb102; replace hb102n := Nrm.nrm hb102n
          refine list_guard_yes E rfl rfl rfl rfl hb102 rfl (by decide) (rn_move E rfl rfl) ?_; clear E a; intro a E
          refine list_guard_yes E rfl rfl rfl rfl hb102 rfl (by decide) (rn_move E rfl rfl) ?_; clear E a; intro a E
          refine list_guard_yes E rfl rfl rfl rfl hb102 rfl (by decide) (by first | exact rn_neq E rfl rfl rfl | exact rn_neq_ptr_nil E rfl rfl rfl rfl | exact rn_neq_bool E rfl rfl rfl rfl | exact rn_neq_string E rfl rfl rfl) ?_; clear E a; intro a E
          refine list_pure E rfl rfl (by decide) (rn_pick_yes' E rfl rfl hb102 rfl) ?_; clear E a; intro a E
          refine list_pure E rfl rfl (by decide) (rn_move E rfl rfl) ?_; clear E a; intro a E
          refine guard_false E (t := 107) rfl ((by subst hlfe; simp)) (fun hb107 => ?_)
          refine list_guard_yes E rfl rfl rfl rfl hb107 rfl (by decide) (rn_move E rfl rfl) ?_; clear E a; intro a E
          refine list_guard_yes E rfl rfl rfl rfl hb107 rfl (by decide) (rn_move E rfl rfl) ?_; clear E a; intro a E
          refine list_guard_yes E rfl rfl rfl rfl hb107 rfl (by decide) (rn_move E rfl rfl) ?_; clear E a; intro a E
          refine list_guard_yes E rfl rfl rfl rfl hb107 rfl (by decide) (rn_sub E rfl rfl rfl (by first | exact ws1 (by omega) (by omega) | exact w_in (by omega) | exact w_inu (by omega) | exact rfl)) ?_; clear E a; intro a E
          refine list_guard_yes E rfl rfl rfl rfl hb107 rfl (by decide) (rn_lss E rfl rfl rfl) ?_; clear E a; intro a E
          refine list_pure E rfl rfl (by decide) (rn_pick_no' E rfl rfl hb107 rfl) ?_; clear E a; intro a E
          refine wpList_nil ?_
          refine then_k hK ?_; clear hK; clear K
          refine if_false' E rfl ((by subst hlfe; simp)) ?_
          refine wp_skip ?_
          refine then_k hK ?_; clear hK; clear K
          refine wp_seq_k ?_; intro K hK
          replace E := E.keep (e' := [(2, _), (3, _), (10, _), (11, _), (12, _), (14, _), (16, _), (20, _)]) (keep_cons rfl (keep_cons rfl (keep_cons rfl (keep_cons rfl (keep_cons rfl (keep_cons rfl (keep_cons rfl (keep_cons rfl (keep_nil)))))))))
          refine region_list ?_
          refine list_pure E rfl rfl (by decide) (rn_move E rfl rfl) ?_; clear E a; intro a E
          refine list_call E rfl rfl (by decide) rfl Try.func12 rfl (by kernel_rfl) rfl (rk_read p _ P6 hP6 ⟨dx, gpx, gnx, xp, n1, false⟩ (by simp) 0 8 (by omega) _ (S.hp.sel (sel_cons (by repeat (first | exact pk1 | apply pick_tail)) (sel_nil _)))) ?_
          rintro v116 w ⟨vx1, Cx1, rfl, hx1, hT⟩; clear E a; intro a E
          have S := (S.call2 (sel_cons (by repeat (first | exact pk1 | apply pick_tail)) (sel_nil _)) hT).addNil
          have hr1 : rdS ⟨-1, false, k1 + k2⟩ false n1 0 8 = (0, n1) := rdS_all rfl (k := 8) (by omega)
          simp only [hr1] at hx1 E
          refine list_pure E rfl rfl (by decide) (rn_move E rfl rfl) ?_; clear E a; intro a E
          refine list_pure E rfl rfl (by decide) (rn_extract E rfl rfl rfl) ?_; clear E a; intro a E
          refine list_pure E rfl rfl (by decide) (rn_extract E rfl rfl rfl) ?_; clear E a; intro a E
          refine list_pure E rfl rfl (by decide) (rn_assign E rfl rfl) ?_; clear E a; intro a E
          refine list_pure E rfl rfl (by decide) (rn_assign E rfl rfl) ?_; clear E a; intro a E
          refine wpList_nil ?_
          refine then_k hK ?_; clear hK; clear K
          refine wp_seq_k ?_; intro K hK
          refine region_list ?_
          refine list_pure E rfl rfl (by decide) (rn_move E rfl rfl) ?_; clear E a; intro a E
          refine list_call E rfl rfl (by decide) rfl Try.func14 rfl (by kernel_rfl) rfl (rk_up p _ P6 hP6 (.slice none 0 0) [] [] (Rd.nil [] 1) _ (S.hp.sel (sel_cons (by repeat (first | exact pk1 | apply pick_tail)) (sel_cons (by repeat (first | exact pk1 | apply pick_tail)) (sel_nil _))))) ?_
          rintro v120 w ⟨P7, hP7, hT⟩; clear E a; intro a E
          have S := S.call2 (sel_cons (by repeat (first | exact pk1 | apply pick_tail)) (sel_cons (by repeat (first | exact pk1 | apply pick_tail)) (sel_nil _))) hT
          have hP7 : RkC p ⟨⟨-1, false, k1 + k2⟩, [], [⟨dx, gpx, gnx, xp, xp, false⟩, ⟨dy, gpy, gny, Z, Z, true⟩]⟩ P7 := by simpa [Rk.up, upW_none, Dk.settle] using hP7
          refine wpList_nil ?_
          refine then_k hK ?_; clear hK; clear K
          refine wp_seq_k ?_; intro K hK
          refine region_list ?_
          refine list_pure E rfl rfl (by decide) (rn_move E rfl rfl) ?_; clear E a; intro a E
          refine list_call E rfl rfl (by decide) rfl Try.func12 rfl (by kernel_rfl) rfl (rk_read p _ P7 hP7 ⟨dx, gpx, gnx, xp, xp, false⟩ (by simp) 0 8 (by omega) _ (S.hp.sel (sel_cons (by repeat (first | exact pk1 | apply pick_tail)) (sel_nil _)))) ?_
          rintro v123 w ⟨vx2, Cx2, rfl, hx2, hT⟩; clear E a; intro a E
          have S := S.call2 (sel_cons (by repeat (first | exact pk1 | apply pick_tail)) (sel_nil _)) hT
          have hr2 : rdS ⟨-1, false, k1 + k2⟩ false xp 0 8 = (0, xp) := rdS_all rfl (k := 8) (by omega)
          simp only [hr2] at hx2 E
          refine list_pure E rfl rfl (by decide) (rn_move E rfl rfl) ?_; clear E a; intro a E
          refine list_pure E rfl rfl (by decide) (rn_extract E rfl rfl rfl) ?_; clear E a; intro a E
          refine list_pure E rfl rfl (by decide) (rn_extract E rfl rfl rfl) ?_; clear E a; intro a E
          refine list_pure E rfl rfl (by decide) (rn_assign E rfl rfl) ?_; clear E a; intro a E
          refine list_pure E rfl rfl (by decide) (rn_assign E rfl rfl) ?_; clear E a; intro a E
          refine wpList_nil ?_
          refine then_k hK ?_; clear hK; clear K
          refine wp_seq_k ?_; intro K hK
          replace E := E.keep (e' := [(2, _), (3, _), (10, _), (11, _), (14, _), (16, _), (20, _), (24, _), (25, _), (26, _), (27, _)]) (keep_cons rfl (keep_cons rfl (keep_cons rfl (keep_cons rfl (keep_cons rfl (keep_cons rfl (keep_cons rfl (keep_cons rfl (keep_cons rfl (keep_cons rfl (keep_cons rfl (keep_nil))))))))))))
          refine region_list ?_
          refine list_pure E rfl rfl (by decide) (rn_move E rfl rfl) ?_; clear E a; intro a E
          refine list_call E rfl rfl (by decide) rfl Try.func12 rfl (by kernel_rfl) rfl (rk_read q _ Q2 hQ2 ⟨dz, gpz, gnz, Z, n3, false⟩ (by simp) 0 8 (by omega) _ (S.hp.sel (sel_cons (by repeat (first | exact pk1 | apply pick_tail)) (sel_nil _)))) ?_
          rintro v128 w ⟨vz3, Cz3, rfl, hz3, hT⟩; clear E a; intro a E
          have S := S.call2 (sel_cons (by repeat (first | exact pk1 | apply pick_tail)) (sel_nil _)) hT
          simp only [hr3] at hz3 E
          refine list_pure E rfl rfl (by decide) (rn_move E rfl rfl) ?_; clear E a; intro a E
          refine list_pure E rfl rfl (by decide) (rn_extract E rfl rfl rfl) ?_; clear E a; intro a E
          refine list_pure E rfl rfl (by decide) (rn_extract E rfl rfl rfl) ?_; clear E a; intro a E
          refine list_pure E rfl rfl (by decide) (rn_assign E rfl rfl) ?_; clear E a; intro a E
          refine list_pure E rfl rfl (by decide) (rn_assign E rfl rfl) ?_; clear E a; intro a E
          refine wpList_nil ?_
          refine then_k hK ?_; clear hK; clear K
          refine wp_seq_k ?_; intro K hK
          refine region_list ?_
          refine list_pure E rfl rfl (by decide) (rn_move E rfl rfl) ?_; clear E a; intro a E
          refine list_call E rfl rfl (by decide) rfl Try.func20 rfl (by kernel_rfl) rfl (rk_replace p _ P7 hP7 ⟨dy, gpy, gny, Z, Z, true⟩ (by simp) _ (S.hp.sel (sel_cons (by repeat (first | exact pk1 | apply pick_tail)) (sel_nil _)))) ?_
          rintro v132 w ⟨P8, hP8, hT⟩; clear E a; intro a E
          have S := S.call1 (sel_cons (by repeat (first | exact pk1 | apply pick_tail)) (sel_nil _)) hT
          have hZr : List.replicate 1024 (0 : UInt8) = Z := hZ.symm
          have hP8 : RkC p ⟨⟨-1, false, k1 + k2⟩, [], [⟨dx, gpx, gnx, xp, xp, false⟩, ⟨dy, gpy, gny, Z, Z, false⟩]⟩ P8 := by simpa [Rk.replace, setD, hxy, hZl, hZr, outW] using hP8
          refine wpList_nil ?_
          refine then_k hK ?_; clear hK; clear K
          refine wp_seq_k ?_; intro K hK
          refine region_list ?_
          refine list_pure E rfl rfl (by decide) (rn_move E rfl rfl) ?_; clear E a; intro a E
          refine list_call E rfl rfl (by decide) rfl Try.func12 rfl (by kernel_rfl) rfl (rk_read p _ P8 hP8 ⟨dy, gpy, gny, Z, Z, false⟩ (by simp) 0 8 (by omega) _ (S.hp.sel (sel_cons (by repeat (first | exact pk1 | apply pick_tail)) (sel_nil _)))) ?_
          rintro v135 w ⟨vy1, Cy1, rfl, hy1, hT⟩; clear E a; intro a E
          have S := S.call2 (sel_cons (by repeat (first | exact pk1 | apply pick_tail)) (sel_nil _)) hT
          have hr4 : rdS ⟨-1, false, k1 + k2⟩ false Z 0 8 = (0, Z) := rdS_all rfl (k := 8) (by omega)
          simp only [hr4] at hy1 E
          refine list_pure E rfl rfl (by decide) (rn_move E rfl rfl) ?_; clear E a; intro a E
          refine list_pure E rfl rfl (by decide) (rn_extract E rfl rfl rfl) ?_; clear E a; intro a E
          refine list_pure E rfl rfl (by decide) (rn_extract E rfl rfl rfl) ?_; clear E a; intro a E
          refine list_pure E rfl rfl (by decide) (rn_assign E rfl rfl) ?_; clear E a; intro a E
          refine list_pure E rfl rfl (by decide) (rn_assign E rfl rfl) ?_; clear E a; intro a E
          refine wpList_nil ?_
          refine then_k hK ?_; clear hK; clear K
          refine wp_seq_k ?_; intro K hK
          refine wp_seq_k ?_; intro K hK
          replace E := E.keep (e' := [(2, _), (3, _), (10, _), (11, _), (20, _), (24, _), (25, _), (26, _), (27, _), (28, _), (29, _), (30, _), (31, _)]) (keep_cons rfl (keep_cons rfl (keep_cons rfl (keep_cons rfl (keep_cons rfl (keep_cons rfl (keep_cons rfl (keep_cons rfl (keep_cons rfl (keep_cons rfl (keep_cons rfl (keep_cons rfl (keep_cons rfl (keep_nil))))))))))))))
          refine region_mix0 S (.ofL [(0, 0), (1, 0), (2, 0), (3, 0), (4, 0), (5, 0), (6, 0), (7, 0), (8, 0), (9, 0), (10, 0), (11, 0), (12, 0), (13, 0), (14, 0), (15, 0), (16, 0), (17, 0), (18, 0), (19, 0), (20, 0), (21, 0), (22, 0), (23, 0), (24, 1), (25, 1), (26, 0), (27, 0)]) (by kernel_rfl) (by kernel_rfl) ?_
          clear S; intro w S
          refine mix_pure E rfl rfl rfl (by decide) (fun w h => rn_move E rfl rfl) ?_; clear E a; intro a E
          refine mix_pure E rfl rfl rfl (by decide) (fun w h => by first | exact rn_neq E rfl rfl rfl | exact rn_neq_ptr_nil E rfl rfl rfl rfl | exact rn_neq_bool E rfl rfl rfl rfl | exact rn_neq_string E rfl rfl rfl) ?_; clear E a; intro a E
          refine mix_pure E rfl rfl rfl (by decide) (fun w h => rn_move E rfl rfl) ?_; clear E a; intro a E
          refine guard_false E (t := 140) rfl (rfl) (fun hb140 => ?_)
          refine mix_guard_yes E rfl rfl rfl rfl rfl hb140 rfl (by decide) (fun w h => rn_move E rfl rfl) ?_; clear E a; intro a E
          refine mix_guard_yes E rfl rfl rfl rfl rfl hb140 rfl (by decide) (fun w h => by first | exact rn_neq E rfl rfl rfl | exact rn_neq_ptr_nil E rfl rfl rfl rfl | exact rn_neq_bool E rfl rfl rfl rfl | exact rn_neq_string E rfl rfl rfl) ?_; clear E a; intro a E
          refine mix_pure E rfl rfl rfl (by decide) (fun w h => rn_pick_no' E rfl rfl hb140 rfl) ?_; clear E a; intro a E
          refine mix_pure E rfl rfl rfl (by decide) (fun w h => rn_move E rfl rfl) ?_; clear E a; intro a E
          refine guard_false E (t := 144) rfl (rfl) (fun hb144 => ?_)
          refine mix_guard_yes E rfl rfl rfl rfl rfl hb144 rfl (by decide) (fun w h => rn_move E rfl rfl) ?_; clear E a; intro a E
          refine mix_guard_yes E rfl rfl rfl rfl rfl hb144 rfl (by decide) (fun w h => by first | exact rn_neq E rfl rfl rfl | exact rn_neq_ptr_nil E rfl rfl rfl rfl | exact rn_neq_bool E rfl rfl rfl rfl | exact rn_neq_string E rfl rfl rfl) ?_; clear E a; intro a E
          refine mix_pure E rfl rfl rfl (by decide) (fun w h => rn_pick_no' E rfl rfl hb144 rfl) ?_; clear E a; intro a E
          refine mix_pure E rfl rfl rfl (by decide) (fun w h => rn_move E rfl rfl) ?_; clear E a; intro a E
          refine guard_false E (t := 148) rfl (rfl) (fun hb148 => ?_)
          refine mix_guard_yes E rfl rfl rfl rfl rfl hb148 rfl (by decide) (fun w h => rn_move E rfl rfl) ?_; clear E a; intro a E
          refine mix_guard_yes E rfl rfl rfl rfl rfl hb148 rfl (by decide) (fun w h => by first | exact rn_neq E rfl rfl rfl | exact rn_neq_ptr_nil E rfl rfl rfl rfl | exact rn_neq_bool E rfl rfl rfl rfl | exact rn_neq_string E rfl rfl rfl) ?_; clear E a; intro a E
          refine mix_pure E rfl rfl rfl (by decide) (fun w h => rn_pick_no' E rfl rfl hb148 rfl) ?_; clear E a; intro a E
          refine mix_pure E rfl rfl rfl (by decide) (fun w h => rn_move E rfl rfl) ?_; clear E a; intro a E
          refine guard_false E (t := 152) rfl (rfl) (fun hb152 => ?_)
          refine mix_guard_yes E rfl rfl rfl rfl rfl hb152 rfl (by decide) (fun w h => rn_move E rfl rfl) ?_; clear E a; intro a E
          refine mix_guard_yes E rfl rfl rfl rfl rfl hb152 rfl (by decide) (fun w h => rn_string E rfl rfl rfl rfl rfl hz2.rd (h.at (by repeat (first | exact mm1 | assumption | apply List.Mem.tail)))) ?_; clear E a; intro a E
          refine mix_guard_yes E rfl rfl rfl rfl rfl hb152 rfl (by decide) (fun w h => rn_move E rfl rfl) ?_; clear E a; intro a E
          refine mix_guard_yes E rfl rfl rfl rfl rfl hb152 rfl (by decide) (fun w h => rn_string E rfl rfl rfl rfl rfl hz3.rd (h.at (by repeat (first | exact mm1 | assumption | apply List.Mem.tail)))) ?_; clear E a; intro a E
          refine mix_guard_yes E rfl rfl rfl rfl rfl hb152 rfl (by decide) (fun w h => by first | exact rn_neq E rfl rfl rfl | exact rn_neq_ptr_nil E rfl rfl rfl rfl | exact rn_neq_bool E rfl rfl rfl rfl | exact rn_neq_string E rfl rfl rfl) ?_; clear E a; intro a E
          refine mix_pure E rfl rfl rfl (by decide) (fun w h => rn_pick_no' E rfl rfl hb152 rfl) ?_; clear E a; intro a E
          refine mix_pure E rfl rfl rfl (by decide) (fun w h => rn_move E rfl rfl) ?_; clear E a; intro a E
          refine guard_false E (t := 159) rfl ((by simp)) (fun hb159 => ?_)
          refine mix_guard_yes E rfl rfl rfl rfl rfl hb159 rfl (by decide) (fun w h => rn_move E rfl rfl) ?_; clear E a; intro a E
          refine mix_guard_yes E rfl rfl rfl rfl rfl hb159 rfl (by decide) (fun w h => rn_string E rfl rfl rfl rfl rfl hy1.rd (h.at (by repeat (first | exact mm1 | assumption | apply List.Mem.tail)))) ?_; clear E a; intro a E
          refine mix_guard_act E rfl rfl rfl rfl rfl hb159 (wp_make1 (by' := 1) E S rfl rfl (by decide) rfl rfl rfl rfl rfl rfl rfl rfl rfl rfl rfl (by decide) (by decide) ?_); clear E S a; intro a w g162 E S; refine ⟨S.stab.sub (by first | (simp; done) | (simp +contextual; done)), ?_⟩
          try rw [show List.replicate 1024 (Value.int .u8 0) = byt Z by rw [← hZr, byt_rep]] at S
          refine mix_guard_act E rfl rfl rfl rfl rfl hb159 (wp_take E (rn_string E rfl rfl rfl rfl rfl (show Rd [(g162, cel (byt Z) 5)] 1 (.slice (some ⟨g162, 0, none⟩) 1024 1024) Z.length (byt Z) from by rw [hZl]; exact rd_cells (by rw [byt_length]; omega) (byt_one Z) (by omega) 1024) (S.stab.at (by repeat (first | exact mm1 | assumption | apply List.Mem.tail)))) rfl (by decide) ?_); clear E a; intro a E; refine ⟨S.stab.sub (by first | (simp; done) | (simp +contextual; done)), ?_⟩
          refine mix_guard_yes E rfl rfl rfl rfl rfl hb159 rfl (by decide) (fun w h => by first | exact rn_neq E rfl rfl rfl | exact rn_neq_ptr_nil E rfl rfl rfl rfl | exact rn_neq_bool E rfl rfl rfl rfl | exact rn_neq_string E rfl rfl rfl) ?_; clear E a; intro a E
          refine mix_pure E rfl rfl rfl (by decide) (fun w h => rn_pick_no' E rfl rfl hb159 rfl) ?_; clear E a; intro a E
          refine mix_nil ?_
          refine then_k hK ?_; clear hK; clear K
          refine if_false' E rfl ((by simp)) ?_
          refine wp_skip ?_
          refine then_k hK ?_; clear hK; clear K
          refine wp_seq_k ?_; intro K hK
          refine wp_seq_k ?_; intro K hK
          replace E := E.keep (e' := [(2, _), (3, _), (10, _), (11, _), (24, _), (26, _)]) (keep_cons rfl (keep_cons rfl (keep_cons rfl (keep_cons rfl (keep_cons rfl (keep_cons rfl (keep_nil)))))))
          refine region_mix0 S (.ofL [(0, 0), (1, 0), (2, 0), (3, 0), (4, 0), (5, 0), (6, 0), (7, 0), (8, 0), (9, 0), (10, 0), (11, 0), (12, 0), (13, 0), (14, 1), (15, 1), (16, 0), (17, 0), (18, 0)]) (by kernel_rfl) (by kernel_rfl) ?_
          clear S; intro w S
          refine mix_pure E rfl rfl rfl (by decide) (fun w h => rn_move E rfl rfl) ?_; clear E a; intro a E
          refine mix_pure E rfl rfl rfl (by decide) (fun w h => rn_move E rfl rfl) ?_; clear E a; intro a E
          refine guard_split E (t := 167) rfl (fun hb167 => ?_) (fun hb167 => ?_)
          · have hb167n := hb167; replace hb167n := Nrm.nrm hb167n
            refine mix_guard_yes E rfl rfl rfl rfl rfl hb167 rfl (by decide) (fun w h => rn_move E rfl rfl) ?_; clear E a; intro a E
            refine mix_guard_yes E rfl rfl rfl rfl rfl hb167 rfl (by decide) (fun w h => rn_string E rfl rfl rfl rfl rfl hx1.rd (h.at (by repeat (first | exact mm1 | assumption | apply List.Mem.tail)))) ?_; clear E a; intro a E
            refine mix_guard_yes E rfl rfl rfl rfl rfl hb167 rfl (by decide) (fun w h => rn_move E rfl rfl) ?_; clear E a; intro a E
            refine mix_guard_yes E rfl rfl rfl rfl rfl hb167 rfl (by decide) (fun w h => rn_string E rfl rfl rfl rfl rfl hx2.rd (h.at (by repeat (first | exact mm1 | assumption | apply List.Mem.tail)))) ?_; clear E a; intro a E
            refine mix_guard_yes E rfl rfl rfl rfl rfl hb167 rfl (by decide) (fun w h => by first | exact rn_neq E rfl rfl rfl | exact rn_neq_ptr_nil E rfl rfl rfl rfl | exact rn_neq_bool E rfl rfl rfl rfl | exact rn_neq_string E rfl rfl rfl) ?_; clear E a; intro a E
            refine mix_pure E rfl rfl rfl (by decide) (fun w h => rn_pick_yes' E rfl rfl hb167 rfl) ?_; clear E a; intro a E
            refine mix_pure E rfl rfl rfl (by decide) (fun w h => rn_move E rfl rfl) ?_; clear E a; intro a E
            refine guard_false E (t := 174) rfl ((by rw [(hf1 hb167).1]; simp)) (fun hb174 => ?_)
            refine mix_guard_yes E rfl rfl rfl rfl rfl hb174 rfl (by decide) (fun w h => rn_move E rfl rfl) ?_; clear E a; intro a E
            refine mix_guard_yes E rfl rfl rfl rfl rfl hb174 rfl (by decide) (fun w h => rn_not E rfl rfl) ?_; clear E a; intro a E
            refine mix_guard_yes E rfl rfl rfl rfl rfl hb174 rfl (by decide) (fun w h => rn_move E rfl rfl) ?_; clear E a; intro a E
            refine guard_false E (t := 177) rfl ((by simp [hb167])) (fun hb177 => ?_)
            refine mix_guard_no E rfl rfl rfl rfl rfl hb177 rfl (by decide) ?_; clear E a; intro a E
            refine mix_guard_no E rfl rfl rfl rfl rfl hb177 rfl (by decide) ?_; clear E a; intro a E
            refine mix_guard_no_act E rfl rfl rfl rfl rfl hb177 rfl (by decide) S.stab ?_; clear E a; intro a E
            try rw [show List.replicate 1024 (Value.int .u8 0) = byt Z by rw [← hZr, byt_rep]] at S
            refine mix_guard_no_act E rfl rfl rfl rfl rfl hb177 rfl (by decide) S.stab ?_; clear E a; intro a E
            refine mix_guard_no E rfl rfl rfl rfl rfl hb177 rfl (by decide) ?_; clear E a; intro a E
            refine mix_guard_yes E rfl rfl rfl rfl rfl hb174 rfl (by decide) (fun w h => rn_pick_no' E rfl rfl hb177 rfl) ?_; clear E a; intro a E
            refine mix_pure E rfl rfl rfl (by decide) (fun w h => rn_pick_no' E rfl rfl hb174 rfl) ?_; clear E a; intro a E
            refine mix_nil ?_
            refine then_k hK ?_; clear hK; clear K
            refine if_false' E rfl rfl ?_
            refine wp_skip ?_
            refine then_k hK ?_; clear hK; clear K
            refine wp_seq_k ?_; intro K hK
            replace E := E.keep (e' := [(3, _), (10, _), (11, _)]) (keep_cons rfl (keep_cons rfl (keep_cons rfl (keep_nil))))
            refine region_list ?_
            refine list_pure E rfl rfl (by decide) (rn_move E rfl rfl) ?_; clear E a; intro a E
            refine list_pure E rfl rfl (by decide) (rn_move E rfl rfl) ?_; clear E a; intro a E
            refine list_call E rfl rfl (by decide) rfl Try.func14 rfl (by kernel_rfl) rfl (rk_up p _ P8 hP8 _ st O hst _ (S.hp.sel (sel_cons (by repeat (first | exact pk1 | apply pick_tail)) (sel_cons (by repeat (first | exact pk1 | apply pick_tail)) (sel_nil _))))) ?_
            rintro v187 w ⟨P9, hP9, hT⟩; clear E a; intro a E
            have S := S.call2 (sel_cons (by repeat (first | exact pk1 | apply pick_tail)) (sel_cons (by repeat (first | exact pk1 | apply pick_tail)) (sel_nil _))) hT
            refine wpList_nil ?_
            refine then_k hK ?_; clear hK; clear K
            refine wp_seq_k ?_; intro K hK
            refine region_list ?_
            refine list_pure E rfl rfl (by decide) (rn_move E rfl rfl) ?_; clear E a; intro a E
            refine list_call E rfl rfl (by decide) rfl Try.func15 rfl (by kernel_rfl) rfl (rk_on q _ Q2 hQ2 _ (S.hp.sel (sel_cons (by repeat (first | exact pk1 | apply pick_tail)) (sel_nil _)))) ?_
            rintro v189 w ⟨rfl, hT⟩; clear E a; intro a E
            have S := S.call1 (sel_cons (by repeat (first | exact pk1 | apply pick_tail)) (sel_nil _)) hT
            refine list_pure E rfl rfl (by decide) (rn_move E rfl rfl) ?_; clear E a; intro a E
            refine guard_true E (t := 190) rfl (rfl) (fun hb190 => ?_)
            refine list_guard_yes E rfl rfl rfl rfl hb190 rfl (by decide) (rn_move E rfl rfl) ?_; clear E a; intro a E
            refine list_guard_wp E rfl rfl rfl rfl hb190 ?_; refine wp_call' E rfl (by decide) rfl Try.func13 rfl (by kernel_rfl) rfl (rk_waiting p _ P9 hP9 _ (S.hp.sel (sel_cons (by repeat (first | exact pk1 | apply pick_tail)) (sel_nil _)))) ?_
            rintro v192 w ⟨rfl, hT⟩; clear E a; intro a E
            have S := S.call1 (sel_cons (by repeat (first | exact pk1 | apply pick_tail)) (sel_nil _)) hT
            refine list_guard_yes E rfl rfl rfl rfl hb190 rfl (by decide) (by first | exact rn_eql E rfl rfl rfl | exact rn_eql_ptr_nil E rfl rfl rfl rfl | exact rn_eql_bool E rfl rfl rfl rfl | exact rn_eql_string E rfl rfl rfl) ?_; clear E a; intro a E
            refine list_pure E rfl rfl (by decide) (rn_pick_yes' E rfl rfl hb190 rfl) ?_; clear E a; intro a E
            refine list_pure E rfl rfl (by decide) (rn_assign E rfl rfl) ?_; clear E a; intro a E
            refine wpList_nil ?_
            refine then_k hK ?_; clear hK; clear K
            refine wp_ret ?_
            refine ret1 E rfl rfl ?_
            exact ⟨_, rfl, rfl, (S.only (Bs := [O]) (sel_cons (by repeat (first | exact pk1 | apply pick_tail)) (sel_nil _))).tr⟩
          · have hb167n := hb167; replace hb167n := Nrm.nrm hb167n
            refine mix_guard_no E rfl rfl rfl rfl rfl hb167 rfl (by decide) ?_; clear E a; intro a E
            refine mix_guard_no E rfl rfl rfl rfl rfl hb167 rfl (by decide) ?_; clear E a; intro a E
            refine mix_guard_no E rfl rfl rfl rfl rfl hb167 rfl (by decide) ?_; clear E a; intro a E
            refine mix_guard_no E rfl rfl rfl rfl rfl hb167 rfl (by decide) ?_; clear E a; intro a E
            refine mix_guard_no E rfl rfl rfl rfl rfl hb167 rfl (by decide) ?_; clear E a; intro a E
            refine mix_pure E rfl rfl rfl (by decide) (fun w h => rn_pick_no' E rfl rfl hb167 rfl) ?_; clear E a; intro a E
            refine mix_pure E rfl rfl rfl (by decide) (fun w h => rn_move E rfl rfl) ?_; clear E a; intro a E
            refine mix_guard_yes E rfl rfl rfl rfl rfl rfl rfl (by decide) (fun w h => rn_move E rfl rfl) ?_; clear E a; intro a E
            refine mix_guard_yes E rfl rfl rfl rfl rfl rfl rfl (by decide) (fun w h => rn_not E rfl rfl) ?_; clear E a; intro a E
            refine mix_guard_yes E rfl rfl rfl rfl rfl rfl rfl (by decide) (fun w h => rn_move E rfl rfl) ?_; clear E a; intro a E
            refine guard_true E (t := 177) rfl ((by simp [hb167])) (fun hb177 => ?_)
            refine mix_guard_yes E rfl rfl rfl rfl rfl hb177 rfl (by decide) (fun w h => rn_move E rfl rfl) ?_; clear E a; intro a E
            refine mix_guard_yes E rfl rfl rfl rfl rfl hb177 rfl (by decide) (fun w h => rn_string E rfl rfl rfl rfl rfl hx2.rd (h.at (by repeat (first | exact mm1 | assumption | apply List.Mem.tail)))) ?_; clear E a; intro a E
            refine mix_guard_act E rfl rfl rfl rfl rfl hb177 (wp_make1 (by' := 1) E S rfl rfl (by decide) rfl rfl rfl rfl rfl rfl rfl rfl rfl rfl rfl (by decide) (by decide) ?_); clear E S a; intro a w g180 E S; refine ⟨S.stab.sub (by first | (simp; done) | (simp +contextual; done)), ?_⟩
            try rw [show List.replicate 1024 (Value.int .u8 0) = byt Z by rw [← hZr, byt_rep]] at S
            refine mix_guard_act E rfl rfl rfl rfl rfl hb177 (wp_take E (rn_string E rfl rfl rfl rfl rfl (show Rd [(g180, cel (byt Z) 5)] 1 (.slice (some ⟨g180, 0, none⟩) 1024 1024) Z.length (byt Z) from by rw [hZl]; exact rd_cells (by rw [byt_length]; omega) (byt_one Z) (by omega) 1024) (S.stab.at (by repeat (first | exact mm1 | assumption | apply List.Mem.tail)))) rfl (by decide) ?_); clear E a; intro a E; refine ⟨S.stab.sub (by first | (simp; done) | (simp +contextual; done)), ?_⟩
            refine mix_guard_yes E rfl rfl rfl rfl rfl hb177 rfl (by decide) (fun w h => by first | exact rn_neq E rfl rfl rfl | exact rn_neq_ptr_nil E rfl rfl rfl rfl | exact rn_neq_bool E rfl rfl rfl rfl | exact rn_neq_string E rfl rfl rfl) ?_; clear E a; intro a E
            refine mix_guard_yes E rfl rfl rfl rfl rfl rfl rfl (by decide) (fun w h => rn_pick_yes' E rfl rfl hb177 rfl) ?_; clear E a; intro a E
            refine mix_pure E rfl rfl rfl (by decide) (fun w h => rn_pick_no' E rfl rfl rfl rfl) ?_; clear E a; intro a E
            refine mix_nil ?_
            refine then_k hK ?_; clear hK; clear K
            refine if_false' E rfl ((by rw [(hf2 hb167).1]; simp)) ?_
            refine wp_skip ?_
            refine then_k hK ?_; clear hK; clear K
            refine wp_seq_k ?_; intro K hK
            replace E := E.keep (e' := [(3, _), (10, _), (11, _)]) (keep_cons rfl (keep_cons rfl (keep_cons rfl (keep_nil))))
            refine region_list ?_
            refine list_pure E rfl rfl (by decide) (rn_move E rfl rfl) ?_; clear E a; intro a E
            refine list_pure E rfl rfl (by decide) (rn_move E rfl rfl) ?_; clear E a; intro a E
            refine list_call E rfl rfl (by decide) rfl Try.func14 rfl (by kernel_rfl) rfl (rk_up p _ P8 hP8 _ st O hst _ (S.hp.sel (sel_cons (by repeat (first | exact pk1 | apply pick_tail)) (sel_cons (by repeat (first | exact pk1 | apply pick_tail)) (sel_nil _))))) ?_
            rintro v187 w ⟨P9, hP9, hT⟩; clear E a; intro a E
            have S := S.call2 (sel_cons (by repeat (first | exact pk1 | apply pick_tail)) (sel_cons (by repeat (first | exact pk1 | apply pick_tail)) (sel_nil _))) hT
            refine wpList_nil ?_
            refine then_k hK ?_; clear hK; clear K
            refine wp_seq_k ?_; intro K hK
            refine region_list ?_
            refine list_pure E rfl rfl (by decide) (rn_move E rfl rfl) ?_; clear E a; intro a E
            refine list_call E rfl rfl (by decide) rfl Try.func15 rfl (by kernel_rfl) rfl (rk_on q _ Q2 hQ2 _ (S.hp.sel (sel_cons (by repeat (first | exact pk1 | apply pick_tail)) (sel_nil _)))) ?_
            rintro v189 w ⟨rfl, hT⟩; clear E a; intro a E
            have S := S.call1 (sel_cons (by repeat (first | exact pk1 | apply pick_tail)) (sel_nil _)) hT
            refine list_pure E rfl rfl (by decide) (rn_move E rfl rfl) ?_; clear E a; intro a E
            refine guard_true E (t := 190) rfl (rfl) (fun hb190 => ?_)
            refine list_guard_yes E rfl rfl rfl rfl hb190 rfl (by decide) (rn_move E rfl rfl) ?_; clear E a; intro a E
            refine list_guard_wp E rfl rfl rfl rfl hb190 ?_; refine wp_call' E rfl (by decide) rfl Try.func13 rfl (by kernel_rfl) rfl (rk_waiting p _ P9 hP9 _ (S.hp.sel (sel_cons (by repeat (first | exact pk1 | apply pick_tail)) (sel_nil _)))) ?_
            rintro v192 w ⟨rfl, hT⟩; clear E a; intro a E
            have S := S.call1 (sel_cons (by repeat (first | exact pk1 | apply pick_tail)) (sel_nil _)) hT
            refine list_guard_yes E rfl rfl rfl rfl hb190 rfl (by decide) (by first | exact rn_eql E rfl rfl rfl | exact rn_eql_ptr_nil E rfl rfl rfl rfl | exact rn_eql_bool E rfl rfl rfl rfl | exact rn_eql_string E rfl rfl rfl) ?_; clear E a; intro a E
            refine list_pure E rfl rfl (by decide) (rn_pick_yes' E rfl rfl hb190 rfl) ?_; clear E a; intro a E
            refine list_pure E rfl rfl (by decide) (rn_assign E rfl rfl) ?_; clear E a; intro a E
            refine wpList_nil ?_
            refine then_k hK ?_; clear hK; clear K
            refine wp_ret ?_
            refine ret1 E rfl rfl ?_
            exact ⟨_, rfl, rfl, (S.only (Bs := [O]) (sel_cons (by repeat (first | exact pk1 | apply pick_tail)) (sel_nil _))).tr⟩
        · have hb102n := hb102; replace hb102n := Nrm.nrm hb102n
          refine list_guard_no E rfl rfl rfl rfl hb102 rfl (by decide) ?_; clear E a; intro a E
          refine list_guard_no E rfl rfl rfl rfl hb102 rfl (by decide) ?_; clear E a; intro a E
          refine list_guard_no E rfl rfl rfl rfl hb102 rfl (by decide) ?_; clear E a; intro a E
          refine list_pure E rfl rfl (by decide) (rn_pick_no' E rfl rfl hb102 rfl) ?_; clear E a; intro a E
          refine list_pure E rfl rfl (by decide) (rn_move E rfl rfl) ?_; clear E a; intro a E
          refine list_guard_yes E rfl rfl rfl rfl rfl rfl (by decide) (rn_move E rfl rfl) ?_; clear E a; intro a E
          refine list_guard_yes E rfl rfl rfl rfl rfl rfl (by decide) (rn_move E rfl rfl) ?_; clear E a; intro a E
          refine list_guard_yes E rfl rfl rfl rfl rfl rfl (by decide) (rn_move E rfl rfl) ?_; clear E a; intro a E
          refine list_guard_yes E rfl rfl rfl rfl rfl rfl (by decide) (rn_sub E rfl rfl rfl (by first | exact ws1 (by omega) (by omega) | exact w_in (by omega) | exact w_inu (by omega) | exact rfl)) ?_; clear E a; intro a E
          refine list_guard_yes E rfl rfl rfl rfl rfl rfl (by decide) (rn_lss E rfl rfl rfl) ?_; clear E a; intro a E
          refine list_pure E rfl rfl (by decide) (rn_pick_no' E rfl rfl rfl rfl) ?_; clear E a; intro a E
          refine wpList_nil ?_
          refine then_k hK ?_; clear hK; clear K
          refine if_false' E rfl ((by subst hlfe; simp)) ?_
          refine wp_skip ?_
          refine then_k hK ?_; clear hK; clear K
          refine wp_seq_k ?_; intro K hK
          replace E := E.keep (e' := [(2, _), (3, _), (10, _), (11, _), (12, _), (14, _), (16, _), (20, _)]) (keep_cons rfl (keep_cons rfl (keep_cons rfl (keep_cons rfl (keep_cons rfl (keep_cons rfl (keep_cons rfl (keep_cons rfl (keep_nil)))))))))
          refine region_list ?_
          refine list_pure E rfl rfl (by decide) (rn_move E rfl rfl) ?_; clear E a; intro a E
          refine list_call E rfl rfl (by decide) rfl Try.func12 rfl (by kernel_rfl) rfl (rk_read p _ P6 hP6 ⟨dx, gpx, gnx, xp, n1, false⟩ (by simp) 0 8 (by omega) _ (S.hp.sel (sel_cons (by repeat (first | exact pk1 | apply pick_tail)) (sel_nil _)))) ?_
          rintro v116 w ⟨vx1, Cx1, rfl, hx1, hT⟩; clear E a; intro a E
          have S := (S.call2 (sel_cons (by repeat (first | exact pk1 | apply pick_tail)) (sel_nil _)) hT).addNil
          have hr1 : rdS ⟨-1, false, k1 + k2⟩ false n1 0 8 = (0, n1) := rdS_all rfl (k := 8) (by omega)
          simp only [hr1] at hx1 E
          refine list_pure E rfl rfl (by decide) (rn_move E rfl rfl) ?_; clear E a; intro a E
          refine list_pure E rfl rfl (by decide) (rn_extract E rfl rfl rfl) ?_; clear E a; intro a E
          refine list_pure E rfl rfl (by decide) (rn_extract E rfl rfl rfl) ?_; clear E a; intro a E
          refine list_pure E rfl rfl (by decide) (rn_assign E rfl rfl) ?_; clear E a; intro a E
          refine list_pure E rfl rfl (by decide) (rn_assign E rfl rfl) ?_; clear E a; intro a E
          refine wpList_nil ?_
          refine then_k hK ?_; clear hK; clear K
          refine wp_seq_k ?_; intro K hK
          refine region_list ?_
          refine list_pure E rfl rfl (by decide) (rn_move E rfl rfl) ?_; clear E a; intro a E
          refine list_call E rfl rfl (by decide) rfl Try.func14 rfl (by kernel_rfl) rfl (rk_up p _ P6 hP6 (.slice none 0 0) [] [] (Rd.nil [] 1) _ (S.hp.sel (sel_cons (by repeat (first | exact pk1 | apply pick_tail)) (sel_cons (by repeat (first | exact pk1 | apply pick_tail)) (sel_nil _))))) ?_
          rintro v120 w ⟨P7, hP7, hT⟩; clear E a; intro a E
          have S := S.call2 (sel_cons (by repeat (first | exact pk1 | apply pick_tail)) (sel_cons (by repeat (first | exact pk1 | apply pick_tail)) (sel_nil _))) hT
          have hP7 : RkC p ⟨⟨-1, false, k1 + k2⟩, [], [⟨dx, gpx, gnx, xp, xp, false⟩, ⟨dy, gpy, gny, Z, Z, true⟩]⟩ P7 := by simpa [Rk.up, upW_none, Dk.settle] using hP7
          refine wpList_nil ?_
          refine then_k hK ?_; clear hK; clear K
          refine wp_seq_k ?_; intro K hK
          refine region_list ?_
          refine list_pure E rfl rfl (by decide) (rn_move E rfl rfl) ?_; clear E a; intro a E
          refine list_call E rfl rfl (by decide) rfl Try.func12 rfl (by kernel_rfl) rfl (rk_read p _ P7 hP7 ⟨dx, gpx, gnx, xp, xp, false⟩ (by simp) 0 8 (by omega) _ (S.hp.sel (sel_cons (by repeat (first | exact pk1 | apply pick_tail)) (sel_nil _)))) ?_
          rintro v123 w ⟨vx2, Cx2, rfl, hx2, hT⟩; clear E a; intro a E
          have S := S.call2 (sel_cons (by repeat (first | exact pk1 | apply pick_tail)) (sel_nil _)) hT
          have hr2 : rdS ⟨-1, false, k1 + k2⟩ false xp 0 8 = (0, xp) := rdS_all rfl (k := 8) (by omega)
          simp only [hr2] at hx2 E
          refine list_pure E rfl rfl (by decide) (rn_move E rfl rfl) ?_; clear E a; intro a E
          refine list_pure E rfl rfl (by decide) (rn_extract E rfl rfl rfl) ?_; clear E a; intro a E
          refine list_pure E rfl rfl (by decide) (rn_extract E rfl rfl rfl) ?_; clear E a; intro a E
          refine list_pure E rfl rfl (by decide) (rn_assign E rfl rfl) ?_; clear E a; intro a E
          refine list_pure E rfl rfl (by decide) (rn_assign E rfl rfl) ?_; clear E a; intro a E
          refine wpList_nil ?_
          refine then_k hK ?_; clear hK; clear K
          refine wp_seq_k ?_; intro K hK
          replace E := E.keep (e' := [(2, _), (3, _), (10, _), (11, _), (14, _), (16, _), (20, _), (24, _), (25, _), (26, _), (27, _)]) (keep_cons rfl (keep_cons rfl (keep_cons rfl (keep_cons rfl (keep_cons rfl (keep_cons rfl (keep_cons rfl (keep_cons rfl (keep_cons rfl (keep_cons rfl (keep_cons rfl (keep_nil))))))))))))
          refine region_list ?_
          refine list_pure E rfl rfl (by decide) (rn_move E rfl rfl) ?_; clear E a; intro a E
          refine list_call E rfl rfl (by decide) rfl Try.func12 rfl (by kernel_rfl) rfl (rk_read q _ Q2 hQ2 ⟨dz, gpz, gnz, Z, n3, false⟩ (by simp) 0 8 (by omega) _ (S.hp.sel (sel_cons (by repeat (first | exact pk1 | apply pick_tail)) (sel_nil _)))) ?_
          rintro v128 w ⟨vz3, Cz3, rfl, hz3, hT⟩; clear E a; intro a E
          have S := S.call2 (sel_cons (by repeat (first | exact pk1 | apply pick_tail)) (sel_nil _)) hT
          simp only [hr3] at hz3 E
          refine list_pure E rfl rfl (by decide) (rn_move E rfl rfl) ?_; clear E a; intro a E
          refine list_pure E rfl rfl (by decide) (rn_extract E rfl rfl rfl) ?_; clear E a; intro a E
          refine list_pure E rfl rfl (by decide) (rn_extract E rfl rfl rfl) ?_; clear E a; intro a E
          refine list_pure E rfl rfl (by decide) (rn_assign E rfl rfl) ?_; clear E a; intro a E
          refine list_pure E rfl rfl (by decide) (rn_assign E rfl rfl) ?_; clear E a; intro a E
          refine wpList_nil ?_
          refine then_k hK ?_; clear hK; clear K
          refine wp_seq_k ?_; intro K hK
          refine region_list ?_
          refine list_pure E rfl rfl (by decide) (rn_move E rfl rfl) ?_; clear E a; intro a E
          refine list_call E rfl rfl (by decide) rfl Try.func20 rfl (by kernel_rfl) rfl (rk_replace p _ P7 hP7 ⟨dy, gpy, gny, Z, Z, true⟩ (by simp) _ (S.hp.sel (sel_cons (by repeat (first | exact pk1 | apply pick_tail)) (sel_nil _)))) ?_
          rintro v132 w ⟨P8, hP8, hT⟩; clear E a; intro a E
          have S := S.call1 (sel_cons (by repeat (first | exact pk1 | apply pick_tail)) (sel_nil _)) hT
          have hZr : List.replicate 1024 (0 : UInt8) = Z := hZ.symm
          have hP8 : RkC p ⟨⟨-1, false, k1 + k2⟩, [], [⟨dx, gpx, gnx, xp, xp, false⟩, ⟨dy, gpy, gny, Z, Z, false⟩]⟩ P8 := by simpa [Rk.replace, setD, hxy, hZl, hZr, outW] using hP8
          refine wpList_nil ?_
          refine then_k hK ?_; clear hK; clear K
          refine wp_seq_k ?_; intro K hK
          refine region_list ?_
          refine list_pure E rfl rfl (by decide) (rn_move E rfl rfl) ?_; clear E a; intro a E
          refine list_call E rfl rfl (by decide) rfl Try.func12 rfl (by kernel_rfl) rfl (rk_read p _ P8 hP8 ⟨dy, gpy, gny, Z, Z, false⟩ (by simp) 0 8 (by omega) _ (S.hp.sel (sel_cons (by repeat (first | exact pk1 | apply pick_tail)) (sel_nil _)))) ?_
          rintro v135 w ⟨vy1, Cy1, rfl, hy1, hT⟩; clear E a; intro a E
          have S := S.call2 (sel_cons (by repeat (first | exact pk1 | apply pick_tail)) (sel_nil _)) hT
          have hr4 : rdS ⟨-1, false, k1 + k2⟩ false Z 0 8 = (0, Z) := rdS_all rfl (k := 8) (by omega)
          simp only [hr4] at hy1 E
          refine list_pure E rfl rfl (by decide) (rn_move E rfl rfl) ?_; clear E a; intro a E
          refine list_pure E rfl rfl (by decide) (rn_extract E rfl rfl rfl) ?_; clear E a; intro a E
          refine list_pure E rfl rfl (by decide) (rn_extract E rfl rfl rfl) ?_; clear E a; intro a E
          refine list_pure E rfl rfl (by decide) (rn_assign E rfl rfl) ?_; clear E a; intro a E
          refine list_pure E rfl rfl (by decide) (rn_assign E rfl rfl) ?_; clear E a; intro a E
          refine wpList_nil ?_
          refine then_k hK ?_; clear hK; clear K
          refine wp_seq_k ?_; intro K hK
          refine wp_seq_k ?_; intro K hK
          replace E := E.keep (e' := [(2, _), (3, _), (10, _), (11, _), (20, _), (24, _), (25, _), (26, _), (27, _), (28, _), (29, _), (30, _), (31, _)]) (keep_cons rfl (keep_cons rfl (keep_cons rfl (keep_cons rfl (keep_cons rfl (keep_cons rfl (keep_cons rfl (keep_cons rfl (keep_cons rfl (keep_cons rfl (keep_cons rfl (keep_cons rfl (keep_cons rfl (keep_nil))))))))))))))
          refine region_mix0 S (.ofL [(0, 0), (1, 0), (2, 0), (3, 0), (4, 0), (5, 0), (6, 0), (7, 0), (8, 0), (9, 0), (10, 0), (11, 0), (12, 0), (13, 0), (14, 0), (15, 0), (16, 0), (17, 0), (18, 0), (19, 0), (20, 0), (21, 0), (22, 0), (23, 0), (24, 1), (25, 1), (26, 0), (27, 0)]) (by kernel_rfl) (by kernel_rfl) ?_
          clear S; intro w S
          refine mix_pure E rfl rfl rfl (by decide) (fun w h => rn_move E rfl rfl) ?_; clear E a; intro a E
          refine mix_pure E rfl rfl rfl (by decide) (fun w h => by first | exact rn_neq E rfl rfl rfl | exact rn_neq_ptr_nil E rfl rfl rfl rfl | exact rn_neq_bool E rfl rfl rfl rfl | exact rn_neq_string E rfl rfl rfl) ?_; clear E a; intro a E
          refine mix_pure E rfl rfl rfl (by decide) (fun w h => rn_move E rfl rfl) ?_; clear E a; intro a E
          refine guard_false E (t := 140) rfl (rfl) (fun hb140 => ?_)
          refine mix_guard_yes E rfl rfl rfl rfl rfl hb140 rfl (by decide) (fun w h => rn_move E rfl rfl) ?_; clear E a; intro a E
          refine mix_guard_yes E rfl rfl rfl rfl rfl hb140 rfl (by decide) (fun w h => by first | exact rn_neq E rfl rfl rfl | exact rn_neq_ptr_nil E rfl rfl rfl rfl | exact rn_neq_bool E rfl rfl rfl rfl | exact rn_neq_string E rfl rfl rfl) ?_; clear E a; intro a E
          refine mix_pure E rfl rfl rfl (by decide) (fun w h => rn_pick_no' E rfl rfl hb140 rfl) ?_; clear E a; intro a E
          refine mix_pure E rfl rfl rfl (by decide) (fun w h => rn_move E rfl rfl) ?_; clear E a; intro a E
          refine guard_false E (t := 144) rfl (rfl) (fun hb144 => ?_)
          refine mix_guard_yes E rfl rfl rfl rfl rfl hb144 rfl (by decide) (fun w h => rn_move E rfl rfl) ?_; clear E a; intro a E
          refine mix_guard_yes E rfl rfl rfl rfl rfl hb144 rfl (by decide) (fun w h => by first | exact rn_neq E rfl rfl rfl | exact rn_neq_ptr_nil E rfl rfl rfl rfl | exact rn_neq_bool E rfl rfl rfl rfl | exact rn_neq_string E rfl rfl rfl) ?_; clear E a; intro a E
          refine mix_pure E rfl rfl rfl (by decide) (fun w h => rn_pick_no' E rfl rfl hb144 rfl) ?_; clear E a; intro a E
          refine mix_pure E rfl rfl rfl (by decide) (fun w h => rn_move E rfl rfl) ?_; clear E a; intro a E
          refine guard_false E (t := 148) rfl (rfl) (fun hb148 => ?_)
          refine mix_guard_yes E rfl rfl rfl rfl rfl hb148 rfl (by decide) (fun w h => rn_move E rfl rfl) ?_; clear E a; intro a E
          refine mix_guard_yes E rfl rfl rfl rfl rfl hb148 rfl (by decide) (fun w h => by first | exact rn_neq E rfl rfl rfl | exact rn_neq_ptr_nil E rfl rfl rfl rfl | exact rn_neq_bool E rfl rfl rfl rfl | exact rn_neq_string E rfl rfl rfl) ?_; clear E a; intro a E
          refine mix_pure E rfl rfl rfl (by decide) (fun w h => rn_pick_no' E rfl rfl hb148 rfl) ?_; clear E a; intro a E
          refine mix_pure E rfl rfl rfl (by decide) (fun w h => rn_move E rfl rfl) ?_; clear E a; intro a E
          refine guard_false E (t := 152) rfl (rfl) (fun hb152 => ?_)
          refine mix_guard_yes E rfl rfl rfl rfl rfl hb152 rfl (by decide) (fun w h => rn_move E rfl rfl) ?_; clear E a; intro a E
          refine mix_guard_yes E rfl rfl rfl rfl rfl hb152 rfl (by decide) (fun w h => rn_string E rfl rfl rfl rfl rfl hz2.rd (h.at (by repeat (first | exact mm1 | assumption | apply List.Mem.tail)))) ?_; clear E a; intro a E
          refine mix_guard_yes E rfl rfl rfl rfl rfl hb152 rfl (by decide) (fun w h => rn_move E rfl rfl) ?_; clear E a; intro a E
          refine mix_guard_yes E rfl rfl rfl rfl rfl hb152 rfl (by decide) (fun w h => rn_string E rfl rfl rfl rfl rfl hz3.rd (h.at (by repeat (first | exact mm1 | assumption | apply List.Mem.tail)))) ?_; clear E a; intro a E
          refine mix_guard_yes E rfl rfl rfl rfl rfl hb152 rfl (by decide) (fun w h => by first | exact rn_neq E rfl rfl rfl | exact rn_neq_ptr_nil E rfl rfl rfl rfl | exact rn_neq_bool E rfl rfl rfl rfl | exact rn_neq_string E rfl rfl rfl) ?_; clear E a; intro a E
          refine mix_pure E rfl rfl rfl (by decide) (fun w h => rn_pick_no' E rfl rfl hb152 rfl) ?_; clear E a; intro a E
          refine mix_pure E rfl rfl rfl (by decide) (fun w h => rn_move E rfl rfl) ?_; clear E a; intro a E
          refine guard_false E (t := 159) rfl ((by simp)) (fun hb159 => ?_)
          refine mix_guard_yes E rfl rfl rfl rfl rfl hb159 rfl (by decide) (fun w h => rn_move E rfl rfl) ?_; clear E a; intro a E
          refine mix_guard_yes E rfl rfl rfl rfl rfl hb159 rfl (by decide) (fun w h => rn_string E rfl rfl rfl rfl rfl hy1.rd (h.at (by repeat (first | exact mm1 | assumption | apply List.Mem.tail)))) ?_; clear E a; intro a E
          refine mix_guard_act E rfl rfl rfl rfl rfl hb159 (wp_make1 (by' := 1) E S rfl rfl (by decide) rfl rfl rfl rfl rfl rfl rfl rfl rfl rfl rfl (by decide) (by decide) ?_); clear E S a; intro a w g162 E S; refine ⟨S.stab.sub (by first | (simp; done) | (simp +contextual; done)), ?_⟩
          try rw [show List.replicate 1024 (Value.int .u8 0) = byt Z by rw [← hZr, byt_rep]] at S
          refine mix_guard_act E rfl rfl rfl rfl rfl hb159 (wp_take E (rn_string E rfl rfl rfl rfl rfl (show Rd [(g162, cel (byt Z) 5)] 1 (.slice (some ⟨g162, 0, none⟩) 1024 1024) Z.length (byt Z) from by rw [hZl]; exact rd_cells (by rw [byt_length]; omega) (byt_one Z) (by omega) 1024) (S.stab.at (by repeat (first | exact mm1 | assumption | apply List.Mem.tail)))) rfl (by decide) ?_); clear E a; intro a E; refine ⟨S.stab.sub (by first | (simp; done) | (simp +contextual; done)), ?_⟩
          refine mix_guard_yes E rfl rfl rfl rfl rfl hb159 rfl (by decide) (fun w h => by first | exact rn_neq E rfl rfl rfl | exact rn_neq_ptr_nil E rfl rfl rfl rfl | exact rn_neq_bool E rfl rfl rfl rfl | exact rn_neq_string E rfl rfl rfl) ?_; clear E a; intro a E
          refine mix_pure E rfl rfl rfl (by decide) (fun w h => rn_pick_no' E rfl rfl hb159 rfl) ?_; clear E a; intro a E
          refine mix_nil ?_
          refine then_k hK ?_; clear hK; clear K
          refine if_false' E rfl ((by simp)) ?_
          refine wp_skip ?_
          refine then_k hK ?_; clear hK; clear K
          refine wp_seq_k ?_; intro K hK
          refine wp_seq_k ?_; intro K hK
          replace E := E.keep (e' := [(2, _), (3, _), (10, _), (11, _), (24, _), (26, _)]) (keep_cons rfl (keep_cons rfl (keep_cons rfl (keep_cons rfl (keep_cons rfl (keep_cons rfl (keep_nil)))))))
          refine region_mix0 S (.ofL [(0, 0), (1, 0), (2, 0), (3, 0), (4, 0), (5, 0), (6, 0), (7, 0), (8, 0), (9, 0), (10, 0), (11, 0), (12, 0), (13, 0), (14, 1), (15, 1), (16, 0), (17, 0), (18, 0)]) (by kernel_rfl) (by kernel_rfl) ?_
          clear S; intro w S
          refine mix_pure E rfl rfl rfl (by decide) (fun w h => rn_move E rfl rfl) ?_; clear E a; intro a E
          refine mix_pure E rfl rfl rfl (by decide) (fun w h => rn_move E rfl rfl) ?_; clear E a; intro a E
          refine guard_split E (t := 167) rfl (fun hb167 => ?_) (fun hb167 => ?_)
          · have hb167n := hb167; replace hb167n := Nrm.nrm hb167n
            refine mix_guard_yes E rfl rfl rfl rfl rfl hb167 rfl (by decide) (fun w h => rn_move E rfl rfl) ?_; clear E a; intro a E
            refine mix_guard_yes E rfl rfl rfl rfl rfl hb167 rfl (by decide) (fun w h => rn_string E rfl rfl rfl rfl rfl hx1.rd (h.at (by repeat (first | exact mm1 | assumption | apply List.Mem.tail)))) ?_; clear E a; intro a E
            refine mix_guard_yes E rfl rfl rfl rfl rfl hb167 rfl (by decide) (fun w h => rn_move E rfl rfl) ?_; clear E a; intro a E
            refine mix_guard_yes E rfl rfl rfl rfl rfl hb167 rfl (by decide) (fun w h => rn_string E rfl rfl rfl rfl rfl hx2.rd (h.at (by repeat (first | exact mm1 | assumption | apply List.Mem.tail)))) ?_; clear E a; intro a E
            refine mix_guard_yes E rfl rfl rfl rfl rfl hb167 rfl (by decide) (fun w h => by first | exact rn_neq E rfl rfl rfl | exact rn_neq_ptr_nil E rfl rfl rfl rfl | exact rn_neq_bool E rfl rfl rfl rfl | exact rn_neq_string E rfl rfl rfl) ?_; clear E a; intro a E
            refine mix_pure E rfl rfl rfl (by decide) (fun w h => rn_pick_yes' E rfl rfl hb167 rfl) ?_; clear E a; intro a E
            refine mix_pure E rfl rfl rfl (by decide) (fun w h => rn_move E rfl rfl) ?_; clear E a; intro a E
            refine guard_false E (t := 174) rfl ((by rw [(hf1 hb167).1]; simp)) (fun hb174 => ?_)
            refine mix_guard_yes E rfl rfl rfl rfl rfl hb174 rfl (by decide) (fun w h => rn_move E rfl rfl) ?_; clear E a; intro a E
            refine mix_guard_yes E rfl rfl rfl rfl rfl hb174 rfl (by decide) (fun w h => rn_not E rfl rfl) ?_; clear E a; intro a E
            refine mix_guard_yes E rfl rfl rfl rfl rfl hb174 rfl (by decide) (fun w h => rn_move E rfl rfl) ?_; clear E a; intro a E
            refine guard_false E (t := 177) rfl ((by simp [hb167])) (fun hb177 => ?_)
            refine mix_guard_no E rfl rfl rfl rfl rfl hb177 rfl (by decide) ?_; clear E a; intro a E
            refine mix_guard_no E rfl rfl rfl rfl rfl hb177 rfl (by decide) ?_; clear E a; intro a E
            refine mix_guard_no_act E rfl rfl rfl rfl rfl hb177 rfl (by decide) S.stab ?_; clear E a; intro a E
            try rw [show List.replicate 1024 (Value.int .u8 0) = byt Z by rw [← hZr, byt_rep]] at S
            refine mix_guard_no_act E rfl rfl rfl rfl rfl hb177 rfl (by decide) S.stab ?_; clear E a; intro a E
            refine mix_guard_no E rfl rfl rfl rfl rfl hb177 rfl (by decide) ?_; clear E a; intro a E
            refine mix_guard_yes E rfl rfl rfl rfl rfl hb174 rfl (by decide) (fun w h => rn_pick_no' E rfl rfl hb177 rfl) ?_; clear E a; intro a E
            refine mix_pure E rfl rfl rfl (by decide) (fun w h => rn_pick_no' E rfl rfl hb174 rfl) ?_; clear E a; intro a E
            refine mix_nil ?_
            refine then_k hK ?_; clear hK; clear K
            refine if_false' E rfl rfl ?_
            refine wp_skip ?_
            refine then_k hK ?_; clear hK; clear K
            refine wp_seq_k ?_; intro K hK
            replace E := E.keep (e' := [(3, _), (10, _), (11, _)]) (keep_cons rfl (keep_cons rfl (keep_cons rfl (keep_nil))))
            refine region_list ?_
            refine list_pure E rfl rfl (by decide) (rn_move E rfl rfl) ?_; clear E a; intro a E
            refine list_pure E rfl rfl (by decide) (rn_move E rfl rfl) ?_; clear E a; intro a E
            refine list_call E rfl rfl (by decide) rfl Try.func14 rfl (by kernel_rfl) rfl (rk_up p _ P8 hP8 _ st O hst _ (S.hp.sel (sel_cons (by repeat (first | exact pk1 | apply pick_tail)) (sel_cons (by repeat (first | exact pk1 | apply pick_tail)) (sel_nil _))))) ?_
            rintro v187 w ⟨P9, hP9, hT⟩; clear E a; intro a E
            have S := S.call2 (sel_cons (by repeat (first | exact pk1 | apply pick_tail)) (sel_cons (by repeat (first | exact pk1 | apply pick_tail)) (sel_nil _))) hT
            refine wpList_nil ?_
            refine then_k hK ?_; clear hK; clear K
            refine wp_seq_k ?_; intro K hK
            refine region_list ?_
            refine list_pure E rfl rfl (by decide) (rn_move E rfl rfl) ?_; clear E a; intro a E
            refine list_call E rfl rfl (by decide) rfl Try.func15 rfl (by kernel_rfl) rfl (rk_on q _ Q2 hQ2 _ (S.hp.sel (sel_cons (by repeat (first | exact pk1 | apply pick_tail)) (sel_nil _)))) ?_
            rintro v189 w ⟨rfl, hT⟩; clear E a; intro a E
            have S := S.call1 (sel_cons (by repeat (first | exact pk1 | apply pick_tail)) (sel_nil _)) hT
            refine list_pure E rfl rfl (by decide) (rn_move E rfl rfl) ?_; clear E a; intro a E
            refine guard_true E (t := 190) rfl (rfl) (fun hb190 => ?_)
            refine list_guard_yes E rfl rfl rfl rfl hb190 rfl (by decide) (rn_move E rfl rfl) ?_; clear E a; intro a E
            refine list_guard_wp E rfl rfl rfl rfl hb190 ?_; refine wp_call' E rfl (by decide) rfl Try.func13 rfl (by kernel_rfl) rfl (rk_waiting p _ P9 hP9 _ (S.hp.sel (sel_cons (by repeat (first | exact pk1 | apply pick_tail)) (sel_nil _)))) ?_
            rintro v192 w ⟨rfl, hT⟩; clear E a; intro a E
            have S := S.call1 (sel_cons (by repeat (first | exact pk1 | apply pick_tail)) (sel_nil _)) hT
            refine list_guard_yes E rfl rfl rfl rfl hb190 rfl (by decide) (by first | exact rn_eql E rfl rfl rfl | exact rn_eql_ptr_nil E rfl rfl rfl rfl | exact rn_eql_bool E rfl rfl rfl rfl | exact rn_eql_string E rfl rfl rfl) ?_; clear E a; intro a E
            refine list_pure E rfl rfl (by decide) (rn_pick_yes' E rfl rfl hb190 rfl) ?_; clear E a; intro a E
            refine list_pure E rfl rfl (by decide) (rn_assign E rfl rfl) ?_; clear E a; intro a E
            refine wpList_nil ?_
            refine then_k hK ?_; clear hK; clear K
            refine wp_ret ?_
            refine ret1 E rfl rfl ?_
            exact ⟨_, rfl, rfl, (S.only (Bs := [O]) (sel_cons (by repeat (first | exact pk1 | apply pick_tail)) (sel_nil _))).tr⟩
          · have hb167n := hb167; replace hb167n := Nrm.nrm hb167n
            refine mix_guard_no E rfl rfl rfl rfl rfl hb167 rfl (by decide) ?_; clear E a; intro a E
            refine mix_guard_no E rfl rfl rfl rfl rfl hb167 rfl (by decide) ?_; clear E a; intro a E
            refine mix_guard_no E rfl rfl rfl rfl rfl hb167 rfl (by decide) ?_; clear E a; intro a E
            refine mix_guard_no E rfl rfl rfl rfl rfl hb167 rfl (by decide) ?_; clear E a; intro a E
            refine mix_guard_no E rfl rfl rfl rfl rfl hb167 rfl (by decide) ?_; clear E a; intro a E
            refine mix_pure E rfl rfl rfl (by decide) (fun w h => rn_pick_no' E rfl rfl hb167 rfl) ?_; clear E a; intro a E
            refine mix_pure E rfl rfl rfl (by decide) (fun w h => rn_move E rfl rfl) ?_; clear E a; intro a E
            refine mix_guard_yes E rfl rfl rfl rfl rfl rfl rfl (by decide) (fun w h => rn_move E rfl rfl) ?_; clear E a; intro a E
            refine mix_guard_yes E rfl rfl rfl rfl rfl rfl rfl (by decide) (fun w h => rn_not E rfl rfl) ?_; clear E a; intro a E
            refine mix_guard_yes E rfl rfl rfl rfl rfl rfl rfl (by decide) (fun w h => rn_move E rfl rfl) ?_; clear E a; intro a E
            refine guard_true E (t := 177) rfl ((by simp [hb167])) (fun hb177 => ?_)
            refine mix_guard_yes E rfl rfl rfl rfl rfl hb177 rfl (by decide) (fun w h => rn_move E rfl rfl) ?_; clear E a; intro a E
            refine mix_guard_yes E rfl rfl rfl rfl rfl hb177 rfl (by decide) (fun w h => rn_string E rfl rfl rfl rfl rfl hx2.rd (h.at (by repeat (first | exact mm1 | assumption | apply List.Mem.tail)))) ?_; clear E a; intro a E
            refine mix_guard_act E rfl rfl rfl rfl rfl hb177 (wp_make1 (by' := 1) E S rfl rfl (by decide) rfl rfl rfl rfl rfl rfl rfl rfl rfl rfl rfl (by decide) (by decide) ?_); clear E S a; intro a w g180 E S; refine ⟨S.stab.sub (by first | (simp; done) | (simp +contextual; done)), ?_⟩
            try rw [show List.replicate 1024 (Value.int .u8 0) = byt Z by rw [← hZr, byt_rep]] at S
            refine mix_guard_act E rfl rfl rfl rfl rfl hb177 (wp_take E (rn_string E rfl rfl rfl rfl rfl (show Rd [(g180, cel (byt Z) 5)] 1 (.slice (some ⟨g180, 0, none⟩) 1024 1024) Z.length (byt Z) from by rw [hZl]; exact rd_cells (by rw [byt_length]; omega) (byt_one Z) (by omega) 1024) (S.stab.at (by repeat (first | exact mm1 | assumption | apply List.Mem.tail)))) rfl (by decide) ?_); clear E a; intro a E; refine ⟨S.stab.sub (by first | (simp; done) | (simp +contextual; done)), ?_⟩
            refine mix_guard_yes E rfl rfl rfl rfl rfl hb177 rfl (by decide) (fun w h => by first | exact rn_neq E rfl rfl rfl | exact rn_neq_ptr_nil E rfl rfl rfl rfl | exact rn_neq_bool E rfl rfl rfl rfl | exact rn_neq_string E rfl rfl rfl) ?_; clear E a; intro a E
            refine mix_guard_yes E rfl rfl rfl rfl rfl rfl rfl (by decide) (fun w h => rn_pick_yes' E rfl rfl hb177 rfl) ?_; clear E a; intro a E
            refine mix_pure E rfl rfl rfl (by decide) (fun w h => rn_pick_no' E rfl rfl rfl rfl) ?_; clear E a; intro a E
            refine mix_nil ?_
            refine then_k hK ?_; clear hK; clear K
            refine if_false' E rfl ((by rw [(hf2 hb167).1]; simp)) ?_
            refine wp_skip ?_
            refine then_k hK ?_; clear hK; clear K
            refine wp_seq_k ?_; intro K hK
            replace E := E.keep (e' := [(3, _), (10, _), (11, _)]) (keep_cons rfl (keep_cons rfl (keep_cons rfl (keep_nil))))
            refine region_list ?_
            refine list_pure E rfl rfl (by decide) (rn_move E rfl rfl) ?_; clear E a; intro a E
            refine list_pure E rfl rfl (by decide) (rn_move E rfl rfl) ?_; clear E a; intro a E
            refine list_call E rfl rfl (by decide) rfl Try.func14 rfl (by kernel_rfl) rfl (rk_up p _ P8 hP8 _ st O hst _ (S.hp.sel (sel_cons (by repeat (first | exact pk1 | apply pick_tail)) (sel_cons (by repeat (first | exact pk1 | apply pick_tail)) (sel_nil _))))) ?_
            rintro v187 w ⟨P9, hP9, hT⟩; clear E a; intro a E
            have S := S.call2 (sel_cons (by repeat (first | exact pk1 | apply pick_tail)) (sel_cons (by repeat (first | exact pk1 | apply pick_tail)) (sel_nil _))) hT
            refine wpList_nil ?_
            refine then_k hK ?_; clear hK; clear K
            refine wp_seq_k ?_; intro K hK
            refine region_list ?_
            refine list_pure E rfl rfl (by decide) (rn_move E rfl rfl) ?_; clear E a; intro a E
            refine list_call E rfl rfl (by decide) rfl Try.func15 rfl (by kernel_rfl) rfl (rk_on q _ Q2 hQ2 _ (S.hp.sel (sel_cons (by repeat (first | exact pk1 | apply pick_tail)) (sel_nil _)))) ?_
            rintro v189 w ⟨rfl, hT⟩; clear E a; intro a E
            have S := S.call1 (sel_cons (by repeat (first | exact pk1 | apply pick_tail)) (sel_nil _)) hT
            refine list_pure E rfl rfl (by decide) (rn_move E rfl rfl) ?_; clear E a; intro a E
            refine guard_true E (t := 190) rfl (rfl) (fun hb190 => ?_)
            refine list_guard_yes E rfl rfl rfl rfl hb190 rfl (by decide) (rn_move E rfl rfl) ?_; clear E a; intro a E
            refine list_guard_wp E rfl rfl rfl rfl hb190 ?_; refine wp_call' E rfl (by decide) rfl Try.func13 rfl (by kernel_rfl) rfl (rk_waiting p _ P9 hP9 _ (S.hp.sel (sel_cons (by repeat (first | exact pk1 | apply pick_tail)) (sel_nil _)))) ?_
            rintro v192 w ⟨rfl, hT⟩; clear E a; intro a E
            have S := S.call1 (sel_cons (by repeat (first | exact pk1 | apply pick_tail)) (sel_nil _)) hT
            refine list_guard_yes E rfl rfl rfl rfl hb190 rfl (by decide) (by first | exact rn_eql E rfl rfl rfl | exact rn_eql_ptr_nil E rfl rfl rfl rfl | exact rn_eql_bool E rfl rfl rfl rfl | exact rn_eql_string E rfl rfl rfl) ?_; clear E a; intro a E
            refine list_pure E rfl rfl (by decide) (rn_pick_yes' E rfl rfl hb190 rfl) ?_; clear E a; intro a E
            refine list_pure E rfl rfl (by decide) (rn_assign E rfl rfl) ?_; clear E a; intro a E
            refine wpList_nil ?_
            refine then_k hK ?_; clear hK; clear K
            refine wp_ret ?_
            refine ret1 E rfl rfl ?_
            exact ⟨_, rfl, rfl, (S.only (Bs := [O]) (sel_cons (by repeat (first | exact pk1 | apply pick_tail)) (sel_nil _))).tr⟩
    · have hb89n := hb89; replace hb89n := Nrm.nrm hb89n
      refine list_guard_yes E rfl rfl rfl rfl hb89 rfl (by decide) (rn_move E rfl rfl) ?_; clear E a; intro a E
      refine list_pure E rfl rfl (by decide) (rn_pick_no' E rfl rfl hb89 rfl) ?_; clear E a; intro a E
      refine wpList_nil ?_
      refine then_k hK ?_; clear hK; clear K
      refine wp_join (fun (a : Act) (w' : World) => ∃ lf : Nat, lf = xa.length / 128 ∧ St w0 [O] w' [P6, Cz2, Q2, O] ∧ Fr a 195 [(0, .slice ada xa.length ca), (2, .bool fl), (3, .slice ads st.length cs), (10, ptr p), (11, ptr q), (12, ptr dx), (14, ptr dy), (16, ptr dz), (18, .int .i64 e1), (19, .int .i64 ws.length), (20, vz2), (22, .int .i64 lf)]) ?_ ?_
      · skip
        refine if_bool E rfl (fun hb => ?_) (fun hb => ?_)
        · replace hb := Nrm.nrm hb
          have h9 : (if fl = true then [] else t1).length ≤ 8 := by
            by_cases hq : fl = true
            · rw [if_pos hq]; simp
            · rw [if_neg hq]; omega
          refine region_list ?_
          refine list_pure E rfl rfl (by decide) (rn_move E rfl rfl) ?_; clear E a; intro a E
          refine list_pure E rfl rfl (by decide) (rn_move E rfl rfl) ?_; clear E a; intro a E
          refine list_pure E rfl rfl (by decide) (by first | exact rn_len E rfl rfl rfl | exact rn_len_str E rfl rfl rfl | exact rn_len_string E rfl rfl rfl) ?_; clear E a; intro a E
          refine list_pure E rfl rfl (by decide) (rn_quo E rfl rfl rfl (by decide) (by first | exact wq_lit (y := 128) (by omega) | exact wq_litu (y := 128) (by omega) | exact rfl)) ?_; clear E a; intro a E
          refine list_pure E rfl rfl (by decide) (rn_add E rfl rfl rfl (by first | exact wa1 (by omega) | exact w_in (by omega) | exact w_inu (by omega) | exact rfl)) ?_; clear E a; intro a E
          refine list_pure E rfl rfl (by decide) (rn_assign E rfl rfl) ?_; clear E a; intro a E
          refine wpList_nil ?_
          refine joined_here ?_
          have hfl : fl = true := by simpa using hb
          exact ⟨_, by rw [if_pos hfl]; simp, S.front4 (A := P6) (by repeat (first | exact pk1 | apply pick_tail)) (B := Cz2) (by repeat (first | exact pk1 | apply pick_tail)) (C := Q2) (by repeat (first | exact pk1 | apply pick_tail)) (D := O) (by repeat (first | exact pk1 | apply pick_tail)), E.keep (keep_cons rfl (keep_cons rfl (keep_cons rfl (keep_cons rfl (keep_cons rfl (keep_cons rfl (keep_cons rfl (keep_cons rfl (keep_cons rfl (keep_cons rfl (keep_cons rfl (keep_cons rfl keep_nil))))))))))))⟩
        · replace hb := Nrm.nrm hb
          refine wp_skip ?_
          refine joined_here ?_
          have hfl : ¬ fl = true := by simpa using hb
          exact ⟨_, by rw [if_neg hfl]; omega, S.front4 (A := P6) (by repeat (first | exact pk1 | apply pick_tail)) (B := Cz2) (by repeat (first | exact pk1 | apply pick_tail)) (C := Q2) (by repeat (first | exact pk1 | apply pick_tail)) (D := O) (by repeat (first | exact pk1 | apply pick_tail)), E.keep (keep_cons rfl (keep_cons rfl (keep_cons rfl (keep_cons rfl (keep_cons rfl (keep_cons rfl (keep_cons rfl (keep_cons rfl (keep_cons rfl (keep_cons rfl (keep_cons rfl (keep_cons rfl keep_nil))))))))))))⟩
      · clear S E a; intro a w J; obtain ⟨lf, hlfe, S, E⟩ := J
        refine then_k hK ?_; clear hK; clear K
        refine wp_seq_k ?_; intro K hK
        refine region_list ?_
        refine list_pure E rfl rfl (by decide) (rn_move E rfl rfl) ?_; clear E a; intro a E
        refine list_pure E rfl rfl (by decide) (by first | exact rn_len E rfl rfl rfl | exact rn_len_str E rfl rfl rfl | exact rn_len_string E rfl rfl rfl) ?_; clear E a; intro a E
        refine list_pure E rfl rfl (by decide) (rn_quo E rfl rfl rfl (by decide) (by first | exact wq_lit (y := 128) (by omega) | exact wq_litu (y := 128) (by omega) | exact rfl)) ?_; clear E a; intro a E
        refine list_pure E rfl rfl (by decide) (rn_assign E rfl rfl) ?_; clear E a; intro a E
        refine wpList_nil ?_
        refine then_k hK ?_; clear hK; clear K
        refine wp_seq_k ?_; intro K hK
        refine wp_seq_k ?_; intro K hK
        refine region_list ?_
        refine list_pure E rfl rfl (by decide) (rn_move E rfl rfl) ?_; clear E a; intro a E
        refine list_pure E rfl rfl (by decide) (by first | exact rn_eql E rfl rfl rfl | exact rn_eql_ptr_nil E rfl rfl rfl rfl | exact rn_eql_bool E rfl rfl rfl rfl | exact rn_eql_string E rfl rfl rfl) ?_; clear E a; intro a E
        refine list_pure E rfl rfl (by decide) (rn_move E rfl rfl) ?_; clear E a; intro a E
        refine guard_split E (t := 102) rfl (fun hb102 => ?_) (fun hb102 => ?_)
        · have hb102n := hb102; replace hb102n := Nrm.nrm hb102n
          refine list_guard_yes E rfl rfl rfl rfl hb102 rfl (by decide) (rn_move E rfl rfl) ?_; clear E a; intro a E
          refine list_guard_yes E rfl rfl rfl rfl hb102 rfl (by decide) (rn_move E rfl rfl) ?_; clear E a; intro a E
          refine list_guard_yes E rfl rfl rfl rfl hb102 rfl (by decide) (by first | exact rn_neq E rfl rfl rfl | exact rn_neq_ptr_nil E rfl rfl rfl rfl | exact rn_neq_bool E rfl rfl rfl rfl | exact rn_neq_string E rfl rfl rfl) ?_; clear E a; intro a E
          refine list_pure E rfl rfl (by decide) (rn_pick_yes' E rfl rfl hb102 rfl) ?_; clear E a; intro a E
          refine list_pure E rfl rfl (by decide) (rn_move E rfl rfl) ?_; clear E a; intro a E
          refine guard_false E (t := 107) rfl ((by subst hlfe; simp)) (fun hb107 => ?_)
          refine list_guard_yes E rfl rfl rfl rfl hb107 rfl (by decide) (rn_move E rfl rfl) ?_; clear E a; intro a E
          refine list_guard_yes E rfl rfl rfl rfl hb107 rfl (by decide) (rn_move E rfl rfl) ?_; clear E a; intro a E
          refine list_guard_yes E rfl rfl rfl rfl hb107 rfl (by decide) (rn_move E rfl rfl) ?_; clear E a; intro a E
          refine list_guard_yes E rfl rfl rfl rfl hb107 rfl (by decide) (rn_sub E rfl rfl rfl (by first | exact ws1 (by omega) (by omega) | exact w_in (by omega) | exact w_inu (by omega) | exact rfl)) ?_; clear E a; intro a E
          refine list_guard_yes E rfl rfl rfl rfl hb107 rfl (by decide) (rn_lss E rfl rfl rfl) ?_; clear E a; intro a E
          refine list_pure E rfl rfl (by decide) (rn_pick_no' E rfl rfl hb107 rfl) ?_; clear E a; intro a E
          refine wpList_nil ?_
          refine then_k hK ?_; clear hK; clear K
          refine if_false' E rfl ((by subst hlfe; simp)) ?_
          refine wp_skip ?_
          refine then_k hK ?_; clear hK; clear K
          refine wp_seq_k ?_; intro K hK
          replace E := E.keep (e' := [(2, _), (3, _), (10, _), (11, _), (12, _), (14, _), (16, _), (20, _)]) (keep_cons rfl (keep_cons rfl (keep_cons rfl (keep_cons rfl (keep_cons rfl (keep_cons rfl (keep_cons rfl (keep_cons rfl (keep_nil)))))))))
          refine region_list ?_
          refine list_pure E rfl rfl (by decide) (rn_move E rfl rfl) ?_; clear E a; intro a E
          refine list_call E rfl rfl (by decide) rfl Try.func12 rfl (by kernel_rfl) rfl (rk_read p _ P6 hP6 ⟨dx, gpx, gnx, xp, n1, false⟩ (by simp) 0 8 (by omega) _ (S.hp.sel (sel_cons (by repeat (first | exact pk1 | apply pick_tail)) (sel_nil _)))) ?_
          rintro v116 w ⟨vx1, Cx1, rfl, hx1, hT⟩; clear E a; intro a E
          have S := (S.call2 (sel_cons (by repeat (first | exact pk1 | apply pick_tail)) (sel_nil _)) hT).addNil
          have hr1 : rdS ⟨-1, false, k1 + k2⟩ false n1 0 8 = (0, n1) := rdS_all rfl (k := 8) (by omega)
          simp only [hr1] at hx1 E
          refine list_pure E rfl rfl (by decide) (rn_move E rfl rfl) ?_; clear E a; intro a E
          refine list_pure E rfl rfl (by decide) (rn_extract E rfl rfl rfl) ?_; clear E a; intro a E
          refine list_pure E rfl rfl (by decide) (rn_extract E rfl rfl rfl) ?_; clear E a; intro a E
          refine list_pure E rfl rfl (by decide) (rn_assign E rfl rfl) ?_; clear E a; intro a E
          refine list_pure E rfl rfl (by decide) (rn_assign E rfl rfl) ?_; clear E a; intro a E
          refine wpList_nil ?_
          refine then_k hK ?_; clear hK; clear K
          refine wp_seq_k ?_; intro K hK
          refine region_list ?_
          refine list_pure E rfl rfl (by decide) (rn_move E rfl rfl) ?_; clear E a; intro a E
          refine list_call E rfl rfl (by decide) rfl Try.func14 rfl (by kernel_rfl) rfl (rk_up p _ P6 hP6 (.slice none 0 0) [] [] (Rd.nil [] 1) _ (S.hp.sel (sel_cons (by repeat (first | exact pk1 | apply pick_tail)) (sel_cons (by repeat (first | exact pk1 | apply pick_tail)) (sel_nil _))))) ?_
          rintro v120 w ⟨P7, hP7, hT⟩; clear E a; intro a E
          have S := S.call2 (sel_cons (by repeat (first | exact pk1 | apply pick_tail)) (sel_cons (by repeat (first | exact pk1 | apply pick_tail)) (sel_nil _))) hT
          have hP7 : RkC p ⟨⟨-1, false, k1 + k2⟩, [], [⟨dx, gpx, gnx, xp, xp, false⟩, ⟨dy, gpy, gny, Z, Z, true⟩]⟩ P7 := by simpa [Rk.up, upW_none, Dk.settle] using hP7
          refine wpList_nil ?_
          refine then_k hK ?_; clear hK; clear K
          refine wp_seq_k ?_; intro K hK
          refine region_list ?_
          refine list_pure E rfl rfl (by decide) (rn_move E rfl rfl) ?_; clear E a; intro a E
          refine list_call E rfl rfl (by decide) rfl Try.func12 rfl (by kernel_rfl) rfl (rk_read p _ P7 hP7 ⟨dx, gpx, gnx, xp, xp, false⟩ (by simp) 0 8 (by omega) _ (S.hp.sel (sel_cons (by repeat (first | exact pk1 | apply pick_tail)) (sel_nil _)))) ?_
          rintro v123 w ⟨vx2, Cx2, rfl, hx2, hT⟩; clear E a; intro a E
          have S := S.call2 (sel_cons (by repeat (first | exact pk1 | apply pick_tail)) (sel_nil _)) hT
          have hr2 : rdS ⟨-1, false, k1 + k2⟩ false xp 0 8 = (0, xp) := rdS_all rfl (k := 8) (by omega)
          simp only [hr2] at hx2 E
          refine list_pure E rfl rfl (by decide) (rn_move E rfl rfl) ?_; clear E a; intro a E
          refine list_pure E rfl rfl (by decide) (rn_extract E rfl rfl rfl) ?_; clear E a; intro a E
          refine list_pure E rfl rfl (by decide) (rn_extract E rfl rfl rfl) ?_; clear E a; intro a E
          refine list_pure E rfl rfl (by decide) (rn_assign E rfl rfl) ?_; clear E a; intro a E
          refine list_pure E rfl rfl (by decide) (rn_assign E rfl rfl) ?_; clear E a; intro a E
          refine wpList_nil ?_
          refine then_k hK ?_; clear hK; clear K
          refine wp_seq_k ?_; intro K hK
          replace E := E.keep (e' := [(2, _), (3, _), (10, _), (11, _), (14, _), (16, _), (20, _), (24, _), (25, _), (26, _), (27, _)]) (keep_cons rfl (keep_cons rfl (keep_cons rfl (keep_cons rfl (keep_cons rfl (keep_cons rfl (keep_cons rfl (keep_cons rfl (keep_cons rfl (keep_cons rfl (keep_cons rfl (keep_nil))))))))))))
          refine region_list ?_
          refine list_pure E rfl rfl (by decide) (rn_move E rfl rfl) ?_; clear E a; intro a E
          refine list_call E rfl rfl (by decide) rfl Try.func12 rfl (by kernel_rfl) rfl (rk_read q _ Q2 hQ2 ⟨dz, gpz, gnz, Z, n3, false⟩ (by simp) 0 8 (by omega) _ (S.hp.sel (sel_cons (by repeat (first | exact pk1 | apply pick_tail)) (sel_nil _)))) ?_
          rintro v128 w ⟨vz3, Cz3, rfl, hz3, hT⟩; clear E a; intro a E
          have S := S.call2 (sel_cons (by repeat (first | exact pk1 | apply pick_tail)) (sel_nil _)) hT
          simp only [hr3] at hz3 E
          refine list_pure E rfl rfl (by decide) (rn_move E rfl rfl) ?_; clear E a; intro a E
          refine list_pure E rfl rfl (by decide) (rn_extract E rfl rfl rfl) ?_; clear E a; intro a E
          refine list_pure E rfl rfl (by decide) (rn_extract E rfl rfl rfl) ?_; clear E a; intro a E
          refine list_pure E rfl rfl (by decide) (rn_assign E rfl rfl) ?_; clear E a; intro a E
          refine list_pure E rfl rfl (by decide) (rn_assign E rfl rfl) ?_; clear E a; intro a E
          refine wpList_nil ?_
          refine then_k hK ?_; clear hK; clear K
          refine wp_seq_k ?_; intro K hK
          refine region_list ?_
          refine list_pure E rfl rfl (by decide) (rn_move E rfl rfl) ?_; clear E a; intro a E
          refine list_call E rfl rfl (by decide) rfl Try.func20 rfl (by kernel_rfl) rfl (rk_replace p _ P7 hP7 ⟨dy, gpy, gny, Z, Z, true⟩ (by simp) _ (S.hp.sel (sel_cons (by repeat (first | exact pk1 | apply pick_tail)) (sel_nil _)))) ?_
          rintro v132 w ⟨P8, hP8, hT⟩; clear E a; intro a E
          have S := S.call1 (sel_cons (by repeat (first | exact pk1 | apply pick_tail)) (sel_nil _)) hT
          have hZr : List.replicate 1024 (0 : UInt8) = Z := hZ.symm
          have hP8 : RkC p ⟨⟨-1, false, k1 + k2⟩, [], [⟨dx, gpx, gnx, xp, xp, false⟩, ⟨dy, gpy, gny, Z, Z, false⟩]⟩ P8 := by simpa [Rk.replace, setD, hxy, hZl, hZr, outW] using hP8
          refine wpList_nil ?_
          refine then_k hK ?_; clear hK; clear K
          refine wp_seq_k ?_; intro K hK
          refine region_list ?_
          refine list_pure E rfl rfl (by decide) (rn_move E rfl rfl) ?_; clear E a; intro a E
          refine list_call E rfl rfl (by decide) rfl Try.func12 rfl (by kernel_rfl) rfl (rk_read p _ P8 hP8 ⟨dy, gpy, gny, Z, Z, false⟩ (by simp) 0 8 (by omega) _ (S.hp.sel (sel_cons (by repeat (first | exact pk1 | apply pick_tail)) (sel_nil _)))) ?_
          rintro v135 w ⟨vy1, Cy1, rfl, hy1, hT⟩; clear E a; intro a E
          have S := S.call2 (sel_cons (by repeat (first | exact pk1 | apply pick_tail)) (sel_nil _)) hT
          have hr4 : rdS ⟨-1, false, k1 + k2⟩ false Z 0 8 = (0, Z) := rdS_all rfl (k := 8) (by omega)
          simp only [hr4] at hy1 E
          refine list_pure E rfl rfl (by decide) (rn_move E rfl rfl) ?_; clear E a; intro a E
          refine list_pure E rfl rfl (by decide) (rn_extract E rfl rfl rfl) ?_; clear E a; intro a E
          refine list_pure E rfl rfl (by decide) (rn_extract E rfl rfl rfl) ?_; clear E a; intro a E
          refine list_pure E rfl rfl (by decide) (rn_assign E rfl rfl) ?_; clear E a; intro a E
          refine list_pure E rfl rfl (by decide) (rn_assign E rfl rfl) ?_; clear E a; intro a E
          refine wpList_nil ?_
          refine then_k hK ?_; clear hK; clear K
          refine wp_seq_k ?_; intro K hK
          refine wp_seq_k ?_; intro K hK
          replace E := E.keep (e' := [(2, _), (3, _), (10, _), (11, _), (20, _), (24, _), (25, _), (26, _), (27, _), (28, _), (29, _), (30, _), (31, _)]) (keep_cons rfl (keep_cons rfl (keep_cons rfl (keep_cons rfl (keep_cons rfl (keep_cons rfl (keep_cons rfl (keep_cons rfl (keep_cons rfl (keep_cons rfl (keep_cons rfl (keep_cons rfl (keep_cons rfl (keep_nil))))))))))))))
          refine region_mix0 S (.ofL [(0, 0), (1, 0), (2, 0), (3, 0), (4, 0), (5, 0), (6, 0), (7, 0), (8, 0), (9, 0), (10, 0), (11, 0), (12, 0), (13, 0), (14, 0), (15, 0), (16, 0), (17, 0), (18, 0), (19, 0), (20, 0), (21, 0), (22, 0), (23, 0), (24, 1), (25, 1), (26, 0), (27, 0)]) (by kernel_rfl) (by kernel_rfl) ?_
          clear S; intro w S
          refine mix_pure E rfl rfl rfl (by decide) (fun w h => rn_move E rfl rfl) ?_; clear E a; intro a E
          refine mix_pure E rfl rfl rfl (by decide) (fun w h => by first | exact rn_neq E rfl rfl rfl | exact rn_neq_ptr_nil E rfl rfl rfl rfl | exact rn_neq_bool E rfl rfl rfl rfl | exact rn_neq_string E rfl rfl rfl) ?_; clear E a; intro a E
          refine mix_pure E rfl rfl rfl (by decide) (fun w h => rn_move E rfl rfl) ?_; clear E a; intro a E
          refine guard_false E (t := 140) rfl (rfl) (fun hb140 => ?_)
          refine mix_guard_yes E rfl rfl rfl rfl rfl hb140 rfl (by decide) (fun w h => rn_move E rfl rfl) ?_; clear E a; intro a E
          refine mix_guard_yes E rfl rfl rfl rfl rfl hb140 rfl (by decide) (fun w h => by first | exact rn_neq E rfl rfl rfl | exact rn_neq_ptr_nil E rfl rfl rfl rfl | exact rn_neq_bool E rfl rfl rfl rfl | exact rn_neq_string E rfl rfl rfl) ?_; clear E a; intro a E
          refine mix_pure E rfl rfl rfl (by decide) (fun w h => rn_pick_no' E rfl rfl hb140 rfl) ?_; clear E a; intro a E
          refine mix_pure E rfl rfl rfl (by decide) (fun w h => rn_move E rfl rfl) ?_; clear E a; intro a E
          refine guard_false E (t := 144) rfl (rfl) (fun hb144 => ?_)
          refine mix_guard_yes E rfl rfl rfl rfl rfl hb144 rfl (by decide) (fun w h => rn_move E rfl rfl) ?_; clear E a; intro a E
          refine mix_guard_yes E rfl rfl rfl rfl rfl hb144 rfl (by decide) (fun w h => by first | exact rn_neq E rfl rfl rfl | exact rn_neq_ptr_nil E rfl rfl rfl rfl | exact rn_neq_bool E rfl rfl rfl rfl | exact rn_neq_string E rfl rfl rfl) ?_; clear E a; intro a E
          refine mix_pure E rfl rfl rfl (by decide) (fun w h => rn_pick_no' E rfl rfl hb144 rfl) ?_; clear E a; intro a E
          refine mix_pure E rfl rfl rfl (by decide) (fun w h => rn_move E rfl rfl) ?_; clear E a; intro a E
          refine guard_false E (t := 148) rfl (rfl) (fun hb148 => ?_)
          refine mix_guard_yes E rfl rfl rfl rfl rfl hb148 rfl (by decide) (fun w h => rn_move E rfl rfl) ?_; clear E a; intro a E
          refine mix_guard_yes E rfl rfl rfl rfl rfl hb148 rfl (by decide) (fun w h => by first | exact rn_neq E rfl rfl rfl | exact rn_neq_ptr_nil E rfl rfl rfl rfl | exact rn_neq_bool E rfl rfl rfl rfl | exact rn_neq_string E rfl rfl rfl) ?_; clear E a; intro a E
          refine mix_pure E rfl rfl rfl (by decide) (fun w h => rn_pick_no' E rfl rfl hb148 rfl) ?_; clear E a; intro a E
          refine mix_pure E rfl rfl rfl (by decide) (fun w h => rn_move E rfl rfl) ?_; clear E a; intro a E
          refine guard_false E (t := 152) rfl (rfl) (fun hb152 => ?_)
          refine mix_guard_yes E rfl rfl rfl rfl rfl hb152 rfl (by decide) (fun w h => rn_move E rfl rfl) ?_; clear E a; intro a E
          refine mix_guard_yes E rfl rfl rfl rfl rfl hb152 rfl (by decide) (fun w h => rn_string E rfl rfl rfl rfl rfl hz2.rd (h.at (by repeat (first | exact mm1 | assumption | apply List.Mem.tail)))) ?_; clear E a; intro a E
          refine mix_guard_yes E rfl rfl rfl rfl rfl hb152 rfl (by decide) (fun w h => rn_move E rfl rfl) ?_; clear E a; intro a E
          refine mix_guard_yes E rfl rfl rfl rfl rfl hb152 rfl (by decide) (fun w h => rn_string E rfl rfl rfl rfl rfl hz3.rd (h.at (by repeat (first | exact mm1 | assumption | apply List.Mem.tail)))) ?_; clear E a; intro a E
          refine mix_guard_yes E rfl rfl rfl rfl rfl hb152 rfl (by decide) (fun w h => by first | exact rn_neq E rfl rfl rfl | exact rn_neq_ptr_nil E rfl rfl rfl rfl | exact rn_neq_bool E rfl rfl rfl rfl | exact rn_neq_string E rfl rfl rfl) ?_; clear E a; intro a E
          refine mix_pure E rfl rfl rfl (by decide) (fun w h => rn_pick_no' E rfl rfl hb152 rfl) ?_; clear E a; intro a E
          refine mix_pure E rfl rfl rfl (by decide) (fun w h => rn_move E rfl rfl) ?_; clear E a; intro a E
          refine guard_false E (t := 159) rfl ((by simp)) (fun hb159 => ?_)
          refine mix_guard_yes E rfl rfl rfl rfl rfl hb159 rfl (by decide) (fun w h => rn_move E rfl rfl) ?_; clear E a; intro a E
          refine mix_guard_yes E rfl rfl rfl rfl rfl hb159 rfl (by decide) (fun w h => rn_string E rfl rfl rfl rfl rfl hy1.rd (h.at (by repeat (first | exact mm1 | assumption | apply List.Mem.tail)))) ?_; clear E a; intro a E
          refine mix_guard_act E rfl rfl rfl rfl rfl hb159 (wp_make1 (by' := 1) E S rfl rfl (by decide) rfl rfl rfl rfl rfl rfl rfl rfl rfl rfl rfl (by decide) (by decide) ?_); clear E S a; intro a w g162 E S; refine ⟨S.stab.sub (by first | (simp; done) | (simp +contextual; done)), ?_⟩
          try rw [show List.replicate 1024 (Value.int .u8 0) = byt Z by rw [← hZr, byt_rep]] at S
          refine mix_guard_act E rfl rfl rfl rfl rfl hb159 (wp_take E (rn_string E rfl rfl rfl rfl rfl (show Rd [(g162, cel (byt Z) 5)] 1 (.slice (some ⟨g162, 0, none⟩) 1024 1024) Z.length (byt Z) from by rw [hZl]; exact rd_cells (by rw [byt_length]; omega) (byt_one Z) (by omega) 1024) (S.stab.at (by repeat (first | exact mm1 | assumption | apply List.Mem.tail)))) rfl (by decide) ?_); clear E a; intro a E; refine ⟨S.stab.sub (by first | (simp; done) | (simp +contextual; done)), ?_⟩
          refine mix_guard_yes E rfl rfl rfl rfl rfl hb159 rfl (by decide) (fun w h => by first | exact rn_neq E rfl rfl rfl | exact rn_neq_ptr_nil E rfl rfl rfl rfl | exact rn_neq_bool E rfl rfl rfl rfl | exact rn_neq_string E rfl rfl rfl) ?_; clear E a; intro a E
          refine mix_pure E rfl rfl rfl (by decide) (fun w h => rn_pick_no' E rfl rfl hb159 rfl) ?_; clear E a; intro a E
          refine mix_nil ?_
          refine then_k hK ?_; clear hK; clear K
          refine if_false' E rfl ((by simp)) ?_
          refine wp_skip ?_
          refine then_k hK ?_; clear hK; clear K
          refine wp_seq_k ?_; intro K hK
          refine wp_seq_k ?_; intro K hK
          replace E := E.keep (e' := [(2, _), (3, _), (10, _), (11, _), (24, _), (26, _)]) (keep_cons rfl (keep_cons rfl (keep_cons rfl (keep_cons rfl (keep_cons rfl (keep_cons rfl (keep_nil)))))))
          refine region_mix0 S (.ofL [(0, 0), (1, 0), (2, 0), (3, 0), (4, 0), (5, 0), (6, 0), (7, 0), (8, 0), (9, 0), (10, 0), (11, 0), (12, 0), (13, 0), (14, 1), (15, 1), (16, 0), (17, 0), (18, 0)]) (by kernel_rfl) (by kernel_rfl) ?_
          clear S; intro w S
          refine mix_pure E rfl rfl rfl (by decide) (fun w h => rn_move E rfl rfl) ?_; clear E a; intro a E
          refine mix_pure E rfl rfl rfl (by decide) (fun w h => rn_move E rfl rfl) ?_; clear E a; intro a E
          refine guard_split E (t := 167) rfl (fun hb167 => ?_) (fun hb167 => ?_)
          · have hb167n := hb167; replace hb167n := Nrm.nrm hb167n
            refine mix_guard_yes E rfl rfl rfl rfl rfl hb167 rfl (by decide) (fun w h => rn_move E rfl rfl) ?_; clear E a; intro a E
            refine mix_guard_yes E rfl rfl rfl rfl rfl hb167 rfl (by decide) (fun w h => rn_string E rfl rfl rfl rfl rfl hx1.rd (h.at (by repeat (first | exact mm1 | assumption | apply List.Mem.tail)))) ?_; clear E a; intro a E
            refine mix_guard_yes E rfl rfl rfl rfl rfl hb167 rfl (by decide) (fun w h => rn_move E rfl rfl) ?_; clear E a; intro a E
            refine mix_guard_yes E rfl rfl rfl rfl rfl hb167 rfl (by decide) (fun w h => rn_string E rfl rfl rfl rfl rfl hx2.rd (h.at (by repeat (first | exact mm1 | assumption | apply List.Mem.tail)))) ?_; clear E a; intro a E
            refine mix_guard_yes E rfl rfl rfl rfl rfl hb167 rfl (by decide) (fun w h => by first | exact rn_neq E rfl rfl rfl | exact rn_neq_ptr_nil E rfl rfl rfl rfl | exact rn_neq_bool E rfl rfl rfl rfl | exact rn_neq_string E rfl rfl rfl) ?_; clear E a; intro a E
            refine mix_pure E rfl rfl rfl (by decide) (fun w h => rn_pick_yes' E rfl rfl hb167 rfl) ?_; clear E a; intro a E
            refine mix_pure E rfl rfl rfl (by decide) (fun w h => rn_move E rfl rfl) ?_; clear E a; intro a E
            refine guard_false E (t := 174) rfl ((by rw [(hf1 hb167).1]; simp)) (fun hb174 => ?_)
            refine mix_guard_yes E rfl rfl rfl rfl rfl hb174 rfl (by decide) (fun w h => rn_move E rfl rfl) ?_; clear E a; intro a E
            refine mix_guard_yes E rfl rfl rfl rfl rfl hb174 rfl (by decide) (fun w h => rn_not E rfl rfl) ?_; clear E a; intro a E
            refine mix_guard_yes E rfl rfl rfl rfl rfl hb174 rfl (by decide) (fun w h => rn_move E rfl rfl) ?_; clear E a; intro a E
            refine guard_false E (t := 177) rfl ((by simp [hb167])) (fun hb177 => ?_)
            refine mix_guard_no E rfl rfl rfl rfl rfl hb177 rfl (by decide) ?_; clear E a; intro a E
            refine mix_guard_no E rfl rfl rfl rfl rfl hb177 rfl (by decide) ?_; clear E a; intro a E
            refine mix_guard_no_act E rfl rfl rfl rfl rfl hb177 rfl (by decide) S.stab ?_; clear E a; intro a E
            try rw [show List.replicate 1024 (Value.int .u8 0) = byt Z by rw [← hZr, byt_rep]] at S
            refine mix_guard_no_act E rfl rfl rfl rfl rfl hb177 rfl (by decide) S.stab ?_; clear E a; intro a E
            refine mix_guard_no E rfl rfl rfl rfl rfl hb177 rfl (by decide) ?_; clear E a; intro a E
            refine mix_guard_yes E rfl rfl rfl rfl rfl hb174 rfl (by decide) (fun w h => rn_pick_no' E rfl rfl hb177 rfl) ?_; clear E a; intro a E
            refine mix_pure E rfl rfl rfl (by decide) (fun w h => rn_pick_no' E rfl rfl hb174 rfl) ?_; clear E a; intro a E
            refine mix_nil ?_
            refine then_k hK ?_; clear hK; clear K
            refine if_false' E rfl rfl ?_
            refine wp_skip ?_
            refine then_k hK ?_; clear hK; clear K
            refine wp_seq_k ?_; intro K hK
            replace E := E.keep (e' := [(3, _), (10, _), (11, _)]) (keep_cons rfl (keep_cons rfl (keep_cons rfl (keep_nil))))
            refine region_list ?_
            refine list_pure E rfl rfl (by decide) (rn_move E rfl rfl) ?_; clear E a; intro a E
            refine list_pure E rfl rfl (by decide) (rn_move E rfl rfl) ?_; clear E a; intro a E
            refine list_call E rfl rfl (by decide) rfl Try.func14 rfl (by kernel_rfl) rfl (rk_up p _ P8 hP8 _ st O hst _ (S.hp.sel (sel_cons (by repeat (first | exact pk1 | apply pick_tail)) (sel_cons (by repeat (first | exact pk1 | apply pick_tail)) (sel_nil _))))) ?_
            rintro v187 w ⟨P9, hP9, hT⟩; clear E a; intro a E
            have S := S.call2 (sel_cons (by repeat (first | exact pk1 | apply pick_tail)) (sel_cons (by repeat (first | exact pk1 | apply pick_tail)) (sel_nil _))) hT
            refine wpList_nil ?_
            refine then_k hK ?_; clear hK; clear K
            refine wp_seq_k ?_; intro K hK
            refine region_list ?_
            refine list_pure E rfl rfl (by decide) (rn_move E rfl rfl) ?_; clear E a; intro a E
            refine list_call E rfl rfl (by decide) rfl Try.func15 rfl (by kernel_rfl) rfl (rk_on q _ Q2 hQ2 _ (S.hp.sel (sel_cons (by repeat (first | exact pk1 | apply pick_tail)) (sel_nil _)))) ?_
            rintro v189 w ⟨rfl, hT⟩; clear E a; intro a E
            have S := S.call1 (sel_cons (by repeat (first | exact pk1 | apply pick_tail)) (sel_nil _)) hT
            refine list_pure E rfl rfl (by decide) (rn_move E rfl rfl) ?_; clear E a; intro a E
            refine guard_true E (t := 190) rfl (rfl) (fun hb190 => ?_)
            refine list_guard_yes E rfl rfl rfl rfl hb190 rfl (by decide) (rn_move E rfl rfl) ?_; clear E a; intro a E
            refine list_guard_wp E rfl rfl rfl rfl hb190 ?_; refine wp_call' E rfl (by decide) rfl Try.func13 rfl (by kernel_rfl) rfl (rk_waiting p _ P9 hP9 _ (S.hp.sel (sel_cons (by repeat (first | exact pk1 | apply pick_tail)) (sel_nil _)))) ?_
            rintro v192 w ⟨rfl, hT⟩; clear E a; intro a E
            have S := S.call1 (sel_cons (by repeat (first | exact pk1 | apply pick_tail)) (sel_nil _)) hT
            refine list_guard_yes E rfl rfl rfl rfl hb190 rfl (by decide) (by first | exact rn_eql E rfl rfl rfl | exact rn_eql_ptr_nil E rfl rfl rfl rfl | exact rn_eql_bool E rfl rfl rfl rfl | exact rn_eql_string E rfl rfl rfl) ?_; clear E a; intro a E
            refine list_pure E rfl rfl (by decide) (rn_pick_yes' E rfl rfl hb190 rfl) ?_; clear E a; intro a E
            refine list_pure E rfl rfl (by decide) (rn_assign E rfl rfl) ?_; clear E a; intro a E
            refine wpList_nil ?_
            refine then_k hK ?_; clear hK; clear K
            refine wp_ret ?_
            refine ret1 E rfl rfl ?_
            exact ⟨_, rfl, rfl, (S.only (Bs := [O]) (sel_cons (by repeat (first | exact pk1 | apply pick_tail)) (sel_nil _))).tr⟩
          · have hb167n := hb167; replace hb167n := Nrm.nrm hb167n
            refine mix_guard_no E rfl rfl rfl rfl rfl hb167 rfl (by decide) ?_; clear E a; intro a E
            refine mix_guard_no E rfl rfl rfl rfl rfl hb167 rfl (by decide) ?_; clear E a; intro a E
            refine mix_guard_no E rfl rfl rfl rfl rfl hb167 rfl (by decide) ?_; clear E a; intro a E
            refine mix_guard_no E rfl rfl rfl rfl rfl hb167 rfl (by decide) ?_; clear E a; intro a E
            refine mix_guard_no E rfl rfl rfl rfl rfl hb167 rfl (by decide) ?_; clear E a; intro a E
            refine mix_pure E rfl rfl rfl (by decide) (fun w h => rn_pick_no' E rfl rfl hb167 rfl) ?_; clear E a; intro a E
            refine mix_pure E rfl rfl rfl (by decide) (fun w h => rn_move E rfl rfl) ?_; clear E a; intro a E
            refine mix_guard_yes E rfl rfl rfl rfl rfl rfl rfl (by decide) (fun w h => rn_move E rfl rfl) ?_; clear E a; intro a E
            refine mix_guard_yes E rfl rfl rfl rfl rfl rfl rfl (by decide) (fun w h => rn_not E rfl rfl) ?_; clear E a; intro a E
            refine mix_guard_yes E rfl rfl rfl rfl rfl rfl rfl (by decide) (fun w h => rn_move E rfl rfl) ?_; clear E a; intro a E
            refine guard_true E (t := 177) rfl ((by simp [hb167])) (fun hb177 => ?_)
            refine mix_guard_yes E rfl rfl rfl rfl rfl hb177 rfl (by decide) (fun w h => rn_move E rfl rfl) ?_; clear E a; intro a E
            refine mix_guard_yes E rfl rfl rfl rfl rfl hb177 rfl (by decide) (fun w h => rn_string E rfl rfl rfl rfl rfl hx2.rd (h.at (by repeat (first | exact mm1 | assumption | apply List.Mem.tail)))) ?_; clear E a; intro a E
            refine mix_guard_act E rfl rfl rfl rfl rfl hb177 (wp_make1 (by' := 1) E S rfl rfl (by decide) rfl rfl rfl rfl rfl rfl rfl rfl rfl rfl rfl (by decide) (by decide) ?_); clear E S a; intro a w g180 E S; refine ⟨S.stab.sub (by first | (simp; done) | (simp +contextual; done)), ?_⟩
            try rw [show List.replicate 1024 (Value.int .u8 0) = byt Z by rw [← hZr, byt_rep]] at S
            refine mix_guard_act E rfl rfl rfl rfl rfl hb177 (wp_take E (rn_string E rfl rfl rfl rfl rfl (show Rd [(g180, cel (byt Z) 5)] 1 (.slice (some ⟨g180, 0, none⟩) 1024 1024) Z.length (byt Z) from by rw [hZl]; exact rd_cells (by rw [byt_length]; omega) (byt_one Z) (by omega) 1024) (S.stab.at (by repeat (first | exact mm1 | assumption | apply List.Mem.tail)))) rfl (by decide) ?_); clear E a; intro a E; refine ⟨S.stab.sub (by first | (simp; done) | (simp +contextual; done)), ?_⟩
            refine mix_guard_yes E rfl rfl rfl rfl rfl hb177 rfl (by decide) (fun w h => by first | exact rn_neq E rfl rfl rfl | exact rn_neq_ptr_nil E rfl rfl rfl rfl | exact rn_neq_bool E rfl rfl rfl rfl | exact rn_neq_string E rfl rfl rfl) ?_; clear E a; intro a E
            refine mix_guard_yes E rfl rfl rfl rfl rfl rfl rfl (by decide) (fun w h => rn_pick_yes' E rfl rfl hb177 rfl) ?_; clear E a; intro a E
            refine mix_pure E rfl rfl rfl (by decide) (fun w h => rn_pick_no' E rfl rfl rfl rfl) ?_; clear E a; intro a E
            refine mix_nil ?_
            refine then_k hK ?_; clear hK; clear K
            refine if_false' E rfl ((by rw [(hf2 hb167).1]; simp)) ?_
            refine wp_skip ?_
            refine then_k hK ?_; clear hK; clear K
            refine wp_seq_k ?_; intro K hK
            replace E := E.keep (e' := [(3, _), (10, _), (11, _)]) (keep_cons rfl (keep_cons rfl (keep_cons rfl (keep_nil))))
            refine region_list ?_
            refine list_pure E rfl rfl (by decide) (rn_move E rfl rfl) ?_; clear E a; intro a E
            refine list_pure E rfl rfl (by decide) (rn_move E rfl rfl) ?_; clear E a; intro a E
            refine list_call E rfl rfl (by decide) rfl Try.func14 rfl (by kernel_rfl) rfl (rk_up p _ P8 hP8 _ st O hst _ (S.hp.sel (sel_cons (by repeat (first | exact pk1 | apply pick_tail)) (sel_cons (by repeat (first | exact pk1 | apply pick_tail)) (sel_nil _))))) ?_
            rintro v187 w ⟨P9, hP9, hT⟩; clear E a; intro a E
            have S := S.call2 (sel_cons (by repeat (first | exact pk1 | apply pick_tail)) (sel_cons (by repeat (first | exact pk1 | apply pick_tail)) (sel_nil _))) hT
            refine wpList_nil ?_
            refine then_k hK ?_; clear hK; clear K
            refine wp_seq_k ?_; intro K hK
            refine region_list ?_
            refine list_pure E rfl rfl (by decide) (rn_move E rfl rfl) ?_; clear E a; intro a E
            refine list_call E rfl rfl (by decide) rfl Try.func15 rfl (by kernel_rfl) rfl (rk_on q _ Q2 hQ2 _ (S.hp.sel (sel_cons (by repeat (first | exact pk1 | apply pick_tail)) (sel_nil _)))) ?_
            rintro v189 w ⟨rfl, hT⟩; clear E a; intro a E
            have S := S.call1 (sel_cons (by repeat (first | exact pk1 | apply pick_tail)) (sel_nil _)) hT
            refine list_pure E rfl rfl (by decide) (rn_move E rfl rfl) ?_; clear E a; intro a E
            refine guard_true E (t := 190) rfl (rfl) (fun hb190 => ?_)
            refine list_guard_yes E rfl rfl rfl rfl hb190 rfl (by decide) (rn_move E rfl rfl) ?_; clear E a; intro a E
            refine list_guard_wp E rfl rfl rfl rfl hb190 ?_; refine wp_call' E rfl (by decide) rfl Try.func13 rfl (by kernel_rfl) rfl (rk_waiting p _ P9 hP9 _ (S.hp.sel (sel_cons (by repeat (first | exact pk1 | apply pick_tail)) (sel_nil _)))) ?_
            rintro v192 w ⟨rfl, hT⟩; clear E a; intro a E
            have S := S.call1 (sel_cons (by repeat (first | exact pk1 | apply pick_tail)) (sel_nil _)) hT
            refine list_guard_yes E rfl rfl rfl rfl hb190 rfl (by decide) (by first | exact rn_eql E rfl rfl rfl | exact rn_eql_ptr_nil E rfl rfl rfl rfl | exact rn_eql_bool E rfl rfl rfl rfl | exact rn_eql_string E rfl rfl rfl) ?_; clear E a; intro a E
            refine list_pure E rfl rfl (by decide) (rn_pick_yes' E rfl rfl hb190 rfl) ?_; clear E a; intro a E
            refine list_pure E rfl rfl (by decide) (rn_assign E rfl rfl) ?_; clear E a; intro a E
            refine wpList_nil ?_
            refine then_k hK ?_; clear hK; clear K
            refine wp_ret ?_
            refine ret1 E rfl rfl ?_
            exact ⟨_, rfl, rfl, (S.only (Bs := [O]) (sel_cons (by repeat (first | exact pk1 | apply pick_tail)) (sel_nil _))).tr⟩
        · have hb102n := hb102; replace hb102n := Nrm.nrm hb102n
          refine list_guard_no E rfl rfl rfl rfl hb102 rfl (by decide) ?_; clear E a; intro a E
          refine list_guard_no E rfl rfl rfl rfl hb102 rfl (by decide) ?_; clear E a; intro a E
          refine list_guard_no E rfl rfl rfl rfl hb102 rfl (by decide) ?_; clear E a; intro a E
          refine list_pure E rfl rfl (by decide) (rn_pick_no' E rfl rfl hb102 rfl) ?_; clear E a; intro a E
          refine list_pure E rfl rfl (by decide) (rn_move E rfl rfl) ?_; clear E a; intro a E
          refine list_guard_yes E rfl rfl rfl rfl rfl rfl (by decide) (rn_move E rfl rfl) ?_; clear E a; intro a E
          refine list_guard_yes E rfl rfl rfl rfl rfl rfl (by decide) (rn_move E rfl rfl) ?_; clear E a; intro a E
          refine list_guard_yes E rfl rfl rfl rfl rfl rfl (by decide) (rn_move E rfl rfl) ?_; clear E a; intro a E
          refine list_guard_yes E rfl rfl rfl rfl rfl rfl (by decide) (rn_sub E rfl rfl rfl (by first | exact ws1 (by omega) (by omega) | exact w_in (by omega) | exact w_inu (by omega) | exact rfl)) ?_; clear E a; intro a E
          refine list_guard_yes E rfl rfl rfl rfl rfl rfl (by decide) (rn_lss E rfl rfl rfl) ?_; clear E a; intro a E
          refine list_pure E rfl rfl (by decide) (rn_pick_no' E rfl rfl rfl rfl) ?_; clear E a; intro a E
          refine wpList_nil ?_
          refine then_k hK ?_; clear hK; clear K
          refine if_false' E rfl ((by subst hlfe; simp)) ?_
          refine wp_skip ?_
          refine then_k hK ?_; clear hK; clear K
          refine wp_seq_k ?_; intro K hK
          replace E := E.keep (e' := [(2, _), (3, _), (10, _), (11, _), (12, _), (14, _), (16, _), (20, _)]) (keep_cons rfl (keep_cons rfl (keep_cons rfl (keep_cons rfl (keep_cons rfl (keep_cons rfl (keep_cons rfl (keep_cons rfl (keep_nil)))))))))
          refine region_list ?_
          refine list_pure E rfl rfl (by decide) (rn_move E rfl rfl) ?_; clear E a; intro a E
          refine list_call E rfl rfl (by decide) rfl Try.func12 rfl (by kernel_rfl) rfl (rk_read p _ P6 hP6 ⟨dx, gpx, gnx, xp, n1, false⟩ (by simp) 0 8 (by omega) _ (S.hp.sel (sel_cons (by repeat (first | exact pk1 | apply pick_tail)) (sel_nil _)))) ?_
          rintro v116 w ⟨vx1, Cx1, rfl, hx1, hT⟩; clear E a; intro a E
          have S := (S.call2 (sel_cons (by repeat (first | exact pk1 | apply pick_tail)) (sel_nil _)) hT).addNil
          have hr1 : rdS ⟨-1, false, k1 + k2⟩ false n1 0 8 = (0, n1) := rdS_all rfl (k := 8) (by omega)
          simp only [hr1] at hx1 E
          refine list_pure E rfl rfl (by decide) (rn_move E rfl rfl) ?_; clear E a; intro a E
          refine list_pure E rfl rfl (by decide) (rn_extract E rfl rfl rfl) ?_; clear E a; intro a E
          refine list_pure E rfl rfl (by decide) (rn_extract E rfl rfl rfl) ?_; clear E a; intro a E
          refine list_pure E rfl rfl (by decide) (rn_assign E rfl rfl) ?_; clear E a; intro a E
          refine list_pure E rfl rfl (by decide) (rn_assign E rfl rfl) ?_; clear E a; intro a E
          refine wpList_nil ?_
          refine then_k hK ?_; clear hK; clear K
          refine wp_seq_k ?_; intro K hK
          refine region_list ?_
          refine list_pure E rfl rfl (by decide) (rn_move E rfl rfl) ?_; clear E a; intro a E
          refine list_call E rfl rfl (by decide) rfl Try.func14 rfl (by kernel_rfl) rfl (rk_up p _ P6 hP6 (.slice none 0 0) [] [] (Rd.nil [] 1) _ (S.hp.sel (sel_cons (by repeat (first | exact pk1 | apply pick_tail)) (sel_cons (by repeat (first | exact pk1 | apply pick_tail)) (sel_nil _))))) ?_
          rintro v120 w ⟨P7, hP7, hT⟩; clear E a; intro a E
          have S := S.call2 (sel_cons (by repeat (first | exact pk1 | apply pick_tail)) (sel_cons (by repeat (first | exact pk1 | apply pick_tail)) (sel_nil _))) hT
          have hP7 : RkC p ⟨⟨-1, false, k1 + k2⟩, [], [⟨dx, gpx, gnx, xp, xp, false⟩, ⟨dy, gpy, gny, Z, Z, true⟩]⟩ P7 := by simpa [Rk.up, upW_none, Dk.settle] using hP7
          refine wpList_nil ?_
          refine then_k hK ?_; clear hK; clear K
          refine wp_seq_k ?_; intro K hK
          refine region_list ?_
          refine list_pure E rfl rfl (by decide) (rn_move E rfl rfl) ?_; clear E a; intro a E
          refine list_call E rfl rfl (by decide) rfl Try.func12 rfl (by kernel_rfl) rfl (rk_read p _ P7 hP7 ⟨dx, gpx, gnx, xp, xp, false⟩ (by simp) 0 8 (by omega) _ (S.hp.sel (sel_cons (by repeat (first | exact pk1 | apply pick_tail)) (sel_nil _)))) ?_
          rintro v123 w ⟨vx2, Cx2, rfl, hx2, hT⟩; clear E a; intro a E
          have S := S.call2 (sel_cons (by repeat (first | exact pk1 | apply pick_tail)) (sel_nil _)) hT
          have hr2 : rdS ⟨-1, false, k1 + k2⟩ false xp 0 8 = (0, xp) := rdS_all rfl (k := 8) (by omega)
          simp only [hr2] at hx2 E
          refine list_pure E rfl rfl (by decide) (rn_move E rfl rfl) ?_; clear E a; intro a E
          refine list_pure E rfl rfl (by decide) (rn_extract E rfl rfl rfl) ?_; clear E a; intro a E
          refine list_pure E rfl rfl (by decide) (rn_extract E rfl rfl rfl) ?_; clear E a; intro a E
          refine list_pure E rfl rfl (by decide) (rn_assign E rfl rfl) ?_; clear E a; intro a E
          refine list_pure E rfl rfl (by decide) (rn_assign E rfl rfl) ?_; clear E a; intro a E
          refine wpList_nil ?_
          refine then_k hK ?_; clear hK; clear K
          refine wp_seq_k ?_; intro K hK
          replace E := E.keep (e' := [(2, _), (3, _), (10, _), (11, _), (14, _), (16, _), (20, _), (24, _), (25, _), (26, _), (27, _)]) (keep_cons rfl (keep_cons rfl (keep_cons rfl (keep_cons rfl (keep_cons rfl (keep_cons rfl (keep_cons rfl (keep_cons rfl (keep_cons rfl (keep_cons rfl (keep_cons rfl (keep_nil))))))))))))
          refine region_list ?_
          refine list_pure E rfl rfl (by decide) (rn_move E rfl rfl) ?_; clear E a; intro a E
          refine list_call E rfl rfl (by decide) rfl Try.func12 rfl (by kernel_rfl) rfl (rk_read q _ Q2 hQ2 ⟨dz, gpz, gnz, Z, n3, false⟩ (by simp) 0 8 (by omega) _ (S.hp.sel (sel_cons (by repeat (first | exact pk1 | apply pick_tail)) (sel_nil _)))) ?_
          rintro v128 w ⟨vz3, Cz3, rfl, hz3, hT⟩; clear E a; intro a E
          have S := S.call2 (sel_cons (by repeat (first | exact pk1 | apply pick_tail)) (sel_nil _)) hT
          simp only [hr3] at hz3 E
          refine list_pure E rfl rfl (by decide) (rn_move E rfl rfl) ?_; clear E a; intro a E
          refine list_pure E rfl rfl (by decide) (rn_extract E rfl rfl rfl) ?_; clear E a; intro a E
          refine list_pure E rfl rfl (by decide) (rn_extract E rfl rfl rfl) ?_; clear E a; intro a E
          refine list_pure E rfl rfl (by decide) (rn_assign E rfl rfl) ?_; clear E a; intro a E
          refine list_pure E rfl rfl (by decide) (rn_assign E rfl rfl) ?_; clear E a; intro a E
          refine wpList_nil ?_
          refine then_k hK ?_; clear hK; clear K
          refine wp_seq_k ?_; intro K hK
          refine region_list ?_
          refine list_pure E rfl rfl (by decide) (rn_move E rfl rfl) ?_; clear E a; intro a E
          refine list_call E rfl rfl (by decide) rfl Try.func20 rfl (by kernel_rfl) rfl (rk_replace p _ P7 hP7 ⟨dy, gpy, gny, Z, Z, true⟩ (by simp) _ (S.hp.sel (sel_cons (by repeat (first | exact pk1 | apply pick_tail)) (sel_nil _)))) ?_
          rintro v132 w ⟨P8, hP8, hT⟩; clear E a; intro a E
          have S := S.call1 (sel_cons (by repeat (first | exact pk1 | apply pick_tail)) (sel_nil _)) hT
          have hZr : List.replicate 1024 (0 : UInt8) = Z := hZ.symm
          have hP8 : RkC p ⟨⟨-1, false, k1 + k2⟩, [], [⟨dx, gpx, gnx, xp, xp, false⟩, ⟨dy, gpy, gny, Z, Z, false⟩]⟩ P8 := by simpa [Rk.replace, setD, hxy, hZl, hZr, outW] using hP8
          refine wpList_nil ?_
          refine then_k hK ?_; clear hK; clear K
          refine wp_seq_k ?_; intro K hK
          refine region_list ?_
          refine list_pure E rfl rfl (by decide) (rn_move E rfl rfl) ?_; clear E a; intro a E
          refine list_call E rfl rfl (by decide) rfl Try.func12 rfl (by kernel_rfl) rfl (rk_read p _ P8 hP8 ⟨dy, gpy, gny, Z, Z, false⟩ (by simp) 0 8 (by omega) _ (S.hp.sel (sel_cons (by repeat (first | exact pk1 | apply pick_tail)) (sel_nil _)))) ?_
          rintro v135 w ⟨vy1, Cy1, rfl, hy1, hT⟩; clear E a; intro a E
          have S := S.call2 (sel_cons (by repeat (first | exact pk1 | apply pick_tail)) (sel_nil _)) hT
          have hr4 : rdS ⟨-1, false, k1 + k2⟩ false Z 0 8 = (0, Z) := rdS_all rfl (k := 8) (by omega)
          simp only [hr4] at hy1 E
          refine list_pure E rfl rfl (by decide) (rn_move E rfl rfl) ?_; clear E a; intro a E
          refine list_pure E rfl rfl (by decide) (rn_extract E rfl rfl rfl) ?_; clear E a; intro a E
          refine list_pure E rfl rfl (by decide) (rn_extract E rfl rfl rfl) ?_; clear E a; intro a E
          refine list_pure E rfl rfl (by decide) (rn_assign E rfl rfl) ?_; clear E a; intro a E
          refine list_pure E rfl rfl (by decide) (rn_assign E rfl rfl) ?_; clear E a; intro a E
          refine wpList_nil ?_
          refine then_k hK ?_; clear hK; clear K
          refine wp_seq_k ?_; intro K hK
          refine wp_seq_k ?_; intro K hK
          replace E := E.keep (e' := [(2, _), (3, _), (10, _), (11, _), (20, _), (24, _), (25, _), (26, _), (27, _), (28, _), (29, _), (30, _), (31, _)]) (keep_cons rfl (keep_cons rfl (keep_cons rfl (keep_cons rfl (keep_cons rfl (keep_cons rfl (keep_cons rfl (keep_cons rfl (keep_cons rfl (keep_cons rfl (keep_cons rfl (keep_cons rfl (keep_cons rfl (keep_nil))))))))))))))
          refine region_mix0 S (.ofL [(0, 0), (1, 0), (2, 0), (3, 0), (4, 0), (5, 0), (6, 0), (7, 0), (8, 0), (9, 0), (10, 0), (11, 0), (12, 0), (13, 0), (14, 0), (15, 0), (16, 0), (17, 0), (18, 0), (19, 0), (20, 0), (21, 0), (22, 0), (23, 0), (24, 1), (25, 1), (26, 0), (27, 0)]) (by kernel_rfl) (by kernel_rfl) ?_
          clear S; intro w S
          refine mix_pure E rfl rfl rfl (by decide) (fun w h => rn_move E rfl rfl) ?_; clear E a; intro a E
          refine mix_pure E rfl rfl rfl (by decide) (fun w h => by first | exact rn_neq E rfl rfl rfl | exact rn_neq_ptr_nil E rfl rfl rfl rfl | exact rn_neq_bool E rfl rfl rfl rfl | exact rn_neq_string E rfl rfl rfl) ?_; clear E a; intro a E
          refine mix_pure E rfl rfl rfl (by decide) (fun w h => rn_move E rfl rfl) ?_; clear E a; intro a E
          refine guard_false E (t := 140) rfl (rfl) (fun hb140 => ?_)
          refine mix_guard_yes E rfl rfl rfl rfl rfl hb140 rfl (by decide) (fun w h => rn_move E rfl rfl) ?_; clear E a; intro a E
          refine mix_guard_yes E rfl rfl rfl rfl rfl hb140 rfl (by decide) (fun w h => by first | exact rn_neq E rfl rfl rfl | exact rn_neq_ptr_nil E rfl rfl rfl rfl | exact rn_neq_bool E rfl rfl rfl rfl | exact rn_neq_string E rfl rfl rfl) ?_; clear E a; intro a E
          refine mix_pure E rfl rfl rfl (by decide) (fun w h => rn_pick_no' E rfl rfl hb140 rfl) ?_; clear E a; intro a E
          refine mix_pure E rfl rfl rfl (by decide) (fun w h => rn_move E rfl rfl) ?_; clear E a; intro a E
          refine guard_false E (t := 144) rfl (rfl) (fun hb144 => ?_)
          refine mix_guard_yes E rfl rfl rfl rfl rfl hb144 rfl (by decide) (fun w h => rn_move E rfl rfl) ?_; clear E a; intro a E
          refine mix_guard_yes E rfl rfl rfl rfl rfl hb144 rfl (by decide) (fun w h => by first | exact rn_neq E rfl rfl rfl | exact rn_neq_ptr_nil E rfl rfl rfl rfl | exact rn_neq_bool E rfl rfl rfl rfl | exact rn_neq_string E rfl rfl rfl) ?_; clear E a; intro a E
          refine mix_pure E rfl rfl rfl (by decide) (fun w h => rn_pick_no' E rfl rfl hb144 rfl) ?_; clear E a; intro a E
          refine mix_pure E rfl rfl rfl (by decide) (fun w h => rn_move E rfl rfl) ?_; clear E a; intro a E
          refine guard_false E (t := 148) rfl (rfl) (fun hb148 => ?_)
          refine mix_guard_yes E rfl rfl rfl rfl rfl hb148 rfl (by decide) (fun w h => rn_move E rfl rfl) ?_; clear E a; intro a E
          refine mix_guard_yes E rfl rfl rfl rfl rfl hb148 rfl (by decide) (fun w h => by first | exact rn_neq E rfl rfl rfl | exact rn_neq_ptr_nil E rfl rfl rfl rfl | exact rn_neq_bool E rfl rfl rfl rfl | exact rn_neq_string E rfl rfl rfl) ?_; clear E a; intro a E
          refine mix_pure E rfl rfl rfl (by decide) (fun w h => rn_pick_no' E rfl rfl hb148 rfl) ?_; clear E a; intro a E
          refine mix_pure E rfl rfl rfl (by decide) (fun w h => rn_move E rfl rfl) ?_; clear E a; intro a E
          refine guard_false E (t := 152) rfl (rfl) (fun hb152 => ?_)
          refine mix_guard_yes E rfl rfl rfl rfl rfl hb152 rfl (by decide) (fun w h => rn_move E rfl rfl) ?_; clear E a; intro a E
          refine mix_guard_yes E rfl rfl rfl rfl rfl hb152 rfl (by decide) (fun w h => rn_string E rfl rfl rfl rfl rfl hz2.rd (h.at (by repeat (first | exact mm1 | assumption | apply List.Mem.tail)))) ?_; clear E a; intro a E
          refine mix_guard_yes E rfl rfl rfl rfl rfl hb152 rfl (by decide) (fun w h => rn_move E rfl rfl) ?_; clear E a; intro a E
          refine mix_guard_yes E rfl rfl rfl rfl rfl hb152 rfl (by decide) (fun w h => rn_string E rfl rfl rfl rfl rfl hz3.rd (h.at (by repeat (first | exact mm1 | assumption | apply List.Mem.tail)))) ?_; clear E a; intro a E
          refine mix_guard_yes E rfl rfl rfl rfl rfl hb152 rfl (by decide) (fun w h => by first | exact rn_neq E rfl rfl rfl | exact rn_neq_ptr_nil E rfl rfl rfl rfl | exact rn_neq_bool E rfl rfl rfl rfl | exact rn_neq_string E rfl rfl rfl) ?_; clear E a; intro a E
          refine mix_pure E rfl rfl rfl (by decide) (fun w h => rn_pick_no' E rfl rfl hb152 rfl) ?_; clear E a; intro a E
          refine mix_pure E rfl rfl rfl (by decide) (fun w h => rn_move E rfl rfl) ?_; clear E a; intro a E
          refine guard_false E (t := 159) rfl ((by simp)) (fun hb159 => ?_)
          refine mix_guard_yes E rfl rfl rfl rfl rfl hb159 rfl (by decide) (fun w h => rn_move E rfl rfl) ?_; clear E a; intro a E
          refine mix_guard_yes E rfl rfl rfl rfl rfl hb159 rfl (by decide) (fun w h => rn_string E rfl rfl rfl rfl rfl hy1.rd (h.at (by repeat (first | exact mm1 | assumption | apply List.Mem.tail)))) ?_; clear E a; intro a E
          refine mix_guard_act E rfl rfl rfl rfl rfl hb159 (wp_make1 (by' := 1) E S rfl rfl (by decide) rfl rfl rfl rfl rfl rfl rfl rfl rfl rfl rfl (by decide) (by decide) ?_); clear E S a; intro a w g162 E S; refine ⟨S.stab.sub (by first | (simp; done) | (simp +contextual; done)), ?_⟩
          try rw [show List.replicate 1024 (Value.int .u8 0) = byt Z by rw [← hZr, byt_rep]] at S
          refine mix_guard_act E rfl rfl rfl rfl rfl hb159 (wp_take E (rn_string E rfl rfl rfl rfl rfl (show Rd [(g162, cel (byt Z) 5)] 1 (.slice (some ⟨g162, 0, none⟩) 1024 1024) Z.length (byt Z) from by rw [hZl]; exact rd_cells (by rw [byt_length]; omega) (byt_one Z) (by omega) 1024) (S.stab.at (by repeat (first | exact mm1 | assumption | apply List.Mem.tail)))) rfl (by decide) ?_); clear E a; intro a E; refine ⟨S.stab.sub (by first | (simp; done) | (simp +contextual; done)), ?_⟩
          refine mix_guard_yes E rfl rfl rfl rfl rfl hb159 rfl (by decide) (fun w h => by first | exact rn_neq E rfl rfl rfl | exact rn_neq_ptr_nil E rfl rfl rfl rfl | exact rn_neq_bool E rfl rfl rfl rfl | exact rn_neq_string E rfl rfl rfl) ?_; clear E a; intro a E
          refine mix_pure E rfl rfl rfl (by decide) (fun w h => rn_pick_no' E rfl rfl hb159 rfl) ?_; clear E a; intro a E
          refine mix_nil ?_
          refine then_k hK ?_; clear hK; clear K
          refine if_false' E rfl ((by simp)) ?_
          refine wp_skip ?_
          refine then_k hK ?_; clear hK; clear K
          refine wp_seq_k ?_; intro K hK
          refine wp_seq_k ?_; intro K hK
          replace E := E.keep (e' := [(2, _), (3, _), (10, _), (11, _), (24, _), (26, _)]) (keep_cons rfl (keep_cons rfl (keep_cons rfl (keep_cons rfl (keep_cons rfl (keep_cons rfl (keep_nil)))))))
          refine region_mix0 S (.ofL [(0, 0), (1, 0), (2, 0), (3, 0), (4, 0), (5, 0), (6, 0), (7, 0), (8, 0), (9, 0), (10, 0), (11, 0), (12, 0), (13, 0), (14, 1), (15, 1), (16, 0), (17, 0), (18, 0)]) (by kernel_rfl) (by kernel_rfl) ?_
          clear S; intro w S
          refine mix_pure E rfl rfl rfl (by decide) (fun w h => rn_move E rfl rfl) ?_; clear E a; intro a E
          refine mix_pure E rfl rfl rfl (by decide) (fun w h => rn_move E rfl rfl) ?_; clear E a; intro a E
          refine guard_split E (t := 167) rfl (fun hb167 => ?_) (fun hb167 => ?_)
          · have hb167n := hb167; replace hb167n := Nrm.nrm hb167n
            refine mix_guard_yes E rfl rfl rfl rfl rfl hb167 rfl (by decide) (fun w h => rn_move E rfl rfl) ?_; clear E a; intro a E
            refine mix_guard_yes E rfl rfl rfl rfl rfl hb167 rfl (by decide) (fun w h => rn_string E rfl rfl rfl rfl rfl hx1.rd (h.at (by repeat (first | exact mm1 | assumption | apply List.Mem.tail)))) ?_; clear E a; intro a E
            refine mix_guard_yes E rfl rfl rfl rfl rfl hb167 rfl (by decide) (fun w h => rn_move E rfl rfl) ?_; clear E a; intro a E
            refine mix_guard_yes E rfl rfl rfl rfl rfl hb167 rfl (by decide) (fun w h => rn_string E rfl rfl rfl rfl rfl hx2.rd (h.at (by repeat (first | exact mm1 | assumption | apply List.Mem.tail)))) ?_; clear E a; intro a E
            refine mix_guard_yes E rfl rfl rfl rfl rfl hb167 rfl (by decide) (fun w h => by first | exact rn_neq E rfl rfl rfl | exact rn_neq_ptr_nil E rfl rfl rfl rfl | exact rn_neq_bool E rfl rfl rfl rfl | exact rn_neq_string E rfl rfl rfl) ?_; clear E a; intro a E
            refine mix_pure E rfl rfl rfl (by decide) (fun w h => rn_pick_yes' E rfl rfl hb167 rfl) ?_; clear E a; intro a E
            refine mix_pure E rfl rfl rfl (by decide) (fun w h => rn_move E rfl rfl) ?_; clear E a; intro a E
            refine guard_false E (t := 174) rfl ((by rw [(hf1 hb167).1]; simp)) (fun hb174 => ?_)
            refine mix_guard_yes E rfl rfl rfl rfl rfl hb174 rfl (by decide) (fun w h => rn_move E rfl rfl) ?_; clear E a; intro a E
            refine mix_guard_yes E rfl rfl rfl rfl rfl hb174 rfl (by decide) (fun w h => rn_not E rfl rfl) ?_; clear E a; intro a E
            refine mix_guard_yes E rfl rfl rfl rfl rfl hb174 rfl (by decide) (fun w h => rn_move E rfl rfl) ?_; clear E a; intro a E
            refine guard_false E (t := 177) rfl ((by simp [hb167])) (fun hb177 => ?_)
            refine mix_guard_no E rfl rfl rfl rfl rfl hb177 rfl (by decide) ?_; clear E a; intro a E
            refine mix_guard_no E rfl rfl rfl rfl rfl hb177 rfl (by decide) ?_; clear E a; intro a E
            refine mix_guard_no_act E rfl rfl rfl rfl rfl hb177 rfl (by decide) S.stab ?_; clear E a; intro a E
            try rw [show List.replicate 1024 (Value.int .u8 0) = byt Z by rw [← hZr, byt_rep]] at S
            refine mix_guard_no_act E rfl rfl rfl rfl rfl hb177 rfl (by decide) S.stab ?_; clear E a; intro a E
            refine mix_guard_no E rfl rfl rfl rfl rfl hb177 rfl (by decide) ?_; clear E a; intro a E
            refine mix_guard_yes E rfl rfl rfl rfl rfl hb174 rfl (by decide) (fun w h => rn_pick_no' E rfl rfl hb177 rfl) ?_; clear E a; intro a E
            refine mix_pure E rfl rfl rfl (by decide) (fun w h => rn_pick_no' E rfl rfl hb174 rfl) ?_; clear E a; intro a E
            refine mix_nil ?_
            refine then_k hK ?_; clear hK; clear K
            refine if_false' E rfl rfl ?_
            refine wp_skip ?_
            refine then_k hK ?_; clear hK; clear K
            refine wp_seq_k ?_; intro K hK
            replace E := E.keep (e' := [(3, _), (10, _), (11, _)]) (keep_cons rfl (keep_cons rfl (keep_cons rfl (keep_nil))))
            refine region_list ?_
            refine list_pure E rfl rfl (by decide) (rn_move E rfl rfl) ?_; clear E a; intro a E
            refine list_pure E rfl rfl (by decide) (rn_move E rfl rfl) ?_; clear E a; intro a E
            refine list_call E rfl rfl (by decide) rfl Try.func14 rfl (by kernel_rfl) rfl (rk_up p _ P8 hP8 _ st O hst _ (S.hp.sel (sel_cons (by repeat (first | exact pk1 | apply pick_tail)) (sel_cons (by repeat (first | exact pk1 | apply pick_tail)) (sel_nil _))))) ?_
            rintro v187 w ⟨P9, hP9, hT⟩; clear E a; intro a E
            have S := S.call2 (sel_cons (by repeat (first | exact pk1 | apply pick_tail)) (sel_cons (by repeat (first | exact pk1 | apply pick_tail)) (sel_nil _))) hT
            refine wpList_nil ?_
            refine then_k hK ?_; clear hK; clear K
            refine wp_seq_k ?_; intro K hK
            refine region_list ?_
            refine list_pure E rfl rfl (by decide) (rn_move E rfl rfl) ?_; clear E a; intro a E
            refine list_call E rfl rfl (by decide) rfl Try.func15 rfl (by kernel_rfl) rfl (rk_on q _ Q2 hQ2 _ (S.hp.sel (sel_cons (by repeat (first | exact pk1 | apply pick_tail)) (sel_nil _)))) ?_
            rintro v189 w ⟨rfl, hT⟩; clear E a; intro a E
            have S := S.call1 (sel_cons (by repeat (first | exact pk1 | apply pick_tail)) (sel_nil _)) hT
            refine list_pure E rfl rfl (by decide) (rn_move E rfl rfl) ?_; clear E a; intro a E
            refine guard_true E (t := 190) rfl (rfl) (fun hb190 => ?_)
            refine list_guard_yes E rfl rfl rfl rfl hb190 rfl (by decide) (rn_move E rfl rfl) ?_; clear E a; intro a E
            refine list_guard_wp E rfl rfl rfl rfl hb190 ?_; refine wp_call' E rfl (by decide) rfl Try.func13 rfl (by kernel_rfl) rfl (rk_waiting p _ P9 hP9 _ (S.hp.sel (sel_cons (by repeat (first | exact pk1 | apply pick_tail)) (sel_nil _)))) ?_
            rintro v192 w ⟨rfl, hT⟩; clear E a; intro a E
            have S := S.call1 (sel_cons (by repeat (first | exact pk1 | apply pick_tail)) (sel_nil _)) hT
            refine list_guard_yes E rfl rfl rfl rfl hb190 rfl (by decide) (by first | exact rn_eql E rfl rfl rfl | exact rn_eql_ptr_nil E rfl rfl rfl rfl | exact rn_eql_bool E rfl rfl rfl rfl | exact rn_eql_string E rfl rfl rfl) ?_; clear E a; intro a E
            refine list_pure E rfl rfl (by decide) (rn_pick_yes' E rfl rfl hb190 rfl) ?_; clear E a; intro a E
            refine list_pure E rfl rfl (by decide) (rn_assign E rfl rfl) ?_; clear E a; intro a E
            refine wpList_nil ?_
            refine then_k hK ?_; clear hK; clear K
            refine wp_ret ?_
            refine ret1 E rfl rfl ?_
            exact ⟨_, rfl, rfl, (S.only (Bs := [O]) (sel_cons (by repeat (first | exact pk1 | apply pick_tail)) (sel_nil _))).tr⟩
          · have hb167n := hb167; replace hb167n := Nrm.nrm hb167n
            refine mix_guard_no E rfl rfl rfl rfl rfl hb167 rfl (by decide) ?_; clear E a; intro a E
            refine mix_guard_no E rfl rfl rfl rfl rfl hb167 rfl (by decide) ?_; clear E a; intro a E
            refine mix_guard_no E rfl rfl rfl rfl rfl hb167 rfl (by decide) ?_; clear E a; intro a E
            refine mix_guard_no E rfl rfl rfl rfl rfl hb167 rfl (by decide) ?_; clear E a; intro a E
            refine mix_guard_no E rfl rfl rfl rfl rfl hb167 rfl (by decide) ?_; clear E a; intro a E
            refine mix_pure E rfl rfl rfl (by decide) (fun w h => rn_pick_no' E rfl rfl hb167 rfl) ?_; clear E a; intro a E
            refine mix_pure E rfl rfl rfl (by decide) (fun w h => rn_move E rfl rfl) ?_; clear E a; intro a E
            refine mix_guard_yes E rfl rfl rfl rfl rfl rfl rfl (by decide) (fun w h => rn_move E rfl rfl) ?_; clear E a; intro a E
            refine mix_guard_yes E rfl rfl rfl rfl rfl rfl rfl (by decide) (fun w h => rn_not E rfl rfl) ?_; clear E a; intro a E
            refine mix_guard_yes E rfl rfl rfl rfl rfl rfl rfl (by decide) (fun w h => rn_move E rfl rfl) ?_; clear E a; intro a E
            refine guard_true E (t := 177) rfl ((by simp [hb167])) (fun hb177 => ?_)
            refine mix_guard_yes E rfl rfl rfl rfl rfl hb177 rfl (by decide) (fun w h => rn_move E rfl rfl) ?_; clear E a; intro a E
            refine mix_guard_yes E rfl rfl rfl rfl rfl hb177 rfl (by decide) (fun w h => rn_string E rfl rfl rfl rfl rfl hx2.rd (h.at (by repeat (first | exact mm1 | assumption | apply List.Mem.tail)))) ?_; clear E a; intro a E
            refine mix_guard_act E rfl rfl rfl rfl rfl hb177 (wp_make1 (by' := 1) E S rfl rfl (by decide) rfl rfl rfl rfl rfl rfl rfl rfl rfl rfl rfl (by decide) (by decide) ?_); clear E S a; intro a w g180 E S; refine ⟨S.stab.sub (by first | (simp; done) | (simp +contextual; done)), ?_⟩
            try rw [show List.replicate 1024 (Value.int .u8 0) = byt Z by rw [← hZr, byt_rep]] at S
            refine mix_guard_act E rfl rfl rfl rfl rfl hb177 (wp_take E (rn_string E rfl rfl rfl rfl rfl (show Rd [(g180, cel (byt Z) 5)] 1 (.slice (some ⟨g180, 0, none⟩) 1024 1024) Z.length (byt Z) from by rw [hZl]; exact rd_cells (by rw [byt_length]; omega) (byt_one Z) (by omega) 1024) (S.stab.at (by repeat (first | exact mm1 | assumption | apply List.Mem.tail)))) rfl (by decide) ?_); clear E a; intro a E; refine ⟨S.stab.sub (by first | (simp; done) | (simp +contextual; done)), ?_⟩
            refine mix_guard_yes E rfl rfl rfl rfl rfl hb177 rfl (by decide) (fun w h => by first | exact rn_neq E rfl rfl rfl | exact rn_neq_ptr_nil E rfl rfl rfl rfl | exact rn_neq_bool E rfl rfl rfl rfl | exact rn_neq_string E rfl rfl rfl) ?_; clear E a; intro a E
            refine mix_guard_yes E rfl rfl rfl rfl rfl rfl rfl (by decide) (fun w h => rn_pick_yes' E rfl rfl hb177 rfl) ?_; clear E a; intro a E
            refine mix_pure E rfl rfl rfl (by decide) (fun w h => rn_pick_no' E rfl rfl rfl rfl) ?_; clear E a; intro a E
            refine mix_nil ?_
            refine then_k hK ?_; clear hK; clear K
            refine if_false' E rfl ((by rw [(hf2 hb167).1]; simp)) ?_
            refine wp_skip ?_
            refine then_k hK ?_; clear hK; clear K
            refine wp_seq_k ?_; intro K hK
            replace E := E.keep (e' := [(3, _), (10, _), (11, _)]) (keep_cons rfl (keep_cons rfl (keep_cons rfl (keep_nil))))
            refine region_list ?_
            refine list_pure E rfl rfl (by decide) (rn_move E rfl rfl) ?_; clear E a; intro a E
            refine list_pure E rfl rfl (by decide) (rn_move E rfl rfl) ?_; clear E a; intro a E
            refine list_call E rfl rfl (by decide) rfl Try.func14 rfl (by kernel_rfl) rfl (rk_up p _ P8 hP8 _ st O hst _ (S.hp.sel (sel_cons (by repeat (first | exact pk1 | apply pick_tail)) (sel_cons (by repeat (first | exact pk1 | apply pick_tail)) (sel_nil _))))) ?_
            rintro v187 w ⟨P9, hP9, hT⟩; clear E a; intro a E
            have S := S.call2 (sel_cons (by repeat (first | exact pk1 | apply pick_tail)) (sel_cons (by repeat (first | exact pk1 | apply pick_tail)) (sel_nil _))) hT
            refine wpList_nil ?_
            refine then_k hK ?_; clear hK; clear K
            refine wp_seq_k ?_; intro K hK
            refine region_list ?_
            refine list_pure E rfl rfl (by decide) (rn_move E rfl rfl) ?_; clear E a; intro a E
            refine list_call E rfl rfl (by decide) rfl Try.func15 rfl (by kernel_rfl) rfl (rk_on q _ Q2 hQ2 _ (S.hp.sel (sel_cons (by repeat (first | exact pk1 | apply pick_tail)) (sel_nil _)))) ?_
            rintro v189 w ⟨rfl, hT⟩; clear E a; intro a E
            have S := S.call1 (sel_cons (by repeat (first | exact pk1 | apply pick_tail)) (sel_nil _)) hT
            refine list_pure E rfl rfl (by decide) (rn_move E rfl rfl) ?_; clear E a; intro a E
            refine guard_true E (t := 190) rfl (rfl) (fun hb190 => ?_)
            refine list_guard_yes E rfl rfl rfl rfl hb190 rfl (by decide) (rn_move E rfl rfl) ?_; clear E a; intro a E
            refine list_guard_wp E rfl rfl rfl rfl hb190 ?_; refine wp_call' E rfl (by decide) rfl Try.func13 rfl (by kernel_rfl) rfl (rk_waiting p _ P9 hP9 _ (S.hp.sel (sel_cons (by repeat (first | exact pk1 | apply pick_tail)) (sel_nil _)))) ?_
            rintro v192 w ⟨rfl, hT⟩; clear E a; intro a E
            have S := S.call1 (sel_cons (by repeat (first | exact pk1 | apply pick_tail)) (sel_nil _)) hT
            refine list_guard_yes E rfl rfl rfl rfl hb190 rfl (by decide) (by first | exact rn_eql E rfl rfl rfl | exact rn_eql_ptr_nil E rfl rfl rfl rfl | exact rn_eql_bool E rfl rfl rfl rfl | exact rn_eql_string E rfl rfl rfl) ?_; clear E a; intro a E
            refine list_pure E rfl rfl (by decide) (rn_pick_yes' E rfl rfl hb190 rfl) ?_; clear E a; intro a E
            refine list_pure E rfl rfl (by decide) (rn_assign E rfl rfl) ?_; clear E a; intro a E
            refine wpList_nil ?_
            refine then_k hK ?_; clear hK; clear K
            refine wp_ret ?_
            refine ret1 E rfl rfl ?_
            exact ⟨_, rfl, rfl, (S.only (Bs := [O]) (sel_cons (by repeat (first | exact pk1 | apply pick_tail)) (sel_nil _))).tr⟩
end Go.Proofs.Ytpppaohhnlgfoaa
