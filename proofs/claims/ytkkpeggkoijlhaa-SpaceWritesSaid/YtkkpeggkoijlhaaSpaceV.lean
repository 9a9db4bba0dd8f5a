/-
  Space maps: bytes read, by the program and by the document.
-/
import Derived.Test.YtkkpeggkoijlhaaSpaceU
namespace Go.Sl
theorem decB_short {b : List UInt8} (h : b.length < 2) : decB b = none := by simp [decB, h]
theorem decB_len {b : List UInt8} (h : b.length ≠ 2 + 13 * numOf (b.take 2)) : decB b = none := by
  cases hd : decB b with
  | none => rfl
  | some l =>
    exfalso
    unfold decB at hd
    split at hd
    · cases hd
    rename_i c
    split at hd
    · cases hd
    rename_i m hm
    have := (restD_length hm).2
    rw [List.length_drop] at this
    omega
theorem restD_step {k : Nat} {b : List UInt8} (hl : 13 ≤ b.length) (h : (oneD b).1 ≤ 1) : restD (k + 1) b = (restD k (b.drop 13)).map ((oneD b).2 :: ·) := by
  rw [restD, if_neg (by omega)]
theorem restD_bad {k : Nat} {b : List UInt8} (h : 1 < (oneD b).1) : restD (k + 1) b = none := by
  rw [restD, if_pos (.inr h)]
theorem decB_none {b : List UInt8} {n : Nat} (hn : n = numOf (b.take 2)) (h : restD n (b.drop 2) = none) : decB b = none := by
  subst hn; unfold decB; split
  · rfl
  · simp [h]
theorem decB_all {b : List UInt8} {n : Nat} {o : List Sc} (h2 : 2 ≤ b.length) (hn : n = numOf (b.take 2)) (h : restD n (b.drop 2) = some o) : decB b = if checkE o = 0 then some o else none := by
  subst hn; unfold decB; rw [if_neg (by omega), h]

theorem oneD_at (b : List UInt8) (q : Nat) : oneD (b.drop q) = (numOf ((b.drop q).take 1), ⟨numOf ((b.drop q).take 1) == 1, ⟨(numOf ((b.drop (q + 1)).take 6) : Int), (numOf ((b.drop (q + 7)).take 6) : Int)⟩⟩) := by
  simp [oneD, List.drop_drop]
/-- One entry more, or none. -/
theorem rest_more {b : List UInt8} {n i : Nat} {o : List Sc} (hi : i < n) (h : restD n (b.drop 2) = (restD (n - i) (b.drop (2 + 13 * i))).map (o ++ ·)) :
    (1 < numOf ((b.drop (2 + 13 * i)).take 1) → restD n (b.drop 2) = none) ∧
    (2 + 13 * i + 13 ≤ b.length → numOf ((b.drop (2 + 13 * i)).take 1) ≤ 1 → restD n (b.drop 2) = (restD (n - (i + 1)) (b.drop (2 + 13 * (i + 1)))).map ((o ++ [(oneD (b.drop (2 + 13 * i))).2]) ++ ·)) := by
  obtain ⟨k, hk⟩ : ∃ k, n - i = k + 1 := ⟨n - i - 1, by omega⟩
  rw [hk] at h
  refine ⟨fun hf => ?_, fun hl hf => ?_⟩
  · rw [h, restD_bad (by rw [oneD_at]; exact hf)]; rfl
  · rw [h, restD_step (by rw [List.length_drop]; omega) (by rw [oneD_at]; exact hf), Option.map_map, List.drop_drop, show n - (i + 1) = k by omega, show 2 + 13 * i + 13 = 2 + 13 * (i + 1) by omega]
    congr 1
    funext l
    simp
theorem rnum_bs (s : Rdr) (k : Int) : (s.num k).2.bs = s.bs := by unfold Rdr.num; (repeat' split) <;> rfl
theorem three {b : List UInt8} {n i : Nat} {o : List Sc} (hn : n = numOf (b.take 2)) (hi : i < n) (h : restD n (b.drop 2) = (restD (n - i) (b.drop (2 + 13 * i))).map (o ++ ·)) {f x y : Nat} {s1 s2 s3 : Rdr}
    (h1 : (Rdr.mk b (2 + 13 * i) 0).num 1 = (f, s1)) (h2 : s1.num 6 = (x, s2)) (h3 : s2.num 6 = (y, s3)) :
    s3.bs = b ∧ (1 < f → decB b = none) ∧ (f ≤ 1 → s3.e = 0 → s3.at_ = 2 + 13 * (i + 1) ∧ restD n (b.drop 2) = (restD (n - (i + 1)) (b.drop (2 + 13 * (i + 1)))).map ((o ++ [⟨f == 1, ⟨x, y⟩⟩]) ++ ·)) ∧ (s3.e ≠ 0 → decB b = none) ∧ f < 256 ∧ x < 281474976710656 ∧ y < 281474976710656 := by
  obtain ⟨m1, m2⟩ := rest_more hi h
  have hbs : s3.bs = b := by
    have e1 := rnum_bs (Rdr.mk b (2 + 13 * i) 0) 1
    have e2 := rnum_bs s1 6
    have e3 := rnum_bs s2 6
    rw [h1] at e1; rw [h2] at e2; rw [h3] at e3
    rw [e3, e2, e1]
  have short : b.length < 2 + 13 * i + 13 → decB b = none := fun hl => decB_len (by omega)
  rcases Nat.lt_or_ge b.length (2 + 13 * i + 1) with c1 | c1
  · have e1 : (Rdr.mk b (2 + 13 * i) 0).num 1 = (0, ⟨b, 2 + 13 * i, 10⟩) := rnum_short b (k := 1) (by omega) (by omega) c1
    rw [e1] at h1; cases h1
    rw [rnum_err (by simp)] at h2; cases h2
    rw [rnum_err (by simp)] at h3; cases h3
    exact ⟨rfl, fun h => by omega, fun _ h => by simp at h, fun _ => short (by omega), by omega, by omega, by omega⟩
  have e1 : (Rdr.mk b (2 + 13 * i) 0).num 1 = (numOf ((b.drop (2 + 13 * i)).take 1), ⟨b, 2 + 13 * i + 1, 0⟩) := rnum_at b (k := 1) (by omega) (by omega) c1
  rw [e1] at h1; cases h1
  have hf := numOf_take1 b (2 + 13 * i)
  have bad : 1 < numOf ((b.drop (2 + 13 * i)).take 1) → decB b = none := fun h => decB_none hn (m1 h)
  rcases Nat.lt_or_ge b.length (2 + 13 * i + 7) with c2 | c2
  · have e2 : (Rdr.mk b (2 + 13 * i + 1) 0).num 6 = (0, ⟨b, 2 + 13 * i + 1, 10⟩) := rnum_short b (k := 6) (by omega) (by omega) (by omega)
    rw [e2] at h2; cases h2
    rw [rnum_err (by simp)] at h3; cases h3
    exact ⟨rfl, bad, fun _ h => by simp at h, fun _ => short (by omega), hf, by omega, by omega⟩
  have e2 : (Rdr.mk b (2 + 13 * i + 1) 0).num 6 = (numOf ((b.drop (2 + 13 * i + 1)).take 6), ⟨b, 2 + 13 * i + 7, 0⟩) := rnum_at b (k := 6) (by omega) (by omega) (by omega)
  rw [e2] at h2; cases h2
  rcases Nat.lt_or_ge b.length (2 + 13 * i + 13) with c3 | c3
  · have e3 : (Rdr.mk b (2 + 13 * i + 7) 0).num 6 = (0, ⟨b, 2 + 13 * i + 7, 10⟩) := rnum_short b (k := 6) (by omega) (by omega) (by omega)
    rw [e3] at h3; cases h3
    exact ⟨rfl, bad, fun _ h => by simp at h, fun _ => short c3, hf, numOf_take6 b _, by omega⟩
  have e3 : (Rdr.mk b (2 + 13 * i + 7) 0).num 6 = (numOf ((b.drop (2 + 13 * i + 7)).take 6), ⟨b, 2 + 13 * i + 13, 0⟩) := rnum_at b (k := 6) (by omega) (by omega) (by omega)
  rw [e3] at h3; cases h3
  refine ⟨rfl, bad, fun h1 _ => ⟨by simp only; omega, ?_⟩, fun h => absurd rfl h, hf, numOf_take6 b _, numOf_take6 b _⟩
  rw [m2 c3 h1, oneD_at]
theorem beq_one (f : Nat) : ((f : Int) == 1) = (f == 1) := natcast_beq f 1
theorem dec_end {b : List UInt8} {n i : Nat} {o : List Sc} {s : Rdr} (hi : i ≤ n) (hsb : s.bs = b)
    (hgo : s.e = 0 → 2 ≤ b.length ∧ n = numOf (b.take 2) ∧ s.at_ = 2 + 13 * i ∧ restD n (b.drop 2) = (restD (n - i) (b.drop (2 + 13 * i))).map (o ++ ·)) (hno : s.e ≠ 0 → decB b = none)
    (hnot : ¬ (i < n ∧ s.e = 0)) (hra : s.at_ ≤ s.bs.length) : (s.done ≠ 0 → decB b = none) ∧ (s.done = 0 → decB b = if checkE o = 0 then some o else none) := by
  by_cases he : s.e = 0
  · obtain ⟨h1, h2, h3, h4⟩ := hgo he
    obtain rfl : i = n := by omega
    rw [hsb] at hra
    refine ⟨fun h => decB_len ?_, fun h => ?_⟩
    · simp only [Rdr.done, he, true_and, hsb] at h
      split at h
      · omega
      · exact absurd rfl h
    · simp only [Rdr.done, he, true_and, hsb] at h
      split at h
      · cases h
      · rename_i c
        have hdr : b.drop (2 + 13 * i) = [] := List.drop_eq_nil_of_le (by omega)
        rw [hdr, Nat.sub_self, restD, Option.map_some, List.append_nil] at h4
        exact decB_all h1 h2 h4
  · refine ⟨fun _ => hno he, fun h => ?_⟩
    simp [Rdr.done, he] at h
end Go.Sl
namespace Go.Proofs.Ytkkpeggkoijlhaa
open Go.Sl
set_option maxRecDepth 10000

theorem dec_ret (O : Chunk) (v : Value) (b : List UInt8) (hO : Rd O 1 v b.length (byt b)) (hl : b.length ≤ 140737488355328) (w0 : World) (H : Hp w0 [O]) :
    Ret Try.prog 19 #[v] w0 fun u w' => (decB b = none ∧ u = .tuple #[.slice none 0 0, .int .i64 100] ∧ Trs w0 w' [O] [O]) ∨
      (∃ l vc C, decB b = some l ∧ u = .tuple #[vc, .int .i64 0] ∧ Buf C 41 3 vc l.length (l.flatMap Sc.lay) ∧ Trs w0 w' [O] [O, C]) := by
  have S := St.begin H
  have hO0 := hO
  obtain ⟨ad, c, rfl⟩ := hO.slice
  refine enter1 60 Try.func19 rfl rfl (by decide) ?_; intro a E
  refine wp_seq_k ?_; intro K hK
  refine region_list ?_
  refine list_pure E rfl rfl (by decide) (rn_assign E rfl rfl) ?_; clear E a; intro a E
  refine list_pure E rfl rfl (by decide) (rn_assign E rfl rfl) ?_; clear E a; intro a E
  refine wpList_nil ?_
  refine then_k hK ?_; clear hK; clear K
  refine wp_seq_k ?_; intro K hK
  refine region_list ?_
  refine list_pure E rfl rfl (by decide) (rn_move E rfl rfl) ?_; clear E a; intro a E
  refine list_call E rfl rfl (by decide) rfl Try.func34 rfl (by kernel_rfl) rfl (reader_ret O _ b _ hO0 (S.hp.sel (sel_cons (by first | exact pk1 | exact pk2 | exact pk3 | exact pk4 | exact pk5 | exact pk6 | exact pk7 | exact pk8 | exact pk9) (sel_nil _))) hl) ?_
  rintro v10 w ⟨p, R, rfl, hR, hT⟩; clear E a; intro a E
  have S := S.call2 (sel_cons (by first | exact pk1 | exact pk2 | exact pk3 | exact pk4 | exact pk5 | exact pk6 | exact pk7 | exact pk8 | exact pk9) (sel_nil _)) hT
  refine list_pure E rfl rfl (by decide) (rn_assign E rfl rfl) ?_; clear E a; intro a E
  refine wpList_nil ?_
  refine then_k hK ?_; clear hK; clear K
  refine wp_seq_k ?_; intro K hK
  refine region_list ?_
  refine list_pure E rfl rfl (by decide) (rn_move E rfl rfl) ?_; clear E a; intro a E
  refine list_call E rfl rfl (by decide) rfl Try.func35 rfl (by kernel_rfl) rfl (rnum_ret p _ R _ hR (S.hp.sel (sel_cons (by first | exact pk1 | exact pk2 | exact pk3 | exact pk4 | exact pk5 | exact pk6 | exact pk7 | exact pk8 | exact pk9) (sel_nil _))) 2) ?_
  rintro v12 w ⟨R1, rfl, hR1, hT⟩; clear E a; intro a E
  have S := S.call1 (sel_cons (by first | exact pk1 | exact pk2 | exact pk3 | exact pk4 | exact pk5 | exact pk6 | exact pk7 | exact pk8 | exact pk9) (sel_nil _)) hT
  rcases Nat.lt_or_ge b.length 2 with h2 | h2
  · skip
    have hs : (Rdr.mk b 0 0).num 2 = (0, ⟨b, 0, 10⟩) := rnum_short b (k := 2) (by omega) (by omega) h2
    rw [hs] at E hR1; dsimp only at E hR1
    refine list_pure E rfl rfl (by decide) (rn_assign E rfl rfl) ?_; clear E a; intro a E
    refine wpList_nil ?_
    refine then_k hK ?_; clear hK; clear K
    refine wp_seq_k ?_; intro K hK
    refine region_list ?_
    refine list_pure E rfl rfl (by decide) (rn_assign E rfl rfl) ?_; clear E a; intro a E
    refine wpList_nil ?_
    refine then_k hK ?_; clear hK; clear K
    refine wp_seq_k ?_; intro K hK
    refine wp_seq_k ?_; intro K hK
    refine region_list ?_
    refine list_pure E rfl rfl (by decide) (rn_move E rfl rfl) ?_; clear E a; intro a E
    refine list_call E rfl rfl (by decide) rfl Try.func36 rfl (by kernel_rfl) rfl (left_ret p _ R1 _ hR1 (S.hp.sel (sel_cons (by first | exact pk1 | exact pk2 | exact pk3 | exact pk4 | exact pk5 | exact pk6 | exact pk7 | exact pk8 | exact pk9) (sel_nil _)))) ?_
    rintro v14 w ⟨rfl, hT⟩; clear E a; intro a E
    have S := S.call1 (sel_cons (by first | exact pk1 | exact pk2 | exact pk3 | exact pk4 | exact pk5 | exact pk6 | exact pk7 | exact pk8 | exact pk9) (sel_nil _)) hT; rw [show (Rdr.mk b 0 10).left = (b.length : Int) by simp [Rdr.left]] at E
    refine list_pure E rfl rfl (by decide) (by first | exact rn_convert E rfl rfl rfl rfl (by first | exact wu8 _ | exact w_nat (by omega) | exact w_natu (by omega) | exact w_in (by omega) | exact w_inu (by omega) | exact rfl) | exact rn_string E rfl rfl rfl rfl rfl (by assumption) (S.stab.at (by simp))) ?_; clear E a; intro a E
    refine list_pure E rfl rfl (by decide) (rn_move E rfl rfl) ?_; clear E a; intro a E
    refine list_pure E rfl rfl (by decide) (rn_mul E rfl rfl rfl (by first | exact wm_lit (x := 13) (by omega) | exact wm_litu (x := 13) (by omega) | exact w_in (by omega) | exact rfl)) ?_; clear E a; intro a E
    refine list_pure E rfl rfl (by decide) (by first | exact rn_neq E rfl rfl rfl | exact rn_neq_ptr_nil E rfl rfl rfl rfl | exact rn_neq_bool E rfl rfl rfl rfl | exact rn_neq_string E rfl rfl rfl) ?_; clear E a; intro a E
    refine list_pure E rfl rfl (by decide) (rn_move E rfl rfl) ?_; clear E a; intro a E
    refine guard_split E (t := 19) rfl (fun hb19 => ?_) (fun hb19 => ?_)
    · have hb19n := hb19; first | replace hb19n := n1 hb19n | replace hb19n := n2 hb19n | replace hb19n := n3 hb19n | replace hb19n := n4 hb19n | replace hb19n := n5 hb19n | replace hb19n := n6 hb19n | skip
      refine list_guard_no E rfl rfl rfl rfl hb19 rfl (by decide) ?_; clear E a; intro a E
      refine list_guard_no E rfl rfl rfl rfl hb19 rfl (by decide) ?_; clear E a; intro a E
      refine list_guard_no E rfl rfl rfl rfl hb19 rfl (by decide) ?_; clear E a; intro a E
      refine list_guard_no E rfl rfl rfl rfl hb19 rfl (by decide) ?_; clear E a; intro a E
      refine list_guard_undef E rfl rfl rfl rfl rfl (by decide) ?_; clear E a; intro a E
      refine list_guard_undef E rfl rfl rfl rfl rfl (by decide) ?_; clear E a; intro a E
      refine list_guard_undef E rfl rfl rfl rfl rfl (by decide) ?_; clear E a; intro a E
      refine list_guard_no E rfl rfl rfl rfl hb19 rfl (by decide) ?_; clear E a; intro a E
      refine list_pure E rfl rfl (by decide) (rn_pick_yes' E rfl rfl hb19 rfl) ?_; clear E a; intro a E
      refine wpList_nil ?_
      refine then_k hK ?_; clear hK; clear K
      refine if_true' E rfl rfl ?_
      refine wp_seq_k ?_; intro K hK
      replace E := E.keep (e' := [(2, _), (3, _), (4, _), (5, _), (6, _)]) (keep_cons rfl (keep_cons rfl (keep_cons rfl (keep_cons rfl (keep_cons rfl (keep_nil))))))
      refine region_list ?_
      refine list_pure E rfl rfl (by decide) (rn_assign E rfl rfl) ?_; clear E a; intro a E
      refine list_pure E rfl rfl (by decide) (rn_assign E rfl rfl) ?_; clear E a; intro a E
      refine wpList_nil ?_
      refine then_k hK ?_; clear hK; clear K
      refine wp_ret ?_
      refine then_ret ?_; clear hK; clear K
      refine ret2 E rfl rfl rfl ?_
      exact ⟨_, rfl, .inl ⟨decB_short h2, rfl, (S.only (Bs := [O]) (sel_cons (by first | exact pk1 | exact pk2 | exact pk3 | exact pk4 | exact pk5 | exact pk6 | exact pk7 | exact pk8 | exact pk9) (sel_nil _))).tr⟩⟩
    · have hb19n := hb19; first | replace hb19n := n1 hb19n | replace hb19n := n2 hb19n | replace hb19n := n3 hb19n | replace hb19n := n4 hb19n | replace hb19n := n5 hb19n | replace hb19n := n6 hb19n | skip
      refine list_guard_yes E rfl rfl rfl rfl hb19 rfl (by decide) (rn_move E rfl rfl) ?_; clear E a; intro a E
      refine list_guard_wp E rfl rfl rfl rfl hb19 ?_; refine wp_call' E rfl (by decide) rfl Try.func36 rfl (by kernel_rfl) rfl (left_ret p _ R1 _ hR1 (S.hp.sel (sel_cons (by first | exact pk1 | exact pk2 | exact pk3 | exact pk4 | exact pk5 | exact pk6 | exact pk7 | exact pk8 | exact pk9) (sel_nil _)))) ?_
      rintro v21 w ⟨rfl, hT⟩; clear E a; intro a E
      have S := S.call1 (sel_cons (by first | exact pk1 | exact pk2 | exact pk3 | exact pk4 | exact pk5 | exact pk6 | exact pk7 | exact pk8 | exact pk9) (sel_nil _)) hT; rw [show (Rdr.mk b 0 10).left = (b.length : Int) by simp [Rdr.left]] at E
      refine list_guard_yes E rfl rfl rfl rfl hb19 rfl (by decide) (by first | exact rn_eql E rfl rfl rfl | exact rn_eql_ptr_nil E rfl rfl rfl rfl | exact rn_eql_bool E rfl rfl rfl rfl | exact rn_eql_string E rfl rfl rfl) ?_; clear E a; intro a E
      refine list_guard_yes E rfl rfl rfl rfl hb19 rfl (by decide) (rn_move E rfl rfl) ?_; clear E a; intro a E
      refine guard_true E (t := 23) rfl ((by rw [beq_iff_eq]; have := hb19n; omega)) (fun hb23 => ?_)
      refine list_guard_yes E rfl rfl rfl rfl hb23 rfl (by decide) (rn_move E rfl rfl) ?_; clear E a; intro a E
      refine list_guard_yes E rfl rfl rfl rfl hb23 rfl (by decide) (by first | exact rn_len E rfl rfl rfl | exact rn_len_str E rfl rfl rfl | exact rn_len_string E rfl rfl rfl) ?_; clear E a; intro a E
      refine list_guard_yes E rfl rfl rfl rfl hb23 rfl (by decide) (by first | exact rn_neq E rfl rfl rfl | exact rn_neq_ptr_nil E rfl rfl rfl rfl | exact rn_neq_bool E rfl rfl rfl rfl | exact rn_neq_string E rfl rfl rfl) ?_; clear E a; intro a E
      refine list_guard_yes E rfl rfl rfl rfl hb19 rfl (by decide) (rn_pick_yes' E rfl rfl hb23 rfl) ?_; clear E a; intro a E
      refine list_pure E rfl rfl (by decide) (rn_pick_no' E rfl rfl hb19 rfl) ?_; clear E a; intro a E
      refine wpList_nil ?_
      refine then_k hK ?_; clear hK; clear K
      refine if_true' E rfl ((by rw [bne_iff_ne]; omega)) ?_
      refine wp_seq_k ?_; intro K hK
      replace E := E.keep (e' := [(2, _), (3, _), (4, _), (5, _), (6, _)]) (keep_cons rfl (keep_cons rfl (keep_cons rfl (keep_cons rfl (keep_cons rfl (keep_nil))))))
      refine region_list ?_
      refine list_pure E rfl rfl (by decide) (rn_assign E rfl rfl) ?_; clear E a; intro a E
      refine list_pure E rfl rfl (by decide) (rn_assign E rfl rfl) ?_; clear E a; intro a E
      refine wpList_nil ?_
      refine then_k hK ?_; clear hK; clear K
      refine wp_ret ?_
      refine then_ret ?_; clear hK; clear K
      refine ret2 E rfl rfl rfl ?_
      exact ⟨_, rfl, .inl ⟨decB_short h2, rfl, (S.only (Bs := [O]) (sel_cons (by first | exact pk1 | exact pk2 | exact pk3 | exact pk4 | exact pk5 | exact pk6 | exact pk7 | exact pk8 | exact pk9) (sel_nil _))).tr⟩⟩
  · skip
    have hs : (Rdr.mk b 0 0).num 2 = (numOf (b.take 2), ⟨b, 2, 0⟩) := by have := rnum_at b (q := 0) (k := 2) (by omega) (by omega) (by omega); simpa using this
    rw [hs] at E hR1; dsimp only at E hR1
    obtain ⟨n, hn⟩ : ∃ n, n = numOf (b.take 2) := ⟨_, rfl⟩
    have hn2 := numOf_take2 b
    rw [← hn] at E hn2
    refine list_pure E rfl rfl (by decide) (rn_assign E rfl rfl) ?_; clear E a; intro a E
    refine wpList_nil ?_
    refine then_k hK ?_; clear hK; clear K
    refine wp_seq_k ?_; intro K hK
    refine region_list ?_
    refine list_pure E rfl rfl (by decide) (rn_assign E rfl rfl) ?_; clear E a; intro a E
    refine wpList_nil ?_
    refine then_k hK ?_; clear hK; clear K
    refine wp_seq_k ?_; intro K hK
    refine wp_seq_k ?_; intro K hK
    refine wp_join (fun (a : Act) (w' : World) => ∃ bt : Bool, (bt = true → b.length ≠ 2 + 13 * n) ∧ (bt = false → b.length = 2 + 13 * n) ∧ St w0 [O] w' [R1, O] ∧ Fr a 60 [(4, ptr p), (5, .int .u64 n), (6, .slice none 0 0), (28, .bool bt)]) ?_ ?_
    · skip
      refine region_list ?_
      refine list_pure E rfl rfl (by decide) (rn_move E rfl rfl) ?_; clear E a; intro a E
      refine list_call E rfl rfl (by decide) rfl Try.func36 rfl (by kernel_rfl) rfl (left_ret p _ R1 _ hR1 (S.hp.sel (sel_cons (by first | exact pk1 | exact pk2 | exact pk3 | exact pk4 | exact pk5 | exact pk6 | exact pk7 | exact pk8 | exact pk9) (sel_nil _)))) ?_
      rintro v14 w ⟨rfl, hT⟩; clear E a; intro a E
      have S := S.call1 (sel_cons (by first | exact pk1 | exact pk2 | exact pk3 | exact pk4 | exact pk5 | exact pk6 | exact pk7 | exact pk8 | exact pk9) (sel_nil _)) hT; rw [show (Rdr.mk b 2 0).left = ((b.length - 2 : Nat) : Int) by simp [Rdr.left]; omega] at E
      refine list_pure E rfl rfl (by decide) (by first | exact rn_convert E rfl rfl rfl rfl (by first | exact wu8 _ | exact w_nat (by omega) | exact w_natu (by omega) | exact w_in (by omega) | exact w_inu (by omega) | exact rfl) | exact rn_string E rfl rfl rfl rfl rfl (by assumption) (S.stab.at (by simp))) ?_; clear E a; intro a E
      refine list_pure E rfl rfl (by decide) (rn_move E rfl rfl) ?_; clear E a; intro a E
      refine list_pure E rfl rfl (by decide) (rn_mul E rfl rfl rfl (by first | exact wm_lit (x := 13) (by omega) | exact wm_litu (x := 13) (by omega) | exact w_in (by omega) | exact rfl)) ?_; clear E a; intro a E
      refine list_pure E rfl rfl (by decide) (by first | exact rn_neq E rfl rfl rfl | exact rn_neq_ptr_nil E rfl rfl rfl rfl | exact rn_neq_bool E rfl rfl rfl rfl | exact rn_neq_string E rfl rfl rfl) ?_; clear E a; intro a E
      refine list_pure E rfl rfl (by decide) (rn_move E rfl rfl) ?_; clear E a; intro a E
      refine guard_split E (t := 19) rfl (fun hb19 => ?_) (fun hb19 => ?_)
      · have hb19n := hb19; first | replace hb19n := n1 hb19n | replace hb19n := n2 hb19n | replace hb19n := n3 hb19n | replace hb19n := n4 hb19n | replace hb19n := n5 hb19n | replace hb19n := n6 hb19n | skip
        refine list_guard_no E rfl rfl rfl rfl hb19 rfl (by decide) ?_; clear E a; intro a E
        refine list_guard_no E rfl rfl rfl rfl hb19 rfl (by decide) ?_; clear E a; intro a E
        refine list_guard_no E rfl rfl rfl rfl hb19 rfl (by decide) ?_; clear E a; intro a E
        refine list_guard_no E rfl rfl rfl rfl hb19 rfl (by decide) ?_; clear E a; intro a E
        refine list_guard_undef E rfl rfl rfl rfl rfl (by decide) ?_; clear E a; intro a E
        refine list_guard_undef E rfl rfl rfl rfl rfl (by decide) ?_; clear E a; intro a E
        refine list_guard_undef E rfl rfl rfl rfl rfl (by decide) ?_; clear E a; intro a E
        refine list_guard_no E rfl rfl rfl rfl hb19 rfl (by decide) ?_; clear E a; intro a E
        refine list_pure E rfl rfl (by decide) (rn_pick_yes' E rfl rfl hb19 rfl) ?_; clear E a; intro a E
        refine wpList_nil ?_
        refine joined_here ?_
        exact ⟨true, fun _ => by omega, fun h => (by cases h), S, E.keep (keep_cons rfl (keep_cons rfl (keep_cons rfl (keep_cons rfl keep_nil))))⟩
      · have hb19n := hb19; first | replace hb19n := n1 hb19n | replace hb19n := n2 hb19n | replace hb19n := n3 hb19n | replace hb19n := n4 hb19n | replace hb19n := n5 hb19n | replace hb19n := n6 hb19n | skip
        refine list_guard_yes E rfl rfl rfl rfl hb19 rfl (by decide) (rn_move E rfl rfl) ?_; clear E a; intro a E
        refine list_guard_wp E rfl rfl rfl rfl hb19 ?_; refine wp_call' E rfl (by decide) rfl Try.func36 rfl (by kernel_rfl) rfl (left_ret p _ R1 _ hR1 (S.hp.sel (sel_cons (by first | exact pk1 | exact pk2 | exact pk3 | exact pk4 | exact pk5 | exact pk6 | exact pk7 | exact pk8 | exact pk9) (sel_nil _)))) ?_
        rintro v21 w ⟨rfl, hT⟩; clear E a; intro a E
        have S := S.call1 (sel_cons (by first | exact pk1 | exact pk2 | exact pk3 | exact pk4 | exact pk5 | exact pk6 | exact pk7 | exact pk8 | exact pk9) (sel_nil _)) hT; rw [show (Rdr.mk b 2 0).left = ((b.length - 2 : Nat) : Int) by simp [Rdr.left]; omega] at E
        refine list_guard_yes E rfl rfl rfl rfl hb19 rfl (by decide) (by first | exact rn_eql E rfl rfl rfl | exact rn_eql_ptr_nil E rfl rfl rfl rfl | exact rn_eql_bool E rfl rfl rfl rfl | exact rn_eql_string E rfl rfl rfl) ?_; clear E a; intro a E
        refine list_guard_yes E rfl rfl rfl rfl hb19 rfl (by decide) (rn_move E rfl rfl) ?_; clear E a; intro a E
        refine guard_split E (t := 23) rfl (fun hb23 => ?_) (fun hb23 => ?_)
        · have hb23n := hb23; first | replace hb23n := n1 hb23n | replace hb23n := n2 hb23n | replace hb23n := n3 hb23n | replace hb23n := n4 hb23n | replace hb23n := n5 hb23n | replace hb23n := n6 hb23n | skip
          refine list_guard_yes E rfl rfl rfl rfl hb23 rfl (by decide) (rn_move E rfl rfl) ?_; clear E a; intro a E
          refine list_guard_yes E rfl rfl rfl rfl hb23 rfl (by decide) (by first | exact rn_len E rfl rfl rfl | exact rn_len_str E rfl rfl rfl | exact rn_len_string E rfl rfl rfl) ?_; clear E a; intro a E
          refine list_guard_yes E rfl rfl rfl rfl hb23 rfl (by decide) (by first | exact rn_neq E rfl rfl rfl | exact rn_neq_ptr_nil E rfl rfl rfl rfl | exact rn_neq_bool E rfl rfl rfl rfl | exact rn_neq_string E rfl rfl rfl) ?_; clear E a; intro a E
          refine list_guard_yes E rfl rfl rfl rfl hb19 rfl (by decide) (rn_pick_yes' E rfl rfl hb23 rfl) ?_; clear E a; intro a E
          refine list_pure E rfl rfl (by decide) (rn_pick_no' E rfl rfl hb19 rfl) ?_; clear E a; intro a E
          refine wpList_nil ?_
          refine joined_here ?_
          exact ⟨_, fun h => by simp at h; omega, fun _ => by omega, S, E.keep (keep_cons rfl (keep_cons rfl (keep_cons rfl (keep_cons rfl keep_nil))))⟩
        · have hb23n := hb23; first | replace hb23n := n1 hb23n | replace hb23n := n2 hb23n | replace hb23n := n3 hb23n | replace hb23n := n4 hb23n | replace hb23n := n5 hb23n | replace hb23n := n6 hb23n | skip
          refine list_guard_no E rfl rfl rfl rfl hb23 rfl (by decide) ?_; clear E a; intro a E
          refine list_guard_no E rfl rfl rfl rfl hb23 rfl (by decide) ?_; clear E a; intro a E
          refine list_guard_no E rfl rfl rfl rfl hb23 rfl (by decide) ?_; clear E a; intro a E
          refine list_guard_yes E rfl rfl rfl rfl hb19 rfl (by decide) (rn_pick_no' E rfl rfl hb23 rfl) ?_; clear E a; intro a E
          refine list_pure E rfl rfl (by decide) (rn_pick_no' E rfl rfl hb19 rfl) ?_; clear E a; intro a E
          refine wpList_nil ?_
          refine joined_here ?_
          exact ⟨false, fun h => (by cases h), fun _ => by omega, S, E.keep (keep_cons rfl (keep_cons rfl (keep_cons rfl (keep_cons rfl keep_nil))))⟩
    · clear E S a; intro a w J; obtain ⟨bt, hbt1, hbt2, S, E⟩ := J
      refine then_k hK ?_; clear hK; clear K
      refine if_bool E rfl (fun hb => ?_) (fun hb => ?_)
      · first | replace hb := n1 hb | replace hb := n2 hb | replace hb := n3 hb | replace hb := n4 hb | replace hb := n5 hb | replace hb := n6 hb | skip
        skip
        refine wp_seq_k ?_; intro K hK
        refine region_list ?_
        refine list_pure E rfl rfl (by decide) (rn_assign E rfl rfl) ?_; clear E a; intro a E
        refine list_pure E rfl rfl (by decide) (rn_assign E rfl rfl) ?_; clear E a; intro a E
        refine wpList_nil ?_
        refine then_k hK ?_; clear hK; clear K
        refine wp_ret ?_
        refine then_ret ?_; clear hK; clear K
        refine ret2 E rfl rfl rfl ?_
        exact ⟨_, rfl, .inl ⟨decB_len (by rw [← hn]; exact hbt1 hb), rfl, (S.only (Bs := [O]) (sel_cons (by first | exact pk1 | exact pk2 | exact pk3 | exact pk4 | exact pk5 | exact pk6 | exact pk7 | exact pk8 | exact pk9) (sel_nil _))).tr⟩⟩
      · first | replace hb := n1 hb | replace hb := n2 hb | replace hb := n3 hb | replace hb := n4 hb | replace hb := n5 hb | replace hb := n6 hb | skip
        have hlen := hbt2 hb
        refine wp_skip ?_
        refine then_k hK ?_; clear hK; clear K
        refine wp_seq_k ?_; intro K hK
        refine wp_seq_k ?_; intro K hK
        refine region_list ?_
        refine list_pure E rfl rfl (by decide) (rn_move E rfl rfl) ?_; clear E a; intro a E
        refine list_pure E rfl rfl (by decide) (rn_move E rfl rfl) ?_; clear E a; intro a E
        refine wpList_nil ?_
        refine then_k hK ?_; clear hK; clear K
        refine wp_block ?_
        refine wp_loop_ghost (fun (m : Nat) (a : Act) (w' : World) => ∃ (i : Nat) (o : List Sc) (R C : Chunk) (vo : Value), m = n - i ∧ i ≤ n ∧ o.length = i ∧ restD n (b.drop 2) = (restD (n - i) (b.drop (2 + 13 * i))).map (o ++ ·) ∧ RdC 88 p ⟨b, 2 + 13 * i, 0⟩ R ∧ Buf C 41 3 vo o.length (o.flatMap Sc.lay) ∧ (∃ Ls, St w0 [O] w' (R :: C :: O :: Ls)) ∧ Fr a 60 [(4, ptr p), (6, vo), (29, .int .u64 n), (30, .int .u64 i)]) (n - 0) ?_ ?_
        · exact ⟨0, [], R1, [], _, rfl, by omega, rfl, by simp, hR1, Buf.nil _ _, ⟨_, S.addNil.front3 (by first | exact pk1 | exact pk2 | exact pk3 | exact pk4 | exact pk5 | exact pk6 | exact pk7 | exact pk8 | exact pk9) (by first | exact pk1 | exact pk2 | exact pk3 | exact pk4 | exact pk5 | exact pk6 | exact pk7 | exact pk8 | exact pk9) (C := O) (by first | exact pk1 | exact pk2 | exact pk3 | exact pk4 | exact pk5 | exact pk6 | exact pk7 | exact pk8 | exact pk9)⟩, E.keep (keep_cons rfl (keep_cons rfl (keep_cons rfl (keep_cons rfl keep_nil))))⟩
        clear E; clear a; rintro m a w ⟨i, o, R, C, vo, rfl, hi, hol, hrest, hR, hC, ⟨Ls, S⟩, E⟩
        refine wp_seq_k ?_; intro K hK
        refine region_list ?_
        refine list_pure E rfl rfl (by decide) (rn_lss E rfl rfl rfl) ?_; clear E a; intro a E
        refine wpList_nil ?_
        refine then_k hK ?_; clear hK; clear K
        refine wp_seq_k ?_; intro K hK
        refine if_bool E rfl (fun hb => ?_) (fun hb => ?_)
        · first | replace hb := n1 hb | replace hb := n2 hb | replace hb := n3 hb | replace hb := n4 hb | replace hb := n5 hb | replace hb := n6 hb | skip
          refine wp_skip ?_
          refine then_k hK ?_; clear hK; clear K
          refine wp_seq_k ?_; intro K hK
          refine wp_block ?_
          refine wp_seq_k ?_; intro K hK
          have hin : i < n := by omega
          obtain ⟨m1, m2⟩ := rest_more hin hrest
          have hq1 : (Rdr.mk b (2 + 13 * i) 0).num 1 = (numOf ((b.drop (2 + 13 * i)).take 1), ⟨b, 2 + 13 * i + 1, 0⟩) := rnum_at b (k := 1) (by omega) (by omega) (by omega)
          have hq2 : (Rdr.mk b (2 + 13 * i + 1) 0).num 6 = (numOf ((b.drop (2 + 13 * i + 1)).take 6), ⟨b, 2 + 13 * i + 7, 0⟩) := rnum_at b (k := 6) (by omega) (by omega) (by omega)
          have hq3 : (Rdr.mk b (2 + 13 * i + 7) 0).num 6 = (numOf ((b.drop (2 + 13 * i + 7)).take 6), ⟨b, 2 + 13 * i + 13, 0⟩) := rnum_at b (k := 6) (by omega) (by omega) (by omega)
          have hd := oneD_at b (2 + 13 * i)
          have hf1 := numOf_take1 b (2 + 13 * i)
          have hf2 := numOf_take6 b (2 + 13 * i + 1)
          have hf3 := numOf_take6 b (2 + 13 * i + 7)
          obtain ⟨f, hf⟩ : ∃ f, f = numOf ((b.drop (2 + 13 * i)).take 1) := ⟨_, rfl⟩
          obtain ⟨xa, hxa⟩ : ∃ xa, xa = numOf ((b.drop (2 + 13 * i + 1)).take 6) := ⟨_, rfl⟩
          obtain ⟨xm, hxm⟩ : ∃ xm, xm = numOf ((b.drop (2 + 13 * i + 7)).take 6) := ⟨_, rfl⟩
          rw [← hf] at hq1 hd hf1 m1 m2
          rw [← hxa] at hq2 hd hf2
          rw [← hxm] at hq3 hd hf3
          refine region_list ?_
          refine list_pure E rfl rfl (by decide) (rn_move E rfl rfl) ?_; clear E a; intro a E
          refine list_call E rfl rfl (by decide) rfl Try.func35 rfl (by kernel_rfl) rfl (rnum_ret p _ R _ hR (S.hp.sel (sel_cons (by first | exact pk1 | exact pk2 | exact pk3 | exact pk4 | exact pk5 | exact pk6 | exact pk7 | exact pk8 | exact pk9) (sel_nil _))) 1) ?_
          rintro v33 w ⟨R2, rfl, hR2, hT⟩; clear E a; intro a E
          have S := S.call1 (sel_cons (by first | exact pk1 | exact pk2 | exact pk3 | exact pk4 | exact pk5 | exact pk6 | exact pk7 | exact pk8 | exact pk9) (sel_nil _)) hT; rw [hq1] at E hR2; dsimp only at E hR2
          refine list_pure E rfl rfl (by decide) (rn_assign E rfl rfl) ?_; clear E a; intro a E
          refine wpList_nil ?_
          refine then_k hK ?_; clear hK; clear K
          refine wp_seq_k ?_; intro K hK
          refine region_list ?_
          refine list_pure E rfl rfl (by decide) (rn_move E rfl rfl) ?_; clear E a; intro a E
          refine list_pure E rfl rfl (by decide) (by first | exact rn_eql E rfl rfl rfl | exact rn_eql_ptr_nil E rfl rfl rfl rfl | exact rn_eql_bool E rfl rfl rfl rfl | exact rn_eql_string E rfl rfl rfl) ?_; clear E a; intro a E
          refine list_pure E rfl rfl (by decide) (rn_move E rfl rfl) ?_; clear E a; intro a E
          refine list_call E rfl rfl (by decide) rfl Try.func35 rfl (by kernel_rfl) rfl (rnum_ret p _ R2 _ hR2 (S.hp.sel (sel_cons (by first | exact pk1 | exact pk2 | exact pk3 | exact pk4 | exact pk5 | exact pk6 | exact pk7 | exact pk8 | exact pk9) (sel_nil _))) 6) ?_
          rintro v37 w ⟨R3, rfl, hR3, hT⟩; clear E a; intro a E
          have S := S.call1 (sel_cons (by first | exact pk1 | exact pk2 | exact pk3 | exact pk4 | exact pk5 | exact pk6 | exact pk7 | exact pk8 | exact pk9) (sel_nil _)) hT; rw [hq2] at E hR3; dsimp only at E hR3
          refine list_pure E rfl rfl (by decide) (by first | exact rn_convert E rfl rfl rfl rfl (by first | exact wu8 _ | exact w_nat (by omega) | exact w_natu (by omega) | exact w_in (by omega) | exact w_inu (by omega) | exact rfl) | exact rn_string E rfl rfl rfl rfl rfl (by assumption) (S.stab.at (by simp))) ?_; clear E a; intro a E
          refine list_pure E rfl rfl (by decide) (rn_move E rfl rfl) ?_; clear E a; intro a E
          refine list_call E rfl rfl (by decide) rfl Try.func35 rfl (by kernel_rfl) rfl (rnum_ret p _ R3 _ hR3 (S.hp.sel (sel_cons (by first | exact pk1 | exact pk2 | exact pk3 | exact pk4 | exact pk5 | exact pk6 | exact pk7 | exact pk8 | exact pk9) (sel_nil _))) 6) ?_
          rintro v40 w ⟨R4, rfl, hR4, hT⟩; clear E a; intro a E
          have S := S.call1 (sel_cons (by first | exact pk1 | exact pk2 | exact pk3 | exact pk4 | exact pk5 | exact pk6 | exact pk7 | exact pk8 | exact pk9) (sel_nil _)) hT; rw [hq3] at E hR4; dsimp only at E hR4
          refine list_pure E rfl rfl (by decide) (by first | exact rn_convert E rfl rfl rfl rfl (by first | exact wu8 _ | exact w_nat (by omega) | exact w_natu (by omega) | exact w_in (by omega) | exact w_inu (by omega) | exact rfl) | exact rn_string E rfl rfl rfl rfl rfl (by assumption) (S.stab.at (by simp))) ?_; clear E a; intro a E
          refine list_pure E rfl rfl (by decide) (rn_build (cells := [_, _]) E rfl rfl rfl) ?_; clear E a; intro a E
          refine list_pure E rfl rfl (by decide) (rn_build (cells := [_, _, _]) E rfl rfl rfl) ?_; clear E a; intro a E
          refine list_wp rfl (wp_alloc E S rfl rfl (by decide) rfl rfl rfl ?_); clear E S a; intro a w b8 E S
          refine list_wp rfl (wp_storeN E S rfl rfl rfl rfl (by simp [Value.oneCell']) rfl (by first | exact pk1 | exact pk2 | exact pk3 | exact pk4 | exact pk5 | exact pk6 | exact pk7 | exact pk8 | exact pk9) (by simp) ?_); clear E S a; intro a w E S; simp only [List.take_succ_cons, List.take_zero, List.drop_succ_cons, List.drop_zero, List.cons_append, List.nil_append, List.append_nil, List.length_cons, List.length_nil, Nat.zero_add, Nat.add_zero] at S
          refine wpList_nil ?_
          refine then_k hK ?_; clear hK; clear K
          refine wp_seq_k ?_; intro K hK
          refine wp_seq_k ?_; intro K hK
          refine region_list ?_
          refine list_pure E rfl rfl (by decide) (rn_move E rfl rfl) ?_; clear E a; intro a E
          refine list_pure E rfl rfl (by decide) (rn_gtr E rfl rfl rfl) ?_; clear E a; intro a E
          refine wpList_nil ?_
          refine then_k hK ?_; clear hK; clear K
          refine if_bool E rfl (fun hb => ?_) (fun hb => ?_)
          · first | replace hb := n1 hb | replace hb := n2 hb | replace hb := n3 hb | replace hb := n4 hb | replace hb := n5 hb | replace hb := n6 hb | skip
            refine wp_seq_k ?_; intro K hK
            refine region_list ?_
            refine list_pure E rfl rfl (by decide) (rn_assign E rfl rfl) ?_; clear E a; intro a E
            refine list_pure E rfl rfl (by decide) (rn_assign E rfl rfl) ?_; clear E a; intro a E
            refine wpList_nil ?_
            refine then_k hK ?_; clear hK; clear K
            refine wp_ret ?_
            refine then_ret ?_; clear hK; clear K
            refine in_ret ?_
            refine then_ret ?_; clear hK; clear K
            refine then_ret ?_
            refine in_ret ?_
            refine then_ret ?_; clear hK; clear K
            refine ret2 E rfl rfl rfl ?_
            exact ⟨_, rfl, .inl ⟨decB_none hn (m1 (by omega)), rfl, (S.only (Bs := [O]) (sel_cons (by first | exact pk1 | exact pk2 | exact pk3 | exact pk4 | exact pk5 | exact pk6 | exact pk7 | exact pk8 | exact pk9) (sel_nil _))).tr⟩⟩
          · first | replace hb := n1 hb | replace hb := n2 hb | replace hb := n3 hb | replace hb := n4 hb | replace hb := n5 hb | replace hb := n6 hb | skip
            refine wp_skip ?_
            refine then_k hK ?_; clear hK; clear K
            refine region_list ?_
            refine list_pure E rfl rfl (by decide) (rn_move E rfl rfl) ?_; clear E a; intro a E
            refine list_pure E rfl rfl (by decide) (rn_load_blk (vs := [_, _, _]) E rfl rfl rfl (S.get (by first | exact pk1 | exact pk2 | exact pk3 | exact pk4 | exact pk5 | exact pk6 | exact pk7 | exact pk8 | exact pk9)) rfl rfl) ?_; clear E a; intro a E
            refine list_wp rfl (wp_bslice (cells := [_, _, _]) E S rfl rfl (by decide) rfl rfl rfl rfl rfl (by decide) rfl ?_); clear E S a; intro a w b48 E S
            refine list_wp rfl (wp_append (by' := 24) E S rfl rfl (by decide) rfl rfl hC (by first | exact pk1 | exact pk2 | exact pk3 | exact pk4 | exact pk5 | exact pk6 | exact pk7 | exact pk8 | exact pk9) ((sc1 _ _ _ _ _).src (S.stab.at (by first | exact mm1 | exact mm2 | exact mm3 | exact mm4 | exact mm5 | exact mm6 | exact mm7 | exact mm8)) rfl) rfl rfl rfl rfl rfl rfl (by simp only [maxLen]; omega) (by omega) ?_); clear E S a; intro a w v49 C49 E S hB49
            refine list_pure E rfl rfl (by decide) (rn_assign E rfl rfl) ?_; clear E a; intro a E
            refine wpList_nil ?_
            refine in_normal ?_
            refine then_k hK ?_; clear hK; clear K
            refine region_list ?_
            refine list_pure E rfl rfl (by decide) (rn_add E rfl rfl rfl (by first | exact wa_lit (y := 1) (by omega) | exact w_in (by omega) | exact w_inu (by omega) | exact rfl)) ?_; clear E a; intro a E
            refine list_pure E rfl rfl (by decide) (rn_move E rfl rfl) ?_; clear E a; intro a E
            refine wpList_nil ?_
            refine then_normal ?_
            have hm2 := m2 (by omega) (by omega)
            rw [hd] at hm2
            exact ⟨_, by omega, i + 1, o ++ [⟨f == 1, ⟨xa, xm⟩⟩], R4, C49, v49, rfl, by omega, by simp [hol], hm2, hR4, by simpa [Sc.lay, beq_one f] using hB49, ⟨_, S.front3 (by first | exact pk1 | exact pk2 | exact pk3 | exact pk4 | exact pk5 | exact pk6 | exact pk7 | exact pk8 | exact pk9) (by first | exact pk1 | exact pk2 | exact pk3 | exact pk4 | exact pk5 | exact pk6 | exact pk7 | exact pk8 | exact pk9) (C := O) (by first | exact pk1 | exact pk2 | exact pk3 | exact pk4 | exact pk5 | exact pk6 | exact pk7 | exact pk8 | exact pk9)⟩, E.keep (keep_cons rfl (keep_cons rfl (keep_cons rfl (keep_cons rfl keep_nil))))⟩
        · first | replace hb := n1 hb | replace hb := n2 hb | replace hb := n3 hb | replace hb := n4 hb | replace hb := n5 hb | replace hb := n6 hb | skip
          refine wp_exit ?_
          refine then_exit ?_; clear hK; clear K
          refine then_exit ?_
          refine in_exit ?_
          refine then_k hK ?_; clear hK; clear K
          refine wp_seq_k ?_; intro K hK
          refine wp_seq_k ?_; intro K hK
          obtain rfl : i = n := by omega
          have hdr : b.drop (2 + 13 * i) = [] := List.drop_eq_nil_of_le (by omega)
          rw [hdr, Nat.sub_self, restD, Option.map_some, List.append_nil] at hrest
          have hall := decB_all h2 hn hrest
          refine region_list ?_
          refine list_pure E rfl rfl (by decide) (rn_move E rfl rfl) ?_; clear E a; intro a E
          refine list_call E rfl rfl (by decide) rfl Try.func37 rfl (by kernel_rfl) rfl (rdone_ret p _ R _ hR (S.hp.sel (sel_cons (by first | exact pk1 | exact pk2 | exact pk3 | exact pk4 | exact pk5 | exact pk6 | exact pk7 | exact pk8 | exact pk9) (sel_nil _)))) ?_
          rintro v52 w ⟨rfl, hT⟩; clear E a; intro a E
          have S := S.call1 (sel_cons (by first | exact pk1 | exact pk2 | exact pk3 | exact pk4 | exact pk5 | exact pk6 | exact pk7 | exact pk8 | exact pk9) (sel_nil _)) hT; rw [show (Rdr.mk b (2 + 13 * i) 0).done = 0 by simp [Rdr.done]; omega] at E
          refine list_pure E rfl rfl (by decide) (by first | exact rn_neq E rfl rfl rfl | exact rn_neq_ptr_nil E rfl rfl rfl rfl | exact rn_neq_bool E rfl rfl rfl rfl | exact rn_neq_string E rfl rfl rfl) ?_; clear E a; intro a E
          refine list_pure E rfl rfl (by decide) (rn_move E rfl rfl) ?_; clear E a; intro a E
          refine guard_false E (t := 54) rfl (rfl) (fun hb54 => ?_)
          refine list_guard_yes E rfl rfl rfl rfl hb54 rfl (by decide) (rn_move E rfl rfl) ?_; clear E a; intro a E
          refine list_guard_wp E rfl rfl rfl rfl hb54 ?_; refine wp_call' E rfl (by decide) rfl Try.func22 rfl (by kernel_rfl) rfl (check_ret C _ o hC.rd (by omega) _ (S.hp.sel (sel_cons (by first | exact pk1 | exact pk2 | exact pk3 | exact pk4 | exact pk5 | exact pk6 | exact pk7 | exact pk8 | exact pk9) (sel_nil _)))) ?_
          rintro v56 w ⟨rfl, hT⟩; clear E a; intro a E
          have S := S.call1 (sel_cons (by first | exact pk1 | exact pk2 | exact pk3 | exact pk4 | exact pk5 | exact pk6 | exact pk7 | exact pk8 | exact pk9) (sel_nil _)) hT
          refine list_guard_yes E rfl rfl rfl rfl hb54 rfl (by decide) (by first | exact rn_neq E rfl rfl rfl | exact rn_neq_ptr_nil E rfl rfl rfl rfl | exact rn_neq_bool E rfl rfl rfl rfl | exact rn_neq_string E rfl rfl rfl) ?_; clear E a; intro a E
          refine list_pure E rfl rfl (by decide) (rn_pick_no' E rfl rfl hb54 rfl) ?_; clear E a; intro a E
          refine wpList_nil ?_
          refine then_k hK ?_; clear hK; clear K
          refine if_bool E rfl (fun hb => ?_) (fun hb => ?_)
          · first | replace hb := n1 hb | replace hb := n2 hb | replace hb := n3 hb | replace hb := n4 hb | replace hb := n5 hb | replace hb := n6 hb | skip
            refine wp_seq_k ?_; intro K hK
            refine region_list ?_
            refine list_pure E rfl rfl (by decide) (rn_assign E rfl rfl) ?_; clear E a; intro a E
            refine list_pure E rfl rfl (by decide) (rn_assign E rfl rfl) ?_; clear E a; intro a E
            refine wpList_nil ?_
            refine then_k hK ?_; clear hK; clear K
            refine wp_ret ?_
            refine then_ret ?_; clear hK; clear K
            refine ret2 E rfl rfl rfl ?_
            rw [if_neg hb] at hall
            exact ⟨_, rfl, .inl ⟨hall, rfl, (S.only (Bs := [O]) (sel_cons (by first | exact pk1 | exact pk2 | exact pk3 | exact pk4 | exact pk5 | exact pk6 | exact pk7 | exact pk8 | exact pk9) (sel_nil _))).tr⟩⟩
          · first | replace hb := n1 hb | replace hb := n2 hb | replace hb := n3 hb | replace hb := n4 hb | replace hb := n5 hb | replace hb := n6 hb | skip
            refine wp_skip ?_
            refine then_k hK ?_; clear hK; clear K
            refine wp_seq_k ?_; intro K hK
            refine region_list ?_
            refine list_pure E rfl rfl (by decide) (rn_move E rfl rfl) ?_; clear E a; intro a E
            refine list_pure E rfl rfl (by decide) (rn_assign E rfl rfl) ?_; clear E a; intro a E
            refine list_pure E rfl rfl (by decide) (rn_assign E rfl rfl) ?_; clear E a; intro a E
            refine wpList_nil ?_
            refine then_k hK ?_; clear hK; clear K
            refine wp_ret ?_
            refine ret2 E rfl rfl rfl ?_
            rw [if_pos hb] at hall
            exact ⟨_, rfl, .inr ⟨o, vo, C, hall, rfl, hC, (S.only (Bs := [O, C]) (sel_cons (by first | exact pk1 | exact pk2 | exact pk3 | exact pk4 | exact pk5 | exact pk6 | exact pk7 | exact pk8 | exact pk9) (sel_cons (by first | exact pk1 | exact pk2 | exact pk3 | exact pk4 | exact pk5 | exact pk6 | exact pk7 | exact pk8 | exact pk9) (sel_nil _)))).tr⟩⟩

theorem ddec_ret (O : Chunk) (v : Value) (b : List UInt8) (hO : Rd O 1 v b.length (byt b)) (hl : b.length ≤ 140737488355328) (w0 : World) (H : Hp w0 [O]) :
    Ret Try.prog 20 #[v] w0 fun u w' => (decB b = none ∧ u = .tuple #[.slice none 0 0, .int .i64 100] ∧ Trs w0 w' [O] [O]) ∨
      (∃ l vc C, decB b = some l ∧ u = .tuple #[vc, .int .i64 0] ∧ Buf C 41 3 vc l.length (l.flatMap Sc.lay) ∧ Trs w0 w' [O] [O, C]) := by
  have S := St.begin H
  have hO0 := hO
  obtain ⟨ad, c, rfl⟩ := hO.slice
  obtain ⟨n, s0, hs0⟩ : ∃ n s0, (Rdr.mk b 0 0).num 2 = (n, s0) := ⟨_, _, rfl⟩
  have hs1 : n < 65536 ∧ s0.bs = b ∧ (s0.e = 0 → 2 ≤ b.length ∧ n = numOf (b.take 2) ∧ s0.at_ = 2) ∧ (s0.e ≠ 0 → decB b = none) := by
    rcases Nat.lt_or_ge b.length 2 with h2 | h2
    · have hs : (Rdr.mk b 0 0).num 2 = (0, ⟨b, 0, 10⟩) := rnum_short b (k := 2) (by omega) (by omega) h2
      rw [hs] at hs0; cases hs0
      exact ⟨by omega, rfl, fun h => by simp at h, fun _ => decB_short h2⟩
    · have hs : (Rdr.mk b 0 0).num 2 = (numOf (b.take 2), ⟨b, 2, 0⟩) := by have := rnum_at b (q := 0) (k := 2) (by omega) (by omega) (by omega); simpa using this
      rw [hs] at hs0; cases hs0
      exact ⟨numOf_take2 b, rfl, fun _ => ⟨h2, rfl, rfl⟩, fun h => absurd rfl h⟩
  obtain ⟨hn2, hb0, hok, hbad⟩ := hs1
  refine enter1 60 Try.func20 rfl rfl (by decide) ?_; intro a E
  refine wp_seq_k ?_; intro K hK
  refine region_list ?_
  refine list_pure E rfl rfl (by decide) (rn_assign E rfl rfl) ?_; clear E a; intro a E
  refine list_pure E rfl rfl (by decide) (rn_assign E rfl rfl) ?_; clear E a; intro a E
  refine wpList_nil ?_
  refine then_k hK ?_; clear hK; clear K
  refine wp_seq_k ?_; intro K hK
  refine region_list ?_
  refine list_pure E rfl rfl (by decide) (rn_move E rfl rfl) ?_; clear E a; intro a E
  refine list_call E rfl rfl (by decide) rfl Try.func38 rfl (by kernel_rfl) rfl (uopen_ret O _ b _ hO0 (S.hp.sel (sel_cons (by first | exact pk1 | exact pk2 | exact pk3 | exact pk4 | exact pk5 | exact pk6 | exact pk7 | exact pk8 | exact pk9) (sel_nil _))) hl) ?_
  rintro v14 w ⟨p, R, rfl, hR, hT⟩; clear E a; intro a E
  have S := S.call2 (sel_cons (by first | exact pk1 | exact pk2 | exact pk3 | exact pk4 | exact pk5 | exact pk6 | exact pk7 | exact pk8 | exact pk9) (sel_nil _)) hT
  refine list_pure E rfl rfl (by decide) (rn_assign E rfl rfl) ?_; clear E a; intro a E
  refine wpList_nil ?_
  refine then_k hK ?_; clear hK; clear K
  refine wp_seq_k ?_; intro K hK
  refine region_list ?_
  refine list_pure E rfl rfl (by decide) (rn_move E rfl rfl) ?_; clear E a; intro a E
  refine list_call E rfl rfl (by decide) rfl Try.func39 rfl (by kernel_rfl) rfl (unum_ret p _ R _ hR (S.hp.sel (sel_cons (by first | exact pk1 | exact pk2 | exact pk3 | exact pk4 | exact pk5 | exact pk6 | exact pk7 | exact pk8 | exact pk9) (sel_nil _))) 2) ?_
  rintro v16 w ⟨R1, rfl, hR1, hT⟩; clear E a; intro a E
  have S := S.call1 (sel_cons (by first | exact pk1 | exact pk2 | exact pk3 | exact pk4 | exact pk5 | exact pk6 | exact pk7 | exact pk8 | exact pk9) (sel_nil _)) hT; rw [hs0] at E hR1; dsimp only at E hR1
  refine list_pure E rfl rfl (by decide) (by first | exact rn_convert E rfl rfl rfl rfl (by first | exact wu8 _ | exact w_nat (by omega) | exact w_natu (by omega) | exact w_in (by omega) | exact w_inu (by omega) | exact rfl) | exact rn_string E rfl rfl rfl rfl rfl (by assumption) (S.stab.at (by simp))) ?_; clear E a; intro a E
  refine list_pure E rfl rfl (by decide) (rn_assign E rfl rfl) ?_; clear E a; intro a E
  refine wpList_nil ?_
  refine then_k hK ?_; clear hK; clear K
  refine wp_seq_k ?_; intro K hK
  refine region_list ?_
  refine list_pure E rfl rfl (by decide) (rn_assign E rfl rfl) ?_; clear E a; intro a E
  refine wpList_nil ?_
  refine then_k hK ?_; clear hK; clear K
  refine wp_seq_k ?_; intro K hK
  refine wp_seq_k ?_; intro K hK
  refine region_list ?_
  refine list_pure E rfl rfl (by decide) (rn_assign E rfl rfl) ?_; clear E a; intro a E
  refine wpList_nil ?_
  refine then_k hK ?_; clear hK; clear K
  refine wp_block ?_
  refine wp_loop_ghost (fun (m : Nat) (a : Act) (w' : World) => ∃ (i : Nat) (o : List Sc) (s : Rdr) (R C : Chunk) (vo : Value), m = n - i ∧ i ≤ n ∧ o.length = i ∧ s.bs = b ∧ (s.e = 0 → 2 ≤ b.length ∧ n = numOf (b.take 2) ∧ s.at_ = 2 + 13 * i ∧ restD n (b.drop 2) = (restD (n - i) (b.drop (2 + 13 * i))).map (o ++ ·)) ∧ (s.e ≠ 0 → decB b = none) ∧ RdC 73 p s R ∧ Buf C 41 3 vo o.length (o.flatMap Sc.lay) ∧ (∃ Ls, St w0 [O] w' (R :: C :: O :: Ls)) ∧ Fr a 60 [(4, ptr p), (5, .int .i64 n), (6, vo), (7, .int .i64 i)]) (n - 0) ?_ ?_
  · exact ⟨0, [], s0, R1, [], _, rfl, by omega, rfl, hb0, fun h => ⟨(hok h).1, (hok h).2.1, (hok h).2.2, by simp⟩, hbad, hR1, Buf.nil _ _, ⟨_, S.addNil.front3 (by first | exact pk1 | exact pk2 | exact pk3 | exact pk4 | exact pk5 | exact pk6 | exact pk7 | exact pk8 | exact pk9) (by first | exact pk1 | exact pk2 | exact pk3 | exact pk4 | exact pk5 | exact pk6 | exact pk7 | exact pk8 | exact pk9) (C := O) (by first | exact pk1 | exact pk2 | exact pk3 | exact pk4 | exact pk5 | exact pk6 | exact pk7 | exact pk8 | exact pk9)⟩, E.keep (keep_cons rfl (keep_cons rfl (keep_cons rfl (keep_cons rfl keep_nil))))⟩
  clear E; clear a; rintro m a w ⟨i, o, s, R, C, vo, rfl, hi, hol, hsb, hgo, hno, hR, hC, ⟨Ls, S⟩, E⟩
  refine wp_seq_k ?_; intro K hK
  refine wp_seq_k ?_; intro K hK
  have hR0 := hR
  obtain ⟨hra, hrl, adr, cr, CR, hRe, hrc, hrd⟩ := hR
  have S := S.openE hRe
  refine wp_join (fun (a : Act) (w' : World) => ∃ bt : Bool, (bt = true ↔ i < n ∧ s.e = 0) ∧ St w0 [O] w' (R :: C :: O :: Ls) ∧ Fr a 60 [(4, ptr p), (5, .int .i64 n), (6, vo), (7, .int .i64 i), (27, .bool bt)]) ?_ ?_
  · skip
    refine region_list ?_
    refine list_pure E rfl rfl (by decide) (rn_move E rfl rfl) ?_; clear E a; intro a E
    refine list_pure E rfl rfl (by decide) (rn_move E rfl rfl) ?_; clear E a; intro a E
    refine list_pure E rfl rfl (by decide) (rn_lss E rfl rfl rfl) ?_; clear E a; intro a E
    refine list_pure E rfl rfl (by decide) (rn_move E rfl rfl) ?_; clear E a; intro a E
    refine guard_split E (t := 21) rfl (fun hb21 => ?_) (fun hb21 => ?_)
    · have hb21n := hb21; first | replace hb21n := n1 hb21n | replace hb21n := n2 hb21n | replace hb21n := n3 hb21n | replace hb21n := n4 hb21n | replace hb21n := n5 hb21n | replace hb21n := n6 hb21n | skip
      refine list_guard_yes E rfl rfl rfl rfl hb21 rfl (by decide) (rn_move E rfl rfl) ?_; clear E a; intro a E
      refine list_guard_yes E rfl rfl rfl rfl hb21 rfl (by decide) (rn_nilCheck E rfl rfl) ?_; clear E a; intro a E
      refine list_guard_yes E rfl rfl rfl rfl hb21 rfl (by decide) (by first | exact rn_fieldAddr0 (q := 2) E rfl rfl rfl | exact rn_fieldAddr (q := 2) E rfl rfl rfl) ?_; clear E a; intro a E
      refine list_guard_yes E rfl rfl rfl rfl hb21 rfl (by decide) (by first | exact rn_load E rfl rfl rfl (S.get (by first | exact pk1 | exact pk2 | exact pk3 | exact pk4 | exact pk5 | exact pk6 | exact pk7 | exact pk8 | exact pk9)) rfl | exact rn_loadc E rfl rfl rfl (by assumption)) ?_; clear E a; intro a E
      refine list_guard_yes E rfl rfl rfl rfl hb21 rfl (by decide) (by first | exact rn_eql E rfl rfl rfl | exact rn_eql_ptr_nil E rfl rfl rfl rfl | exact rn_eql_bool E rfl rfl rfl rfl | exact rn_eql_string E rfl rfl rfl) ?_; clear E a; intro a E
      refine list_pure E rfl rfl (by decide) (rn_pick_yes' E rfl rfl hb21 rfl) ?_; clear E a; intro a E
      refine wpList_nil ?_
      refine joined_here ?_
      exact ⟨_, by rw [beq_iff_eq]; omega, S.closeE hRe, E.keep (keep_cons rfl (keep_cons rfl (keep_cons rfl (keep_cons rfl (keep_cons rfl keep_nil)))))⟩
    · have hb21n := hb21; first | replace hb21n := n1 hb21n | replace hb21n := n2 hb21n | replace hb21n := n3 hb21n | replace hb21n := n4 hb21n | replace hb21n := n5 hb21n | replace hb21n := n6 hb21n | skip
      refine list_guard_no E rfl rfl rfl rfl hb21 rfl (by decide) ?_; clear E a; intro a E
      refine list_guard_no E rfl rfl rfl rfl hb21 rfl (by decide) ?_; clear E a; intro a E
      refine list_guard_no E rfl rfl rfl rfl hb21 rfl (by decide) ?_; clear E a; intro a E
      refine list_guard_no E rfl rfl rfl rfl hb21 rfl (by decide) ?_; clear E a; intro a E
      refine list_guard_no E rfl rfl rfl rfl hb21 rfl (by decide) ?_; clear E a; intro a E
      refine list_pure E rfl rfl (by decide) (rn_pick_no' E rfl rfl hb21 rfl) ?_; clear E a; intro a E
      refine wpList_nil ?_
      refine joined_here ?_
      exact ⟨false, by constructor <;> intro h; (cases h); omega, S.closeE hRe, E.keep (keep_cons rfl (keep_cons rfl (keep_cons rfl (keep_cons rfl (keep_cons rfl keep_nil)))))⟩
  · clear E S a; intro a w J; obtain ⟨bt, hbt, S, E⟩ := J
    refine then_k hK ?_; clear hK; clear K
    refine if_bool E rfl (fun hb => ?_) (fun hb => ?_)
    · first | replace hb := n1 hb | replace hb := n2 hb | replace hb := n3 hb | replace hb := n4 hb | replace hb := n5 hb | replace hb := n6 hb | skip
      refine wp_skip ?_
      refine then_k hK ?_; clear hK; clear K
      refine wp_seq_k ?_; intro K hK
      refine wp_block ?_
      refine wp_seq_k ?_; intro K hK
      obtain ⟨hin, hse⟩ := hbt.1 hb
      obtain ⟨hq1, hq2, hq3, hq4⟩ := hgo hse
      obtain rfl : s = ⟨b, 2 + 13 * i, 0⟩ := by cases s; simp only at hsb hse hq3; subst hsb hse hq3; rfl
      obtain ⟨f, s1, h1⟩ : ∃ f s1, (Rdr.mk b (2 + 13 * i) 0).num 1 = (f, s1) := ⟨_, _, rfl⟩
      obtain ⟨xa, s2, h2⟩ : ∃ x s2, s1.num 6 = (x, s2) := ⟨_, _, rfl⟩
      obtain ⟨xm, s3, h3⟩ : ∃ x s3, s2.num 6 = (x, s3) := ⟨_, _, rfl⟩
      obtain ⟨t1, t2, t3, t4, t5, t6, t7⟩ := three hq2 hin hq4 h1 h2 h3
      refine region_list ?_
      refine list_pure E rfl rfl (by decide) (rn_move E rfl rfl) ?_; clear E a; intro a E
      refine list_call E rfl rfl (by decide) rfl Try.func39 rfl (by kernel_rfl) rfl (unum_ret p _ R _ hR0 (S.hp.sel (sel_cons (by first | exact pk1 | exact pk2 | exact pk3 | exact pk4 | exact pk5 | exact pk6 | exact pk7 | exact pk8 | exact pk9) (sel_nil _))) 1) ?_
      rintro v31 w ⟨R2, rfl, hR2, hT⟩; clear E a; intro a E
      have S := S.call1 (sel_cons (by first | exact pk1 | exact pk2 | exact pk3 | exact pk4 | exact pk5 | exact pk6 | exact pk7 | exact pk8 | exact pk9) (sel_nil _)) hT; rw [h1] at E hR2; dsimp only at E hR2
      refine list_pure E rfl rfl (by decide) (rn_assign E rfl rfl) ?_; clear E a; intro a E
      refine wpList_nil ?_
      refine then_k hK ?_; clear hK; clear K
      refine wp_seq_k ?_; intro K hK
      refine region_list ?_
      refine list_pure E rfl rfl (by decide) (rn_move E rfl rfl) ?_; clear E a; intro a E
      refine list_call E rfl rfl (by decide) rfl Try.func39 rfl (by kernel_rfl) rfl (unum_ret p _ R2 _ hR2 (S.hp.sel (sel_cons (by first | exact pk1 | exact pk2 | exact pk3 | exact pk4 | exact pk5 | exact pk6 | exact pk7 | exact pk8 | exact pk9) (sel_nil _))) 6) ?_
      rintro v33 w ⟨R3, rfl, hR3, hT⟩; clear E a; intro a E
      have S := S.call1 (sel_cons (by first | exact pk1 | exact pk2 | exact pk3 | exact pk4 | exact pk5 | exact pk6 | exact pk7 | exact pk8 | exact pk9) (sel_nil _)) hT; rw [h2] at E hR3; dsimp only at E hR3
      refine list_pure E rfl rfl (by decide) (rn_assign E rfl rfl) ?_; clear E a; intro a E
      refine wpList_nil ?_
      refine then_k hK ?_; clear hK; clear K
      refine wp_seq_k ?_; intro K hK
      refine region_list ?_
      refine list_pure E rfl rfl (by decide) (rn_move E rfl rfl) ?_; clear E a; intro a E
      refine list_call E rfl rfl (by decide) rfl Try.func39 rfl (by kernel_rfl) rfl (unum_ret p _ R3 _ hR3 (S.hp.sel (sel_cons (by first | exact pk1 | exact pk2 | exact pk3 | exact pk4 | exact pk5 | exact pk6 | exact pk7 | exact pk8 | exact pk9) (sel_nil _))) 6) ?_
      rintro v35 w ⟨R4, rfl, hR4, hT⟩; clear E a; intro a E
      have S := S.call1 (sel_cons (by first | exact pk1 | exact pk2 | exact pk3 | exact pk4 | exact pk5 | exact pk6 | exact pk7 | exact pk8 | exact pk9) (sel_nil _)) hT; rw [h3] at E hR4; dsimp only at E hR4
      refine list_pure E rfl rfl (by decide) (rn_assign E rfl rfl) ?_; clear E a; intro a E
      refine wpList_nil ?_
      refine then_k hK ?_; clear hK; clear K
      refine wp_seq_k ?_; intro K hK
      refine wp_seq_k ?_; intro K hK
      refine region_list ?_
      refine list_pure E rfl rfl (by decide) (rn_move E rfl rfl) ?_; clear E a; intro a E
      refine list_pure E rfl rfl (by decide) (rn_gtr E rfl rfl rfl) ?_; clear E a; intro a E
      refine wpList_nil ?_
      refine then_k hK ?_; clear hK; clear K
      refine if_bool E rfl (fun hb => ?_) (fun hb => ?_)
      · first | replace hb := n1 hb | replace hb := n2 hb | replace hb := n3 hb | replace hb := n4 hb | replace hb := n5 hb | replace hb := n6 hb | skip
        refine wp_seq_k ?_; intro K hK
        refine region_list ?_
        refine list_pure E rfl rfl (by decide) (rn_assign E rfl rfl) ?_; clear E a; intro a E
        refine list_pure E rfl rfl (by decide) (rn_assign E rfl rfl) ?_; clear E a; intro a E
        refine wpList_nil ?_
        refine then_k hK ?_; clear hK; clear K
        refine wp_ret ?_
        refine then_ret ?_; clear hK; clear K
        refine in_ret ?_
        refine then_ret ?_; clear hK; clear K
        refine then_ret ?_
        refine in_ret ?_
        refine then_ret ?_; clear hK; clear K
        refine ret2 E rfl rfl rfl ?_
        exact ⟨_, rfl, .inl ⟨t2 (by omega), rfl, (S.only (Bs := [O]) (sel_cons (by first | exact pk1 | exact pk2 | exact pk3 | exact pk4 | exact pk5 | exact pk6 | exact pk7 | exact pk8 | exact pk9) (sel_nil _))).tr⟩⟩
      · first | replace hb := n1 hb | replace hb := n2 hb | replace hb := n3 hb | replace hb := n4 hb | replace hb := n5 hb | replace hb := n6 hb | skip
        refine wp_skip ?_
        refine then_k hK ?_; clear hK; clear K
        refine region_list ?_
        refine list_pure E rfl rfl (by decide) (rn_move E rfl rfl) ?_; clear E a; intro a E
        refine list_pure E rfl rfl (by decide) (rn_move E rfl rfl) ?_; clear E a; intro a E
        refine list_pure E rfl rfl (by decide) (by first | exact rn_eql E rfl rfl rfl | exact rn_eql_ptr_nil E rfl rfl rfl rfl | exact rn_eql_bool E rfl rfl rfl rfl | exact rn_eql_string E rfl rfl rfl) ?_; clear E a; intro a E
        refine list_pure E rfl rfl (by decide) (rn_move E rfl rfl) ?_; clear E a; intro a E
        refine list_pure E rfl rfl (by decide) (by first | exact rn_convert E rfl rfl rfl rfl (by first | exact wu8 _ | exact w_nat (by omega) | exact w_natu (by omega) | exact w_in (by omega) | exact w_inu (by omega) | exact rfl) | exact rn_string E rfl rfl rfl rfl rfl (by assumption) (S.stab.at (by simp))) ?_; clear E a; intro a E
        refine list_pure E rfl rfl (by decide) (rn_move E rfl rfl) ?_; clear E a; intro a E
        refine list_pure E rfl rfl (by decide) (by first | exact rn_convert E rfl rfl rfl rfl (by first | exact wu8 _ | exact w_nat (by omega) | exact w_natu (by omega) | exact w_in (by omega) | exact w_inu (by omega) | exact rfl) | exact rn_string E rfl rfl rfl rfl rfl (by assumption) (S.stab.at (by simp))) ?_; clear E a; intro a E
        refine list_pure E rfl rfl (by decide) (rn_build (cells := [_, _]) E rfl rfl rfl) ?_; clear E a; intro a E
        refine list_pure E rfl rfl (by decide) (rn_build (cells := [_, _, _]) E rfl rfl rfl) ?_; clear E a; intro a E
        refine list_wp rfl (wp_bslice (cells := [_, _, _]) E S rfl rfl (by decide) rfl rfl rfl rfl rfl (by decide) rfl ?_); clear E S a; intro a w b47 E S
        refine list_wp rfl (wp_append (by' := 24) E S rfl rfl (by decide) rfl rfl hC (by first | exact pk1 | exact pk2 | exact pk3 | exact pk4 | exact pk5 | exact pk6 | exact pk7 | exact pk8 | exact pk9) ((sc1 _ _ _ _ _).src (S.stab.at (by first | exact mm1 | exact mm2 | exact mm3 | exact mm4 | exact mm5 | exact mm6 | exact mm7 | exact mm8)) rfl) rfl rfl rfl rfl rfl rfl (by simp only [maxLen]; omega) (by omega) ?_); clear E S a; intro a w v48 C48 E S hB48
        refine list_pure E rfl rfl (by decide) (rn_assign E rfl rfl) ?_; clear E a; intro a E
        refine wpList_nil ?_
        refine in_normal ?_
        refine then_k hK ?_; clear hK; clear K
        refine region_list ?_
        refine list_pure E rfl rfl (by decide) (rn_move E rfl rfl) ?_; clear E a; intro a E
        refine list_pure E rfl rfl (by decide) (rn_add E rfl rfl rfl (by first | exact wa_lit (y := 1) (by omega) | exact w_in (by omega) | exact w_inu (by omega) | exact rfl)) ?_; clear E a; intro a E
        refine list_pure E rfl rfl (by decide) (rn_assign E rfl rfl) ?_; clear E a; intro a E
        refine wpList_nil ?_
        refine then_normal ?_
        have hf1 : f ≤ 1 := by omega
        exact ⟨_, by omega, i + 1, o ++ [⟨f == 1, ⟨xa, xm⟩⟩], s3, R4, C48, v48, rfl, by omega, by simp [hol], t1, fun h => ⟨hq1, hq2, (t3 hf1 h).1, (t3 hf1 h).2⟩, t4, hR4, by simpa [Sc.lay, beq_one f] using hB48, ⟨_, S.front3 (by first | exact pk1 | exact pk2 | exact pk3 | exact pk4 | exact pk5 | exact pk6 | exact pk7 | exact pk8 | exact pk9) (by first | exact pk1 | exact pk2 | exact pk3 | exact pk4 | exact pk5 | exact pk6 | exact pk7 | exact pk8 | exact pk9) (C := O) (by first | exact pk1 | exact pk2 | exact pk3 | exact pk4 | exact pk5 | exact pk6 | exact pk7 | exact pk8 | exact pk9)⟩, E.keep (keep_cons rfl (keep_cons rfl (keep_cons rfl (keep_cons rfl keep_nil))))⟩
    · first | replace hb := n1 hb | replace hb := n2 hb | replace hb := n3 hb | replace hb := n4 hb | replace hb := n5 hb | replace hb := n6 hb | skip
      refine wp_exit ?_
      refine then_exit ?_; clear hK; clear K
      refine then_exit ?_
      refine in_exit ?_
      refine then_k hK ?_; clear hK; clear K
      refine wp_seq_k ?_; intro K hK
      obtain ⟨hd1, hd2⟩ := dec_end hi hsb hgo hno (fun q => by rw [hbt.2 q] at hb; cases hb) hra
      refine region_list ?_
      refine list_pure E rfl rfl (by decide) (rn_move E rfl rfl) ?_; clear E a; intro a E
      refine list_call E rfl rfl (by decide) rfl Try.func40 rfl (by kernel_rfl) rfl (udone_ret p _ R _ hR0 (S.hp.sel (sel_cons (by first | exact pk1 | exact pk2 | exact pk3 | exact pk4 | exact pk5 | exact pk6 | exact pk7 | exact pk8 | exact pk9) (sel_nil _)))) ?_
      rintro v50 w ⟨rfl, hT⟩; clear E a; intro a E
      have S := S.call1 (sel_cons (by first | exact pk1 | exact pk2 | exact pk3 | exact pk4 | exact pk5 | exact pk6 | exact pk7 | exact pk8 | exact pk9) (sel_nil _)) hT
      refine list_pure E rfl rfl (by decide) (rn_assign E rfl rfl) ?_; clear E a; intro a E
      refine wpList_nil ?_
      refine then_k hK ?_; clear hK; clear K
      refine wp_seq_k ?_; intro K hK
      refine region_list ?_
      refine list_pure E rfl rfl (by decide) (rn_move E rfl rfl) ?_; clear E a; intro a E
      refine list_call E rfl rfl (by decide) rfl Try.func26 rfl (by kernel_rfl) rfl (dcheck_ret C _ o hC.rd (by omega) _ (S.hp.sel (sel_cons (by first | exact pk1 | exact pk2 | exact pk3 | exact pk4 | exact pk5 | exact pk6 | exact pk7 | exact pk8 | exact pk9) (sel_nil _)))) ?_
      rintro v52 w ⟨rfl, hT⟩; clear E a; intro a E
      have S := S.call1 (sel_cons (by first | exact pk1 | exact pk2 | exact pk3 | exact pk4 | exact pk5 | exact pk6 | exact pk7 | exact pk8 | exact pk9) (sel_nil _)) hT
      refine list_pure E rfl rfl (by decide) (rn_assign E rfl rfl) ?_; clear E a; intro a E
      refine wpList_nil ?_
      refine then_k hK ?_; clear hK; clear K
      refine wp_seq_k ?_; intro K hK
      refine wp_seq_k ?_; intro K hK
      refine region_list ?_
      refine list_pure E rfl rfl (by decide) (rn_move E rfl rfl) ?_; clear E a; intro a E
      refine list_pure E rfl rfl (by decide) (by first | exact rn_neq E rfl rfl rfl | exact rn_neq_ptr_nil E rfl rfl rfl rfl | exact rn_neq_bool E rfl rfl rfl rfl | exact rn_neq_string E rfl rfl rfl) ?_; clear E a; intro a E
      refine list_pure E rfl rfl (by decide) (rn_move E rfl rfl) ?_; clear E a; intro a E
      refine guard_split E (t := 55) rfl (fun hb55 => ?_) (fun hb55 => ?_)
      · have hb55n := hb55; first | replace hb55n := n1 hb55n | replace hb55n := n2 hb55n | replace hb55n := n3 hb55n | replace hb55n := n4 hb55n | replace hb55n := n5 hb55n | replace hb55n := n6 hb55n | skip
        refine list_guard_no E rfl rfl rfl rfl hb55 rfl (by decide) ?_; clear E a; intro a E
        refine list_guard_no E rfl rfl rfl rfl hb55 rfl (by decide) ?_; clear E a; intro a E
        refine list_pure E rfl rfl (by decide) (rn_pick_yes' E rfl rfl hb55 rfl) ?_; clear E a; intro a E
        refine wpList_nil ?_
        refine then_k hK ?_; clear hK; clear K
        refine if_true' E rfl rfl ?_
        refine wp_seq_k ?_; intro K hK
        refine region_list ?_
        refine list_pure E rfl rfl (by decide) (rn_assign E rfl rfl) ?_; clear E a; intro a E
        refine list_pure E rfl rfl (by decide) (rn_assign E rfl rfl) ?_; clear E a; intro a E
        refine wpList_nil ?_
        refine then_k hK ?_; clear hK; clear K
        refine wp_ret ?_
        refine then_ret ?_; clear hK; clear K
        refine ret2 E rfl rfl rfl ?_
        exact ⟨_, rfl, .inl ⟨hd1 (by omega), rfl, (S.only (Bs := [O]) (sel_cons (by first | exact pk1 | exact pk2 | exact pk3 | exact pk4 | exact pk5 | exact pk6 | exact pk7 | exact pk8 | exact pk9) (sel_nil _))).tr⟩⟩
      · have hb55n := hb55; first | replace hb55n := n1 hb55n | replace hb55n := n2 hb55n | replace hb55n := n3 hb55n | replace hb55n := n4 hb55n | replace hb55n := n5 hb55n | replace hb55n := n6 hb55n | skip
        refine list_guard_yes E rfl rfl rfl rfl hb55 rfl (by decide) (rn_move E rfl rfl) ?_; clear E a; intro a E
        refine list_guard_yes E rfl rfl rfl rfl hb55 rfl (by decide) (by first | exact rn_neq E rfl rfl rfl | exact rn_neq_ptr_nil E rfl rfl rfl rfl | exact rn_neq_bool E rfl rfl rfl rfl | exact rn_neq_string E rfl rfl rfl) ?_; clear E a; intro a E
        refine list_pure E rfl rfl (by decide) (rn_pick_no' E rfl rfl hb55 rfl) ?_; clear E a; intro a E
        refine wpList_nil ?_
        refine then_k hK ?_; clear hK; clear K
        refine if_bool E rfl (fun hb => ?_) (fun hb => ?_)
        · first | replace hb := n1 hb | replace hb := n2 hb | replace hb := n3 hb | replace hb := n4 hb | replace hb := n5 hb | replace hb := n6 hb | skip
          refine wp_seq_k ?_; intro K hK
          refine region_list ?_
          refine list_pure E rfl rfl (by decide) (rn_assign E rfl rfl) ?_; clear E a; intro a E
          refine list_pure E rfl rfl (by decide) (rn_assign E rfl rfl) ?_; clear E a; intro a E
          refine wpList_nil ?_
          refine then_k hK ?_; clear hK; clear K
          refine wp_ret ?_
          refine then_ret ?_; clear hK; clear K
          refine ret2 E rfl rfl rfl ?_
          have hd3 := hd2 (by omega)
          rw [if_neg hb] at hd3
          exact ⟨_, rfl, .inl ⟨hd3, rfl, (S.only (Bs := [O]) (sel_cons (by first | exact pk1 | exact pk2 | exact pk3 | exact pk4 | exact pk5 | exact pk6 | exact pk7 | exact pk8 | exact pk9) (sel_nil _))).tr⟩⟩
        · first | replace hb := n1 hb | replace hb := n2 hb | replace hb := n3 hb | replace hb := n4 hb | replace hb := n5 hb | replace hb := n6 hb | skip
          refine wp_skip ?_
          refine then_k hK ?_; clear hK; clear K
          refine wp_seq_k ?_; intro K hK
          refine region_list ?_
          refine list_pure E rfl rfl (by decide) (rn_move E rfl rfl) ?_; clear E a; intro a E
          refine list_pure E rfl rfl (by decide) (rn_assign E rfl rfl) ?_; clear E a; intro a E
          refine list_pure E rfl rfl (by decide) (rn_assign E rfl rfl) ?_; clear E a; intro a E
          refine wpList_nil ?_
          refine then_k hK ?_; clear hK; clear K
          refine wp_ret ?_
          refine ret2 E rfl rfl rfl ?_
          have hd3 := hd2 (by omega)
          rw [if_pos hb] at hd3
          exact ⟨_, rfl, .inr ⟨o, vo, C, hd3, rfl, hC, (S.only (Bs := [O, C]) (sel_cons (by first | exact pk1 | exact pk2 | exact pk3 | exact pk4 | exact pk5 | exact pk6 | exact pk7 | exact pk8 | exact pk9) (sel_cons (by first | exact pk1 | exact pk2 | exact pk3 | exact pk4 | exact pk5 | exact pk6 | exact pk7 | exact pk8 | exact pk9) (sel_nil _)))).tr⟩⟩
end Go.Proofs.Ytkkpeggkoijlhaa
