/-
  A line that bytes come in by: plain, and the program; the law's example.
-/
import Derived.Test.YtjhmjdgdgpgcdaaDoorFrameV
import Derived.Test.YtjhmjdgdgpgcdaaDoorInnP
namespace Go.Sl
/-- Bytes cut into frames, by fuel: the frames, what waits, the error. -/
def cutN : Nat → List UInt8 → List (List UInt8) × List UInt8 × Int
  | 0, b => ([], b, 0)
  | k + 1, b => if b.length < 4 then ([], b, 0) else if nm b 0 4 < 9 ∨ 65532 < nm b 0 4 then ([], [], 230) else if b.length < 4 + nm b 0 4 then ([], b, 0) else
      ((b.take (4 + nm b 0 4)) :: (cutN k (b.drop (4 + nm b 0 4))).1, (cutN k (b.drop (4 + nm b 0 4))).2)
def cutR (b : List UInt8) : List (List UInt8) × List UInt8 × Int := cutN b.length b
theorem cutN_enough : ∀ {k l : Nat} {b : List UInt8}, b.length ≤ k → b.length ≤ l → cutN k b = cutN l b := by
  intro k
  induction k with
  | zero =>
    intro l b hk _
    cases l with
    | zero => rfl
    | succ l => rw [cutN, cutN, if_pos (by omega)]
  | succ k ih =>
    intro l b hk hl
    cases l with
    | zero => rw [cutN, cutN, if_pos (by omega)]
    | succ l =>
      rw [cutN, cutN]
      split; rfl
      split; rfl
      split; rfl
      rw [ih (b := b.drop (4 + nm b 0 4)) (l := l) (by rw [List.length_drop]; omega) (by rw [List.length_drop]; omega)]
theorem cutR_short {b : List UInt8} (h : b.length < 4) : cutR b = ([], b, 0) := by
  unfold cutR; cases hb : b.length with
  | zero => rfl
  | succ n => rw [cutN, if_pos h]
theorem cutR_bad {b : List UInt8} (h : 4 ≤ b.length) (h2 : nm b 0 4 < 9 ∨ 65532 < nm b 0 4) : cutR b = ([], [], 230) := by
  unfold cutR; cases hb : b.length with
  | zero => omega
  | succ n => rw [cutN, if_neg (by omega), if_pos h2]
theorem cutR_wait {b : List UInt8} (h : 4 ≤ b.length) (h2 : ¬ (nm b 0 4 < 9 ∨ 65532 < nm b 0 4)) (h3 : b.length < 4 + nm b 0 4) : cutR b = ([], b, 0) := by
  unfold cutR; cases hb : b.length with
  | zero => omega
  | succ n => rw [cutN, if_neg (by omega), if_neg h2, if_pos h3]
theorem cutR_step {b : List UInt8} (h : 4 ≤ b.length) (h2 : ¬ (nm b 0 4 < 9 ∨ 65532 < nm b 0 4)) (h3 : ¬ b.length < 4 + nm b 0 4) : cutR b = (b.take (4 + nm b 0 4) :: (cutR (b.drop (4 + nm b 0 4))).1, (cutR (b.drop (4 + nm b 0 4))).2) := by
  have hc : cutN (b.length - 1) (b.drop (4 + nm b 0 4)) = cutR (b.drop (4 + nm b 0 4)) := cutN_enough (by rw [List.length_drop]; omega) (Nat.le_refl _)
  rw [← hc]
  unfold cutR; cases hb : b.length with
  | zero => omega
  | succ n => rw [cutN, if_neg (by omega), if_neg h2, if_neg (by omega)]; rfl
/-- A line of this type at this place, and what waits. -/
def LnC (T : TypeId) (p : Nat) (q : List UInt8) (A : Chunk) : Prop :=
  ∃ ad c C, A = [(p, cel [.slice ad q.length c] T)] ++ C ∧ q.length ≤ c ∧ Rd C 1 (.slice ad q.length c) q.length (byt q)
end Go.Sl
namespace Go.Proofs.YtjhmjdgdgpgcdaaDoor
open Go.Sl
set_option maxRecDepth 10000

theorem bclone_ret (O : Chunk) (v : Value) (l : List UInt8) (hl : l.length ≤ 140737488355328) (hO : Rd O 1 v l.length (byt l)) (w0 : World) (H : Hp w0 [O]) :
    Ret Tryd.prog 34 #[v] w0 fun u w' => ∃ C, Buf C 5 1 u l.length (byt l) ∧ Trs w0 w' [O] [O, C] := by
  have S := St.begin H
  obtain ⟨ad, c, rfl⟩ := hO.slice
  refine enter1 8 Tryd.func34 rfl rfl (by decide) ?_; intro a E
  refine wp_seq_k ?_; intro K hK
  refine region_list ?_
  refine list_pure E rfl rfl (by decide) (rn_assign E rfl rfl) ?_; clear E a; intro a E
  refine wpList_nil ?_
  refine then_k hK ?_; clear hK; clear K
  refine wp_seq_k ?_; intro K hK
  refine wp_seq_k ?_; intro K hK
  refine region_list ?_
  refine list_pure E rfl rfl (by decide) (rn_move E rfl rfl) ?_; clear E a; intro a E
  refine list_pure E rfl rfl (by decide) (rn_eql_slice_nil E rfl rfl rfl rfl) ?_; clear E a; intro a E
  refine wpList_nil ?_
  refine then_k hK ?_; clear hK; clear K
  refine if_bool E rfl (fun hb => ?_) (fun hb => ?_)
  · replace hb := Nrm.nrm hb
    refine wp_seq_k ?_; intro K hK
    refine region_list ?_
    refine list_pure E rfl rfl (by decide) (rn_assign E rfl rfl) ?_; clear E a; intro a E
    refine wpList_nil ?_
    refine then_k hK ?_; clear hK; clear K
    refine wp_ret ?_
    refine then_ret ?_; clear hK; clear K
    refine ret1 E rfl rfl ?_
    obtain rfl : ad = none := by cases ad <;> simp_all
    have h0 : l.length = 0 := by
      rcases hO.2.2.2 with ⟨h, _⟩ | ⟨b, off, c', l', T, fr, h, _⟩
      · exact h
      · cases h
    obtain rfl := List.eq_nil_of_length_eq_zero h0
    exact ⟨_, rfl, _, Buf.nil _ _, (S.perm (Bs := [O]) (List.Perm.refl _)).addNil.perm2.tr⟩
  · replace hb := Nrm.nrm hb
    refine wp_skip ?_
    refine then_k hK ?_; clear hK; clear K
    refine wp_seq_k ?_; intro K hK
    refine region_list ?_
    refine list_wp rfl (wp_bslice0 E S rfl rfl (by decide) rfl rfl ?_); clear E S a; intro a w b5 E S
    refine list_pure E rfl rfl (by decide) (rn_move E rfl rfl) ?_; clear E a; intro a E
    refine list_wp rfl (wp_append (by' := 1) E S rfl rfl (by decide) rfl rfl (buf_room (by decide) rfl) (by repeat (first | exact pk1 | apply pick_tail)) (hO.src (S.stab.at (by repeat (first | exact mm1 | assumption | apply List.Mem.tail))) rfl) rfl rfl rfl rfl rfl rfl (by simp only [maxLen]; omega) (by omega) ?_); clear E S a; intro a w v7 C7 E S hB7
    refine list_pure E rfl rfl (by decide) (rn_assign E rfl rfl) ?_; clear E a; intro a E
    refine wpList_nil ?_
    refine then_k hK ?_; clear hK; clear K
    refine wp_ret ?_
    refine ret1 E rfl rfl ?_
    exact ⟨_, rfl, C7, by simpa using hB7, S.perm2.tr⟩

theorem lnew_ret (w0 : World) : Ret Tryd.prog 12 #[] w0 fun u w' => ∃ p A, u = ptr p ∧ LnC 64 p [] A ∧ Trs w0 w' [] [A] := by
  have S := St.begin (hp_nil w0)
  refine enter0 3 Tryd.func12 rfl rfl ?_; intro a E
  refine wp_seq_k ?_; intro K hK
  refine region_list ?_
  refine list_pure E rfl rfl (by decide) (rn_assign E rfl rfl) ?_; clear E a; intro a E
  refine wpList_nil ?_
  refine then_k hK ?_; clear hK; clear K
  refine wp_seq_k ?_; intro K hK
  refine region_list ?_
  refine list_pure E rfl rfl (by decide) (rn_build (cells := [_]) E rfl rfl rfl) ?_; clear E a; intro a E
  refine list_wp rfl (wp_box E S rfl rfl (by decide) rfl rfl ?_); clear E S a; intro a w b2 E S
  refine list_pure E rfl rfl (by decide) (rn_assign E rfl rfl) ?_; clear E a; intro a E
  refine wpList_nil ?_
  refine then_k hK ?_; clear hK; clear K
  refine wp_ret ?_
  refine ret1 E rfl rfl ?_
  exact ⟨_, rfl, b2, [(b2, _)] ++ [], rfl, ⟨none, 0, [], rfl, Nat.le_refl _, (Buf.nil 5 1).rd⟩, by rw [List.append_nil]; exact S.tr⟩

theorem lleft_ret (p : Nat) (q : List UInt8) (A : Chunk) (w0 : World) (hA : LnC 64 p q A) (H : Hp w0 [A]) : Ret Tryd.prog 16 #[ptr p] w0 fun u w' => u = .int .i64 q.length ∧ Trs w0 w' [A] [A] := by
  obtain ⟨ad, c, C, rfl, hc, hR⟩ := hA
  have S := (St.begin H).split
  refine enter1 8 Tryd.func16 rfl rfl (by decide) ?_; intro a E
  refine wp_seq_k ?_; intro K hK
  refine region_list ?_
  refine list_pure E rfl rfl (by decide) (rn_assign E rfl rfl) ?_; clear E a; intro a E
  refine wpList_nil ?_
  refine then_k hK ?_; clear hK; clear K
  refine wp_seq_k ?_; intro K hK
  refine region_list ?_
  refine list_pure E rfl rfl (by decide) (rn_move E rfl rfl) ?_; clear E a; intro a E
  refine list_pure E rfl rfl (by decide) (rn_nilCheck E rfl rfl) ?_; clear E a; intro a E
  refine list_pure E rfl rfl (by decide) (by first | exact rn_fieldAddr0 (q := 0) E rfl rfl rfl | exact rn_fieldAddr (q := 0) E rfl rfl rfl) ?_; clear E a; intro a E
  refine list_pure E rfl rfl (by decide) (by first | exact rn_load E rfl rfl rfl (S.get (by repeat (first | exact pk1 | apply pick_tail))) rfl | exact rn_loadc E rfl rfl rfl (by assumption)) ?_; clear E a; intro a E
  refine list_pure E rfl rfl (by decide) (by first | exact rn_len E rfl rfl rfl | exact rn_len_str E rfl rfl rfl | exact rn_len_string E rfl rfl rfl) ?_; clear E a; intro a E
  refine list_pure E rfl rfl (by decide) (rn_assign E rfl rfl) ?_; clear E a; intro a E
  refine wpList_nil ?_
  refine then_k hK ?_; clear hK; clear K
  refine wp_ret ?_
  refine ret1 E rfl rfl ?_
  exact ⟨_, rfl, rfl, S.join.tr⟩

theorem feed_ret (p : Nat) (q : List UInt8) (A D : Chunk) (v : Value) (b : List UInt8) (hA : LnC 64 p q A) (hD : Rd D 1 v b.length (byt b)) (hl : q.length + b.length ≤ 70368744177664) (w0 : World) (H : Hp w0 [A, D]) :
    Ret Tryd.prog 13 #[ptr p, v] w0 fun u w' => ∃ x X Y A' vs, u = .tuple #[x, .int .i64 (cutR (q ++ b)).2.2] ∧ LnC 64 p (cutR (q ++ b)).2.1 A' ∧ Buf X 22 1 x (cutR (q ++ b)).1.length vs ∧ Inn 5 1 byt Y vs (cutR (q ++ b)).1 ∧ Trs w0 w' [A, D] [X, Y, A', D] := by
  obtain ⟨ad0, c0, C0, rfl, hc0, hR0⟩ := hA
  have S := (St.begin H).split
  obtain ⟨ad, c, rfl⟩ := hD.slice
  obtain ⟨all, hall⟩ : ∃ all, all = q ++ b := ⟨_, rfl⟩
  have hlen : all.length = q.length + b.length := by rw [hall, List.length_append]
  rw [← hall]
  obtain ⟨cr, hcr⟩ : ∃ cr, cr = cutR all := ⟨_, rfl⟩
  rw [← hcr]
  refine enter2 72 Tryd.func13 rfl rfl (by decide) ?_; intro a E
  refine wp_seq_k ?_; intro K hK
  refine region_list ?_
  refine list_pure E rfl rfl (by decide) (rn_assign E rfl rfl) ?_; clear E a; intro a E
  refine list_pure E rfl rfl (by decide) (rn_assign E rfl rfl) ?_; clear E a; intro a E
  refine wpList_nil ?_
  refine then_k hK ?_; clear hK; clear K
  refine wp_seq_k ?_; intro K hK
  refine region_list ?_
  refine list_pure E rfl rfl (by decide) (rn_move E rfl rfl) ?_; clear E a; intro a E
  refine list_pure E rfl rfl (by decide) (rn_move E rfl rfl) ?_; clear E a; intro a E
  refine list_pure E rfl rfl (by decide) (rn_nilCheck E rfl rfl) ?_; clear E a; intro a E
  refine list_pure E rfl rfl (by decide) (by first | exact rn_fieldAddr0 (q := 0) E rfl rfl rfl | exact rn_fieldAddr (q := 0) E rfl rfl rfl) ?_; clear E a; intro a E
  refine list_pure E rfl rfl (by decide) (by first | exact rn_load E rfl rfl rfl (S.get (by repeat (first | exact pk1 | apply pick_tail))) rfl | exact rn_loadc E rfl rfl rfl (by assumption)) ?_; clear E a; intro a E
  refine list_pure E rfl rfl (by decide) (rn_move E rfl rfl) ?_; clear E a; intro a E
  refine list_wp rfl (wp_bslice (cells := [_, _]) E S rfl rfl (by decide) rfl rfl rfl rfl rfl (by decide) rfl ?_); clear E S a; intro a w b14 E S
  refine list_call E rfl rfl (by decide) rfl Tryd.func31 rfl (by kernel_rfl) rfl (bconcat_ret b14 [.slice ad0 q.length c0, .slice ad b.length c] [q, b] _ ⟨_, (show [(b14, _)] ∈ _ from (by repeat (first | exact mm1 | assumption | apply List.Mem.tail)))⟩ ⟨⟨C0, (by repeat (first | exact mm1 | assumption | apply List.Mem.tail)), hR0⟩, ⟨D, (by repeat (first | exact mm1 | assumption | apply List.Mem.tail)), hD⟩, trivial⟩ (by simp) (by simp; omega) _ S.hp) ?_
  rintro v15 w ⟨C, hC, hT⟩; clear E a; intro a E
  have S := S.all hT; rw [show [q, b].flatten = all by simp [hall]] at hC
  obtain ⟨ad1, c1, rfl⟩ := hC.slice
  have hc1 := hC.cap_le
  refine list_pure E rfl rfl (by decide) (rn_nilCheck E rfl rfl) ?_; clear E a; intro a E
  refine list_pure E rfl rfl (by decide) (by first | exact rn_fieldAddr0 (q := 0) E rfl rfl rfl | exact rn_fieldAddr (q := 0) E rfl rfl rfl) ?_; clear E a; intro a E
  refine list_wp rfl (wp_store1 E S rfl rfl rfl rfl rfl rfl (by repeat (first | exact pk1 | apply pick_tail)) (by first | exact Nat.le_of_ble_eq_true rfl | (simp; done) | (simp; omega)) ?_); clear E S a; intro a w E S; try dsimp only [List.set] at S
  refine wpList_nil ?_
  refine then_k hK ?_; clear hK; clear K
  refine wp_seq_k ?_; intro K hK
  refine region_list ?_
  refine list_pure E rfl rfl (by decide) (rn_assign E rfl rfl) ?_; clear E a; intro a E
  refine wpList_nil ?_
  refine then_k hK ?_; clear hK; clear K
  refine wp_seq_k ?_; intro K hK
  refine wp_block ?_
  refine wp_loop_ghost (fun (m : Nat) (a : Act) (w' : World) => ∃ (rest : List UInt8) (outs : List (List UInt8)) (ad' : Option Addr) (c' : Nat) (vo : Value) (X Y : Chunk) (vs : List Value), m = rest.length ∧ rest.length ≤ all.length ∧ 13 * outs.length + rest.length ≤ all.length ∧ cr = (outs ++ (cutR rest).1, (cutR rest).2) ∧ rest.length ≤ c' ∧ Rd C 1 (.slice ad' rest.length c') rest.length (byt rest) ∧ Buf X 22 1 vo outs.length vs ∧ Inn 5 1 byt Y vs outs ∧ St w0 [[(p, cel [.slice ad0 q.length c0] 64)] ++ C0, D] w' ([(p, cel [.slice ad' rest.length c'] 64)] :: C :: X :: Y :: [D]) ∧ Fr a 72 [(0, ptr p), (6, vo)]) (all.length) ?_ ?_
  · exact ⟨all, [], ad1, c1, _, [], [], [], rfl, Nat.le_refl _, by simp, by rw [hcr]; simp, hc1, hC.rd, Buf.nil _ _, rfl, (S.only (Bs := [[(p, _)], C, D]) (sel_cons (by repeat (first | exact pk1 | apply pick_tail)) (sel_cons (by repeat (first | exact pk1 | apply pick_tail)) (sel_cons (by repeat (first | exact pk1 | apply pick_tail)) (sel_nil _))))).addNil.addNil.front4 (A := [(p, _)]) (by repeat (first | exact pk1 | apply pick_tail)) (B := C) (by repeat (first | exact pk1 | apply pick_tail)) (C := []) (by repeat (first | exact pk1 | apply pick_tail)) (D := []) (by repeat (first | exact pk1 | apply pick_tail)), E.keep (keep_cons rfl (keep_cons rfl keep_nil))⟩
  clear E; clear a; (try clear S); rintro m a w ⟨rest, outs, ad', c', vo, X, Y, vs, rfl, hrl, hol, hcut, hcc, hR, hX, hY, S, E⟩
  refine wp_seq_k ?_; intro K hK
  refine wp_seq_k ?_; intro K hK
  refine region_list ?_
  refine list_pure E rfl rfl (by decide) (rn_move E rfl rfl) ?_; clear E a; intro a E
  refine list_pure E rfl rfl (by decide) (rn_nilCheck E rfl rfl) ?_; clear E a; intro a E
  refine list_pure E rfl rfl (by decide) (by first | exact rn_fieldAddr0 (q := 0) E rfl rfl rfl | exact rn_fieldAddr (q := 0) E rfl rfl rfl) ?_; clear E a; intro a E
  refine list_pure E rfl rfl (by decide) (by first | exact rn_load E rfl rfl rfl (S.get (by repeat (first | exact pk1 | apply pick_tail))) rfl | exact rn_loadc E rfl rfl rfl (by assumption)) ?_; clear E a; intro a E
  refine list_pure E rfl rfl (by decide) (by first | exact rn_len E rfl rfl rfl | exact rn_len_str E rfl rfl rfl | exact rn_len_string E rfl rfl rfl) ?_; clear E a; intro a E
  refine list_pure E rfl rfl (by decide) (rn_geq E rfl rfl rfl) ?_; clear E a; intro a E
  refine wpList_nil ?_
  refine then_k hK ?_; clear hK; clear K
  refine if_bool E rfl (fun hb => ?_) (fun hb => ?_)
  · replace hb := Nrm.nrm hb
    skip
    refine wp_skip ?_
    refine then_k hK ?_; clear hK; clear K
    refine wp_block ?_
    refine wp_seq_k ?_; intro K hK
    obtain ⟨ad2, hs2, hR2⟩ := hR.cutc (lo := 0) (hi := 4) (by omega) (by omega) (by omega)
    have hl4 : (rest.take 4).length = 4 := by rw [List.length_take]; omega
    rw [show ((byt rest).drop (0 * 1)).take ((4 - 0) * 1) = byt (rest.take 4) by simp [byt_take]] at hR2
    have hR2 : Rd C 1 (.slice ad2 (4 - 0) (c' - 0)) (rest.take 4).length (byt (rest.take 4)) := by rw [hl4]; exact hR2
    obtain ⟨n, hn⟩ : ∃ n, n = nm rest 0 4 := ⟨_, rfl⟩
    refine region_list ?_
    refine list_pure E rfl rfl (by decide) (rn_move E rfl rfl) ?_; clear E a; intro a E
    refine list_pure E rfl rfl (by decide) (rn_nilCheck E rfl rfl) ?_; clear E a; intro a E
    refine list_pure E rfl rfl (by decide) (by first | exact rn_fieldAddr0 (q := 0) E rfl rfl rfl | exact rn_fieldAddr (q := 0) E rfl rfl rfl) ?_; clear E a; intro a E
    refine list_pure E rfl rfl (by decide) (by first | exact rn_load E rfl rfl rfl (S.get (by repeat (first | exact pk1 | apply pick_tail))) rfl | exact rn_loadc E rfl rfl rfl (by assumption)) ?_; clear E a; intro a E
    refine list_pure E rfl rfl (by decide) (rn_slice_h (s := 1) (hi := 4) E rfl rfl rfl rfl rfl rfl (by omega)) ?_; clear E a; intro a E
    rw [hs2] at E
    refine list_call E rfl rfl (by decide) rfl Tryd.func32 rfl (by kernel_rfl) rfl (reader_ret C _ (rest.take 4) _ hR2 (S.hp.sel (sel_cons (by repeat (first | exact pk1 | apply pick_tail)) (sel_nil _))) (by omega)) ?_
    rintro v29 w ⟨p2, A, rfl, hA, hT⟩; clear E a; intro a E
    have S := S.call2 (sel_cons (by repeat (first | exact pk1 | apply pick_tail)) (sel_nil _)) hT
    refine list_call E rfl rfl (by decide) rfl Tryd.func33 rfl (by kernel_rfl) rfl (rnum_fit p2 (rest.take 4) 0 A _ hA (S.hp.sel (sel_cons (by repeat (first | exact pk1 | apply pick_tail)) (sel_nil _))) 4 (by omega) (by omega) (by omega)) ?_
    rintro v30 w ⟨A1, rfl, hA1, hT⟩; clear E a; intro a E
    have S := (S.call1 (sel_cons (by repeat (first | exact pk1 | apply pick_tail)) (sel_nil _)) hT).tail; rw [show numOf (((rest.take 4).drop 0).take 4) = n by simp [hn, nm, List.take_take]] at E
    have hnl : n < 4294967296 := by rw [hn]; exact Nat.lt_of_lt_of_le (numOf_lt _) (Nat.pow_le_pow_right (n := 256) (j := 4) (by omega) (by rw [List.length_take]; omega))
    refine list_pure E rfl rfl (by decide) (by first | exact rn_convert E rfl rfl rfl rfl (by first | exact wu8 _ | exact w_nat (by omega) | exact w_natu (by omega) | exact w_in (by omega) | exact w_inu (by omega) | exact rfl) | exact rn_string E rfl rfl rfl rfl rfl (by assumption) (S.stab.at (by simp))) ?_; clear E a; intro a E
    refine list_pure E rfl rfl (by decide) (rn_assign E rfl rfl) ?_; clear E a; intro a E
    refine wpList_nil ?_
    refine then_k hK ?_; clear hK; clear K
    refine wp_seq_k ?_; intro K hK
    refine wp_seq_k ?_; intro K hK
    refine region_list ?_
    refine list_pure E rfl rfl (by decide) (rn_move E rfl rfl) ?_; clear E a; intro a E
    refine list_pure E rfl rfl (by decide) (rn_lss E rfl rfl rfl) ?_; clear E a; intro a E
    refine list_pure E rfl rfl (by decide) (rn_move E rfl rfl) ?_; clear E a; intro a E
    refine guard_split E (t := 34) rfl (fun hb34 => ?_) (fun hb34 => ?_)
    · have hb34n := hb34; replace hb34n := Nrm.nrm hb34n
      refine list_guard_no E rfl rfl rfl rfl hb34 rfl (by decide) ?_; clear E a; intro a E
      refine list_guard_no E rfl rfl rfl rfl hb34 rfl (by decide) ?_; clear E a; intro a E
      refine list_pure E rfl rfl (by decide) (rn_pick_yes' E rfl rfl hb34 rfl) ?_; clear E a; intro a E
      refine wpList_nil ?_
      refine then_k hK ?_; clear hK; clear K
      refine if_true' E rfl rfl ?_
      refine wp_seq_k ?_; intro K hK
      refine region_list ?_
      refine list_pure E rfl rfl (by decide) (rn_move E rfl rfl) ?_; clear E a; intro a E
      refine list_pure E rfl rfl (by decide) (rn_nilCheck E rfl rfl) ?_; clear E a; intro a E
      refine list_pure E rfl rfl (by decide) (by first | exact rn_fieldAddr0 (q := 0) E rfl rfl rfl | exact rn_fieldAddr (q := 0) E rfl rfl rfl) ?_; clear E a; intro a E
      refine list_wp rfl (wp_store1 E S rfl rfl rfl rfl rfl rfl (by repeat (first | exact pk1 | apply pick_tail)) (by first | exact Nat.le_of_ble_eq_true rfl | (simp; done) | (simp; omega)) ?_); clear E S a; intro a w E S; try dsimp only [List.set] at S
      refine wpList_nil ?_
      refine then_k hK ?_; clear hK; clear K
      refine wp_seq_k ?_; intro K hK
      refine region_list ?_
      refine list_pure E rfl rfl (by decide) (rn_move E rfl rfl) ?_; clear E a; intro a E
      refine list_pure E rfl rfl (by decide) (rn_assign E rfl rfl) ?_; clear E a; intro a E
      refine list_pure E rfl rfl (by decide) (rn_assign E rfl rfl) ?_; clear E a; intro a E
      refine wpList_nil ?_
      refine then_k hK ?_; clear hK; clear K
      refine wp_ret ?_
      refine then_ret ?_; clear hK; clear K
      refine in_ret ?_
      refine then_ret ?_
      refine in_ret ?_
      refine then_ret ?_; clear hK; clear K
      refine ret2 E rfl rfl rfl ?_
      have hfin : cr = (outs, [], 230) := (by rw [hcut, cutR_bad (by omega) (by omega), List.append_nil])
      exact ⟨_, rfl, _, X, Y, [(p, _)] ++ [], vs, by rw [hfin], by rw [hfin]; exact ⟨none, 0, [], rfl, Nat.le_refl _, (Buf.nil 5 1).rd⟩, by rw [hfin]; exact hX, by rw [hfin]; exact hY, by rw [List.append_nil]; exact (S.del (A := C) (by repeat (first | exact pk1 | apply pick_tail)) |>.front4 (A := X) (by repeat (first | exact pk1 | apply pick_tail)) (B := Y) (by repeat (first | exact pk1 | apply pick_tail)) (C := [(p, _)]) (by repeat (first | exact pk1 | apply pick_tail)) (D := D) (by repeat (first | exact pk1 | apply pick_tail))).tr⟩
    · have hb34n := hb34; replace hb34n := Nrm.nrm hb34n
      refine list_guard_yes E rfl rfl rfl rfl hb34 rfl (by decide) (rn_move E rfl rfl) ?_; clear E a; intro a E
      refine list_guard_yes E rfl rfl rfl rfl hb34 rfl (by decide) (rn_gtr E rfl rfl rfl) ?_; clear E a; intro a E
      refine list_pure E rfl rfl (by decide) (rn_pick_no' E rfl rfl hb34 rfl) ?_; clear E a; intro a E
      refine wpList_nil ?_
      refine then_k hK ?_; clear hK; clear K
      refine if_bool E rfl (fun hb => ?_) (fun hb => ?_)
      · replace hb := Nrm.nrm hb
        refine wp_seq_k ?_; intro K hK
        refine region_list ?_
        refine list_pure E rfl rfl (by decide) (rn_move E rfl rfl) ?_; clear E a; intro a E
        refine list_pure E rfl rfl (by decide) (rn_nilCheck E rfl rfl) ?_; clear E a; intro a E
        refine list_pure E rfl rfl (by decide) (by first | exact rn_fieldAddr0 (q := 0) E rfl rfl rfl | exact rn_fieldAddr (q := 0) E rfl rfl rfl) ?_; clear E a; intro a E
        refine list_wp rfl (wp_store1 E S rfl rfl rfl rfl rfl rfl (by repeat (first | exact pk1 | apply pick_tail)) (by first | exact Nat.le_of_ble_eq_true rfl | (simp; done) | (simp; omega)) ?_); clear E S a; intro a w E S; try dsimp only [List.set] at S
        refine wpList_nil ?_
        refine then_k hK ?_; clear hK; clear K
        refine wp_seq_k ?_; intro K hK
        refine region_list ?_
        refine list_pure E rfl rfl (by decide) (rn_move E rfl rfl) ?_; clear E a; intro a E
        refine list_pure E rfl rfl (by decide) (rn_assign E rfl rfl) ?_; clear E a; intro a E
        refine list_pure E rfl rfl (by decide) (rn_assign E rfl rfl) ?_; clear E a; intro a E
        refine wpList_nil ?_
        refine then_k hK ?_; clear hK; clear K
        refine wp_ret ?_
        refine then_ret ?_; clear hK; clear K
        refine in_ret ?_
        refine then_ret ?_
        refine in_ret ?_
        refine then_ret ?_; clear hK; clear K
        refine ret2 E rfl rfl rfl ?_
        have hfin : cr = (outs, [], 230) := (by rw [hcut, cutR_bad (by omega) (by omega), List.append_nil])
        exact ⟨_, rfl, _, X, Y, [(p, _)] ++ [], vs, by rw [hfin], by rw [hfin]; exact ⟨none, 0, [], rfl, Nat.le_refl _, (Buf.nil 5 1).rd⟩, by rw [hfin]; exact hX, by rw [hfin]; exact hY, by rw [List.append_nil]; exact (S.del (A := C) (by repeat (first | exact pk1 | apply pick_tail)) |>.front4 (A := X) (by repeat (first | exact pk1 | apply pick_tail)) (B := Y) (by repeat (first | exact pk1 | apply pick_tail)) (C := [(p, _)]) (by repeat (first | exact pk1 | apply pick_tail)) (D := D) (by repeat (first | exact pk1 | apply pick_tail))).tr⟩
      · replace hb := Nrm.nrm hb
        refine wp_skip ?_
        refine then_k hK ?_; clear hK; clear K
        refine wp_seq_k ?_; intro K hK
        refine wp_seq_k ?_; intro K hK
        refine region_list ?_
        refine list_pure E rfl rfl (by decide) (rn_move E rfl rfl) ?_; clear E a; intro a E
        refine list_pure E rfl rfl (by decide) (rn_nilCheck E rfl rfl) ?_; clear E a; intro a E
        refine list_pure E rfl rfl (by decide) (by first | exact rn_fieldAddr0 (q := 0) E rfl rfl rfl | exact rn_fieldAddr (q := 0) E rfl rfl rfl) ?_; clear E a; intro a E
        refine list_pure E rfl rfl (by decide) (by first | exact rn_load E rfl rfl rfl (S.get (by repeat (first | exact pk1 | apply pick_tail))) rfl | exact rn_loadc E rfl rfl rfl (by assumption)) ?_; clear E a; intro a E
        refine list_pure E rfl rfl (by decide) (by first | exact rn_len E rfl rfl rfl | exact rn_len_str E rfl rfl rfl | exact rn_len_string E rfl rfl rfl) ?_; clear E a; intro a E
        refine list_pure E rfl rfl (by decide) (rn_move E rfl rfl) ?_; clear E a; intro a E
        refine list_pure E rfl rfl (by decide) (rn_add E rfl rfl rfl (by first | exact wa_lit2 (x := 4) (by omega) | exact w_in (by omega) | exact w_inu (by omega) | exact rfl)) ?_; clear E a; intro a E
        refine list_pure E rfl rfl (by decide) (rn_lss E rfl rfl rfl) ?_; clear E a; intro a E
        refine wpList_nil ?_
        refine then_k hK ?_; clear hK; clear K
        refine if_bool E rfl (fun hb => ?_) (fun hb => ?_)
        · replace hb := Nrm.nrm hb
          have hfin : cr = (outs, rest, 0) := (by rw [hcut, cutR_wait (by omega) (by omega) (by omega), List.append_nil])
          refine wp_exit ?_
          refine then_exit ?_; clear hK; clear K
          refine in_exit_ne rfl ?_
          refine then_exit ?_
          refine in_exit ?_
          refine then_k hK ?_; clear hK; clear K
          refine wp_seq_k ?_; intro K hK
          replace E := E.keep (e' := [(6, _)]) (keep_cons rfl (keep_nil))
          refine region_list ?_
          refine list_pure E rfl rfl (by decide) (rn_move E rfl rfl) ?_; clear E a; intro a E
          refine list_pure E rfl rfl (by decide) (rn_assign E rfl rfl) ?_; clear E a; intro a E
          refine list_pure E rfl rfl (by decide) (rn_assign E rfl rfl) ?_; clear E a; intro a E
          refine wpList_nil ?_
          refine then_k hK ?_; clear hK; clear K
          refine wp_ret ?_
          refine ret2 E rfl rfl rfl ?_
          exact ⟨_, rfl, _, X, Y, _, vs, by rw [hfin], by rw [hfin]; exact ⟨ad', c', C, rfl, hcc, hR⟩, by rw [hfin]; exact hX, by rw [hfin]; exact hY, (S.front2 (A := [(p, _)]) (by repeat (first | exact pk1 | apply pick_tail)) (B := C) (by repeat (first | exact pk1 | apply pick_tail))).join.front4 (A := X) (by repeat (first | exact pk1 | apply pick_tail)) (B := Y) (by repeat (first | exact pk1 | apply pick_tail)) (C := [(p, _)] ++ C) (by repeat (first | exact pk1 | apply pick_tail)) (D := D) (by repeat (first | exact pk1 | apply pick_tail)) |>.tr⟩
        · replace hb := Nrm.nrm hb
          skip
          refine wp_skip ?_
          refine then_k hK ?_; clear hK; clear K
          refine wp_seq_k ?_; intro K hK
          have hnr : 4 + n ≤ rest.length := by omega
          have htl : (rest.take (4 + n)).length = 4 + n := by rw [List.length_take]; omega
          refine region_list ?_
          refine list_pure E rfl rfl (by decide) (rn_move E rfl rfl) ?_; clear E a; intro a E
          refine list_pure E rfl rfl (by decide) (rn_move E rfl rfl) ?_; clear E a; intro a E
          refine list_pure E rfl rfl (by decide) (rn_nilCheck E rfl rfl) ?_; clear E a; intro a E
          refine list_pure E rfl rfl (by decide) (by first | exact rn_fieldAddr0 (q := 0) E rfl rfl rfl | exact rn_fieldAddr (q := 0) E rfl rfl rfl) ?_; clear E a; intro a E
          refine list_pure E rfl rfl (by decide) (by first | exact rn_load E rfl rfl rfl (S.get (by repeat (first | exact pk1 | apply pick_tail))) rfl | exact rn_loadc E rfl rfl rfl (by assumption)) ?_; clear E a; intro a E
          refine list_pure E rfl rfl (by decide) (rn_move E rfl rfl) ?_; clear E a; intro a E
          refine list_pure E rfl rfl (by decide) (rn_add E rfl rfl rfl (by first | exact wa_lit2 (x := 4) (by omega) | exact w_in (by omega) | exact w_inu (by omega) | exact rfl)) ?_; clear E a; intro a E
          refine list_pure E rfl rfl (by decide) (rn_slice_h (hi := 4 + n) (s := 1) E rfl rfl rfl rfl rfl rfl (by omega)) ?_; clear E a; intro a E
          have hR1 : Rd C 1 (sliced ad' 0 (4 + n) c' 1) (rest.take (4 + n)).length (byt (rest.take (4 + n))) := by
            have h := hR.bytes (lo := 0) (hi := 4 + n) (mx := c') (by omega) (by omega) (by omega)
            rwa [List.drop_zero, Nat.sub_zero] at h
          refine list_call E rfl rfl (by decide) rfl Tryd.func34 rfl (by kernel_rfl) rfl (bclone_ret C _ (rest.take (4 + n)) (by omega) hR1 _ (S.hp.sel (sel_cons (by repeat (first | exact pk1 | apply pick_tail)) (sel_nil _)))) ?_
          rintro v58 w ⟨B, hB, hT⟩; clear E a; intro a E
          have S := S.call2 (sel_cons (by repeat (first | exact pk1 | apply pick_tail)) (sel_nil _)) hT; obtain ⟨ad58, c58, rfl⟩ := hB.slice
          refine list_wp rfl (wp_bslice (cells := [_]) E S rfl rfl (by decide) rfl rfl rfl rfl rfl (by decide) rfl ?_); clear E S a; intro a w b59 E S
          refine list_wp rfl (wp_append (by' := 24) E S rfl rfl (by decide) rfl rfl hX (by repeat (first | exact pk1 | apply pick_tail)) ((rd_cells (g := b59) (T := 22) (xs := [.slice ad58 (rest.take (4 + n)).length c58]) (s := 1) (m := 1) rfl (by simp [Value.oneCell']) (by omega) 1).src (S.stab.at (by repeat (first | exact mm1 | assumption | apply List.Mem.tail))) rfl) rfl rfl rfl rfl rfl rfl (by simp only [maxLen]; omega) (by omega) ?_); clear E S a; intro a w v60 C60 E S hB60
          refine list_pure E rfl rfl (by decide) (rn_assign E rfl rfl) ?_; clear E a; intro a E
          refine wpList_nil ?_
          refine then_k hK ?_; clear hK; clear K
          refine region_list ?_
          refine list_pure E rfl rfl (by decide) (rn_move E rfl rfl) ?_; clear E a; intro a E
          refine list_pure E rfl rfl (by decide) (rn_move E rfl rfl) ?_; clear E a; intro a E
          refine list_pure E rfl rfl (by decide) (rn_nilCheck E rfl rfl) ?_; clear E a; intro a E
          refine list_pure E rfl rfl (by decide) (by first | exact rn_fieldAddr0 (q := 0) E rfl rfl rfl | exact rn_fieldAddr (q := 0) E rfl rfl rfl) ?_; clear E a; intro a E
          refine list_pure E rfl rfl (by decide) (by first | exact rn_load E rfl rfl rfl (S.get (by repeat (first | exact pk1 | apply pick_tail))) rfl | exact rn_loadc E rfl rfl rfl (by assumption)) ?_; clear E a; intro a E
          refine list_pure E rfl rfl (by decide) (rn_move E rfl rfl) ?_; clear E a; intro a E
          refine list_pure E rfl rfl (by decide) (rn_add E rfl rfl rfl (by first | exact wa_lit2 (x := 4) (by omega) | exact w_in (by omega) | exact w_inu (by omega) | exact rfl)) ?_; clear E a; intro a E
          refine list_pure E rfl rfl (by decide) (rn_slice_l (lo := 4 + n) (s := 1) E rfl rfl rfl rfl rfl rfl (by omega)) ?_; clear E a; intro a E
          obtain ⟨ad3, c3, he3, hc3, hR3⟩ := hR.tailc (n := 4 + n) hnr hcc
          have hdl : (rest.drop (4 + n)).length = rest.length - (4 + n) := List.length_drop
          rw [he3, ← hdl] at E
          rw [← hdl, Nat.mul_one, byt_drop] at hR3
          rw [← hdl] at hc3
          refine list_pure E rfl rfl (by decide) (rn_nilCheck E rfl rfl) ?_; clear E a; intro a E
          refine list_pure E rfl rfl (by decide) (by first | exact rn_fieldAddr0 (q := 0) E rfl rfl rfl | exact rn_fieldAddr (q := 0) E rfl rfl rfl) ?_; clear E a; intro a E
          refine list_wp rfl (wp_store1 E S rfl rfl rfl rfl rfl rfl (by repeat (first | exact pk1 | apply pick_tail)) (by first | exact Nat.le_of_ble_eq_true rfl | (simp; done) | (simp; omega)) ?_); clear E S a; intro a w E S; try dsimp only [List.set] at S
          refine wpList_nil ?_
          refine in_normal ?_
          refine then_normal ?_
          have S := S.gather (A := Y) (B := B) (by repeat (first | exact pk1 | apply pick_tail)) (by repeat (first | exact pk1 | apply pick_tail))
          exact ⟨_, by omega, rest.drop (4 + n), outs ++ [rest.take (4 + n)], ad3, c3, v60, C60, Y ++ B, vs ++ [_], rfl, by omega, by rw [List.length_append, List.length_singleton]; omega, by rw [hcut, cutR_step (b := rest) (by omega) (by omega) (by omega), ← hn, List.append_assoc]; rfl, hc3, hR3, by rw [List.length_append, List.length_singleton]; exact hB60, hY.snoc hB, S.only (Bs := [[(p, _)], C, C60, Y ++ B, D]) (sel_cons (by repeat (first | exact pk1 | apply pick_tail)) (sel_cons (by repeat (first | exact pk1 | apply pick_tail)) (sel_cons (by repeat (first | exact pk1 | apply pick_tail)) (sel_cons (by repeat (first | exact pk1 | apply pick_tail)) (sel_cons (by repeat (first | exact pk1 | apply pick_tail)) (sel_nil _)))))), E.keep (keep_cons rfl (keep_cons rfl keep_nil))⟩
  · replace hb := Nrm.nrm hb
    have hfin : cr = (outs, rest, 0) := (by rw [hcut, cutR_short (by omega), List.append_nil])
    refine wp_exit ?_
    refine then_exit ?_; clear hK; clear K
    refine then_exit ?_
    refine in_exit ?_
    refine then_k hK ?_; clear hK; clear K
    refine wp_seq_k ?_; intro K hK
    refine region_list ?_
    refine list_pure E rfl rfl (by decide) (rn_move E rfl rfl) ?_; clear E a; intro a E
    refine list_pure E rfl rfl (by decide) (rn_assign E rfl rfl) ?_; clear E a; intro a E
    refine list_pure E rfl rfl (by decide) (rn_assign E rfl rfl) ?_; clear E a; intro a E
    refine wpList_nil ?_
    refine then_k hK ?_; clear hK; clear K
    refine wp_ret ?_
    refine ret2 E rfl rfl rfl ?_
    exact ⟨_, rfl, _, X, Y, _, vs, by rw [hfin], by rw [hfin]; exact ⟨ad', c', C, rfl, hcc, hR⟩, by rw [hfin]; exact hX, by rw [hfin]; exact hY, (S.front2 (A := [(p, _)]) (by repeat (first | exact pk1 | apply pick_tail)) (B := C) (by repeat (first | exact pk1 | apply pick_tail))).join.front4 (A := X) (by repeat (first | exact pk1 | apply pick_tail)) (B := Y) (by repeat (first | exact pk1 | apply pick_tail)) (C := [(p, _)] ++ C) (by repeat (first | exact pk1 | apply pick_tail)) (D := D) (by repeat (first | exact pk1 | apply pick_tail)) |>.tr⟩
end Go.Proofs.YtjhmjdgdgpgcdaaDoor
