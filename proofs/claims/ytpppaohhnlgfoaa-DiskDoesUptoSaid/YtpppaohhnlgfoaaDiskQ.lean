/-
  Disks: made, read, dropped, flushed.
-/
import Derived.Test.YtpppaohhnlgfoaaDiskP
import Derived.Test.YtpppaohhnlgfoaaInnP
namespace Go.Sl
theorem byt_rep (n : Nat) : byt (List.replicate n 0) = List.replicate n (.int .u8 0) := by simp [byt]
theorem copy_head {l ys : List Value} {k : Nat} (hl : l.length = k) (hy : k ≤ ys.length) : l.take 0 ++ ys.take (min ys.length k) ++ l.drop (0 + min ys.length k) = ys.take k := by
  rw [Nat.min_eq_right hy, Nat.zero_add, List.take_zero, List.nil_append, ← hl, List.drop_length, List.append_nil]
end Go.Sl
namespace Go.Proofs.Ytpppaohhnlgfoaa
open Go.Sl
set_option maxRecDepth 10000

theorem dnew_ret (p : Nat) (s : Pw) (vw vd : Value) (k : Nat) (xs : List Value) (Cd : Chunk) (hCd : Buf Cd 27 1 vd k xs) (hk : k ≤ 1000) (n : Nat) (h1 : 1 ≤ n) (h2 : n ≤ 8192) (w0 : World) (H : Hp w0 [[(p, pcl s vw vd)], Cd]) :
    Ret Try.prog 9 #[ptr p, .int .i64 n] w0 fun u w' => ∃ d gp gn vd' Cd', u = .tuple #[ptr d, .int .i64 0] ∧ Buf Cd' 27 1 vd' (k + 1) (xs ++ [ptr d]) ∧
      Trs w0 w' [[(p, pcl s vw vd)], Cd] [[(p, pcl s vw vd')], Cd', [(d, dcl p gp gn (n * 128) false)], [(gp, cel (byt (List.replicate (n * 128) 0)) 5)], [(gn, cel (byt (List.replicate (n * 128) 0)) 5)]] := by
  have S := St.begin H
  obtain ⟨add, cd, rfl⟩ := hCd.slice
  refine enter2 37 Try.func9 rfl rfl (by decide) ?_; intro a E
  refine wp_seq_k ?_; intro K hK
  refine region_list ?_
  refine list_pure E rfl rfl (by decide) (rn_assign E rfl rfl) ?_; clear E a; intro a E
  refine list_pure E rfl rfl (by decide) (rn_assign E rfl rfl) ?_; clear E a; intro a E
  refine wpList_nil ?_
  refine then_k hK ?_; clear hK; clear K
  refine wp_seq_k ?_; intro K hK
  refine wp_seq_k ?_; intro K hK
  refine region_list ?_
  refine list_pure E rfl rfl (by decide) (rn_move E rfl rfl) ?_; clear E a; intro a E
  refine list_pure E rfl rfl (by decide) (by first | exact rn_eql E rfl rfl rfl | exact rn_eql_ptr_nil E rfl rfl rfl rfl | exact rn_eql_bool E rfl rfl rfl rfl | exact rn_eql_string E rfl rfl rfl) ?_; clear E a; intro a E
  refine list_pure E rfl rfl (by decide) (rn_move E rfl rfl) ?_; clear E a; intro a E
  refine guard_false E (t := 9) rfl (rfl) (fun hb9 => ?_)
  refine list_guard_yes E rfl rfl rfl rfl hb9 rfl (by decide) (rn_move E rfl rfl) ?_; clear E a; intro a E
  refine list_guard_yes E rfl rfl rfl rfl hb9 rfl (by decide) (rn_lss E rfl rfl rfl) ?_; clear E a; intro a E
  refine list_pure E rfl rfl (by decide) (rn_pick_no' E rfl rfl hb9 rfl) ?_; clear E a; intro a E
  refine list_pure E rfl rfl (by decide) (rn_move E rfl rfl) ?_; clear E a; intro a E
  refine guard_false E (t := 13) rfl ((decide_eq_false (by omega))) (fun hb13 => ?_)
  refine list_guard_yes E rfl rfl rfl rfl hb13 rfl (by decide) (rn_move E rfl rfl) ?_; clear E a; intro a E
  refine list_guard_yes E rfl rfl rfl rfl hb13 rfl (by decide) (rn_gtr E rfl rfl rfl) ?_; clear E a; intro a E
  refine list_pure E rfl rfl (by decide) (rn_pick_no' E rfl rfl hb13 rfl) ?_; clear E a; intro a E
  refine wpList_nil ?_
  refine then_k hK ?_; clear hK; clear K
  refine if_false' E rfl ((decide_eq_false (by omega))) ?_
  refine wp_skip ?_
  refine then_k hK ?_; clear hK; clear K
  refine wp_seq_k ?_; intro K hK
  refine wp_join (fun (a : Act) (w' : World) => ∃ d gp gn, St w0 [[(p, pcl s (vw) (.slice add k cd))], Cd] w' ([(d, dcl p gp gn (n * 128) false)] :: [(gp, cel (byt (List.replicate (n * 128) 0)) 5)] :: [(gn, cel (byt (List.replicate (n * 128) 0)) 5)] :: [(p, pcl s vw (.slice add k cd))] :: [Cd]) ∧ Fr a 37 [(0, ptr p), (6, ptr d)]) ?_ ?_
  · skip
    refine region_mix0 S (.cons (0, 0) (.cons (1, 0) (.cons (2, 0) (.cons (4, 0) (.cons (5, 0) (.fork 3 (.ofL [(6, 1), (7, 0), (8, 3), (9, 2)]) 6 (.ofL [(3, 1), (7, 0), (8, 3), (9, 2)]))))))) (by kernel_rfl) (by kernel_rfl) ?_
    clear S; intro w S
    refine mix_pure E rfl rfl rfl (by decide) (fun w h => rn_move E rfl rfl) ?_; clear E a; intro a E
    refine mix_pure E rfl rfl rfl (by decide) (fun w h => rn_move E rfl rfl) ?_; clear E a; intro a E
    refine mix_pure E rfl rfl rfl (by decide) (fun w h => rn_mul E rfl rfl rfl (by first | exact wm_lit2 (y := 128) (by omega) | exact w_in (by omega) | exact rfl)) ?_; clear E a; intro a E
    refine mix_pure E rfl rfl rfl (by decide) (fun w h => rn_move E rfl rfl) ?_; clear E a; intro a E
    refine mix_pure E rfl rfl rfl (by decide) (fun w h => rn_mul E rfl rfl rfl (by first | exact wm_lit2 (y := 128) (by omega) | exact w_in (by omega) | exact rfl)) ?_; clear E a; intro a E
    refine ⟨?_, ?_⟩
    · skip
      refine mix_act rfl rfl (wp_make1 (by' := 1) E S rfl rfl (by decide) rfl rfl rfl rfl rfl rfl rfl rfl rfl rfl rfl (by first | exact mkb (by omega) | exact mkb8 (by omega) | exact mkbn rfl (by omega)) (by simp only [maxLen]; omega) ?_); clear E S a; intro a w g20 E S; refine ⟨S.stab.sub (by first | (simp; done) | (simp +contextual; done)), ?_⟩
      refine mix_act rfl rfl (wp_make1 (by' := 1) E S rfl rfl (by decide) rfl rfl rfl rfl rfl rfl rfl rfl rfl rfl rfl (by first | exact mkb (by omega) | exact mkb8 (by omega) | exact mkbn rfl (by omega)) (by simp only [maxLen]; omega) ?_); clear E S a; intro a w g23 E S; refine ⟨S.stab.sub (by first | (simp; done) | (simp +contextual; done)), ?_⟩
      refine mix_pure E rfl rfl rfl (by decide) (fun w h => rn_build (cells := [_, _, _, _]) E rfl rfl rfl) ?_; clear E a; intro a E
      refine mix_last rfl rfl (wp_box E S rfl rfl (by decide) rfl rfl ?_); clear E S a; intro a w b25 E S
      refine mix_free E rfl rfl rfl (by decide) (fun w => rn_assign E rfl rfl) ?_; clear E a; intro a E
      refine mix_nil ?_
      refine joined_here ?_
      exact ⟨b25, g20, g23, by rw [byt_rep]; exact S.front3 (A := [(b25, _)]) (by repeat (first | exact pk1 | apply pick_tail)) (B := [(g20, _)]) (by repeat (first | exact pk1 | apply pick_tail)) (C := [(g23, _)]) (by repeat (first | exact pk1 | apply pick_tail)), E.keep (keep_cons rfl (keep_cons rfl keep_nil))⟩
    · skip
      refine mix_act rfl rfl (wp_make1 (by' := 1) E S rfl rfl (by decide) rfl rfl rfl rfl rfl rfl rfl rfl rfl rfl rfl (by first | exact mkb (by omega) | exact mkb8 (by omega) | exact mkbn rfl (by omega)) (by simp only [maxLen]; omega) ?_); clear E S a; intro a w g23 E S; refine ⟨S.stab.sub (by first | (simp; done) | (simp +contextual; done)), ?_⟩
      refine mix_act rfl rfl (wp_make1 (by' := 1) E S rfl rfl (by decide) rfl rfl rfl rfl rfl rfl rfl rfl rfl rfl rfl (by first | exact mkb (by omega) | exact mkb8 (by omega) | exact mkbn rfl (by omega)) (by simp only [maxLen]; omega) ?_); clear E S a; intro a w g20 E S; refine ⟨S.stab.sub (by first | (simp; done) | (simp +contextual; done)), ?_⟩
      refine mix_pure E rfl rfl rfl (by decide) (fun w h => rn_build (cells := [_, _, _, _]) E rfl rfl rfl) ?_; clear E a; intro a E
      refine mix_last rfl rfl (wp_box E S rfl rfl (by decide) rfl rfl ?_); clear E S a; intro a w b25 E S
      refine mix_free E rfl rfl rfl (by decide) (fun w => rn_assign E rfl rfl) ?_; clear E a; intro a E
      refine mix_nil ?_
      refine joined_here ?_
      exact ⟨b25, g20, g23, by rw [byt_rep]; exact S.front3 (A := [(b25, _)]) (by repeat (first | exact pk1 | apply pick_tail)) (B := [(g20, _)]) (by repeat (first | exact pk1 | apply pick_tail)) (C := [(g23, _)]) (by repeat (first | exact pk1 | apply pick_tail)), E.keep (keep_cons rfl (keep_cons rfl keep_nil))⟩
  · clear E S a; intro a w J; obtain ⟨d, gp, gn, S, E⟩ := J
    refine then_k hK ?_; clear hK; clear K
    refine wp_seq_k ?_; intro K hK
    refine region_list ?_
    refine list_pure E rfl rfl (by decide) (rn_move E rfl rfl) ?_; clear E a; intro a E
    refine list_pure E rfl rfl (by decide) (rn_move E rfl rfl) ?_; clear E a; intro a E
    refine list_pure E rfl rfl (by decide) (rn_nilCheck E rfl rfl) ?_; clear E a; intro a E
    refine list_pure E rfl rfl (by decide) (by first | exact rn_fieldAddr0 (q := 4) E rfl rfl rfl | exact rn_fieldAddr (q := 4) E rfl rfl rfl) ?_; clear E a; intro a E
    refine list_pure E rfl rfl (by decide) (by first | exact rn_load E rfl rfl rfl (S.get (by repeat (first | exact pk1 | apply pick_tail))) rfl | exact rn_loadc E rfl rfl rfl (by assumption)) ?_; clear E a; intro a E
    refine list_pure E rfl rfl (by decide) (rn_move E rfl rfl) ?_; clear E a; intro a E
    refine list_wp rfl (wp_bslice (cells := [_]) E S rfl rfl (by decide) rfl rfl rfl rfl rfl (by decide) rfl ?_); clear E S a; intro a w b32 E S
    refine list_wp rfl (wp_append (by' := 8) E S rfl rfl (by decide) rfl rfl hCd (by repeat (first | exact pk1 | apply pick_tail)) ((rd_cells (g := b32) (T := 27) (xs := [ptr d]) (s := 1) (m := 1) rfl (by simp [Value.oneCell']) (by omega) 1).src (S.stab.at (by repeat (first | exact mm1 | assumption | apply List.Mem.tail))) rfl) rfl rfl rfl rfl rfl rfl (by simp only [maxLen]; omega) (by omega) ?_); clear E S a; intro a w v33 C33 E S hB33
    obtain ⟨ad33, c33, rfl⟩ := hB33.slice
    refine list_pure E rfl rfl (by decide) (rn_nilCheck E rfl rfl) ?_; clear E a; intro a E
    refine list_pure E rfl rfl (by decide) (by first | exact rn_fieldAddr0 (q := 4) E rfl rfl rfl | exact rn_fieldAddr (q := 4) E rfl rfl rfl) ?_; clear E a; intro a E
    refine list_wp rfl (wp_store1 E S rfl rfl rfl rfl rfl rfl (by repeat (first | exact pk1 | apply pick_tail)) (by first | exact Nat.le_of_ble_eq_true rfl | (simp; done) | (simp; omega)) ?_); clear E S a; intro a w E S; try dsimp only [List.set] at S
    refine wpList_nil ?_
    refine then_k hK ?_; clear hK; clear K
    refine wp_seq_k ?_; intro K hK
    refine region_list ?_
    refine list_pure E rfl rfl (by decide) (rn_move E rfl rfl) ?_; clear E a; intro a E
    refine list_pure E rfl rfl (by decide) (rn_assign E rfl rfl) ?_; clear E a; intro a E
    refine list_pure E rfl rfl (by decide) (rn_assign E rfl rfl) ?_; clear E a; intro a E
    refine wpList_nil ?_
    refine then_k hK ?_; clear hK; clear K
    refine wp_ret ?_
    refine ret2 E rfl rfl rfl ?_
    exact ⟨_, rfl, d, gp, gn, _, C33, rfl, hB33, ((S.del (A := [(b32, _)]) (by repeat (first | exact pk1 | apply pick_tail))).front4 (A := [(p, _)]) (by repeat (first | exact pk1 | apply pick_tail)) (B := C33) (by repeat (first | exact pk1 | apply pick_tail)) (C := [(d, _)]) (by repeat (first | exact pk1 | apply pick_tail)) (D := [(gp, _)]) (by repeat (first | exact pk1 | apply pick_tail))).tr⟩

theorem dread_ret (d p gp gn : Nat) (f : Bool) (s : Pw) (vw vd : Value) (nw : List UInt8) (hn : nw.length ≤ 1048576) (at_ many : Int) (ha : -9223372036854775808 ≤ at_ ∧ at_ ≤ 9223372036854775807) (w0 : World)
    (H : Hp w0 [[(p, pcl s vw vd)], [(d, dcl p gp gn nw.length f)], [(gn, cel (byt nw) 5)]]) :
    Ret Try.prog 12 #[ptr d, .int .i64 at_, .int .i64 many] w0 fun u w' =>
      (s.off = true ∧ u = .tuple #[.slice none 0 0, .int .i64 5] ∧ Trs w0 w' [[(p, pcl s vw vd)], [(d, dcl p gp gn nw.length f)], [(gn, cel (byt nw) 5)]] [[(p, pcl s vw vd)], [(d, dcl p gp gn nw.length f)], [(gn, cel (byt nw) 5)]]) ∨
      (s.off = false ∧ f = true ∧ u = .tuple #[.slice none 0 0, .int .i64 30] ∧ Trs w0 w' [[(p, pcl s vw vd)], [(d, dcl p gp gn nw.length f)], [(gn, cel (byt nw) 5)]] [[(p, pcl s vw vd)], [(d, dcl p gp gn nw.length f)], [(gn, cel (byt nw) 5)]]) ∨
      (s.off = false ∧ f = false ∧ ¬ (0 ≤ at_ ∧ 0 ≤ many ∧ at_ ≤ (nw.length / 128 : Nat) ∧ many ≤ (nw.length / 128 : Nat) - at_) ∧ u = .tuple #[.slice none 0 0, .int .i64 1] ∧ Trs w0 w' [[(p, pcl s vw vd)], [(d, dcl p gp gn nw.length f)], [(gn, cel (byt nw) 5)]] [[(p, pcl s vw vd)], [(d, dcl p gp gn nw.length f)], [(gn, cel (byt nw) 5)]]) ∨
      (s.off = false ∧ f = false ∧ (0 ≤ at_ ∧ 0 ≤ many ∧ at_ ≤ (nw.length / 128 : Nat) ∧ many ≤ (nw.length / 128 : Nat) - at_) ∧ ∃ g, u = .tuple #[.slice (some ⟨g, 0, none⟩) (many.toNat * 128) (many.toNat * 128), .int .i64 0] ∧
        Trs w0 w' [[(p, pcl s vw vd)], [(d, dcl p gp gn nw.length f)], [(gn, cel (byt nw) 5)]] [[(g, cel (byt ((nw.drop (at_.toNat * 128)).take (many.toNat * 128))) 5)], [(p, pcl s vw vd)], [(d, dcl p gp gn nw.length f)], [(gn, cel (byt nw) 5)]]) := by
  have S := St.begin H
  refine enter3 33 Try.func12 rfl rfl (by decide) ?_; intro a E
  refine wp_seq_k ?_; intro K hK
  refine region_list ?_
  refine list_pure E rfl rfl (by decide) (rn_assign E rfl rfl) ?_; clear E a; intro a E
  refine list_pure E rfl rfl (by decide) (rn_assign E rfl rfl) ?_; clear E a; intro a E
  refine wpList_nil ?_
  refine then_k hK ?_; clear hK; clear K
  refine wp_seq_k ?_; intro K hK
  refine wp_seq_k ?_; intro K hK
  refine region_list ?_
  refine list_pure E rfl rfl (by decide) (rn_move E rfl rfl) ?_; clear E a; intro a E
  refine list_call E rfl rfl (by decide) rfl Try.func28 rfl (by kernel_rfl) rfl (down_ret d p gp gn _ f s vw vd _ (S.hp.sel (sel_cons (by repeat (first | exact pk1 | apply pick_tail)) (sel_cons (by repeat (first | exact pk1 | apply pick_tail)) (sel_nil _))))) ?_
  rintro v11 w ⟨rfl, hT⟩; clear E a; intro a E
  have S := S.call2 (sel_cons (by repeat (first | exact pk1 | apply pick_tail)) (sel_cons (by repeat (first | exact pk1 | apply pick_tail)) (sel_nil _))) hT
  have S := S.front3 (A := [(p, _)]) (by repeat (first | exact pk1 | apply pick_tail)) (B := [(d, _)]) (by repeat (first | exact pk1 | apply pick_tail)) (C := [(gn, _)]) (by repeat (first | exact pk1 | apply pick_tail))
  refine list_pure E rfl rfl (by decide) (rn_assign E rfl rfl) ?_; clear E a; intro a E
  refine wpList_nil ?_
  refine then_k hK ?_; clear hK; clear K
  refine wp_seq_k ?_; intro K hK
  refine region_list ?_
  refine list_pure E rfl rfl (by decide) (rn_move E rfl rfl) ?_; clear E a; intro a E
  refine list_pure E rfl rfl (by decide) (by first | exact rn_neq E rfl rfl rfl | exact rn_neq_ptr_nil E rfl rfl rfl rfl | exact rn_neq_bool E rfl rfl rfl rfl | exact rn_neq_string E rfl rfl rfl) ?_; clear E a; intro a E
  refine wpList_nil ?_
  refine then_k hK ?_; clear hK; clear K
  refine if_bool E rfl (fun hb => ?_) (fun hb => ?_)
  · replace hb := Nrm.nrm hb
    refine wp_seq_k ?_; intro K hK
    refine region_list ?_
    refine list_pure E rfl rfl (by decide) (rn_move E rfl rfl) ?_; clear E a; intro a E
    refine list_pure E rfl rfl (by decide) (rn_assign E rfl rfl) ?_; clear E a; intro a E
    refine list_pure E rfl rfl (by decide) (rn_assign E rfl rfl) ?_; clear E a; intro a E
    refine wpList_nil ?_
    refine then_k hK ?_; clear hK; clear K
    refine wp_ret ?_
    refine then_ret ?_; clear hK; clear K
    refine ret2 E rfl rfl rfl ?_
    rcases hs : s.off with _ | _
    · rcases hf : f with _ | _
      · simp [hs, hf] at hb
      · exact ⟨_, rfl, .inr (.inl ⟨rfl, rfl, by simp, by rw [← hf]; exact S.tr⟩)⟩
    · exact ⟨_, rfl, .inl ⟨rfl, by simp, S.tr⟩⟩
  · replace hb := Nrm.nrm hb
    refine wp_skip ?_
    refine then_k hK ?_; clear hK; clear K
    refine wp_seq_k ?_; intro K hK
    refine wp_seq_k ?_; intro K hK
    have hs : s.off = false := by cases h : s.off; rfl; simp [h] at hb
    have hf : f = false := by cases h : f; rfl; simp [hs, h] at hb
    subst hf
    refine region_list ?_
    refine list_pure E rfl rfl (by decide) (rn_move E rfl rfl) ?_; clear E a; intro a E
    refine list_pure E rfl rfl (by decide) (rn_move E rfl rfl) ?_; clear E a; intro a E
    refine list_pure E rfl rfl (by decide) (rn_move E rfl rfl) ?_; clear E a; intro a E
    refine list_call E rfl rfl (by decide) rfl Try.func29 rfl (by kernel_rfl) rfl (has_ret d p gp gn _ false at_ many hn ha _ (S.hp.sel (sel_cons (by repeat (first | exact pk1 | apply pick_tail)) (sel_nil _)))) ?_
    rintro v18 w ⟨rfl, hT⟩; clear E a; intro a E
    have S := S.call1 (sel_cons (by repeat (first | exact pk1 | apply pick_tail)) (sel_nil _)) hT
    refine list_pure E rfl rfl (by decide) (rn_not E rfl rfl) ?_; clear E a; intro a E
    refine wpList_nil ?_
    refine then_k hK ?_; clear hK; clear K
    refine if_bool E rfl (fun hb => ?_) (fun hb => ?_)
    · replace hb := Nrm.nrm hb
      have hno : ¬ (0 ≤ at_ ∧ 0 ≤ many ∧ at_ ≤ (nw.length / 128 : Nat) ∧ many ≤ (nw.length / 128 : Nat) - at_) := (by intro q; rw [decide_eq_true q] at hb; simp at hb)
      refine wp_seq_k ?_; intro K hK
      refine region_list ?_
      refine list_pure E rfl rfl (by decide) (rn_assign E rfl rfl) ?_; clear E a; intro a E
      refine list_pure E rfl rfl (by decide) (rn_assign E rfl rfl) ?_; clear E a; intro a E
      refine wpList_nil ?_
      refine then_k hK ?_; clear hK; clear K
      refine wp_ret ?_
      refine then_ret ?_; clear hK; clear K
      refine ret2 E rfl rfl rfl ?_
      exact ⟨_, rfl, .inr (.inr (.inl ⟨hs, rfl, hno, rfl, (S.front3 (A := [(p, _)]) (by repeat (first | exact pk1 | apply pick_tail)) (B := [(d, _)]) (by repeat (first | exact pk1 | apply pick_tail)) (C := [(gn, _)]) (by repeat (first | exact pk1 | apply pick_tail))).tr⟩))⟩
    · replace hb := Nrm.nrm hb
      have hyes : 0 ≤ at_ ∧ 0 ≤ many ∧ at_ ≤ (nw.length / 128 : Nat) ∧ many ≤ (nw.length / 128 : Nat) - at_ := (by apply Decidable.byContradiction; intro q; rw [decide_eq_false q] at hb; simp at hb)
      refine wp_skip ?_
      refine then_k hK ?_; clear hK; clear K
      refine wp_seq_k ?_; intro K hK
      obtain ⟨an, rfl⟩ : ∃ an : Nat, at_ = an := ⟨at_.toNat, by omega⟩
      obtain ⟨mn, rfl⟩ : ∃ mn : Nat, many = mn := ⟨many.toNat, by omega⟩
      have hfit : an * 128 + mn * 128 ≤ nw.length := by omega
      refine region_list ?_
      refine list_pure E rfl rfl (by decide) (rn_move E rfl rfl) ?_; clear E a; intro a E
      refine list_pure E rfl rfl (by decide) (rn_mul E rfl rfl rfl (by first | exact wm_lit2 (y := 128) (by omega) | exact w_in (by omega) | exact rfl)) ?_; clear E a; intro a E
      refine list_wp rfl (wp_make1 (by' := 1) E S rfl rfl (by decide) rfl rfl rfl rfl rfl rfl rfl rfl rfl rfl rfl (by first | exact mkb (by omega) | exact mkb8 (by omega) | exact mkbn rfl (by omega)) (by simp only [maxLen]; omega) ?_); clear E S a; intro a w g22 E S
      refine list_pure E rfl rfl (by decide) (rn_assign E rfl rfl) ?_; clear E a; intro a E
      refine wpList_nil ?_
      refine then_k hK ?_; clear hK; clear K
      refine wp_seq_k ?_; intro K hK
      refine region_list ?_
      refine list_pure E rfl rfl (by decide) (rn_move E rfl rfl) ?_; clear E a; intro a E
      refine list_pure E rfl rfl (by decide) (rn_move E rfl rfl) ?_; clear E a; intro a E
      refine list_pure E rfl rfl (by decide) (rn_nilCheck E rfl rfl) ?_; clear E a; intro a E
      refine list_pure E rfl rfl (by decide) (by first | exact rn_fieldAddr0 (q := 2) E rfl rfl rfl | exact rn_fieldAddr (q := 2) E rfl rfl rfl) ?_; clear E a; intro a E
      refine list_pure E rfl rfl (by decide) (by first | exact rn_load E rfl rfl rfl (S.get (by repeat (first | exact pk1 | apply pick_tail))) rfl | exact rn_loadc E rfl rfl rfl (by assumption)) ?_; clear E a; intro a E
      refine list_pure E rfl rfl (by decide) (rn_move E rfl rfl) ?_; clear E a; intro a E
      refine list_pure E rfl rfl (by decide) (rn_mul E rfl rfl rfl (by first | exact wm_lit2 (y := 128) (by omega) | exact w_in (by omega) | exact rfl)) ?_; clear E a; intro a E
      refine list_pure E rfl rfl (by decide) (rn_slice_l (lo := an * 128) (s := 1) E rfl rfl rfl rfl rfl rfl (by omega)) ?_; clear E a; intro a E
      obtain ⟨ad3, c3, he3, hc3, hR3⟩ := (rd_cells (g := gn) (T := 5) (xs := byt nw) (s := 1) (m := nw.length) (by rw [byt_length]; omega) (byt_one nw) (by omega) nw.length).tailc (n := an * 128) (by omega) (Nat.le_refl _)
      rw [Nat.mul_one, byt_drop] at hR3
      rw [he3] at E
      have hdl : (nw.drop (an * 128)).length = nw.length - an * 128 := List.length_drop
      refine list_wp rfl (wp_copy E S rfl rfl (by decide) rfl rfl (by repeat (first | exact pk1 | apply pick_tail)) (hR3.copySrc (S.stab.at (by repeat (first | exact mm1 | assumption | apply List.Mem.tail))) rfl) rfl rfl (by rw [List.length_replicate]; omega) ?_); clear E S a; intro a w E S
      have hcp : (List.replicate (mn * 128) (Value.int .u8 0)).take 0 ++ (byt (nw.drop (an * 128))).take (min (nw.length - an * 128) (mn * 128)) ++ (List.replicate (mn * 128) (Value.int .u8 0)).drop (0 + min (nw.length - an * 128) (mn * 128)) = byt ((nw.drop (an * 128)).take (mn * 128)) := by
        have h := copy_head (l := List.replicate (mn * 128) (Value.int .u8 0)) (ys := byt (nw.drop (an * 128))) (k := mn * 128) (by simp) (by rw [byt_length]; omega)
        rw [byt_length, hdl] at h
        rw [h, byt_take]
      rw [hcp] at S
      refine wpList_nil ?_
      refine then_k hK ?_; clear hK; clear K
      refine wp_seq_k ?_; intro K hK
      replace E := E.keep (e' := [(6, _), (7, _), (9, _)]) (keep_cons rfl (keep_cons rfl (keep_cons rfl (keep_nil))))
      refine region_list ?_
      refine list_pure E rfl rfl (by decide) (rn_move E rfl rfl) ?_; clear E a; intro a E
      refine list_pure E rfl rfl (by decide) (rn_assign E rfl rfl) ?_; clear E a; intro a E
      refine list_pure E rfl rfl (by decide) (rn_assign E rfl rfl) ?_; clear E a; intro a E
      refine wpList_nil ?_
      refine then_k hK ?_; clear hK; clear K
      refine wp_ret ?_
      refine ret2 E rfl rfl rfl ?_
      exact ⟨_, rfl, .inr (.inr (.inr ⟨hs, rfl, hyes, g22, by simp, (S.front4 (A := [(g22, _)]) (by repeat (first | exact pk1 | apply pick_tail)) (B := [(p, _)]) (by repeat (first | exact pk1 | apply pick_tail)) (C := [(d, _)]) (by repeat (first | exact pk1 | apply pick_tail)) (D := [(gn, _)]) (by repeat (first | exact pk1 | apply pick_tail))).tr⟩))⟩
end Go.Proofs.Ytpppaohhnlgfoaa
