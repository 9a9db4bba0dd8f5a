/-
  Disks: flushed, written.
-/
import Derived.Test.YtpppaohhnlgfoaaDiskR
namespace Go.Sl
theorem copy_whole {l ys : List Value} {n : Nat} (hl : l.length = n) (hy : ys.length = n) : l.take 0 ++ ys.take (min n n) ++ l.drop (0 + min n n) = ys := by
  rw [Nat.min_self, Nat.zero_add, List.take_zero, List.nil_append, ← hl, List.drop_length, List.append_nil, hl, ← hy, List.take_length]
theorem wcopy (d a : Nat) (b : List UInt8) {i : Nat} (h : 128 * i + 128 ≤ b.length) :
    ([ptr d, .int .i64 a] ++ List.replicate 128 (.int .u8 0) : List Value).take 2 ++ (byt (b.drop (i * 128))).take (min (b.length - i * 128) 128) ++ ([ptr d, .int .i64 a] ++ List.replicate 128 (.int .u8 0) : List Value).drop (2 + min (b.length - i * 128) 128) = (mkW d a (secB b i)).lay := by
  rw [Nat.min_eq_right (by omega), show ([ptr d, .int .i64 a] ++ List.replicate 128 (.int .u8 0) : List Value).take 2 = [ptr d, .int .i64 a] from rfl, byt_take, show ([ptr d, .int .i64 a] ++ List.replicate 128 (.int .u8 0) : List Value).drop (2 + 128) = [] from rfl, List.append_nil]
  show _ = [ptr d, .int .i64 a] ++ byt (pad (secB b i))
  rw [pad_id (secB_length h), secB, Nat.mul_comm i 128]
end Go.Sl
namespace Go.Proofs.Ytpppaohhnlgfoaa
open Go.Sl
set_option maxRecDepth 10000

theorem drop_ret (p : Nat) (s : Pw) (vw vd : Value) (ws : List Wt) (Cw : Chunk) (hCw : Buf Cw 65 130 vw ws.length (wl ws)) (d : Nat) (As : List Chunk) (hB : ∀ x ∈ ws, x.d = d ∨ (Bks As x.d ∧ Bks As d)) (w0 : World)
    (H : Hp w0 ([(p, pcl s vw vd)] :: Cw :: As)) :
    Ret Try.prog 31 #[ptr p, ptr d] w0 fun _ w' => ∃ vw' Cw', Buf Cw' 65 130 vw' (outW d ws).length (wl (outW d ws)) ∧ Trs w0 w' ([(p, pcl s vw vd)] :: Cw :: As) ([(p, pcl s vw' vd)] :: Cw' :: As) := by
  rcases hCw.2.2 with ⟨rfl, h0, rfl⟩ | ⟨g, c, r, rfl, rfl, hc, hcm, hcs⟩
  · obtain rfl := List.eq_nil_of_length_eq_zero h0
    refine (drop_nil p s vd d w0 (H.sel (sel_cons pk1 (sel_nil _)))).mono fun v w' hT => ?_
    have S := (St.begin H).call1 (sel_cons pk1 (sel_nil _)) hT
    exact ⟨_, [], Buf.nil _ _, S.tr⟩
  · refine (drop_blk p s vd ws g c r hc hcm (by rw [List.length_append]; omega) d As hB w0 H).mono fun v w' ⟨L, h1, h2, hT⟩ => ?_
    refine ⟨_, _, ?_, hT⟩
    have hL : L = wl (outW d ws) ++ L.drop ((outW d ws).length * 130) := by rw [← h2, List.take_append_drop]
    have hle := outW_le d ws
    exact ⟨wl_len _, wl_one _, .inr ⟨g, c, L.drop ((outW d ws).length * 130), rfl, by rw [← hL], by omega, hcm, by rw [wl_len, List.length_drop]; omega⟩⟩

theorem flush_ret (d p gp gn n : Nat) (f : Bool) (s : Pw) (vw vd : Value) (pl nw : List UInt8) (hpl : pl.length = n) (hnw : nw.length = n) (hn : n ≤ 1048576) (ws : List Wt) (Cw : Chunk) (hCw : Buf Cw 65 130 vw ws.length (wl ws)) (As : List Chunk) (hB : ∀ x ∈ ws, x.d = d ∨ Bks As x.d) (w0 : World)
    (H : Hp w0 ([(p, pcl s vw vd)] :: Cw :: [(d, dcl p gp gn n f)] :: [(gp, cel (byt pl) 5)] :: [(gn, cel (byt nw) 5)] :: As)) :
    Ret Try.prog 11 #[ptr d] w0 fun u w' =>
      ((s.off = true ∨ f = true) ∧ u = .int .i64 (if s.off then 5 else 30) ∧ Trs w0 w' ([(p, pcl s vw vd)] :: Cw :: [(d, dcl p gp gn n f)] :: [(gp, cel (byt pl) 5)] :: [(gn, cel (byt nw) 5)] :: As) ([(p, pcl s vw vd)] :: Cw :: [(d, dcl p gp gn n f)] :: [(gp, cel (byt pl) 5)] :: [(gn, cel (byt nw) 5)] :: As)) ∨
      (s.off = false ∧ f = false ∧ u = .int .i64 0 ∧ ∃ vw' Cw', Buf Cw' 65 130 vw' (outW d ws).length (wl (outW d ws)) ∧
        Trs w0 w' ([(p, pcl s vw vd)] :: Cw :: [(d, dcl p gp gn n f)] :: [(gp, cel (byt pl) 5)] :: [(gn, cel (byt nw) 5)] :: As) ([(p, pcl s vw' vd)] :: Cw' :: [(d, dcl p gp gn n f)] :: [(gp, cel (byt nw) 5)] :: [(gn, cel (byt nw) 5)] :: As)) := by
  have S := St.begin H
  refine enter1 24 Try.func11 rfl rfl (by decide) ?_; intro a E
  refine wp_seq_k ?_; intro K hK
  refine region_list ?_
  refine list_pure E rfl rfl (by decide) (rn_assign E rfl rfl) ?_; clear E a; intro a E
  refine wpList_nil ?_
  refine then_k hK ?_; clear hK; clear K
  refine wp_seq_k ?_; intro K hK
  refine wp_seq_k ?_; intro K hK
  refine region_list ?_
  refine list_pure E rfl rfl (by decide) (rn_move E rfl rfl) ?_; clear E a; intro a E
  refine list_call E rfl rfl (by decide) rfl Try.func28 rfl (by kernel_rfl) rfl (down_ret d p gp gn _ f s vw vd _ (S.hp.sel (sel_cons (by repeat (first | exact pk1 | apply pick_tail)) (sel_cons (by repeat (first | exact pk1 | apply pick_tail)) (sel_nil _))))) ?_
  rintro v5 w ⟨rfl, hT⟩; clear E a; intro a E
  have S := (S.call2 (sel_cons (by repeat (first | exact pk1 | apply pick_tail)) (sel_cons (by repeat (first | exact pk1 | apply pick_tail)) (sel_nil _))) hT).front2 (A := [(p, _)]) (by repeat (first | exact pk1 | apply pick_tail)) (B := Cw) (by repeat (first | exact pk1 | apply pick_tail))
  refine list_pure E rfl rfl (by decide) (rn_assign E rfl rfl) ?_; clear E a; intro a E
  refine wpList_nil ?_
  refine then_k hK ?_; clear hK; clear K
  refine wp_seq_k ?_; intro K hK
  refine region_list ?_
  refine list_pure E rfl rfl (by decide) (rn_move E rfl rfl) ?_; clear E a; intro a E
  refine list_pure E rfl rfl (by decide) (by first | exact rn_neq E rfl rfl rfl | exact rn_neq_ptr_nil E rfl rfl rfl rfl | exact rn_neq_bool E rfl rfl rfl rfl | exact rn_neq_string E rfl rfl rfl) ?_; clear E a; intro a E
  refine wpList_nil ?_
  refine then_k hK ?_; clear hK; clear K
  refine if_bool E rfl (fun hb => ?_) (fun hb => ?_)
  · replace hb := Nrm.nrm hb
    refine wp_seq_k ?_; intro K hK
    refine region_list ?_
    refine list_pure E rfl rfl (by decide) (rn_move E rfl rfl) ?_; clear E a; intro a E
    refine list_pure E rfl rfl (by decide) (rn_assign E rfl rfl) ?_; clear E a; intro a E
    refine wpList_nil ?_
    refine then_k hK ?_; clear hK; clear K
    refine wp_ret ?_
    refine then_ret ?_; clear hK; clear K
    refine ret1 E rfl rfl ?_
    exact ⟨_, rfl, .inl (by cases hs : s.off <;> cases hf : f <;> simp_all; all_goals exact S.tr)⟩
  · replace hb := Nrm.nrm hb
    refine wp_skip ?_
    refine then_k hK ?_; clear hK; clear K
    refine wp_seq_k ?_; intro K hK
    have hs : s.off = false := by cases h : s.off; rfl; simp [h] at hb
    have hf : f = false := by cases h : f; rfl; simp [hs, h] at hb
    subst hf
    have hR := rd_cells (g := gn) (T := 5) (xs := byt nw) (s := 1) (m := n) (by rw [byt_length]; omega) (byt_one nw) (by omega) n
    refine region_mix0 S (.ofL [(0, 0), (1, 0), (2, 0), (3, 0), (4, 0), (5, 0), (6, 0), (7, 0), (8, 3)]) (by kernel_rfl) (by kernel_rfl) ?_
    clear S; intro w S
    refine mix_pure E rfl rfl rfl (by decide) (fun w h => rn_move E rfl rfl) ?_; clear E a; intro a E
    refine mix_pure E rfl rfl rfl (by decide) (fun w h => rn_nilCheck E rfl rfl) ?_; clear E a; intro a E
    refine mix_pure E rfl rfl rfl (by decide) (fun w h => by first | exact rn_fieldAddr0 (q := 1) E rfl rfl rfl | exact rn_fieldAddr (q := 1) E rfl rfl rfl) ?_; clear E a; intro a E
    refine mix_pure E rfl rfl rfl (by decide) (fun w h => by first | exact rn_load E rfl rfl rfl (h.one (by repeat (first | exact mm1 | assumption | apply List.Mem.tail))) rfl | exact rn_loadc E rfl rfl rfl (by assumption)) ?_; clear E a; intro a E
    refine mix_pure E rfl rfl rfl (by decide) (fun w h => rn_move E rfl rfl) ?_; clear E a; intro a E
    refine mix_pure E rfl rfl rfl (by decide) (fun w h => rn_nilCheck E rfl rfl) ?_; clear E a; intro a E
    refine mix_pure E rfl rfl rfl (by decide) (fun w h => by first | exact rn_fieldAddr0 (q := 2) E rfl rfl rfl | exact rn_fieldAddr (q := 2) E rfl rfl rfl) ?_; clear E a; intro a E
    refine mix_pure E rfl rfl rfl (by decide) (fun w h => by first | exact rn_load E rfl rfl rfl (h.one (by repeat (first | exact mm1 | assumption | apply List.Mem.tail))) rfl | exact rn_loadc E rfl rfl rfl (by assumption)) ?_; clear E a; intro a E
    refine mix_last rfl rfl (wp_copy E S rfl rfl (by decide) rfl rfl (by repeat (first | exact pk1 | apply pick_tail)) (hR.copySrc (S.stab.at (by repeat (first | exact mm1 | assumption | apply List.Mem.tail))) rfl) rfl rfl (by rw [byt_length]; omega) ?_); clear E S a; intro a w E S
    rw [copy_whole (by rw [byt_length]; exact hpl) (by rw [byt_length]; exact hnw)] at S
    refine mix_nil ?_
    refine then_k hK ?_; clear hK; clear K
    refine wp_seq_k ?_; intro K hK
    refine region_list ?_
    refine list_pure E rfl rfl (by decide) (rn_move E rfl rfl) ?_; clear E a; intro a E
    refine list_pure E rfl rfl (by decide) (rn_nilCheck E rfl rfl) ?_; clear E a; intro a E
    refine list_pure E rfl rfl (by decide) (by first | exact rn_fieldAddr0 (q := 0) E rfl rfl rfl | exact rn_fieldAddr (q := 0) E rfl rfl rfl) ?_; clear E a; intro a E
    refine list_pure E rfl rfl (by decide) (by first | exact rn_load E rfl rfl rfl (S.get (by repeat (first | exact pk1 | apply pick_tail))) rfl | exact rn_loadc E rfl rfl rfl (by assumption)) ?_; clear E a; intro a E
    refine list_pure E rfl rfl (by decide) (rn_move E rfl rfl) ?_; clear E a; intro a E
    refine list_call E rfl rfl (by decide) rfl Try.func31 rfl (by kernel_rfl) rfl (drop_ret p s vw vd ws Cw hCw d ([(d, dcl p gp gn n false)] :: [(gp, cel (byt nw) 5)] :: [(gn, cel (byt nw) 5)] :: As) (fun x hx => (hB x hx).imp_right fun h => ⟨h.sub (fun _ h => by repeat (first | exact h | apply List.Mem.tail)), ⟨_, List.Mem.head _, _, _, List.Mem.head _⟩⟩) _ (S.front5 (A := [(p, _)]) (by repeat (first | exact pk1 | apply pick_tail)) (B := Cw) (by repeat (first | exact pk1 | apply pick_tail)) (C := [(d, _)]) (by repeat (first | exact pk1 | apply pick_tail)) (D := [(gp, _)]) (by repeat (first | exact pk1 | apply pick_tail)) (F := [(gn, _)]) (by repeat (first | exact pk1 | apply pick_tail))).hp) ?_
    rintro v23 w ⟨vw', Cw', hCw', hT⟩; clear E a; intro a E
    have S := (S.front5 (A := [(p, _)]) (by repeat (first | exact pk1 | apply pick_tail)) (B := Cw) (by repeat (first | exact pk1 | apply pick_tail)) (C := [(d, _)]) (by repeat (first | exact pk1 | apply pick_tail)) (D := [(gp, _)]) (by repeat (first | exact pk1 | apply pick_tail)) (F := [(gn, _)]) (by repeat (first | exact pk1 | apply pick_tail))).all hT
    refine wpList_nil ?_
    refine then_k hK ?_; clear hK; clear K
    refine wp_seq_k ?_; intro K hK
    refine region_list ?_
    refine list_pure E rfl rfl (by decide) (rn_assign E rfl rfl) ?_; clear E a; intro a E
    refine wpList_nil ?_
    refine then_k hK ?_; clear hK; clear K
    refine wp_ret ?_
    refine ret1 E rfl rfl ?_
    exact ⟨_, rfl, .inr ⟨hs, rfl, rfl, vw', Cw', hCw', S.tr⟩⟩

theorem dwrite_ret (d p gn gp n : Nat) (f : Bool) (s : Pw) (vw vd : Value) (nw : List UInt8) (hnw : nw.length = n) (hn : n ≤ 1048576) (ws : List Wt) (hws : ws.length + 8192 ≤ 244335861110) (hwr : s.wr ≤ 1000000000000000000) (hlf : s.left ≤ 9223372036854775807) (Cw : Chunk) (hCw : Buf Cw 65 130 vw ws.length (wl ws))
    (at_ : Int) (ha : -9223372036854775808 ≤ at_ ∧ at_ ≤ 9223372036854775807) (v : Value) (b : List UInt8) (D : Chunk) (hD : Rd D 1 v b.length (byt b)) (hcap : ∃ ad c, v = .slice ad b.length c ∧ b.length ≤ c) (As : List Chunk) (hDA : D ∈ As) (w0 : World)
    (H : Hp w0 ([(p, pcl s vw vd)] :: Cw :: [(d, dcl p gp gn n f)] :: [(gn, cel (byt nw) 5)] :: As)) :
    Ret Try.prog 10 #[ptr d, .int .i64 at_, v] w0 fun u w' => ∃ vw' Cw', u = .int .i64 (wrS d n at_ b s f nw ws).2.2.2 ∧ Buf Cw' 65 130 vw' (wrS d n at_ b s f nw ws).2.2.1.length (wl (wrS d n at_ b s f nw ws).2.2.1) ∧ (wrS d n at_ b s f nw ws).2.1.length = n ∧
      Trs w0 w' ([(p, pcl s vw vd)] :: Cw :: [(d, dcl p gp gn n f)] :: [(gn, cel (byt nw) 5)] :: As) ([(p, pcl (wrS d n at_ b s f nw ws).1 vw' vd)] :: Cw' :: [(d, dcl p gp gn n f)] :: [(gn, cel (byt (wrS d n at_ b s f nw ws).2.1) 5)] :: As) := by
  have S := St.begin H
  obtain ⟨ad, c, rfl, hc⟩ := hcap
  have hbl := hD.2.2.1
  simp only [maxLen] at hbl
  obtain ⟨fin, hfin⟩ : ∃ fin, fin = wrS d n at_ b s f nw ws := ⟨_, rfl⟩
  rw [← hfin]
  refine enter3 104 Try.func10 rfl rfl (by decide) ?_; intro a E
  refine wp_seq_k ?_; intro K hK
  refine region_list ?_
  refine list_pure E rfl rfl (by decide) (rn_assign E rfl rfl) ?_; clear E a; intro a E
  refine wpList_nil ?_
  refine then_k hK ?_; clear hK; clear K
  refine wp_seq_k ?_; intro K hK
  refine wp_seq_k ?_; intro K hK
  refine region_list ?_
  refine list_pure E rfl rfl (by decide) (rn_move E rfl rfl) ?_; clear E a; intro a E
  refine list_call E rfl rfl (by decide) rfl Try.func28 rfl (by kernel_rfl) rfl (down_ret d p gp gn _ f s vw vd _ (S.hp.sel (sel_cons (by repeat (first | exact pk1 | apply pick_tail)) (sel_cons (by repeat (first | exact pk1 | apply pick_tail)) (sel_nil _))))) ?_
  rintro v12 w ⟨rfl, hT⟩; clear E a; intro a E
  have S := (S.call2 (sel_cons (by repeat (first | exact pk1 | apply pick_tail)) (sel_cons (by repeat (first | exact pk1 | apply pick_tail)) (sel_nil _))) hT).front2 (A := [(p, _)]) (by repeat (first | exact pk1 | apply pick_tail)) (B := Cw) (by repeat (first | exact pk1 | apply pick_tail))
  refine list_pure E rfl rfl (by decide) (rn_assign E rfl rfl) ?_; clear E a; intro a E
  refine wpList_nil ?_
  refine then_k hK ?_; clear hK; clear K
  refine wp_seq_k ?_; intro K hK
  refine region_list ?_
  refine list_pure E rfl rfl (by decide) (rn_move E rfl rfl) ?_; clear E a; intro a E
  refine list_pure E rfl rfl (by decide) (by first | exact rn_neq E rfl rfl rfl | exact rn_neq_ptr_nil E rfl rfl rfl rfl | exact rn_neq_bool E rfl rfl rfl rfl | exact rn_neq_string E rfl rfl rfl) ?_; clear E a; intro a E
  refine wpList_nil ?_
  refine then_k hK ?_; clear hK; clear K
  refine if_bool E rfl (fun hb => ?_) (fun hb => ?_)
  · replace hb := Nrm.nrm hb
    refine wp_seq_k ?_; intro K hK
    refine region_list ?_
    refine list_pure E rfl rfl (by decide) (rn_move E rfl rfl) ?_; clear E a; intro a E
    refine list_pure E rfl rfl (by decide) (rn_assign E rfl rfl) ?_; clear E a; intro a E
    refine wpList_nil ?_
    refine then_k hK ?_; clear hK; clear K
    refine wp_ret ?_
    refine then_ret ?_; clear hK; clear K
    refine ret1 E rfl rfl ?_
    have hv : fin = (s, nw, ws, if s.off then 5 else 30) := by rw [hfin]; unfold wrS; cases hs : s.off <;> cases hf : f <;> simp_all
    have hvv : (if s.off = true then (5 : Int) else if f = true then 30 else 0) = if s.off then 5 else 30 := by cases hs : s.off <;> cases hf : f <;> simp_all
    exact ⟨_, rfl, vw, Cw, by rw [hv, hvv], by rw [hv]; exact hCw, by rw [hv]; exact hnw, by rw [hv]; exact S.tr⟩
  · replace hb := Nrm.nrm hb
    refine wp_skip ?_
    refine then_k hK ?_; clear hK; clear K
    refine wp_seq_k ?_; intro K hK
    refine wp_seq_k ?_; intro K hK
    have hs : s.off = false := by cases h : s.off; rfl; simp [h] at hb
    have hf : f = false := by cases h : f; rfl; simp [hs, h] at hb
    subst hf
    refine region_list ?_
    refine list_pure E rfl rfl (by decide) (rn_move E rfl rfl) ?_; clear E a; intro a E
    refine list_pure E rfl rfl (by decide) (by first | exact rn_len E rfl rfl rfl | exact rn_len_str E rfl rfl rfl | exact rn_len_string E rfl rfl rfl) ?_; clear E a; intro a E
    refine list_pure E rfl rfl (by decide) (rn_rem E rfl rfl rfl (by decide) (by first | exact wr_lit (y := 128) | exact rfl)) ?_; clear E a; intro a E
    refine list_pure E rfl rfl (by decide) (by first | exact rn_neq E rfl rfl rfl | exact rn_neq_ptr_nil E rfl rfl rfl rfl | exact rn_neq_bool E rfl rfl rfl rfl | exact rn_neq_string E rfl rfl rfl) ?_; clear E a; intro a E
    refine list_pure E rfl rfl (by decide) (rn_move E rfl rfl) ?_; clear E a; intro a E
    refine guard_split E (t := 20) rfl (fun hb20 => ?_) (fun hb20 => ?_)
    · have hb20n := hb20; replace hb20n := Nrm.nrm hb20n
      refine list_guard_no E rfl rfl rfl rfl hb20 rfl (by decide) ?_; clear E a; intro a E
      refine list_guard_no E rfl rfl rfl rfl hb20 rfl (by decide) ?_; clear E a; intro a E
      refine list_guard_no E rfl rfl rfl rfl hb20 rfl (by decide) ?_; clear E a; intro a E
      refine list_guard_no E rfl rfl rfl rfl hb20 rfl (by decide) ?_; clear E a; intro a E
      refine list_guard_no E rfl rfl rfl rfl hb20 rfl (by decide) ?_; clear E a; intro a E
      refine list_guard_no E rfl rfl rfl rfl hb20 rfl (by decide) ?_; clear E a; intro a E
      refine list_guard_no E rfl rfl rfl rfl hb20 rfl (by decide) ?_; clear E a; intro a E
      refine list_pure E rfl rfl (by decide) (rn_pick_yes' E rfl rfl hb20 rfl) ?_; clear E a; intro a E
      refine wpList_nil ?_
      refine then_k hK ?_; clear hK; clear K
      refine if_true' E rfl rfl ?_
      refine wp_seq_k ?_; intro K hK
      refine region_list ?_
      refine list_pure E rfl rfl (by decide) (rn_assign E rfl rfl) ?_; clear E a; intro a E
      refine wpList_nil ?_
      refine then_k hK ?_; clear hK; clear K
      refine wp_ret ?_
      refine then_ret ?_; clear hK; clear K
      refine ret1 E rfl rfl ?_
      have hno : ¬ wrMay n at_ b := by
        intro q
        first
        | (have := q.1; omega)
        | (rw [decide_eq_true ⟨q.2.1, by omega, q.2.2.1, q.2.2.2⟩] at hb; simp at hb)
      have hv : fin = (s, nw, ws, 1) := by rw [hfin]; unfold wrS; rw [if_neg (by simp [hs]), if_neg (by simp), if_pos hno]
      exact ⟨_, rfl, vw, Cw, by rw [hv], by rw [hv]; exact hCw, by rw [hv]; exact hnw, by rw [hv]; exact (S.front4 (A := [(p, _)]) (by repeat (first | exact pk1 | apply pick_tail)) (B := Cw) (by repeat (first | exact pk1 | apply pick_tail)) (C := [(d, _)]) (by repeat (first | exact pk1 | apply pick_tail)) (D := [(gn, _)]) (by repeat (first | exact pk1 | apply pick_tail))).tr⟩
    · have hb20n := hb20; replace hb20n := Nrm.nrm hb20n
      refine list_guard_yes E rfl rfl rfl rfl hb20 rfl (by decide) (rn_move E rfl rfl) ?_; clear E a; intro a E
      refine list_guard_yes E rfl rfl rfl rfl hb20 rfl (by decide) (rn_move E rfl rfl) ?_; clear E a; intro a E
      refine list_guard_yes E rfl rfl rfl rfl hb20 rfl (by decide) (rn_move E rfl rfl) ?_; clear E a; intro a E
      refine list_guard_yes E rfl rfl rfl rfl hb20 rfl (by decide) (by first | exact rn_len E rfl rfl rfl | exact rn_len_str E rfl rfl rfl | exact rn_len_string E rfl rfl rfl) ?_; clear E a; intro a E
      refine list_guard_yes E rfl rfl rfl rfl hb20 rfl (by decide) (rn_quo E rfl rfl rfl (by decide) (by first | exact wq_lit (y := 128) (by omega) | exact wq_litu (y := 128) (by omega) | exact rfl)) ?_; clear E a; intro a E
      refine list_guard_wp E rfl rfl rfl rfl hb20 ?_; refine wp_call' E rfl (by decide) rfl Try.func29 rfl (by kernel_rfl) rfl (has_ret d p gp gn _ false at_ ((b.length / 128 : Nat) : Int) hn ha _ (S.hp.sel (sel_cons (by repeat (first | exact pk1 | apply pick_tail)) (sel_nil _)))) ?_
      rintro v26 w ⟨rfl, hT⟩; clear E a; intro a E
      have S := S.call1 (sel_cons (by repeat (first | exact pk1 | apply pick_tail)) (sel_nil _)) hT
      refine list_guard_yes E rfl rfl rfl rfl hb20 rfl (by decide) (rn_not E rfl rfl) ?_; clear E a; intro a E
      refine list_pure E rfl rfl (by decide) (rn_pick_no' E rfl rfl hb20 rfl) ?_; clear E a; intro a E
      refine wpList_nil ?_
      refine then_k hK ?_; clear hK; clear K
      refine if_bool E rfl (fun hb => ?_) (fun hb => ?_)
      · replace hb := Nrm.nrm hb
        refine wp_seq_k ?_; intro K hK
        refine region_list ?_
        refine list_pure E rfl rfl (by decide) (rn_assign E rfl rfl) ?_; clear E a; intro a E
        refine wpList_nil ?_
        refine then_k hK ?_; clear hK; clear K
        refine wp_ret ?_
        refine then_ret ?_; clear hK; clear K
        refine ret1 E rfl rfl ?_
        have hno : ¬ wrMay n at_ b := by
          intro q
          first
          | (have := q.1; omega)
          | (rw [decide_eq_true ⟨q.2.1, by omega, q.2.2.1, q.2.2.2⟩] at hb; simp at hb)
        have hv : fin = (s, nw, ws, 1) := by rw [hfin]; unfold wrS; rw [if_neg (by simp [hs]), if_neg (by simp), if_pos hno]
        exact ⟨_, rfl, vw, Cw, by rw [hv], by rw [hv]; exact hCw, by rw [hv]; exact hnw, by rw [hv]; exact (S.front4 (A := [(p, _)]) (by repeat (first | exact pk1 | apply pick_tail)) (B := Cw) (by repeat (first | exact pk1 | apply pick_tail)) (C := [(d, _)]) (by repeat (first | exact pk1 | apply pick_tail)) (D := [(gn, _)]) (by repeat (first | exact pk1 | apply pick_tail))).tr⟩
      · replace hb := Nrm.nrm hb
        refine wp_skip ?_
        refine then_k hK ?_; clear hK; clear K
        refine wp_seq_k ?_; intro K hK
        refine wp_seq_k ?_; intro K hK
        have hmay : wrMay n at_ b := ⟨by omega, Decidable.byContradiction fun q => (by rw [decide_eq_false (fun z => q ⟨z.1, z.2.2.1, z.2.2.2⟩)] at hb; simp at hb)⟩
        have hv : fin = wrN d at_.toNat b (b.length / 128) 0 s nw ws := by rw [hfin]; unfold wrS; rw [if_neg (by simp [hs]), if_neg (by simp), if_neg (fun q => q hmay)]
        obtain ⟨hm1, hm2, hm3, hm4⟩ := hmay
        obtain ⟨an, rfl⟩ : ∃ an : Nat, at_ = an := ⟨at_.toNat, by omega⟩
        rw [Int.toNat_natCast] at hv
        obtain ⟨N, hN⟩ : ∃ N, N = b.length / 128 := ⟨_, rfl⟩
        rw [← hN] at hv hm4
        refine region_list ?_
        refine list_pure E rfl rfl (by decide) (rn_move E rfl rfl) ?_; clear E a; intro a E
        refine list_pure E rfl rfl (by decide) (by first | exact rn_len E rfl rfl rfl | exact rn_len_str E rfl rfl rfl | exact rn_len_string E rfl rfl rfl) ?_; clear E a; intro a E
        refine list_pure E rfl rfl (by decide) (rn_quo E rfl rfl rfl (by decide) (by first | exact wq_lit (y := 128) (by omega) | exact wq_litu (y := 128) (by omega) | exact rfl)) ?_; clear E a; intro a E
        rw [← hN] at E
        refine list_pure E rfl rfl (by decide) (rn_move E rfl rfl) ?_; clear E a; intro a E
        refine wpList_nil ?_
        refine then_k hK ?_; clear hK; clear K
        refine wp_block ?_
        refine wp_loop_ghost (fun (m : Nat) (a : Act) (w' : World) => ∃ (i : Nat) (s' : Pw) (nw' : List UInt8) (ws' : List Wt) (vw' : Value) (Cw' : Chunk), m = N - i ∧ i ≤ N ∧ wrN d an b (N - i) i s' nw' ws' = fin ∧ nw'.length = n ∧ ws'.length ≤ ws.length + i ∧ s'.wr ≤ s.wr + i ∧ s'.left ≤ 9223372036854775807 ∧ Buf Cw' 65 130 vw' ws'.length (wl ws') ∧
         St w0 ([(p, pcl s vw vd)] :: Cw :: [(d, dcl p gp gn n false)] :: [(gn, cel (byt nw) 5)] :: As) w' ([(p, pcl s' vw' vd)] :: Cw' :: [(d, dcl p gp gn n false)] :: [(gn, cel (byt nw') 5)] :: As) ∧ Fr a 104 [(0, ptr d), (1, .int .i64 an), (2, .slice ad b.length c), (31, .int .i64 N), (32, .int .i64 i)]) (N - 0) ?_ ?_
        · exact ⟨0, s, nw, ws, vw, Cw, rfl, by omega, hv.symm, hnw, by omega, by omega, hlf, hCw, (S.front4 (A := [(p, _)]) (by repeat (first | exact pk1 | apply pick_tail)) (B := Cw) (by repeat (first | exact pk1 | apply pick_tail)) (C := [(d, _)]) (by repeat (first | exact pk1 | apply pick_tail)) (D := [(gn, _)]) (by repeat (first | exact pk1 | apply pick_tail))), E.keep (keep_cons rfl (keep_cons rfl (keep_cons rfl (keep_cons rfl (keep_cons rfl keep_nil)))))⟩
        clear E; clear a; (try clear S); rintro m a w ⟨i, s', nw', ws', vw', Cw', rfl, hi, hrest, hnw', hwl, hwr', hlf', hCw', S, E⟩
        refine wp_seq_k ?_; intro K hK
        refine region_list ?_
        refine list_pure E rfl rfl (by decide) (rn_lss E rfl rfl rfl) ?_; clear E a; intro a E
        refine wpList_nil ?_
        refine then_k hK ?_; clear hK; clear K
        refine wp_seq_k ?_; intro K hK
        refine if_bool E rfl (fun hb => ?_) (fun hb => ?_)
        · replace hb := Nrm.nrm hb
          refine wp_skip ?_
          refine then_k hK ?_; clear hK; clear K
          refine wp_seq_k ?_; intro K hK
          refine wp_block ?_
          refine wp_seq_k ?_; intro K hK
          refine region_list ?_
          refine list_pure E rfl rfl (by decide) (rn_move E rfl rfl) ?_; clear E a; intro a E
          refine list_pure E rfl rfl (by decide) (rn_assign E rfl rfl) ?_; clear E a; intro a E
          refine wpList_nil ?_
          refine then_k hK ?_; clear hK; clear K
          refine wp_seq_k ?_; intro K hK
          have hiN : i < N := by omega
          rw [show N - i = (N - i - 1) + 1 by omega, wrN] at hrest
          refine region_list ?_
          refine list_pure E rfl rfl (by decide) (rn_move E rfl rfl) ?_; clear E a; intro a E
          refine list_pure E rfl rfl (by decide) (rn_nilCheck E rfl rfl) ?_; clear E a; intro a E
          refine list_pure E rfl rfl (by decide) (by first | exact rn_fieldAddr0 (q := 0) E rfl rfl rfl | exact rn_fieldAddr (q := 0) E rfl rfl rfl) ?_; clear E a; intro a E
          refine list_pure E rfl rfl (by decide) (by first | exact rn_load E rfl rfl rfl (S.get (by repeat (first | exact pk1 | apply pick_tail))) rfl | exact rn_loadc E rfl rfl rfl (by assumption)) ?_; clear E a; intro a E
          refine list_pure E rfl rfl (by decide) (rn_assign E rfl rfl) ?_; clear E a; intro a E
          refine wpList_nil ?_
          refine then_k hK ?_; clear hK; clear K
          refine wp_seq_k ?_; intro K hK
          refine wp_seq_k ?_; intro K hK
          refine region_list ?_
          refine list_pure E rfl rfl (by decide) (rn_move E rfl rfl) ?_; clear E a; intro a E
          refine list_pure E rfl rfl (by decide) (rn_nilCheck E rfl rfl) ?_; clear E a; intro a E
          refine list_pure E rfl rfl (by decide) (by first | exact rn_fieldAddr0 (q := 1) E rfl rfl rfl | exact rn_fieldAddr (q := 1) E rfl rfl rfl) ?_; clear E a; intro a E
          refine list_pure E rfl rfl (by decide) (by first | exact rn_load E rfl rfl rfl (S.get (by repeat (first | exact pk1 | apply pick_tail))) rfl | exact rn_loadc E rfl rfl rfl (by assumption)) ?_; clear E a; intro a E
          refine list_pure E rfl rfl (by decide) (by first | exact rn_eql E rfl rfl rfl | exact rn_eql_ptr_nil E rfl rfl rfl rfl | exact rn_eql_bool E rfl rfl rfl rfl | exact rn_eql_string E rfl rfl rfl) ?_; clear E a; intro a E
          refine wpList_nil ?_
          refine then_k hK ?_; clear hK; clear K
          refine if_bool E rfl (fun hb => ?_) (fun hb => ?_)
          · replace hb := Nrm.nrm hb
            rw [if_pos hb] at hrest
            refine wp_seq_k ?_; intro K hK
            refine region_list ?_
            refine list_pure E rfl rfl (by decide) (rn_move E rfl rfl) ?_; clear E a; intro a E
            refine list_pure E rfl rfl (by decide) (rn_move E rfl rfl) ?_; clear E a; intro a E
            refine list_pure E rfl rfl (by decide) (rn_nilCheck E rfl rfl) ?_; clear E a; intro a E
            refine list_pure E rfl rfl (by decide) (by first | exact rn_fieldAddr0 (q := 2) E rfl rfl rfl | exact rn_fieldAddr (q := 2) E rfl rfl rfl) ?_; clear E a; intro a E
            refine list_wp rfl (wp_store1 E S rfl rfl rfl rfl rfl rfl (by repeat (first | exact pk1 | apply pick_tail)) (by first | exact Nat.le_of_ble_eq_true rfl | (simp; done) | (simp; omega)) ?_); clear E S a; intro a w E S; try dsimp only [List.set] at S
            refine list_pure E rfl rfl (by decide) (rn_nilCheck E rfl rfl) ?_; clear E a; intro a E
            refine list_pure E rfl rfl (by decide) (by first | exact rn_fieldAddr0 (q := 1) E rfl rfl rfl | exact rn_fieldAddr (q := 1) E rfl rfl rfl) ?_; clear E a; intro a E
            refine list_wp rfl (wp_store1 E S rfl rfl rfl rfl rfl rfl (by repeat (first | exact pk1 | apply pick_tail)) (by first | exact Nat.le_of_ble_eq_true rfl | (simp; done) | (simp; omega)) ?_); clear E S a; intro a w E S; try dsimp only [List.set] at S
            refine wpList_nil ?_
            refine then_k hK ?_; clear hK; clear K
            refine wp_seq_k ?_; intro K hK
            refine region_list ?_
            refine list_pure E rfl rfl (by decide) (rn_assign E rfl rfl) ?_; clear E a; intro a E
            refine wpList_nil ?_
            refine then_k hK ?_; clear hK; clear K
            refine wp_ret ?_
            refine then_ret ?_; clear hK; clear K
            refine in_ret ?_
            refine then_ret ?_; clear hK; clear K
            refine then_ret ?_
            refine in_ret ?_
            refine then_ret ?_; clear hK; clear K
            refine ret1 E rfl rfl ?_
            exact ⟨_, rfl, vw', Cw', by rw [← hrest], by rw [← hrest]; exact hCw', by rw [← hrest]; exact hnw', by rw [← hrest]; exact S.tr⟩
          · replace hb := Nrm.nrm hb
            rw [if_neg hb] at hrest
            refine wp_skip ?_
            refine then_k hK ?_; clear hK; clear K
            refine wp_seq_k ?_; intro K hK
            refine wp_seq_k ?_; intro K hK
            refine region_list ?_
            refine list_pure E rfl rfl (by decide) (rn_move E rfl rfl) ?_; clear E a; intro a E
            refine list_pure E rfl rfl (by decide) (rn_nilCheck E rfl rfl) ?_; clear E a; intro a E
            refine list_pure E rfl rfl (by decide) (by first | exact rn_fieldAddr0 (q := 1) E rfl rfl rfl | exact rn_fieldAddr (q := 1) E rfl rfl rfl) ?_; clear E a; intro a E
            refine list_pure E rfl rfl (by decide) (by first | exact rn_load E rfl rfl rfl (S.get (by repeat (first | exact pk1 | apply pick_tail))) rfl | exact rn_loadc E rfl rfl rfl (by assumption)) ?_; clear E a; intro a E
            refine list_pure E rfl rfl (by decide) (rn_gtr E rfl rfl rfl) ?_; clear E a; intro a E
            refine wpList_nil ?_
            refine then_k hK ?_; clear hK; clear K
            refine wp_join (fun (a : Act) (w' : World) => ∃ lf : Int, lf = (if 0 < s'.left then s'.left - 1 else s'.left) ∧ St w0 ([(p, pcl s vw vd)] :: Cw :: [(d, dcl p gp gn n false)] :: [(gn, cel (byt nw) 5)] :: As) w' ([(p, pcl { s' with left := lf } vw' vd)] :: Cw' :: [(d, dcl p gp gn n false)] :: [(gn, cel (byt nw') 5)] :: As) ∧ Fr a 104 [(0, ptr d), (1, .int .i64 an), (2, .slice ad b.length c), (8, .int .i64 i), (9, ptr p), (31, .int .i64 N), (32, .int .i64 i)]) ?_ ?_
            · skip
              refine if_bool E rfl (fun hb => ?_) (fun hb => ?_)
              · replace hb := Nrm.nrm hb
                refine region_list ?_
                refine list_pure E rfl rfl (by decide) (rn_move E rfl rfl) ?_; clear E a; intro a E
                refine list_pure E rfl rfl (by decide) (rn_nilCheck E rfl rfl) ?_; clear E a; intro a E
                refine list_pure E rfl rfl (by decide) (by first | exact rn_fieldAddr0 (q := 1) E rfl rfl rfl | exact rn_fieldAddr (q := 1) E rfl rfl rfl) ?_; clear E a; intro a E
                refine list_pure E rfl rfl (by decide) (by first | exact rn_load E rfl rfl rfl (S.get (by repeat (first | exact pk1 | apply pick_tail))) rfl | exact rn_loadc E rfl rfl rfl (by assumption)) ?_; clear E a; intro a E
                refine list_pure E rfl rfl (by decide) (rn_sub E rfl rfl rfl (by first | exact ws_lit (y := 1) (by omega) (by omega) | exact w_in (by omega) | exact w_inu (by omega) | exact rfl)) ?_; clear E a; intro a E
                refine list_pure E rfl rfl (by decide) (rn_nilCheck E rfl rfl) ?_; clear E a; intro a E
                refine list_pure E rfl rfl (by decide) (by first | exact rn_fieldAddr0 (q := 1) E rfl rfl rfl | exact rn_fieldAddr (q := 1) E rfl rfl rfl) ?_; clear E a; intro a E
                refine list_wp rfl (wp_store1 E S rfl rfl rfl rfl rfl rfl (by repeat (first | exact pk1 | apply pick_tail)) (by first | exact Nat.le_of_ble_eq_true rfl | (simp; done) | (simp; omega)) ?_); clear E S a; intro a w E S; try dsimp only [List.set] at S
                refine wpList_nil ?_
                refine joined_here ?_
                exact ⟨s'.left - 1, by rw [if_pos hb], S, E.keep (keep_cons rfl (keep_cons rfl (keep_cons rfl (keep_cons rfl (keep_cons rfl (keep_cons rfl (keep_cons rfl keep_nil)))))))⟩
              · replace hb := Nrm.nrm hb
                refine wp_skip ?_
                refine joined_here ?_
                exact ⟨s'.left, by rw [if_neg hb], S, E.keep (keep_cons rfl (keep_cons rfl (keep_cons rfl (keep_cons rfl (keep_cons rfl (keep_cons rfl (keep_cons rfl keep_nil)))))))⟩
            · clear S E a; intro a w J; obtain ⟨lf, hlf2, S, E⟩ := J
              refine then_k hK ?_; clear hK; clear K
              refine wp_seq_k ?_; intro K hK
              refine region_list ?_
              refine list_pure E rfl rfl (by decide) (rn_move E rfl rfl) ?_; clear E a; intro a E
              refine list_pure E rfl rfl (by decide) (rn_nilCheck E rfl rfl) ?_; clear E a; intro a E
              refine list_pure E rfl rfl (by decide) (by first | exact rn_fieldAddr0 (q := 3) E rfl rfl rfl | exact rn_fieldAddr (q := 3) E rfl rfl rfl) ?_; clear E a; intro a E
              refine list_pure E rfl rfl (by decide) (by first | exact rn_load E rfl rfl rfl (S.get (by repeat (first | exact pk1 | apply pick_tail))) rfl | exact rn_loadc E rfl rfl rfl (by assumption)) ?_; clear E a; intro a E
              dsimp only at E S
              refine list_pure E rfl rfl (by decide) (rn_add E rfl rfl rfl (by first | exact wa_lit (y := 1) (by omega) | exact w_in (by omega) | exact w_inu (by omega) | exact rfl)) ?_; clear E a; intro a E
              refine list_pure E rfl rfl (by decide) (rn_nilCheck E rfl rfl) ?_; clear E a; intro a E
              refine list_pure E rfl rfl (by decide) (by first | exact rn_fieldAddr0 (q := 3) E rfl rfl rfl | exact rn_fieldAddr (q := 3) E rfl rfl rfl) ?_; clear E a; intro a E
              refine list_wp rfl (wp_store1 E S rfl rfl rfl rfl rfl rfl (by repeat (first | exact pk1 | apply pick_tail)) (by first | exact Nat.le_of_ble_eq_true rfl | (simp; done) | (simp; omega)) ?_); clear E S a; intro a w E S; try dsimp only [List.set] at S
              refine wpList_nil ?_
              refine then_k hK ?_; clear hK; clear K
              refine wp_seq_k ?_; intro K hK
              refine region_list ?_
              refine list_pure E rfl rfl (by decide) (rn_move E rfl rfl) ?_; clear E a; intro a E
              refine list_pure E rfl rfl (by decide) (rn_move E rfl rfl) ?_; clear E a; intro a E
              refine list_pure E rfl rfl (by decide) (rn_move E rfl rfl) ?_; clear E a; intro a E
              refine list_pure E rfl rfl (by decide) (rn_add E rfl rfl rfl (by first | exact wa1 (by omega) | exact w_in (by omega) | exact w_inu (by omega) | exact rfl)) ?_; clear E a; intro a E
              refine list_pure E rfl rfl (by decide) (rn_build (cells := [ptr d, .int .i64 (an + i : Nat)] ++ List.replicate 128 (.int .u8 0)) E rfl rfl rfl) ?_; clear E a; intro a E
              refine list_wp rfl (wp_alloc E S rfl rfl (by decide) rfl rfl rfl ?_); clear E S a; intro a w b10 E S
              refine list_wp rfl (wp_storeA E S rfl rfl rfl rfl (by intro u hu; rcases List.mem_append.1 hu with h | h; simp at h; rcases h with rfl | rfl <;> rfl; rw [(List.mem_replicate.1 h).2]; rfl) rfl (by simp; kernel_rfl) (by repeat (first | exact pk1 | apply pick_tail)) (by first | rfl | kernel_rfl) ?_); clear E S a; intro a w E S
              refine wpList_nil ?_
              refine then_k hK ?_; clear hK; clear K
              refine wp_seq_k ?_; intro K hK
              have hbi : 128 * i + 128 ≤ b.length := by omega
              obtain ⟨ad2, c2, he2, hc2, hR2⟩ := hD.tailc (n := i * 128) (by omega) hc
              rw [Nat.mul_one, byt_drop] at hR2
              have hdl : (b.drop (i * 128)).length = b.length - i * 128 := List.length_drop
              refine region_mix0 S (.ofL [(0, 0), (1, 0), (2, 0), (3, 0), (4, 0), (5, 0), (6, 3)]) (by kernel_rfl) (by kernel_rfl) ?_
              clear S; intro w S
              refine mix_pure E rfl rfl rfl (by decide) (fun w h => by first | exact rn_fieldAddr0 (q := 2) E rfl rfl rfl | exact rn_fieldAddr (q := 2) E rfl rfl rfl) ?_; clear E a; intro a E
              refine mix_pure E rfl rfl rfl (by decide) (fun w h => rn_slice_arr E rfl rfl rfl rfl (by decide)) ?_; clear E a; intro a E
              refine mix_pure E rfl rfl rfl (by decide) (fun w h => rn_move E rfl rfl) ?_; clear E a; intro a E
              refine mix_pure E rfl rfl rfl (by decide) (fun w h => rn_move E rfl rfl) ?_; clear E a; intro a E
              refine mix_pure E rfl rfl rfl (by decide) (fun w h => rn_mul E rfl rfl rfl (by first | exact wm_lit2 (y := 128) (by omega) | exact w_in (by omega) | exact rfl)) ?_; clear E a; intro a E
              refine mix_pure E rfl rfl rfl (by decide) (fun w h => rn_slice_l (lo := i * 128) (s := 1) E rfl rfl rfl rfl rfl rfl (by omega)) ?_; clear E a; intro a E
              rw [he2] at E
              refine mix_last rfl rfl (wp_copy E S rfl rfl (by decide) rfl rfl (by repeat (first | exact pk1 | apply pick_tail)) (hR2.copySrc (S.stab.at (by repeat (first | exact mm1 | assumption | apply List.Mem.tail))) rfl) rfl rfl (by simp; omega) ?_); clear E S a; intro a w E S
              rw [wcopy d (an + i) b hbi] at S
              obtain ⟨x, hx⟩ : ∃ x, x = mkW d (an + i) (secB b i) := ⟨_, rfl⟩
              rw [← hx] at S
              refine mix_nil ?_
              refine then_k hK ?_; clear hK; clear K
              refine wp_seq_k ?_; intro K hK
              refine region_mix S (.ofL [(0, 0), (1, 0), (2, 0), (3, 0), (4, 0), (5, 0), (6, 1), (7, 1), (8, 0), (9, 0), (10, 3)]) [[(b10, cel x.lay 65)], [(p, cel [vw', .int .i64 lf, .bool s'.off, .int .i64 (s'.wr + 1 : Nat), vd] 59)]] (fun h => h.sub (by first | (simp; done) | (simp +contextual; done))) (by kernel_rfl) (by kernel_rfl) ?_
              clear S; intro w S
              refine mix_pure E rfl rfl rfl (by decide) (fun w h => rn_move E rfl rfl) ?_; clear E a; intro a E
              refine mix_pure E rfl rfl rfl (by decide) (fun w h => rn_move E rfl rfl) ?_; clear E a; intro a E
              refine mix_pure E rfl rfl rfl (by decide) (fun w h => rn_nilCheck E rfl rfl) ?_; clear E a; intro a E
              refine mix_pure E rfl rfl rfl (by decide) (fun w h => by first | exact rn_fieldAddr0 (q := 0) E rfl rfl rfl | exact rn_fieldAddr (q := 0) E rfl rfl rfl) ?_; clear E a; intro a E
              refine mix_pure E rfl rfl rfl (by decide) (fun w h => by first | exact rn_load E rfl rfl rfl (h.one (by repeat (first | exact mm1 | assumption | apply List.Mem.tail))) rfl | exact rn_loadc E rfl rfl rfl (by assumption)) ?_; clear E a; intro a E
              refine mix_pure E rfl rfl rfl (by decide) (fun w h => rn_load_all E rfl rfl rfl (h.one (by repeat (first | exact mm1 | assumption | apply List.Mem.tail))) (Wt.lay_len x)) ?_; clear E a; intro a E
              refine mix_act rfl rfl (wp_bslice (cells := x.lay) E S rfl rfl (by decide) rfl rfl rfl rfl rfl (by decide) (fill_one (by kernel_rfl) ((Wt.lay_len x).trans (by kernel_rfl))) ?_); clear E S a; intro a w b87 E S; refine ⟨S.stab.sub (by first | (simp; done) | (simp +contextual; done)), ?_⟩
              refine mix_act rfl rfl (wp_append (by' := 144) E S rfl rfl (by decide) rfl rfl hCw' (by repeat (first | exact pk1 | apply pick_tail)) ((rd_cells (g := b87) (T := 65) (xs := x.lay) (s := 130) (m := 1) (Wt.lay_len x) x.lay_one (by omega) 1).src (S.stab.at (by repeat (first | exact mm1 | assumption | apply List.Mem.tail))) rfl) rfl rfl rfl rfl rfl rfl (by simp only [maxLen]; omega) (by omega) ?_); clear E S a; intro a w v88 C88 E S hB88; refine ⟨S.stab.sub (by first | (simp; done) | (simp +contextual; done)), ?_⟩
              obtain ⟨ad88, c88, rfl⟩ := hB88.slice
              refine mix_pure E rfl rfl rfl (by decide) (fun w h => rn_nilCheck E rfl rfl) ?_; clear E a; intro a E
              refine mix_pure E rfl rfl rfl (by decide) (fun w h => by first | exact rn_fieldAddr0 (q := 0) E rfl rfl rfl | exact rn_fieldAddr (q := 0) E rfl rfl rfl) ?_; clear E a; intro a E
              refine mix_last rfl rfl (wp_store1 E S rfl rfl rfl rfl rfl rfl (by repeat (first | exact pk1 | apply pick_tail)) (by first | exact Nat.le_of_ble_eq_true rfl | (simp; done) | (simp; omega)) ?_); clear E S a; intro a w E S; try dsimp only [List.set] at S
              refine mix_nil ?_
              refine then_k hK ?_; clear hK; clear K
              have hxb : x.b = secB b i := by rw [hx]; exact pad_id (secB_length hbi)
              have hbl2 := secB_length hbi
              have hset := setS_length (l := nw') (b := secB b i) (i := an + i) (by omega) hbl2
              refine region_mix S (.ofL [(0, 0), (1, 0), (2, 0), (3, 0), (4, 0), (5, 0), (6, 0), (7, 0), (9, 0), (10, 0), (8, 1), (11, 3)]) [[(d, dcl p gp gn n false)], [(b10, cel x.lay 65)]] (fun h => h.sub (by first | (simp; done) | (simp +contextual; done))) (by kernel_rfl) (by kernel_rfl) ?_
              clear S; intro w S
              refine mix_pure E rfl rfl rfl (by decide) (fun w h => rn_move E rfl rfl) ?_; clear E a; intro a E
              refine mix_pure E rfl rfl rfl (by decide) (fun w h => rn_move E rfl rfl) ?_; clear E a; intro a E
              refine mix_pure E rfl rfl rfl (by decide) (fun w h => rn_nilCheck E rfl rfl) ?_; clear E a; intro a E
              refine mix_pure E rfl rfl rfl (by decide) (fun w h => by first | exact rn_fieldAddr0 (q := 2) E rfl rfl rfl | exact rn_fieldAddr (q := 2) E rfl rfl rfl) ?_; clear E a; intro a E
              refine mix_pure E rfl rfl rfl (by decide) (fun w h => by first | exact rn_load E rfl rfl rfl (h.one (by repeat (first | exact mm1 | assumption | apply List.Mem.tail))) rfl | exact rn_loadc E rfl rfl rfl (by assumption)) ?_; clear E a; intro a E
              refine mix_pure E rfl rfl rfl (by decide) (fun w h => rn_move E rfl rfl) ?_; clear E a; intro a E
              refine mix_pure E rfl rfl rfl (by decide) (fun w h => rn_move E rfl rfl) ?_; clear E a; intro a E
              refine mix_pure E rfl rfl rfl (by decide) (fun w h => rn_add E rfl rfl rfl (by first | exact wa1 (by omega) | exact w_in (by omega) | exact w_inu (by omega) | exact rfl)) ?_; clear E a; intro a E
              refine mix_pure E rfl rfl rfl (by decide) (fun w h => by first | exact rn_fieldAddr0 (q := 2) E rfl rfl rfl | exact rn_fieldAddr (q := 2) E rfl rfl rfl) ?_; clear E a; intro a E
              refine mix_pure E rfl rfl rfl (by decide) (fun w h => rn_slice_arr E rfl rfl rfl rfl (by decide)) ?_; clear E a; intro a E
              refine mix_call E rfl rfl rfl (by decide) rfl Try.func30 rfl (by kernel_rfl) rfl (dsector_ret (ptr d) gn n (an + i) (by omega) hn _) ?_
              rintro v99 w ⟨rfl, hT⟩; clear E a; intro a E
              have S := S.quiet hT
              refine ⟨S.stab.sub (by first | (simp; done) | (simp +contextual; done)), ?_⟩
              have hRx := rd_part (g := b10) (m := 128) (T := 65) [ptr d, .int .i64 (an + i : Nat)] (byt x.b) [] (by rw [byt_length, x.hb]) (byt_one _) (by omega) 128
              rw [List.append_nil, show [ptr d, .int .i64 (an + i : Nat)] ++ byt x.b = x.lay by rw [hx]; rfl] at hRx
              refine mix_last rfl rfl (wp_copy E S rfl rfl (by decide) rfl rfl (by repeat (first | exact pk1 | apply pick_tail)) (hRx.copySrc (S.stab.at (by repeat (first | exact mm1 | assumption | apply List.Mem.tail))) rfl) rfl rfl (by rw [byt_length]; omega) ?_); clear E S a; intro a w E S
              rw [Nat.min_self, show (byt x.b).take 128 = byt x.b from List.take_of_length_le (by rw [byt_length, x.hb]; omega), byt_setS _ _ _ x.hb, hxb] at S
              refine mix_nil ?_
              refine in_normal ?_
              refine then_k hK ?_; clear hK; clear K
              refine region_list ?_
              refine list_pure E rfl rfl (by decide) (rn_add E rfl rfl rfl (by first | exact wa_lit (y := 1) (by omega) | exact w_in (by omega) | exact w_inu (by omega) | exact rfl)) ?_; clear E a; intro a E
              refine list_pure E rfl rfl (by decide) (rn_move E rfl rfl) ?_; clear E a; intro a E
              refine wpList_nil ?_
              refine then_normal ?_
              refine ⟨_, by omega, i + 1, ⟨lf, s'.off, s'.wr + 1⟩, setS nw' (an + i) (secB b i), ws' ++ [x], _, C88, rfl, by omega, ?_, ?_, ?_, ?_, ?_, ?_, ((S.del (A := [(b87, _)]) (by repeat (first | exact pk1 | apply pick_tail))).del (A := [(b10, _)]) (by repeat (first | exact pk1 | apply pick_tail))).front4 (A := [(p, _)]) (by repeat (first | exact pk1 | apply pick_tail)) (B := C88) (by repeat (first | exact pk1 | apply pick_tail)) (C := [(d, _)]) (by repeat (first | exact pk1 | apply pick_tail)) (D := [(gn, _)]) (by repeat (first | exact pk1 | apply pick_tail)), E.keep (keep_cons rfl (keep_cons rfl (keep_cons rfl (keep_cons rfl (keep_cons rfl keep_nil)))))⟩
              · rw [show N - (i + 1) = N - i - 1 by omega, hx, hlf2]; exact hrest
              · rw [hset]; exact hnw'
              · rw [List.length_append, List.length_singleton]; omega
              · simp only; omega
              · simp only; rw [hlf2]; split <;> omega
              · rw [List.length_append, List.length_singleton, wl, List.flatMap_append]; simpa using hB88
        · replace hb := Nrm.nrm hb
          refine wp_exit ?_
          refine then_exit ?_; clear hK; clear K
          refine then_exit ?_
          refine in_exit ?_
          refine then_k hK ?_; clear hK; clear K
          refine wp_seq_k ?_; intro K hK
          refine region_list ?_
          refine list_pure E rfl rfl (by decide) (rn_assign E rfl rfl) ?_; clear E a; intro a E
          refine wpList_nil ?_
          refine then_k hK ?_; clear hK; clear K
          refine wp_ret ?_
          refine ret1 E rfl rfl ?_
          obtain rfl : i = N := by omega
          rw [Nat.sub_self, wrN] at hrest
          exact ⟨_, rfl, vw', Cw', by rw [← hrest], by rw [← hrest]; exact hCw', by rw [← hrest]; exact hnw', by rw [← hrest]; exact S.tr⟩
end Go.Proofs.Ytpppaohhnlgfoaa
