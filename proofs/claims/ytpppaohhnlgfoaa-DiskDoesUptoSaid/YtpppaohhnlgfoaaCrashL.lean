/-
  DiskCrash.
-/
import Derived.Test.YtpppaohhnlgfoaaRackA
namespace Go.Sl
/-- A call of the law's script. -/
structure Dop where
  kind : Int
  disk : Int
  at_ : Int
  many : Int
  vb : Value
  b : List UInt8
  vs : Value
  st : List Bool
def Dop.lay (o : Dop) : List Value := [.int .i64 o.kind, .int .i64 o.disk, .int .i64 o.at_, .int .i64 o.many, o.vb, o.vs]
theorem Dop.lay_len (o : Dop) : o.lay.length = 6 := rfl
/-- What is known of it. -/
structure DopG (O : Chunk) (o : Dop) : Prop where
  at_ : -9223372036854775808 ≤ o.at_ ∧ o.at_ ≤ 9223372036854775807
  disk : -9223372036854775808 ≤ o.disk ∧ o.disk ≤ 9223372036854775807
  many : -9223372036854775808 ≤ o.many ∧ o.many ≤ 9223372036854775807
  rb : Rd O 1 o.vb o.b.length (byt o.b)
  bl : o.b.length ≤ 140737488351232
  bc : ∃ ad c, o.vb = .slice ad o.b.length c ∧ o.b.length ≤ c
  rs : Rd O 1 o.vs o.st.length (o.st.map Value.bool)
  sl : o.st.length ≤ 140737488351232
  vb1 : o.vb.oneCell' = true
  vs1 : o.vs.oneCell' = true
theorem Dop.lay_one {O : Chunk} {o : Dop} (h : DopG O o) : ∀ u ∈ o.lay, u.oneCell' = true := fun u hu => by
  simp only [Dop.lay, List.mem_cons, List.not_mem_nil, or_false] at hu
  rcases hu with rfl | rfl | rfl | rfl | rfl | rfl
  all_goals first | rfl | exact h.vb1 | exact h.vs1
/-- What waits comes from what was kept. -/
def SrcW (ks : List Dop) (w : Wt) : Prop := ∃ o ∈ ks, ∃ j : Nat, j < o.b.length / 128 ∧ (w.at_ : Int) = o.at_ + j ∧ w.b = secB o.b j
/-- A sector is what it was, or what one that was kept says. -/
theorem crash_sec {d s : Nat} {ws : List Wt} {ks : List Dop} {st : List Bool} {base : List UInt8} (hs : s < 8) (hb : base.length = 1024) (hw : ∀ w ∈ ws, w.d = d ∧ 128 * w.at_ + 128 ≤ 1024) (hk : ∀ w ∈ ws, SrcW ks w) :
    secB (upS d ws st base) s = secB base s ∨ ∃ o ∈ ks, ∃ j : Nat, j < o.b.length / 128 ∧ (s : Int) = o.at_ + j ∧ secB (upS d ws st base) s = secB o.b j := by
  rcases upS_sec (n := 1024) (d := d) (s := s) (by omega) ws st base hb (fun w h => (hw w h).2) with h | ⟨w, h1, h2, h3⟩
  · exact .inl h
  · obtain ⟨o, g1, j, g2, g3, g4⟩ := hk w h1
    exact .inr ⟨o, g1, j, g2, by rw [← h2]; exact g3, by rw [h3, g4]⟩
end Go.Sl
namespace Go.Proofs.Ytpppaohhnlgfoaa
open Go.Sl
set_option maxRecDepth 10000

theorem lsector_ret (v : Value) (bs : List UInt8) (C : Chunk) (hC : Rd C 1 v bs.length (byt bs)) (i : Nat) (hi : 128 * i + 128 ≤ bs.length) (hbl : bs.length ≤ 140737488351232) (hcap : ∃ ad c, v = .slice ad bs.length c ∧ bs.length ≤ c) (w0 : World) (H : Hp w0 [C]) :
    Ret Try.prog 16 #[v, .int .i64 i] w0 fun u w' => u = str (secB bs i) ∧ Trs w0 w' [C] [C] := by
  have S := St.begin H
  obtain ⟨ad, c, rfl, hc⟩ := hcap
  refine enter2 13 Try.func16 rfl rfl (by decide) ?_; intro a E
  refine wp_seq_k ?_; intro K hK
  refine region_list ?_
  refine list_pure E rfl rfl (by decide) (rn_assign E rfl rfl) ?_; clear E a; intro a E
  refine wpList_nil ?_
  refine then_k hK ?_; clear hK; clear K
  refine wp_seq_k ?_; intro K hK
  refine region_list ?_
  refine list_pure E rfl rfl (by decide) (rn_move E rfl rfl) ?_; clear E a; intro a E
  refine list_pure E rfl rfl (by decide) (rn_move E rfl rfl) ?_; clear E a; intro a E
  refine list_pure E rfl rfl (by decide) (rn_mul E rfl rfl rfl (by first | exact wm_lit (x := 128) (by omega) | exact wm_litu (x := 128) (by omega) | exact w_in (by omega) | exact rfl)) ?_; clear E a; intro a E
  refine list_pure E rfl rfl (by decide) (rn_move E rfl rfl) ?_; clear E a; intro a E
  refine list_pure E rfl rfl (by decide) (rn_mul E rfl rfl rfl (by first | exact wm_lit (x := 128) (by omega) | exact wm_litu (x := 128) (by omega) | exact w_in (by omega) | exact rfl)) ?_; clear E a; intro a E
  refine list_pure E rfl rfl (by decide) (rn_add E rfl rfl rfl (by first | exact wa_lit (y := 128) (by omega) | exact w_in (by omega) | exact w_inu (by omega) | exact rfl)) ?_; clear E a; intro a E
  refine list_pure E rfl rfl (by decide) (rn_slice_lh (s := 1) (lo := 128 * i) (hi := 128 * i + 128) E rfl rfl rfl rfl rfl rfl (by omega) (by omega) (by omega) (by omega)) ?_; clear E a; intro a E
  obtain ⟨ad2, c2, he2, hR2⟩ := hC.cut (lo := 128 * i) (hi := 128 * i + 128) (by omega) (by omega) (by omega)
  rw [he2] at E
  rw [Nat.mul_one, Nat.mul_one, byt_drop, byt_take, Nat.add_sub_cancel_left] at hR2
  rw [Nat.add_sub_cancel_left] at E
  have hsl := secB_length hi
  refine list_pure E rfl rfl (by decide) (rn_string E rfl rfl rfl rfl rfl (bs := secB bs i) (by rw [hsl]; exact hR2) (S.stab.at (by repeat (first | exact mm1 | assumption | apply List.Mem.tail)))) ?_; clear E a; intro a E
  refine list_pure E rfl rfl (by decide) (rn_assign E rfl rfl) ?_; clear E a; intro a E
  refine wpList_nil ?_
  refine then_k hK ?_; clear hK; clear K
  refine wp_ret ?_
  refine ret1 E rfl rfl ?_
  exact ⟨_, rfl, rfl, S.tr⟩

set_option maxHeartbeats 4000000 in
theorem crash_walk (O : Chunk) (vf : Value) (fs : List Dop) (hF : Rd O 6 vf fs.length (fs.flatMap Dop.lay)) (hfg : ∀ o ∈ fs, DopG O o) (hfl : fs.length ≤ 1048576) (vg : Value) (gs : List Dop) (hG : Rd O 6 vg gs.length (gs.flatMap Dop.lay)) (hgg : ∀ o ∈ gs, DopG O o) (hgl : gs.length ≤ 1048576)
    (vs : Value) (st : List Bool) (hst : Rd O 1 vs st.length (st.map Value.bool)) (hsl : st.length ≤ 1048576) (w0 : World) (H : Hp w0 [O]) :
    Ret Try.prog 3 #[vf, vg, vs] w0 fun u w' => u = .bool true ∧ Trs w0 w' [O] [O] := by
  have S := St.begin H
  obtain ⟨adf, cf, rfl⟩ := hF.slice
  obtain ⟨adg, cg, rfl⟩ := hG.slice
  obtain ⟨ads, cs, rfl⟩ := hst.slice
  obtain ⟨Z, hZ⟩ : ∃ Z, Z = List.replicate (8 * 128) (0 : UInt8) := ⟨_, rfl⟩
  have hZl : Z.length = 1024 := by rw [hZ]; simp
  refine enter3 253 Try.func3 rfl rfl (by decide) ?_; intro a E
  refine wp_seq_k ?_; intro K hK
  refine region_list ?_
  refine list_pure E rfl rfl (by decide) (rn_assign E rfl rfl) ?_; clear E a; intro a E
  refine wpList_nil ?_
  refine then_k hK ?_; clear hK; clear K
  refine wp_seq_k ?_; intro K hK
  refine region_list ?_
  refine list_call E rfl rfl (by decide) rfl Try.func7 rfl (by kernel_rfl) rfl (awake_ret _) ?_
  rintro v29 w ⟨rfl, hT⟩; clear E a; intro a E
  have S := S.quiet hT
  refine list_pure E rfl rfl (by decide) (rn_assign E rfl rfl) ?_; clear E a; intro a E
  refine wpList_nil ?_
  refine then_k hK ?_; clear hK; clear K
  refine wp_seq_k ?_; intro K hK
  refine region_list ?_
  refine list_call E rfl rfl (by decide) rfl Try.func8 rfl (by kernel_rfl) rfl (rk_newp _) ?_
  rintro v30 w ⟨p, P, rfl, hP, hT⟩; clear E a; intro a E
  have S := S.fresh hT
  refine list_pure E rfl rfl (by decide) (rn_assign E rfl rfl) ?_; clear E a; intro a E
  refine wpList_nil ?_
  refine then_k hK ?_; clear hK; clear K
  refine wp_seq_k ?_; intro K hK
  refine region_list ?_
  refine list_pure E rfl rfl (by decide) (rn_move E rfl rfl) ?_; clear E a; intro a E
  refine list_call E rfl rfl (by decide) rfl Try.func9 rfl (by kernel_rfl) rfl (rk_new p _ P hP (by simp) 8 (by omega) (by omega) _ (S.hp.sel (sel_cons (by repeat (first | exact pk1 | apply pick_tail)) (sel_nil _)))) ?_
  rintro v33 w ⟨d, gp, gn, P1, rfl, -, hP1, hT⟩; clear E a; intro a E
  have S := S.call1 (sel_cons (by repeat (first | exact pk1 | apply pick_tail)) (sel_nil _)) hT
  simp only [Rk.add, List.nil_append, ← hZ] at hP1
  refine list_pure E rfl rfl (by decide) (rn_move E rfl rfl) ?_; clear E a; intro a E
  refine list_pure E rfl rfl (by decide) (rn_extract E rfl rfl rfl) ?_; clear E a; intro a E
  refine list_pure E rfl rfl (by decide) (rn_extract E rfl rfl rfl) ?_; clear E a; intro a E
  refine list_pure E rfl rfl (by decide) (rn_assign E rfl rfl) ?_; clear E a; intro a E
  refine list_pure E rfl rfl (by decide) (rn_assign E rfl rfl) ?_; clear E a; intro a E
  refine wpList_nil ?_
  refine then_k hK ?_; clear hK; clear K
  refine wp_seq_k ?_; intro K hK
  refine wp_seq_k ?_; intro K hK
  refine region_list ?_
  refine list_pure E rfl rfl (by decide) (rn_move E rfl rfl) ?_; clear E a; intro a E
  refine list_pure E rfl rfl (by decide) (rn_not E rfl rfl) ?_; clear E a; intro a E
  refine list_pure E rfl rfl (by decide) (rn_move E rfl rfl) ?_; clear E a; intro a E
  refine guard_false E (t := 38) rfl (rfl) (fun hb38 => ?_)
  refine list_guard_yes E rfl rfl rfl rfl hb38 rfl (by decide) (rn_move E rfl rfl) ?_; clear E a; intro a E
  refine list_guard_yes E rfl rfl rfl rfl hb38 rfl (by decide) (by first | exact rn_eql E rfl rfl rfl | exact rn_eql_ptr_nil E rfl rfl rfl rfl | exact rn_eql_bool E rfl rfl rfl rfl | exact rn_eql_string E rfl rfl rfl) ?_; clear E a; intro a E
  refine list_pure E rfl rfl (by decide) (rn_pick_no' E rfl rfl hb38 rfl) ?_; clear E a; intro a E
  refine list_pure E rfl rfl (by decide) (rn_move E rfl rfl) ?_; clear E a; intro a E
  refine guard_false E (t := 42) rfl (rfl) (fun hb42 => ?_)
  refine list_guard_yes E rfl rfl rfl rfl hb42 rfl (by decide) (rn_move E rfl rfl) ?_; clear E a; intro a E
  refine list_guard_yes E rfl rfl rfl rfl hb42 rfl (by decide) (by first | exact rn_neq E rfl rfl rfl | exact rn_neq_ptr_nil E rfl rfl rfl rfl | exact rn_neq_bool E rfl rfl rfl rfl | exact rn_neq_string E rfl rfl rfl) ?_; clear E a; intro a E
  refine list_pure E rfl rfl (by decide) (rn_pick_no' E rfl rfl hb42 rfl) ?_; clear E a; intro a E
  refine wpList_nil ?_
  refine then_k hK ?_; clear hK; clear K
  refine if_false' E rfl (rfl) ?_
  refine wp_skip ?_
  refine then_k hK ?_; clear hK; clear K
  refine wp_seq_k ?_; intro K hK
  refine wp_seq_k ?_; intro K hK
  replace E := E.keep (e' := [(0, _), (1, _), (2, _), (6, _), (8, _), (9, _)]) (keep_cons rfl (keep_cons rfl (keep_cons rfl (keep_cons rfl (keep_cons rfl (keep_cons rfl (keep_nil)))))))
  refine region_list ?_
  refine list_pure E rfl rfl (by decide) (rn_assign E rfl rfl) ?_; clear E a; intro a E
  refine wpList_nil ?_
  refine then_k hK ?_; clear hK; clear K
  refine wp_block ?_
  refine wp_loop_ghost (fun (m : Nat) (a : Act) (w' : World) => ∃ (i k : Nat) (ws : List Wt) (nw : List UInt8) (P : Chunk), m = fs.length - i ∧ i ≤ fs.length ∧ nw.length = 1024 ∧ k ≤ 8 * i ∧ ws.length ≤ 8 * i ∧ (∀ w ∈ ws, w.d = d) ∧ RkC p ⟨⟨-1, false, k⟩, ws, [⟨d, gp, gn, Z, nw, false⟩]⟩ P ∧ St w0 [O] w' [P, O] ∧ Fr a 253 [(0, .slice adf fs.length cf), (1, .slice adg gs.length cg), (2, .slice ads st.length cs), (8, ptr p), (9, ptr d), (11, .int .i64 i)]) (fs.length - 0) ?_ ?_
  · exact ⟨0, 0, [], Z, P1, rfl, by omega, hZl, by omega, by simp, by simp, hP1, S, E.keep (keep_cons rfl (keep_cons rfl (keep_cons rfl (keep_cons rfl (keep_cons rfl (keep_cons rfl keep_nil))))))⟩
  clear E; clear a; (try clear S); rintro m a w ⟨i, k, ws, nw, P, rfl, hi, hnw, hk, hwl, hwd, hP, S, E⟩
  refine wp_seq_k ?_; intro K hK
  refine wp_seq_k ?_; intro K hK
  refine region_list ?_
  refine list_pure E rfl rfl (by decide) (rn_move E rfl rfl) ?_; clear E a; intro a E
  refine list_pure E rfl rfl (by decide) (rn_move E rfl rfl) ?_; clear E a; intro a E
  refine list_pure E rfl rfl (by decide) (by first | exact rn_len E rfl rfl rfl | exact rn_len_str E rfl rfl rfl | exact rn_len_string E rfl rfl rfl) ?_; clear E a; intro a E
  refine list_pure E rfl rfl (by decide) (rn_lss E rfl rfl rfl) ?_; clear E a; intro a E
  refine wpList_nil ?_
  refine then_k hK ?_; clear hK; clear K
  refine if_bool E rfl (fun hb => ?_) (fun hb => ?_)
  · replace hb := Nrm.nrm hb
    refine wp_skip ?_
    refine then_k hK ?_; clear hK; clear K
    refine wp_seq_k ?_; intro K hK
    refine wp_block ?_
    have hil : i < fs.length := by omega
    obtain ⟨gf, of, rfl⟩ := hF.addr (by omega)
    obtain ⟨o, ho⟩ : ∃ o, o = fs[i]'hil := ⟨_, rfl⟩
    have hog := hfg _ (List.getElem_mem hil)
    rw [← ho] at hog
    have hel := fun (w : World) (h : Stab [P, O] w) => hF.elem (lay := Dop.lay) (w := w) Dop.lay_len (h.at (by repeat (first | exact mm1 | assumption | apply List.Mem.tail))) hil
    rw [← ho] at hel
    refine region_mix0 S (.ofL [(0, 0), (1, 0), (2, 0), (3, 0), (4, 0), (5, 0), (6, 0), (7, 0), (8, 0), (9, 0), (10, 0), (11, 3)]) (by kernel_rfl) (by kernel_rfl) ?_
    clear S; intro w S
    refine mix_pure E rfl rfl rfl (by decide) (fun w h => rn_move E rfl rfl) ?_; clear E a; intro a E
    refine mix_pure E rfl rfl rfl (by decide) (fun w h => rn_move E rfl rfl) ?_; clear E a; intro a E
    refine mix_pure E rfl rfl rfl (by decide) (fun w h => rn_move E rfl rfl) ?_; clear E a; intro a E
    refine mix_pure E rfl rfl rfl (by decide) (fun w h => rn_indexAddr (i := i) (s := 6) E rfl rfl rfl rfl rfl rfl (by omega)) ?_; clear E a; intro a E
    refine mix_pure E rfl rfl rfl (by decide) (fun w h => by first | exact rn_fieldAddr0 (q := 2) E rfl rfl rfl | exact rn_fieldAddr (q := 2) E rfl rfl rfl) ?_; clear E a; intro a E
    refine mix_pure E rfl rfl rfl (by decide) (fun w h => rn_loadc E rfl rfl rfl (hel _ h 2 _ rfl)) ?_; clear E a; intro a E
    refine mix_pure E rfl rfl rfl (by decide) (fun w h => rn_move E rfl rfl) ?_; clear E a; intro a E
    refine mix_pure E rfl rfl rfl (by decide) (fun w h => rn_move E rfl rfl) ?_; clear E a; intro a E
    refine mix_pure E rfl rfl rfl (by decide) (fun w h => rn_indexAddr (i := i) (s := 6) E rfl rfl rfl rfl rfl rfl (by omega)) ?_; clear E a; intro a E
    refine mix_pure E rfl rfl rfl (by decide) (fun w h => by first | exact rn_fieldAddr0 (q := 4) E rfl rfl rfl | exact rn_fieldAddr (q := 4) E rfl rfl rfl) ?_; clear E a; intro a E
    refine mix_pure E rfl rfl rfl (by decide) (fun w h => rn_loadc E rfl rfl rfl (hel _ h 4 _ rfl)) ?_; clear E a; intro a E
    refine mix_call3 E rfl rfl rfl (by decide) rfl Try.func10 rfl (by kernel_rfl) rfl (rk_write p _ P hP ⟨d, gp, gn, Z, nw, false⟩ (by simp) (by simp only; omega) (by simp only; omega) (by simp) o.at_ hog.at_ _ o.b O hog.rb hog.bc _ (S.hp.sel (sel_cons (by repeat (first | exact pk1 | apply pick_tail)) (sel_cons (by repeat (first | exact pk1 | apply pick_tail)) (sel_nil _))))) ?_
    rintro v63 w ⟨P2, rfl, hP2, hT⟩; clear E a; intro a E
    have S := S.call2 (sel_cons (by repeat (first | exact pk1 | apply pick_tail)) (sel_cons (by repeat (first | exact pk1 | apply pick_tail)) (sel_nil _))) hT
    obtain ⟨e1, k1, t1, n1, hw1, ht1, htl1, hn1, hc1⟩ := wrS_one (d := d) (n := 1024) (at_ := o.at_) (b := o.b) ⟨-1, false, k⟩ rfl rfl nw ws hnw
    have hP2 : RkC p ⟨⟨-1, false, k + k1⟩, ws ++ t1, [⟨d, gp, gn, Z, n1, false⟩]⟩ P2 := by simpa [Rk.write, hZl, hw1, setD] using hP2
    have hk1 : k1 ≤ 8 := by rcases hc1 with ⟨_, h, h1⟩ | ⟨_, h, _⟩; unfold wrMay at h1; omega; omega
    refine mix_nil ?_
    refine in_normal ?_
    refine then_k hK ?_; clear hK; clear K
    refine region_list ?_
    refine list_pure E rfl rfl (by decide) (rn_move E rfl rfl) ?_; clear E a; intro a E
    refine list_pure E rfl rfl (by decide) (rn_add E rfl rfl rfl (by first | exact wa_lit (y := 1) (by omega) | exact w_in (by omega) | exact w_inu (by omega) | exact rfl)) ?_; clear E a; intro a E
    refine list_pure E rfl rfl (by decide) (rn_assign E rfl rfl) ?_; clear E a; intro a E
    refine wpList_nil ?_
    refine then_normal ?_
    exact ⟨_, by omega, i + 1, k + k1, ws ++ t1, n1, P2, rfl, by omega, hn1, by omega, by rw [List.length_append]; omega, (fun w hw => by rcases List.mem_append.1 hw with h | h; exact hwd w h; exact ht1 w h), hP2, S, E.keep (keep_cons rfl (keep_cons rfl (keep_cons rfl (keep_cons rfl (keep_cons rfl (keep_cons rfl keep_nil))))))⟩
  · replace hb := Nrm.nrm hb
    refine wp_exit ?_
    refine then_exit ?_; clear hK; clear K
    refine then_exit ?_
    refine in_exit ?_
    refine then_k hK ?_; clear hK; clear K
    refine wp_seq_k ?_; intro K hK
    refine region_list ?_
    refine list_pure E rfl rfl (by decide) (rn_move E rfl rfl) ?_; clear E a; intro a E
    refine list_call E rfl rfl (by decide) rfl Try.func11 rfl (by kernel_rfl) rfl (rk_flush p _ P hP ⟨d, gp, gn, Z, nw, false⟩ (by simp) _ (S.hp.sel (sel_cons (by repeat (first | exact pk1 | apply pick_tail)) (sel_nil _)))) ?_
    rintro v65 w ⟨rfl, P5, hP5, hT⟩; clear E a; intro a E
    have S := S.call1 (sel_cons (by repeat (first | exact pk1 | apply pick_tail)) (sel_nil _)) hT
    have hP5 : RkC p ⟨⟨-1, false, k⟩, [], [⟨d, gp, gn, nw, nw, false⟩]⟩ P5 := by simpa [Rk.flush, flE, flW, flP, setD, outW_self hwd] using hP5
    refine list_pure E rfl rfl (by decide) (rn_assign E rfl rfl) ?_; clear E a; intro a E
    refine wpList_nil ?_
    refine then_k hK ?_; clear hK; clear K
    refine wp_seq_k ?_; intro K hK
    refine region_list ?_
    refine list_pure E rfl rfl (by decide) (rn_move E rfl rfl) ?_; clear E a; intro a E
    refine list_call E rfl rfl (by decide) rfl Try.func12 rfl (by kernel_rfl) rfl (rk_read p _ P5 hP5 ⟨d, gp, gn, nw, nw, false⟩ (by simp) 0 8 (by omega) _ (S.hp.sel (sel_cons (by repeat (first | exact pk1 | apply pick_tail)) (sel_nil _)))) ?_
    rintro v68 w ⟨vb, Cb, rfl, hb0, hT⟩; clear E a; intro a E
    have S := S.call2 (sel_cons (by repeat (first | exact pk1 | apply pick_tail)) (sel_nil _)) hT
    have hr1 : rdS ⟨-1, false, k⟩ false nw 0 8 = (0, nw) := rdS_all rfl (k := 8) (by omega)
    simp only [hr1] at hb0 E
    obtain ⟨adb, cb, rfl⟩ := hb0.slice
    refine list_pure E rfl rfl (by decide) (rn_move E rfl rfl) ?_; clear E a; intro a E
    refine list_pure E rfl rfl (by decide) (rn_extract E rfl rfl rfl) ?_; clear E a; intro a E
    refine list_pure E rfl rfl (by decide) (rn_extract E rfl rfl rfl) ?_; clear E a; intro a E
    refine list_pure E rfl rfl (by decide) (rn_assign E rfl rfl) ?_; clear E a; intro a E
    refine list_pure E rfl rfl (by decide) (rn_assign E rfl rfl) ?_; clear E a; intro a E
    refine wpList_nil ?_
    refine then_k hK ?_; clear hK; clear K
    refine wp_seq_k ?_; intro K hK
    refine wp_seq_k ?_; intro K hK
    refine region_list ?_
    refine list_pure E rfl rfl (by decide) (rn_move E rfl rfl) ?_; clear E a; intro a E
    refine list_pure E rfl rfl (by decide) (by first | exact rn_neq E rfl rfl rfl | exact rn_neq_ptr_nil E rfl rfl rfl rfl | exact rn_neq_bool E rfl rfl rfl rfl | exact rn_neq_string E rfl rfl rfl) ?_; clear E a; intro a E
    refine list_pure E rfl rfl (by decide) (rn_move E rfl rfl) ?_; clear E a; intro a E
    refine guard_false E (t := 73) rfl (rfl) (fun hb73 => ?_)
    refine list_guard_yes E rfl rfl rfl rfl hb73 rfl (by decide) (rn_move E rfl rfl) ?_; clear E a; intro a E
    refine list_guard_yes E rfl rfl rfl rfl hb73 rfl (by decide) (by first | exact rn_neq E rfl rfl rfl | exact rn_neq_ptr_nil E rfl rfl rfl rfl | exact rn_neq_bool E rfl rfl rfl rfl | exact rn_neq_string E rfl rfl rfl) ?_; clear E a; intro a E
    refine list_pure E rfl rfl (by decide) (rn_pick_no' E rfl rfl hb73 rfl) ?_; clear E a; intro a E
    refine list_pure E rfl rfl (by decide) (rn_move E rfl rfl) ?_; clear E a; intro a E
    refine guard_false E (t := 77) rfl (rfl) (fun hb77 => ?_)
    refine list_guard_yes E rfl rfl rfl rfl hb77 rfl (by decide) (rn_move E rfl rfl) ?_; clear E a; intro a E
    refine list_guard_yes E rfl rfl rfl rfl hb77 rfl (by decide) (by first | exact rn_len E rfl rfl rfl | exact rn_len_str E rfl rfl rfl | exact rn_len_string E rfl rfl rfl) ?_; clear E a; intro a E
    refine list_guard_yes E rfl rfl rfl rfl hb77 rfl (by decide) (by first | exact rn_neq E rfl rfl rfl | exact rn_neq_ptr_nil E rfl rfl rfl rfl | exact rn_neq_bool E rfl rfl rfl rfl | exact rn_neq_string E rfl rfl rfl) ?_; clear E a; intro a E
    refine list_pure E rfl rfl (by decide) (rn_pick_no' E rfl rfl hb77 rfl) ?_; clear E a; intro a E
    refine list_pure E rfl rfl (by decide) (rn_move E rfl rfl) ?_; clear E a; intro a E
    refine guard_false E (t := 82) rfl ((by rw [hnw]; rfl)) (fun hb82 => ?_)
    refine list_guard_yes E rfl rfl rfl rfl hb82 rfl (by decide) (rn_move E rfl rfl) ?_; clear E a; intro a E
    refine list_guard_wp E rfl rfl rfl rfl hb82 ?_; refine wp_call' E rfl (by decide) rfl Try.func13 rfl (by kernel_rfl) rfl (rk_waiting p _ P5 hP5 _ (S.hp.sel (sel_cons (by repeat (first | exact pk1 | apply pick_tail)) (sel_nil _)))) ?_
    rintro v84 w ⟨rfl, hT⟩; clear E a; intro a E
    have S := S.call1 (sel_cons (by repeat (first | exact pk1 | apply pick_tail)) (sel_nil _)) hT
    refine list_guard_yes E rfl rfl rfl rfl hb82 rfl (by decide) (by first | exact rn_neq E rfl rfl rfl | exact rn_neq_ptr_nil E rfl rfl rfl rfl | exact rn_neq_bool E rfl rfl rfl rfl | exact rn_neq_string E rfl rfl rfl) ?_; clear E a; intro a E
    refine list_pure E rfl rfl (by decide) (rn_pick_no' E rfl rfl hb82 rfl) ?_; clear E a; intro a E
    refine wpList_nil ?_
    refine then_k hK ?_; clear hK; clear K
    refine if_false' E rfl (rfl) ?_
    refine wp_skip ?_
    refine then_k hK ?_; clear hK; clear K
    refine wp_seq_k ?_; intro K hK
    replace E := E.keep (e' := [(1, _), (2, _), (8, _), (9, _), (13, _)]) (keep_cons rfl (keep_cons rfl (keep_cons rfl (keep_cons rfl (keep_cons rfl (keep_nil))))))
    obtain ⟨base, hbase⟩ : ∃ base, base = nw := ⟨_, rfl⟩
    rw [← hbase] at hb0 hP5 E hnw
    clear hP hr1 hbase
    refine region_list ?_
    refine list_pure E rfl rfl (by decide) (rn_assign E rfl rfl) ?_; clear E a; intro a E
    refine wpList_nil ?_
    refine then_k hK ?_; clear hK; clear K
    refine wp_seq_k ?_; intro K hK
    refine wp_seq_k ?_; intro K hK
    refine region_list ?_
    refine list_pure E rfl rfl (by decide) (rn_assign E rfl rfl) ?_; clear E a; intro a E
    refine wpList_nil ?_
    refine then_k hK ?_; clear hK; clear K
    refine wp_block ?_
    refine wp_loop_ghost (fun (m : Nat) (a : Act) (w' : World) => ∃ (i k : Nat) (ws : List Wt) (ks : List Dop) (nw : List UInt8) (P Ck : Chunk) (vk : Value), m = gs.length - i ∧ i ≤ gs.length ∧ nw.length = 1024 ∧ k ≤ 8 * (fs.length + i) ∧ ws.length ≤ 8 * i ∧ nw = ws.foldl putS base ∧ (∀ w ∈ ws, w.d = d ∧ 128 * w.at_ + 128 ≤ 1024) ∧ (∀ w ∈ ws, SrcW ks w) ∧ (∀ o ∈ ks, DopG O o ∧ 0 ≤ o.at_ ∧ o.at_ ≤ 8) ∧ ks.length ≤ i ∧ Buf Ck 34 6 vk ks.length (ks.flatMap Dop.lay) ∧
     RkC p ⟨⟨-1, false, k⟩, ws, [⟨d, gp, gn, base, nw, false⟩]⟩ P ∧ St w0 [O] w' [P, Ck, Cb, O] ∧ Fr a 253 [(1, .slice adg gs.length cg), (2, .slice ads st.length cs), (8, ptr p), (9, ptr d), (13, .slice adb base.length cb), (15, vk), (16, .int .i64 i)]) (gs.length - 0) ?_ ?_
    · exact ⟨0, k, [], [], base, P5, [], .slice none 0 0, rfl, by omega, hnw, by omega, by simp, rfl, by simp, by simp, by simp, by simp, Buf.nil _ _, hP5, S.addNil.front4 (A := P5) (by repeat (first | exact pk1 | apply pick_tail)) (B := []) (by repeat (first | exact pk1 | apply pick_tail)) (C := Cb) (by repeat (first | exact pk1 | apply pick_tail)) (D := O) (by repeat (first | exact pk1 | apply pick_tail)), E.keep (keep_cons rfl (keep_cons rfl (keep_cons rfl (keep_cons rfl (keep_cons rfl (keep_cons rfl (keep_cons rfl keep_nil)))))))⟩
    clear E; clear a; (try clear S); rintro m a w ⟨i, k, ws, ks, nw, P, Ck, vk, rfl, hi, hnw2, hk, hwl, hseen, hwf, hsrc, hkg, hkl, hCk, hP, S, E⟩
    refine wp_seq_k ?_; intro K hK
    refine wp_seq_k ?_; intro K hK
    refine region_list ?_
    refine list_pure E rfl rfl (by decide) (rn_move E rfl rfl) ?_; clear E a; intro a E
    refine list_pure E rfl rfl (by decide) (rn_move E rfl rfl) ?_; clear E a; intro a E
    refine list_pure E rfl rfl (by decide) (by first | exact rn_len E rfl rfl rfl | exact rn_len_str E rfl rfl rfl | exact rn_len_string E rfl rfl rfl) ?_; clear E a; intro a E
    refine list_pure E rfl rfl (by decide) (rn_lss E rfl rfl rfl) ?_; clear E a; intro a E
    refine wpList_nil ?_
    refine then_k hK ?_; clear hK; clear K
    refine if_bool E rfl (fun hb => ?_) (fun hb => ?_)
    · replace hb := Nrm.nrm hb
      refine wp_skip ?_
      refine then_k hK ?_; clear hK; clear K
      refine wp_seq_k ?_; intro K hK
      refine wp_block ?_
      refine wp_seq_k ?_; intro K hK
      have hil : i < gs.length := by omega
      obtain ⟨gg, og, rfl⟩ := hG.addr (by omega)
      obtain ⟨o, ho⟩ : ∃ o, o = gs[i]'hil := ⟨_, rfl⟩
      have hog := hgg _ (List.getElem_mem hil)
      rw [← ho] at hog
      have hel := fun (w : World) (h : ∀ x ∈ O, w.heap[x.1]? = some x.2) => hG.elem (lay := Dop.lay) (w := w) Dop.lay_len h hil
      rw [← ho] at hel
      obtain ⟨adk, ck, rfl⟩ := hCk.slice
      refine region_mix0 S (.ofL [(0, 0), (1, 0), (2, 0), (3, 0), (4, 0), (5, 0), (6, 0), (7, 0), (8, 0), (9, 0), (10, 0), (11, 3), (12, 2)]) (by kernel_rfl) (by kernel_rfl) ?_
      clear S; intro w S
      refine mix_pure E rfl rfl rfl (by decide) (fun w h => rn_move E rfl rfl) ?_; clear E a; intro a E
      refine mix_pure E rfl rfl rfl (by decide) (fun w h => rn_move E rfl rfl) ?_; clear E a; intro a E
      refine mix_pure E rfl rfl rfl (by decide) (fun w h => rn_move E rfl rfl) ?_; clear E a; intro a E
      refine mix_pure E rfl rfl rfl (by decide) (fun w h => rn_indexAddr (i := i) (s := 6) E rfl rfl rfl rfl rfl rfl (by omega)) ?_; clear E a; intro a E
      refine mix_pure E rfl rfl rfl (by decide) (fun w h => by first | exact rn_fieldAddr0 (q := 2) E rfl rfl rfl | exact rn_fieldAddr (q := 2) E rfl rfl rfl) ?_; clear E a; intro a E
      refine mix_pure E rfl rfl rfl (by decide) (fun w h => rn_loadc E rfl rfl rfl (hel _ (h.at (by repeat (first | exact mm1 | assumption | apply List.Mem.tail))) 2 _ rfl)) ?_; clear E a; intro a E
      refine mix_pure E rfl rfl rfl (by decide) (fun w h => rn_move E rfl rfl) ?_; clear E a; intro a E
      refine mix_pure E rfl rfl rfl (by decide) (fun w h => rn_move E rfl rfl) ?_; clear E a; intro a E
      refine mix_pure E rfl rfl rfl (by decide) (fun w h => rn_indexAddr (i := i) (s := 6) E rfl rfl rfl rfl rfl rfl (by omega)) ?_; clear E a; intro a E
      refine mix_pure E rfl rfl rfl (by decide) (fun w h => by first | exact rn_fieldAddr0 (q := 4) E rfl rfl rfl | exact rn_fieldAddr (q := 4) E rfl rfl rfl) ?_; clear E a; intro a E
      refine mix_pure E rfl rfl rfl (by decide) (fun w h => rn_loadc E rfl rfl rfl (hel _ (h.at (by repeat (first | exact mm1 | assumption | apply List.Mem.tail))) 4 _ rfl)) ?_; clear E a; intro a E
      refine mix_call3 E rfl rfl rfl (by decide) rfl Try.func10 rfl (by kernel_rfl) rfl (rk_write p _ P hP ⟨d, gp, gn, base, nw, false⟩ (by simp) (by simp only; omega) (by simp only; omega) (by simp) o.at_ hog.at_ _ o.b O hog.rb hog.bc _ (S.hp.sel (sel_cons (by repeat (first | exact pk1 | apply pick_tail)) (sel_cons (by repeat (first | exact pk1 | apply pick_tail)) (sel_nil _))))) ?_
      rintro v104 w ⟨P2, rfl, hP2, hT⟩; clear E a; intro a E
      have S := (S.call2 (sel_cons (by repeat (first | exact pk1 | apply pick_tail)) (sel_cons (by repeat (first | exact pk1 | apply pick_tail)) (sel_nil _))) hT).front4 (A := P2) (by repeat (first | exact pk1 | apply pick_tail)) (B := Ck) (by repeat (first | exact pk1 | apply pick_tail)) (C := Cb) (by repeat (first | exact pk1 | apply pick_tail)) (D := O) (by repeat (first | exact pk1 | apply pick_tail))
      obtain ⟨e1, k1, t1, n1, hw1, ht1, htl1, hn1, hc1⟩ := wrS_one (d := d) (n := 1024) (at_ := o.at_) (b := o.b) ⟨-1, false, k⟩ rfl rfl nw ws hnw2
      have hW : Rk.writeE ⟨⟨-1, false, k⟩, ws, [⟨d, gp, gn, base, nw, false⟩]⟩ ⟨d, gp, gn, base, nw, false⟩ o.at_ o.b = e1 := by simp only [Rk.writeE, hnw, hw1]
      rw [hW] at E
      have hP2 : RkC p ⟨⟨-1, false, k + k1⟩, ws ++ t1, [⟨d, gp, gn, base, n1, false⟩]⟩ P2 := by simpa [Rk.write, hnw, hw1, setD] using hP2
      have hk1 : k1 ≤ 8 := by rcases hc1 with ⟨_, h, h1⟩ | ⟨_, h, _⟩; unfold wrMay at h1; omega; omega
      have hseen2 := wrS_seen (d := d) (n := 1024) (at_ := o.at_) (b := o.b) (base := base) ⟨-1, false, k⟩ false nw ws hseen
      have hfit2 := wrS_fit (d := d) (n := 1024) (at_ := o.at_) (b := o.b) (fun w => w.d = d ∧ 128 * w.at_ + 128 ≤ 1024) (fun j b' hj => ⟨rfl, hj⟩) ⟨-1, false, k⟩ false nw ws hwf
      have hsrc2 := wrS_src (d := d) (n := 1024) (at_ := o.at_) (b := o.b) ⟨-1, false, k⟩ rfl (by simp) nw ws
      rw [hw1] at hseen2 hfit2 hsrc2
      simp only at hseen2 hfit2 hsrc2
      refine mix_free E rfl rfl rfl (by decide) (fun w => rn_assign E rfl rfl) ?_; clear E a; intro a E
      refine mix_nil ?_
      refine then_k hK ?_; clear hK; clear K
      refine wp_seq_k ?_; intro K hK
      refine region_list ?_
      refine list_pure E rfl rfl (by decide) (rn_move E rfl rfl) ?_; clear E a; intro a E
      refine list_pure E rfl rfl (by decide) (by first | exact rn_eql E rfl rfl rfl | exact rn_eql_ptr_nil E rfl rfl rfl rfl | exact rn_eql_bool E rfl rfl rfl rfl | exact rn_eql_string E rfl rfl rfl) ?_; clear E a; intro a E
      refine wpList_nil ?_
      refine then_k hK ?_; clear hK; clear K
      refine if_bool E rfl (fun hb => ?_) (fun hb => ?_)
      · replace hb := Nrm.nrm hb
        have he0 : e1 = 0 := (by simpa using hb)
        refine region_list ?_
        refine list_pure E rfl rfl (by decide) (rn_move E rfl rfl) ?_; clear E a; intro a E
        refine list_pure E rfl rfl (by decide) (rn_move E rfl rfl) ?_; clear E a; intro a E
        refine list_pure E rfl rfl (by decide) (rn_move E rfl rfl) ?_; clear E a; intro a E
        refine list_pure E rfl rfl (by decide) (rn_indexAddr (i := i) (s := 6) E rfl rfl rfl rfl rfl rfl (by omega)) ?_; clear E a; intro a E
        refine list_pure E rfl rfl (by decide) (rn_load_aggc (vs := o.lay) E rfl rfl rfl rfl (hel _ (S.stab.at (by repeat (first | exact mm1 | assumption | apply List.Mem.tail))))) ?_; clear E a; intro a E
        refine list_wp rfl (wp_bslice (cells := [_, _, _, _, _, _]) E S rfl rfl (by decide) rfl rfl rfl rfl rfl (by decide) rfl ?_); clear E S a; intro a w b112 E S
        refine list_wp rfl (wp_append (by' := 80) E S rfl rfl (by decide) rfl rfl hCk (by repeat (first | exact pk1 | apply pick_tail)) ((rd_cells (g := b112) (T := 34) (xs := o.lay) (s := 6) (m := 1) rfl (Dop.lay_one hog) (by omega) 1).src (S.stab.at (by repeat (first | exact mm1 | assumption | apply List.Mem.tail))) rfl) rfl rfl rfl rfl rfl rfl (by simp only [maxLen]; omega) (by omega) ?_); clear E S a; intro a w v113 C113 E S hB113
        refine list_pure E rfl rfl (by decide) (rn_assign E rfl rfl) ?_; clear E a; intro a E
        refine wpList_nil ?_
        refine in_normal ?_
        refine then_k hK ?_; clear hK; clear K
        refine region_list ?_
        refine list_pure E rfl rfl (by decide) (rn_move E rfl rfl) ?_; clear E a; intro a E
        refine list_pure E rfl rfl (by decide) (rn_add E rfl rfl rfl (by first | exact wa_lit (y := 1) (by omega) | exact w_in (by omega) | exact w_inu (by omega) | exact rfl)) ?_; clear E a; intro a E
        refine list_pure E rfl rfl (by decide) (rn_assign E rfl rfl) ?_; clear E a; intro a E
        refine wpList_nil ?_
        refine then_normal ?_
        first
        | (have hm : wrMay 1024 o.at_ o.b := (hc1.resolve_right (fun q => by omega)).2.2
           obtain ⟨hm1, hm2, hm3, hm4⟩ := hm
           have hs3 := (hsrc2.resolve_left (fun q => q.1 ⟨hm1, hm2, hm3, hm4⟩)).2.2.2
           exact ⟨_, by omega, i + 1, k + k1, ws ++ t1, ks ++ [o], n1, P2, C113, _, rfl, by omega, hn1, by omega, by rw [List.length_append]; omega, hseen2, hfit2, (fun w hw => by
             rcases hs3 w hw with h | ⟨j, h1, h2⟩
             · obtain ⟨o', q1, q2⟩ := hsrc w h
               exact ⟨o', List.mem_append_left _ q1, q2⟩
             · exact ⟨o, List.mem_append_right _ (List.mem_singleton.2 rfl), j, h1, by rw [h2]; simp only [mkW]; omega, by rw [h2]; exact pad_id (secB_length (by omega))⟩), (fun x hx => by
             rcases List.mem_append.1 hx with h | h
             · exact hkg x h
             · rw [List.mem_singleton.1 h]; exact ⟨hog, by omega, by omega⟩), by rw [List.length_append, List.length_singleton]; omega, by simpa using hB113, hP2, ((S.del (A := [(b112, _)]) (by repeat (first | exact pk1 | apply pick_tail))).front4 (A := P2) (by repeat (first | exact pk1 | apply pick_tail)) (B := C113) (by repeat (first | exact pk1 | apply pick_tail)) (C := Cb) (by repeat (first | exact pk1 | apply pick_tail)) (D := O) (by repeat (first | exact pk1 | apply pick_tail))), E.keep (keep_cons rfl (keep_cons rfl (keep_cons rfl (keep_cons rfl (keep_cons rfl (keep_cons rfl (keep_cons rfl keep_nil)))))))⟩)
        | (obtain ⟨q1, q2, q3, q4⟩ := hc1.resolve_left (fun q => he0 q.1)
           have ht0 : t1 = [] := List.eq_nil_of_length_eq_zero (by omega)
           rw [ht0, List.append_nil, q4] at hP2
           exact ⟨_, by omega, i + 1, k + k1, ws, ks, nw, P2, Ck, _, rfl, by omega, hnw2, by omega, by omega, hseen, hwf, hsrc, hkg, by omega, hCk, hP2, S, E.keep (keep_cons rfl (keep_cons rfl (keep_cons rfl (keep_cons rfl (keep_cons rfl (keep_cons rfl (keep_cons rfl keep_nil)))))))⟩)
      · replace hb := Nrm.nrm hb
        have he0 : e1 ≠ 0 := (by simpa using hb)
        refine wp_skip ?_
        refine in_normal ?_
        refine then_k hK ?_; clear hK; clear K
        refine region_list ?_
        refine list_pure E rfl rfl (by decide) (rn_move E rfl rfl) ?_; clear E a; intro a E
        refine list_pure E rfl rfl (by decide) (rn_add E rfl rfl rfl (by first | exact wa_lit (y := 1) (by omega) | exact w_in (by omega) | exact w_inu (by omega) | exact rfl)) ?_; clear E a; intro a E
        refine list_pure E rfl rfl (by decide) (rn_assign E rfl rfl) ?_; clear E a; intro a E
        refine wpList_nil ?_
        refine then_normal ?_
        first
        | (have hm : wrMay 1024 o.at_ o.b := (hc1.resolve_right (fun q => by omega)).2.2
           obtain ⟨hm1, hm2, hm3, hm4⟩ := hm
           have hs3 := (hsrc2.resolve_left (fun q => q.1 ⟨hm1, hm2, hm3, hm4⟩)).2.2.2
           exact ⟨_, by omega, i + 1, k + k1, ws ++ t1, ks ++ [o], n1, P2, C113, _, rfl, by omega, hn1, by omega, by rw [List.length_append]; omega, hseen2, hfit2, (fun w hw => by
             rcases hs3 w hw with h | ⟨j, h1, h2⟩
             · obtain ⟨o', q1, q2⟩ := hsrc w h
               exact ⟨o', List.mem_append_left _ q1, q2⟩
             · exact ⟨o, List.mem_append_right _ (List.mem_singleton.2 rfl), j, h1, by rw [h2]; simp only [mkW]; omega, by rw [h2]; exact pad_id (secB_length (by omega))⟩), (fun x hx => by
             rcases List.mem_append.1 hx with h | h
             · exact hkg x h
             · rw [List.mem_singleton.1 h]; exact ⟨hog, by omega, by omega⟩), by rw [List.length_append, List.length_singleton]; omega, by simpa using hB113, hP2, ((S.del (A := [(b112, _)]) (by repeat (first | exact pk1 | apply pick_tail))).front4 (A := P2) (by repeat (first | exact pk1 | apply pick_tail)) (B := C113) (by repeat (first | exact pk1 | apply pick_tail)) (C := Cb) (by repeat (first | exact pk1 | apply pick_tail)) (D := O) (by repeat (first | exact pk1 | apply pick_tail))), E.keep (keep_cons rfl (keep_cons rfl (keep_cons rfl (keep_cons rfl (keep_cons rfl (keep_cons rfl (keep_cons rfl keep_nil)))))))⟩)
        | (obtain ⟨q1, q2, q3, q4⟩ := hc1.resolve_left (fun q => he0 q.1)
           have ht0 : t1 = [] := List.eq_nil_of_length_eq_zero (by omega)
           rw [ht0, List.append_nil, q4] at hP2
           exact ⟨_, by omega, i + 1, k + k1, ws, ks, nw, P2, Ck, _, rfl, by omega, hnw2, by omega, by omega, hseen, hwf, hsrc, hkg, by omega, hCk, hP2, S, E.keep (keep_cons rfl (keep_cons rfl (keep_cons rfl (keep_cons rfl (keep_cons rfl (keep_cons rfl (keep_cons rfl keep_nil)))))))⟩)
    · replace hb := Nrm.nrm hb
      refine wp_exit ?_
      refine then_exit ?_; clear hK; clear K
      refine then_exit ?_
      refine in_exit ?_
      refine then_k hK ?_; clear hK; clear K
      refine wp_seq_k ?_; intro K hK
      refine region_list ?_
      refine list_pure E rfl rfl (by decide) (rn_move E rfl rfl) ?_; clear E a; intro a E
      refine list_call E rfl rfl (by decide) rfl Try.func12 rfl (by kernel_rfl) rfl (rk_read p _ P hP ⟨d, gp, gn, base, nw, false⟩ (by simp) 0 8 (by omega) _ (S.hp.sel (sel_cons (by repeat (first | exact pk1 | apply pick_tail)) (sel_nil _)))) ?_
      rintro v116 w ⟨ve, Ce, rfl, he0, hT⟩; clear E a; intro a E
      have S := S.call2 (sel_cons (by repeat (first | exact pk1 | apply pick_tail)) (sel_nil _)) hT
      have hr2 : rdS ⟨-1, false, k⟩ false nw 0 8 = (0, nw) := rdS_all rfl (k := 8) (by omega)
      simp only [hr2] at he0 E
      obtain ⟨ade, ce, rfl⟩ := he0.slice
      refine list_pure E rfl rfl (by decide) (rn_move E rfl rfl) ?_; clear E a; intro a E
      refine list_pure E rfl rfl (by decide) (rn_extract E rfl rfl rfl) ?_; clear E a; intro a E
      refine list_pure E rfl rfl (by decide) (rn_extract E rfl rfl rfl) ?_; clear E a; intro a E
      refine list_pure E rfl rfl (by decide) (rn_assign E rfl rfl) ?_; clear E a; intro a E
      refine list_pure E rfl rfl (by decide) (rn_assign E rfl rfl) ?_; clear E a; intro a E
      refine wpList_nil ?_
      refine then_k hK ?_; clear hK; clear K
      refine wp_seq_k ?_; intro K hK
      refine region_list ?_
      refine list_pure E rfl rfl (by decide) (rn_move E rfl rfl) ?_; clear E a; intro a E
      refine list_pure E rfl rfl (by decide) (by first | exact rn_len E rfl rfl rfl | exact rn_len_str E rfl rfl rfl | exact rn_len_string E rfl rfl rfl) ?_; clear E a; intro a E
      refine list_pure E rfl rfl (by decide) (rn_move E rfl rfl) ?_; clear E a; intro a E
      refine list_call E rfl rfl (by decide) rfl Try.func13 rfl (by kernel_rfl) rfl (rk_waiting p _ P hP _ (S.hp.sel (sel_cons (by repeat (first | exact pk1 | apply pick_tail)) (sel_nil _)))) ?_
      rintro v122 w ⟨rfl, hT⟩; clear E a; intro a E
      have S := S.call1 (sel_cons (by repeat (first | exact pk1 | apply pick_tail)) (sel_nil _)) hT
      obtain ⟨adk, ck, rfl⟩ := hCk.slice
      refine list_pure E rfl rfl (by decide) (rn_geq E rfl rfl rfl) ?_; clear E a; intro a E
      refine list_pure E rfl rfl (by decide) (rn_assign E rfl rfl) ?_; clear E a; intro a E
      refine wpList_nil ?_
      refine then_k hK ?_; clear hK; clear K
      refine wp_seq_k ?_; intro K hK
      replace E := E.keep (e' := [(2, _), (8, _), (9, _), (13, _), (15, _), (18, _), (19, _), (20, _)]) (keep_cons rfl (keep_cons rfl (keep_cons rfl (keep_cons rfl (keep_cons rfl (keep_cons rfl (keep_cons rfl (keep_cons rfl (keep_nil)))))))))
      refine region_list ?_
      refine list_pure E rfl rfl (by decide) (rn_assign E rfl rfl) ?_; clear E a; intro a E
      refine wpList_nil ?_
      refine then_k hK ?_; clear hK; clear K
      refine wp_seq_k ?_; intro K hK
      refine wp_seq_k ?_; intro K hK
      refine region_list ?_
      refine list_pure E rfl rfl (by decide) (rn_assign E rfl rfl) ?_; clear E a; intro a E
      refine wpList_nil ?_
      refine then_k hK ?_; clear hK; clear K
      refine wp_block ?_
      refine wp_loop_ghost (fun (m : Nat) (a : Act) (w' : World) => ∃ (i : Nat) (al no : Bool), m = st.length - i ∧ i ≤ st.length ∧ (al = true → ws.length ≤ st.length ∧ ∀ j, j < i → st[j]? = some true) ∧ (no = true → ∀ j, j < i → st[j]? ≠ some true) ∧ St w0 [O] w' [P, Ce, Ck, Cb, O] ∧ Fr a 253 [(2, .slice ads st.length cs), (8, ptr p), (9, ptr d), (13, .slice adb base.length cb), (15, .slice adk ks.length ck), (18, .slice ade nw.length ce), (19, .int .i64 0), (20, .bool al), (21, .bool no), (22, .int .i64 i)]) (st.length - 0) ?_ ?_
      · exact ⟨0, _, true, rfl, by omega, (fun h => ⟨by have h := of_decide_eq_true h; simp only at h; omega, fun j hj => by omega⟩), (fun _ j hj => by omega), S.front5 (A := P) (by repeat (first | exact pk1 | apply pick_tail)) (B := Ce) (by repeat (first | exact pk1 | apply pick_tail)) (C := Ck) (by repeat (first | exact pk1 | apply pick_tail)) (D := Cb) (by repeat (first | exact pk1 | apply pick_tail)) (F := O) (by repeat (first | exact pk1 | apply pick_tail)), E.keep (keep_cons rfl (keep_cons rfl (keep_cons rfl (keep_cons rfl (keep_cons rfl (keep_cons rfl (keep_cons rfl (keep_cons rfl (keep_cons rfl (keep_cons rfl keep_nil))))))))))⟩
      clear E; clear a; (try clear S); rintro m a w ⟨i, al, no, rfl, hi, hal, hno, S, E⟩
      refine wp_seq_k ?_; intro K hK
      refine wp_seq_k ?_; intro K hK
      refine wp_join (fun (a : Act) (w' : World) => ∃ c : Bool, c = decide (i < st.length ∧ i < ws.length) ∧ St w0 [O] w' [P, Ce, Ck, Cb, O] ∧ Fr a 253 [(2, .slice ads st.length cs), (8, ptr p), (9, ptr d), (13, .slice adb base.length cb), (15, .slice adk ks.length ck), (18, .slice ade nw.length ce), (19, .int .i64 0), (20, .bool al), (21, .bool no), (22, .int .i64 i), (133, .bool c)]) ?_ ?_
      · skip
        refine region_list ?_
        refine list_pure E rfl rfl (by decide) (rn_move E rfl rfl) ?_; clear E a; intro a E
        refine list_pure E rfl rfl (by decide) (rn_move E rfl rfl) ?_; clear E a; intro a E
        refine list_pure E rfl rfl (by decide) (by first | exact rn_len E rfl rfl rfl | exact rn_len_str E rfl rfl rfl | exact rn_len_string E rfl rfl rfl) ?_; clear E a; intro a E
        refine list_pure E rfl rfl (by decide) (rn_lss E rfl rfl rfl) ?_; clear E a; intro a E
        refine list_pure E rfl rfl (by decide) (rn_move E rfl rfl) ?_; clear E a; intro a E
        refine guard_split E (t := 128) rfl (fun hb128 => ?_) (fun hb128 => ?_)
        · have hb128n := hb128; replace hb128n := Nrm.nrm hb128n
          refine list_guard_yes E rfl rfl rfl rfl hb128 rfl (by decide) (rn_move E rfl rfl) ?_; clear E a; intro a E
          refine list_guard_yes E rfl rfl rfl rfl hb128 rfl (by decide) (rn_move E rfl rfl) ?_; clear E a; intro a E
          refine list_guard_wp E rfl rfl rfl rfl hb128 ?_; refine wp_call' E rfl (by decide) rfl Try.func13 rfl (by kernel_rfl) rfl (rk_waiting p _ P hP _ (S.hp.sel (sel_cons (by repeat (first | exact pk1 | apply pick_tail)) (sel_nil _)))) ?_
          rintro v131 w ⟨rfl, hT⟩; clear E a; intro a E
          have S := S.call1 (sel_cons (by repeat (first | exact pk1 | apply pick_tail)) (sel_nil _)) hT
          refine list_guard_yes E rfl rfl rfl rfl hb128 rfl (by decide) (rn_lss E rfl rfl rfl) ?_; clear E a; intro a E
          refine list_pure E rfl rfl (by decide) (rn_pick_yes' E rfl rfl hb128 rfl) ?_; clear E a; intro a E
          refine wpList_nil ?_
          refine joined_here ?_
          refine ⟨_, ?_, S, E.keep (keep_cons rfl (keep_cons rfl (keep_cons rfl (keep_cons rfl (keep_cons rfl (keep_cons rfl (keep_cons rfl (keep_cons rfl (keep_cons rfl (keep_cons rfl (keep_cons rfl keep_nil)))))))))))⟩
          rw [Bool.eq_iff_iff]; simp only [decide_eq_true_eq, Bool.false_eq_true, false_iff]; omega
        · have hb128n := hb128; replace hb128n := Nrm.nrm hb128n
          refine list_guard_no E rfl rfl rfl rfl hb128 rfl (by decide) ?_; clear E a; intro a E
          refine list_guard_no E rfl rfl rfl rfl hb128 rfl (by decide) ?_; clear E a; intro a E
          refine list_guard_no E rfl rfl rfl rfl hb128 rfl (by decide) ?_; clear E a; intro a E
          refine list_guard_no E rfl rfl rfl rfl hb128 rfl (by decide) ?_; clear E a; intro a E
          refine list_pure E rfl rfl (by decide) (rn_pick_no' E rfl rfl hb128 rfl) ?_; clear E a; intro a E
          refine wpList_nil ?_
          refine joined_here ?_
          refine ⟨_, ?_, S, E.keep (keep_cons rfl (keep_cons rfl (keep_cons rfl (keep_cons rfl (keep_cons rfl (keep_cons rfl (keep_cons rfl (keep_cons rfl (keep_cons rfl (keep_cons rfl (keep_cons rfl keep_nil)))))))))))⟩
          rw [Bool.eq_iff_iff]; simp only [decide_eq_true_eq, Bool.false_eq_true, false_iff]; omega
      · clear E S a; intro a w J; obtain ⟨c, hc, S, E⟩ := J
        refine then_k hK ?_; clear hK; clear K
        refine if_bool E rfl (fun hb => ?_) (fun hb => ?_)
        · replace hb := Nrm.nrm hb
          have hcc : i < st.length ∧ i < ws.length := (by rw [hb] at hc; exact of_decide_eq_true hc.symm)
          refine wp_skip ?_
          refine then_k hK ?_; clear hK; clear K
          refine wp_seq_k ?_; intro K hK
          refine wp_block ?_
          refine wp_seq_k ?_; intro K hK
          have his := hcc.1
          obtain ⟨gs', os, rfl⟩ := hst.addr (by omega)
          obtain ⟨z, hz⟩ : ∃ z, st[i]? = some z := ⟨_, List.getElem?_eq_getElem his⟩
          have hzb : (st.map Value.bool)[i]? = some (.bool z) := by rw [List.getElem?_map, hz]; rfl
          refine wp_join (fun (a : Act) (w' : World) => ∃ al : Bool, (al = true → ws.length ≤ st.length ∧ ∀ j, j < i + 1 → st[j]? = some true) ∧ St w0 [O] w' [P, Ce, Ck, Cb, O] ∧ Fr a 253 [(2, .slice (some ⟨gs', os, none⟩) st.length cs), (8, ptr p), (9, ptr d), (13, .slice adb base.length cb), (15, .slice adk ks.length ck), (18, .slice ade nw.length ce), (19, .int .i64 0), (20, .bool al), (21, .bool no), (22, .int .i64 i)]) ?_ ?_
          · skip
            refine region_list ?_
            refine list_pure E rfl rfl (by decide) (rn_move E rfl rfl) ?_; clear E a; intro a E
            refine list_pure E rfl rfl (by decide) (rn_move E rfl rfl) ?_; clear E a; intro a E
            refine guard_split E (t := 137) rfl (fun hb137 => ?_) (fun hb137 => ?_)
            · have hb137n := hb137; replace hb137n := Nrm.nrm hb137n
              refine list_guard_yes E rfl rfl rfl rfl hb137 rfl (by decide) (rn_move E rfl rfl) ?_; clear E a; intro a E
              refine list_guard_yes E rfl rfl rfl rfl hb137 rfl (by decide) (rn_move E rfl rfl) ?_; clear E a; intro a E
              refine list_guard_yes E rfl rfl rfl rfl hb137 rfl (by decide) (rn_indexAddr1 (i := i) E rfl rfl rfl rfl rfl rfl (by omega)) ?_; clear E a; intro a E
              refine list_guard_yes E rfl rfl rfl rfl hb137 rfl (by decide) (rn_loadc E rfl rfl rfl (hst.cells (S.stab.at (by repeat (first | exact mm1 | assumption | apply List.Mem.tail))) rfl i _ hzb)) ?_; clear E a; intro a E
              refine list_pure E rfl rfl (by decide) (rn_pick_yes' E rfl rfl hb137 rfl) ?_; clear E a; intro a E
              refine list_pure E rfl rfl (by decide) (rn_assign E rfl rfl) ?_; clear E a; intro a E
              refine wpList_nil ?_
              refine joined_here ?_
              exact ⟨_, (fun hq => ⟨(hal hb137).1, fun j hj => by by_cases h : j = i; rw [h, hz, hq]; exact (hal hb137).2 j (by omega)⟩), S, E.keep (keep_cons rfl (keep_cons rfl (keep_cons rfl (keep_cons rfl (keep_cons rfl (keep_cons rfl (keep_cons rfl (keep_cons rfl (keep_cons rfl (keep_cons rfl keep_nil))))))))))⟩
            · have hb137n := hb137; replace hb137n := Nrm.nrm hb137n
              refine list_guard_no E rfl rfl rfl rfl hb137 rfl (by decide) ?_; clear E a; intro a E
              refine list_guard_no E rfl rfl rfl rfl hb137 rfl (by decide) ?_; clear E a; intro a E
              refine list_guard_no E rfl rfl rfl rfl hb137 rfl (by decide) ?_; clear E a; intro a E
              refine list_guard_no E rfl rfl rfl rfl hb137 rfl (by decide) ?_; clear E a; intro a E
              refine list_pure E rfl rfl (by decide) (rn_pick_no' E rfl rfl hb137 rfl) ?_; clear E a; intro a E
              refine list_pure E rfl rfl (by decide) (rn_assign E rfl rfl) ?_; clear E a; intro a E
              refine wpList_nil ?_
              refine joined_here ?_
              exact ⟨false, (fun hq => by cases hq), S, E.keep (keep_cons rfl (keep_cons rfl (keep_cons rfl (keep_cons rfl (keep_cons rfl (keep_cons rfl (keep_cons rfl (keep_cons rfl (keep_cons rfl (keep_cons rfl keep_nil))))))))))⟩
          · clear E S a; intro a w J; obtain ⟨al, hal, S, E⟩ := J
            refine then_k hK ?_; clear hK; clear K
            refine wp_join (fun (a : Act) (w' : World) => ∃ no : Bool, (no = true → ∀ j, j < i + 1 → st[j]? ≠ some true) ∧ St w0 [O] w' [P, Ce, Ck, Cb, O] ∧ Fr a 253 [(2, .slice (some ⟨gs', os, none⟩) st.length cs), (8, ptr p), (9, ptr d), (13, .slice adb base.length cb), (15, .slice adk ks.length ck), (18, .slice ade nw.length ce), (19, .int .i64 0), (20, .bool al), (21, .bool no), (22, .int .i64 i)]) ?_ ?_
            · skip
              refine region_list ?_
              refine list_pure E rfl rfl (by decide) (rn_move E rfl rfl) ?_; clear E a; intro a E
              refine list_pure E rfl rfl (by decide) (rn_move E rfl rfl) ?_; clear E a; intro a E
              refine guard_split E (t := 144) rfl (fun hb144 => ?_) (fun hb144 => ?_)
              · have hb144n := hb144; replace hb144n := Nrm.nrm hb144n
                refine list_guard_yes E rfl rfl rfl rfl hb144 rfl (by decide) (rn_move E rfl rfl) ?_; clear E a; intro a E
                refine list_guard_yes E rfl rfl rfl rfl hb144 rfl (by decide) (rn_move E rfl rfl) ?_; clear E a; intro a E
                refine list_guard_yes E rfl rfl rfl rfl hb144 rfl (by decide) (rn_indexAddr1 (i := i) E rfl rfl rfl rfl rfl rfl (by omega)) ?_; clear E a; intro a E
                refine list_guard_yes E rfl rfl rfl rfl hb144 rfl (by decide) (rn_loadc E rfl rfl rfl (hst.cells (S.stab.at (by repeat (first | exact mm1 | assumption | apply List.Mem.tail))) rfl i _ hzb)) ?_; clear E a; intro a E
                refine list_guard_yes E rfl rfl rfl rfl hb144 rfl (by decide) (rn_not E rfl rfl) ?_; clear E a; intro a E
                refine list_pure E rfl rfl (by decide) (rn_pick_yes' E rfl rfl hb144 rfl) ?_; clear E a; intro a E
                refine list_pure E rfl rfl (by decide) (rn_assign E rfl rfl) ?_; clear E a; intro a E
                refine wpList_nil ?_
                refine joined_here ?_
                exact ⟨_, (fun hq j hj => by by_cases h : j = i; rw [h, hz]; intro q; rw [Option.some.inj q] at hq; simp at hq; exact hno hb144 j (by omega)), S, E.keep (keep_cons rfl (keep_cons rfl (keep_cons rfl (keep_cons rfl (keep_cons rfl (keep_cons rfl (keep_cons rfl (keep_cons rfl (keep_cons rfl (keep_cons rfl keep_nil))))))))))⟩
              · have hb144n := hb144; replace hb144n := Nrm.nrm hb144n
                refine list_guard_no E rfl rfl rfl rfl hb144 rfl (by decide) ?_; clear E a; intro a E
                refine list_guard_no E rfl rfl rfl rfl hb144 rfl (by decide) ?_; clear E a; intro a E
                refine list_guard_no E rfl rfl rfl rfl hb144 rfl (by decide) ?_; clear E a; intro a E
                refine list_guard_no E rfl rfl rfl rfl hb144 rfl (by decide) ?_; clear E a; intro a E
                refine list_guard_no E rfl rfl rfl rfl hb144 rfl (by decide) ?_; clear E a; intro a E
                refine list_pure E rfl rfl (by decide) (rn_pick_no' E rfl rfl hb144 rfl) ?_; clear E a; intro a E
                refine list_pure E rfl rfl (by decide) (rn_assign E rfl rfl) ?_; clear E a; intro a E
                refine wpList_nil ?_
                refine joined_here ?_
                exact ⟨false, (fun hq => by cases hq), S, E.keep (keep_cons rfl (keep_cons rfl (keep_cons rfl (keep_cons rfl (keep_cons rfl (keep_cons rfl (keep_cons rfl (keep_cons rfl (keep_cons rfl (keep_cons rfl keep_nil))))))))))⟩
            · clear E S a; intro a w J; obtain ⟨no, hno, S, E⟩ := J
              refine in_normal ?_
              refine then_k hK ?_; clear hK; clear K
              refine region_list ?_
              refine list_pure E rfl rfl (by decide) (rn_move E rfl rfl) ?_; clear E a; intro a E
              refine list_pure E rfl rfl (by decide) (rn_add E rfl rfl rfl (by first | exact wa_lit (y := 1) (by omega) | exact w_in (by omega) | exact w_inu (by omega) | exact rfl)) ?_; clear E a; intro a E
              refine list_pure E rfl rfl (by decide) (rn_assign E rfl rfl) ?_; clear E a; intro a E
              refine wpList_nil ?_
              refine then_normal ?_
              exact ⟨_, by omega, i + 1, al, no, rfl, by omega, hal, hno, S, E.keep (keep_cons rfl (keep_cons rfl (keep_cons rfl (keep_cons rfl (keep_cons rfl (keep_cons rfl (keep_cons rfl (keep_cons rfl (keep_cons rfl (keep_cons rfl keep_nil))))))))))⟩
        · replace hb := Nrm.nrm hb
          have hcc : ¬ (i < st.length ∧ i < ws.length) := (by rw [hb] at hc; exact of_decide_eq_false hc.symm)
          refine wp_exit ?_
          refine then_exit ?_; clear hK; clear K
          refine then_exit ?_
          refine in_exit ?_
          refine then_k hK ?_; clear hK; clear K
          refine wp_seq_k ?_; intro K hK
          have hAll : al = true → ∀ j, j < ws.length → st[j]? = some true := fun h j hj => (hal h).2 j (by have := (hal h).1; omega)
          have hNone : no = true → ∀ j, j < ws.length → st[j]? ≠ some true := fun h j hj => by
            by_cases hji : j < i
            · exact hno h j hji
            · rw [List.getElem?_eq_none (by omega)]; simp
          obtain ⟨X, hX⟩ : ∃ X, X = upS d ws st base := ⟨_, rfl⟩
          have hXl : X.length = 1024 := by rw [hX]; exact upS_length (n := 1024) hnw fun w hw _ => (hwf w hw).2
          have hXall : al = true → X = nw := fun h => by rw [hX, upS_all d ws st base (hAll h) (fun w hw => (hwf w hw).1), hseen]
          have hXno : no = true → X = base := fun h => by rw [hX, upS_no d ws st base (hNone h)]
          have hXs := fun (s : Nat) (hs : s < 8) => crash_sec (d := d) (ks := ks) (st := st) hs hnw hwf hsrc
          rw [← hX] at hXs
          refine region_list ?_
          refine list_pure E rfl rfl (by decide) (rn_move E rfl rfl) ?_; clear E a; intro a E
          refine list_pure E rfl rfl (by decide) (rn_move E rfl rfl) ?_; clear E a; intro a E
          refine list_call E rfl rfl (by decide) rfl Try.func14 rfl (by kernel_rfl) rfl (rk_up p _ P hP _ st O hst _ (S.hp.sel (sel_cons (by repeat (first | exact pk1 | apply pick_tail)) (sel_cons (by repeat (first | exact pk1 | apply pick_tail)) (sel_nil _))))) ?_
          rintro v153 w ⟨P7, hP7, hT⟩; clear E a; intro a E
          have S := S.call2 (sel_cons (by repeat (first | exact pk1 | apply pick_tail)) (sel_cons (by repeat (first | exact pk1 | apply pick_tail)) (sel_nil _))) hT
          have hP7 : RkC p ⟨⟨-1, false, k⟩, [], [⟨d, gp, gn, X, X, false⟩]⟩ P7 := by rw [hX]; simpa [Rk.up, upW_map, Dk.settle] using hP7
          refine wpList_nil ?_
          refine then_k hK ?_; clear hK; clear K
          refine wp_seq_k ?_; intro K hK
          refine region_list ?_
          refine list_pure E rfl rfl (by decide) (rn_move E rfl rfl) ?_; clear E a; intro a E
          refine list_call E rfl rfl (by decide) rfl Try.func12 rfl (by kernel_rfl) rfl (rk_read p _ P7 hP7 ⟨d, gp, gn, X, X, false⟩ (by simp) 0 8 (by omega) _ (S.hp.sel (sel_cons (by repeat (first | exact pk1 | apply pick_tail)) (sel_nil _)))) ?_
          rintro v156 w ⟨vx, Cx, rfl, hx0, hT⟩; clear E a; intro a E
          have S := S.call2 (sel_cons (by repeat (first | exact pk1 | apply pick_tail)) (sel_nil _)) hT
          have hr3 : rdS ⟨-1, false, k⟩ false X 0 8 = (0, X) := rdS_all rfl (k := 8) (by omega)
          simp only [hr3] at hx0 E
          obtain ⟨adx, cx, rfl⟩ := hx0.slice
          refine list_pure E rfl rfl (by decide) (rn_move E rfl rfl) ?_; clear E a; intro a E
          refine list_pure E rfl rfl (by decide) (rn_extract E rfl rfl rfl) ?_; clear E a; intro a E
          refine list_pure E rfl rfl (by decide) (rn_extract E rfl rfl rfl) ?_; clear E a; intro a E
          refine list_pure E rfl rfl (by decide) (rn_assign E rfl rfl) ?_; clear E a; intro a E
          refine list_pure E rfl rfl (by decide) (rn_assign E rfl rfl) ?_; clear E a; intro a E
          refine wpList_nil ?_
          refine then_k hK ?_; clear hK; clear K
          refine wp_seq_k ?_; intro K hK
          refine wp_seq_k ?_; intro K hK
          refine wp_join (fun (a : Act) (w' : World) => ∃ c : Bool, c = false ∧ St w0 [O] w' [Cx, Ck, Cb, O] ∧ Fr a 253 [(13, .slice adb base.length cb), (15, .slice adk ks.length ck), (23, .slice adx X.length cx), (199, .bool c)]) ?_ ?_
          · skip
            refine region_list ?_
            refine list_pure E rfl rfl (by decide) (rn_move E rfl rfl) ?_; clear E a; intro a E
            refine list_pure E rfl rfl (by decide) (by first | exact rn_neq E rfl rfl rfl | exact rn_neq_ptr_nil E rfl rfl rfl rfl | exact rn_neq_bool E rfl rfl rfl rfl | exact rn_neq_string E rfl rfl rfl) ?_; clear E a; intro a E
            refine list_pure E rfl rfl (by decide) (rn_move E rfl rfl) ?_; clear E a; intro a E
            refine guard_false E (t := 161) rfl (rfl) (fun hb161 => ?_)
            refine list_guard_yes E rfl rfl rfl rfl hb161 rfl (by decide) (rn_move E rfl rfl) ?_; clear E a; intro a E
            refine list_guard_yes E rfl rfl rfl rfl hb161 rfl (by decide) (by first | exact rn_neq E rfl rfl rfl | exact rn_neq_ptr_nil E rfl rfl rfl rfl | exact rn_neq_bool E rfl rfl rfl rfl | exact rn_neq_string E rfl rfl rfl) ?_; clear E a; intro a E
            refine list_pure E rfl rfl (by decide) (rn_pick_no' E rfl rfl hb161 rfl) ?_; clear E a; intro a E
            refine list_pure E rfl rfl (by decide) (rn_move E rfl rfl) ?_; clear E a; intro a E
            refine guard_false E (t := 165) rfl (rfl) (fun hb165 => ?_)
            refine list_guard_yes E rfl rfl rfl rfl hb165 rfl (by decide) (rn_move E rfl rfl) ?_; clear E a; intro a E
            refine list_guard_yes E rfl rfl rfl rfl hb165 rfl (by decide) (by first | exact rn_len E rfl rfl rfl | exact rn_len_str E rfl rfl rfl | exact rn_len_string E rfl rfl rfl) ?_; clear E a; intro a E
            refine list_guard_yes E rfl rfl rfl rfl hb165 rfl (by decide) (by first | exact rn_neq E rfl rfl rfl | exact rn_neq_ptr_nil E rfl rfl rfl rfl | exact rn_neq_bool E rfl rfl rfl rfl | exact rn_neq_string E rfl rfl rfl) ?_; clear E a; intro a E
            refine list_pure E rfl rfl (by decide) (rn_pick_no' E rfl rfl hb165 rfl) ?_; clear E a; intro a E
            refine list_pure E rfl rfl (by decide) (rn_move E rfl rfl) ?_; clear E a; intro a E
            refine guard_false E (t := 170) rfl ((by rw [hXl]; rfl)) (fun hb170 => ?_)
            refine list_guard_yes E rfl rfl rfl rfl hb170 rfl (by decide) (rn_move E rfl rfl) ?_; clear E a; intro a E
            refine list_guard_wp E rfl rfl rfl rfl hb170 ?_; refine wp_call' E rfl (by decide) rfl Try.func13 rfl (by kernel_rfl) rfl (rk_waiting p _ P7 hP7 _ (S.hp.sel (sel_cons (by repeat (first | exact pk1 | apply pick_tail)) (sel_nil _)))) ?_
            rintro v172 w ⟨rfl, hT⟩; clear E a; intro a E
            have S := S.call1 (sel_cons (by repeat (first | exact pk1 | apply pick_tail)) (sel_nil _)) hT
            refine list_guard_yes E rfl rfl rfl rfl hb170 rfl (by decide) (by first | exact rn_neq E rfl rfl rfl | exact rn_neq_ptr_nil E rfl rfl rfl rfl | exact rn_neq_bool E rfl rfl rfl rfl | exact rn_neq_string E rfl rfl rfl) ?_; clear E a; intro a E
            refine list_pure E rfl rfl (by decide) (rn_pick_no' E rfl rfl hb170 rfl) ?_; clear E a; intro a E
            refine list_pure E rfl rfl (by decide) (rn_move E rfl rfl) ?_; clear E a; intro a E
            refine guard_false E (t := 175) rfl (rfl) (fun hb175 => ?_)
            refine list_guard_yes E rfl rfl rfl rfl hb175 rfl (by decide) (rn_move E rfl rfl) ?_; clear E a; intro a E
            refine list_guard_wp E rfl rfl rfl rfl hb175 ?_; refine wp_call' E rfl (by decide) rfl Try.func15 rfl (by kernel_rfl) rfl (rk_on p _ P7 hP7 _ (S.hp.sel (sel_cons (by repeat (first | exact pk1 | apply pick_tail)) (sel_nil _)))) ?_
            rintro v177 w ⟨rfl, hT⟩; clear E a; intro a E
            have S := S.call1 (sel_cons (by repeat (first | exact pk1 | apply pick_tail)) (sel_nil _)) hT
            refine list_guard_yes E rfl rfl rfl rfl hb175 rfl (by decide) (rn_not E rfl rfl) ?_; clear E a; intro a E
            refine list_pure E rfl rfl (by decide) (rn_pick_no' E rfl rfl hb175 rfl) ?_; clear E a; intro a E
            refine list_pure E rfl rfl (by decide) (rn_move E rfl rfl) ?_; clear E a; intro a E
            refine guard_false E (t := 180) rfl (rfl) (fun hb180 => ?_)
            refine list_guard_yes E rfl rfl rfl rfl hb180 rfl (by decide) (rn_move E rfl rfl) ?_; clear E a; intro a E
            refine list_guard_yes E rfl rfl rfl rfl hb180 rfl (by decide) (rn_move E rfl rfl) ?_; clear E a; intro a E
            refine guard_split E (t := 182) rfl (fun hb182 => ?_) (fun hb182 => ?_)
            · have hb182n := hb182; replace hb182n := Nrm.nrm hb182n
              refine list_guard_yes E rfl rfl rfl rfl hb182 rfl (by decide) (rn_move E rfl rfl) ?_; clear E a; intro a E
              refine list_guard_yes E rfl rfl rfl rfl hb182 rfl (by decide) (rn_string E rfl rfl rfl rfl rfl hx0.rd (S.stab.at (by repeat (first | exact mm1 | assumption | apply List.Mem.tail)))) ?_; clear E a; intro a E
              refine list_guard_yes E rfl rfl rfl rfl hb182 rfl (by decide) (rn_move E rfl rfl) ?_; clear E a; intro a E
              refine list_guard_yes E rfl rfl rfl rfl hb182 rfl (by decide) (rn_string E rfl rfl rfl rfl rfl he0.rd (S.stab.at (by repeat (first | exact mm1 | assumption | apply List.Mem.tail)))) ?_; clear E a; intro a E
              refine list_guard_yes E rfl rfl rfl rfl hb182 rfl (by decide) (by first | exact rn_neq E rfl rfl rfl | exact rn_neq_ptr_nil E rfl rfl rfl rfl | exact rn_neq_bool E rfl rfl rfl rfl | exact rn_neq_string E rfl rfl rfl) ?_; clear E a; intro a E
              refine list_guard_yes E rfl rfl rfl rfl hb180 rfl (by decide) (rn_pick_yes' E rfl rfl hb182 rfl) ?_; clear E a; intro a E
              refine list_pure E rfl rfl (by decide) (rn_pick_no' E rfl rfl hb180 rfl) ?_; clear E a; intro a E
              refine list_pure E rfl rfl (by decide) (rn_move E rfl rfl) ?_; clear E a; intro a E
              refine guard_false E (t := 190) rfl ((by rw [hXall hb182]; simp)) (fun hb190 => ?_)
              refine list_guard_yes E rfl rfl rfl rfl hb190 rfl (by decide) (rn_move E rfl rfl) ?_; clear E a; intro a E
              refine list_guard_yes E rfl rfl rfl rfl hb190 rfl (by decide) (rn_move E rfl rfl) ?_; clear E a; intro a E
              refine guard_split E (t := 192) rfl (fun hb192 => ?_) (fun hb192 => ?_)
              · have hb192n := hb192; replace hb192n := Nrm.nrm hb192n
                refine list_guard_yes E rfl rfl rfl rfl hb192 rfl (by decide) (rn_move E rfl rfl) ?_; clear E a; intro a E
                refine list_guard_yes E rfl rfl rfl rfl hb192 rfl (by decide) (rn_string E rfl rfl rfl rfl rfl hx0.rd (S.stab.at (by repeat (first | exact mm1 | assumption | apply List.Mem.tail)))) ?_; clear E a; intro a E
                refine list_guard_yes E rfl rfl rfl rfl hb192 rfl (by decide) (rn_move E rfl rfl) ?_; clear E a; intro a E
                refine list_guard_yes E rfl rfl rfl rfl hb192 rfl (by decide) (rn_string E rfl rfl rfl rfl rfl hb0.rd (S.stab.at (by repeat (first | exact mm1 | assumption | apply List.Mem.tail)))) ?_; clear E a; intro a E
                refine list_guard_yes E rfl rfl rfl rfl hb192 rfl (by decide) (by first | exact rn_neq E rfl rfl rfl | exact rn_neq_ptr_nil E rfl rfl rfl rfl | exact rn_neq_bool E rfl rfl rfl rfl | exact rn_neq_string E rfl rfl rfl) ?_; clear E a; intro a E
                refine list_guard_yes E rfl rfl rfl rfl hb190 rfl (by decide) (rn_pick_yes' E rfl rfl hb192 rfl) ?_; clear E a; intro a E
                refine list_pure E rfl rfl (by decide) (rn_pick_no' E rfl rfl hb190 rfl) ?_; clear E a; intro a E
                refine wpList_nil ?_
                refine joined_here ?_
                refine ⟨_, ?_, S.only (Bs := [Cx, Ck, Cb, O]) (sel_cons (by repeat (first | exact pk1 | apply pick_tail)) (sel_cons (by repeat (first | exact pk1 | apply pick_tail)) (sel_cons (by repeat (first | exact pk1 | apply pick_tail)) (sel_cons (by repeat (first | exact pk1 | apply pick_tail)) (sel_nil _))))), E.keep (keep_cons rfl (keep_cons rfl (keep_cons rfl (keep_cons rfl keep_nil))))⟩
                first | rfl | (rw [hXno (by assumption)]; simp)
              · have hb192n := hb192; replace hb192n := Nrm.nrm hb192n
                refine list_guard_no E rfl rfl rfl rfl hb192 rfl (by decide) ?_; clear E a; intro a E
                refine list_guard_no E rfl rfl rfl rfl hb192 rfl (by decide) ?_; clear E a; intro a E
                refine list_guard_no E rfl rfl rfl rfl hb192 rfl (by decide) ?_; clear E a; intro a E
                refine list_guard_no E rfl rfl rfl rfl hb192 rfl (by decide) ?_; clear E a; intro a E
                refine list_guard_no E rfl rfl rfl rfl hb192 rfl (by decide) ?_; clear E a; intro a E
                refine list_guard_yes E rfl rfl rfl rfl hb190 rfl (by decide) (rn_pick_no' E rfl rfl hb192 rfl) ?_; clear E a; intro a E
                refine list_pure E rfl rfl (by decide) (rn_pick_no' E rfl rfl hb190 rfl) ?_; clear E a; intro a E
                refine wpList_nil ?_
                refine joined_here ?_
                refine ⟨_, ?_, S.only (Bs := [Cx, Ck, Cb, O]) (sel_cons (by repeat (first | exact pk1 | apply pick_tail)) (sel_cons (by repeat (first | exact pk1 | apply pick_tail)) (sel_cons (by repeat (first | exact pk1 | apply pick_tail)) (sel_cons (by repeat (first | exact pk1 | apply pick_tail)) (sel_nil _))))), E.keep (keep_cons rfl (keep_cons rfl (keep_cons rfl (keep_cons rfl keep_nil))))⟩
                first | rfl | (rw [hXno (by assumption)]; simp)
            · have hb182n := hb182; replace hb182n := Nrm.nrm hb182n
              refine list_guard_no E rfl rfl rfl rfl hb182 rfl (by decide) ?_; clear E a; intro a E
              refine list_guard_no E rfl rfl rfl rfl hb182 rfl (by decide) ?_; clear E a; intro a E
              refine list_guard_no E rfl rfl rfl rfl hb182 rfl (by decide) ?_; clear E a; intro a E
              refine list_guard_no E rfl rfl rfl rfl hb182 rfl (by decide) ?_; clear E a; intro a E
              refine list_guard_no E rfl rfl rfl rfl hb182 rfl (by decide) ?_; clear E a; intro a E
              refine list_guard_yes E rfl rfl rfl rfl hb180 rfl (by decide) (rn_pick_no' E rfl rfl hb182 rfl) ?_; clear E a; intro a E
              refine list_pure E rfl rfl (by decide) (rn_pick_no' E rfl rfl hb180 rfl) ?_; clear E a; intro a E
              refine list_pure E rfl rfl (by decide) (rn_move E rfl rfl) ?_; clear E a; intro a E
              refine list_guard_yes E rfl rfl rfl rfl rfl rfl (by decide) (rn_move E rfl rfl) ?_; clear E a; intro a E
              refine list_guard_yes E rfl rfl rfl rfl rfl rfl (by decide) (rn_move E rfl rfl) ?_; clear E a; intro a E
              refine guard_split E (t := 192) rfl (fun hb192 => ?_) (fun hb192 => ?_)
              · have hb192n := hb192; replace hb192n := Nrm.nrm hb192n
                refine list_guard_yes E rfl rfl rfl rfl hb192 rfl (by decide) (rn_move E rfl rfl) ?_; clear E a; intro a E
                refine list_guard_yes E rfl rfl rfl rfl hb192 rfl (by decide) (rn_string E rfl rfl rfl rfl rfl hx0.rd (S.stab.at (by repeat (first | exact mm1 | assumption | apply List.Mem.tail)))) ?_; clear E a; intro a E
                refine list_guard_yes E rfl rfl rfl rfl hb192 rfl (by decide) (rn_move E rfl rfl) ?_; clear E a; intro a E
                refine list_guard_yes E rfl rfl rfl rfl hb192 rfl (by decide) (rn_string E rfl rfl rfl rfl rfl hb0.rd (S.stab.at (by repeat (first | exact mm1 | assumption | apply List.Mem.tail)))) ?_; clear E a; intro a E
                refine list_guard_yes E rfl rfl rfl rfl hb192 rfl (by decide) (by first | exact rn_neq E rfl rfl rfl | exact rn_neq_ptr_nil E rfl rfl rfl rfl | exact rn_neq_bool E rfl rfl rfl rfl | exact rn_neq_string E rfl rfl rfl) ?_; clear E a; intro a E
                refine list_guard_yes E rfl rfl rfl rfl rfl rfl (by decide) (rn_pick_yes' E rfl rfl hb192 rfl) ?_; clear E a; intro a E
                refine list_pure E rfl rfl (by decide) (rn_pick_no' E rfl rfl rfl rfl) ?_; clear E a; intro a E
                refine wpList_nil ?_
                refine joined_here ?_
                refine ⟨_, ?_, S.only (Bs := [Cx, Ck, Cb, O]) (sel_cons (by repeat (first | exact pk1 | apply pick_tail)) (sel_cons (by repeat (first | exact pk1 | apply pick_tail)) (sel_cons (by repeat (first | exact pk1 | apply pick_tail)) (sel_cons (by repeat (first | exact pk1 | apply pick_tail)) (sel_nil _))))), E.keep (keep_cons rfl (keep_cons rfl (keep_cons rfl (keep_cons rfl keep_nil))))⟩
                first | rfl | (rw [hXno (by assumption)]; simp)
              · have hb192n := hb192; replace hb192n := Nrm.nrm hb192n
                refine list_guard_no E rfl rfl rfl rfl hb192 rfl (by decide) ?_; clear E a; intro a E
                refine list_guard_no E rfl rfl rfl rfl hb192 rfl (by decide) ?_; clear E a; intro a E
                refine list_guard_no E rfl rfl rfl rfl hb192 rfl (by decide) ?_; clear E a; intro a E
                refine list_guard_no E rfl rfl rfl rfl hb192 rfl (by decide) ?_; clear E a; intro a E
                refine list_guard_no E rfl rfl rfl rfl hb192 rfl (by decide) ?_; clear E a; intro a E
                refine list_guard_yes E rfl rfl rfl rfl rfl rfl (by decide) (rn_pick_no' E rfl rfl hb192 rfl) ?_; clear E a; intro a E
                refine list_pure E rfl rfl (by decide) (rn_pick_no' E rfl rfl rfl rfl) ?_; clear E a; intro a E
                refine wpList_nil ?_
                refine joined_here ?_
                refine ⟨_, ?_, S.only (Bs := [Cx, Ck, Cb, O]) (sel_cons (by repeat (first | exact pk1 | apply pick_tail)) (sel_cons (by repeat (first | exact pk1 | apply pick_tail)) (sel_cons (by repeat (first | exact pk1 | apply pick_tail)) (sel_cons (by repeat (first | exact pk1 | apply pick_tail)) (sel_nil _))))), E.keep (keep_cons rfl (keep_cons rfl (keep_cons rfl (keep_cons rfl keep_nil))))⟩
                first | rfl | (rw [hXno (by assumption)]; simp)
          · clear E S a; intro a w J; obtain ⟨c, hc, S, E⟩ := J
            refine then_k hK ?_; clear hK; clear K
            refine if_false' E rfl (hc) ?_
            refine wp_skip ?_
            refine then_k hK ?_; clear hK; clear K
            refine wp_seq_k ?_; intro K hK
            refine wp_seq_k ?_; intro K hK
            refine region_list ?_
            refine list_pure E rfl rfl (by decide) (rn_assign E rfl rfl) ?_; clear E a; intro a E
            refine wpList_nil ?_
            refine then_k hK ?_; clear hK; clear K
            refine wp_block ?_
            refine wp_loop_ghost (fun (m : Nat) (a : Act) (w' : World) => ∃ (s : Nat), m = 8 - s ∧ s ≤ 8 ∧ St w0 [O] w' [Cx, Ck, Cb, O] ∧ Fr a 253 [(13, .slice adb base.length cb), (15, .slice adk ks.length ck), (23, .slice adx X.length cx), (25, .int .i64 s)]) (8 - 0) ?_ ?_
            · exact ⟨0, rfl, by omega, S, E.keep (keep_cons rfl (keep_cons rfl (keep_cons rfl (keep_cons rfl keep_nil))))⟩
            clear E; clear a; (try clear S); rintro m a w ⟨s, rfl, hs, S, E⟩
            refine wp_seq_k ?_; intro K hK
            refine wp_seq_k ?_; intro K hK
            refine region_list ?_
            refine list_pure E rfl rfl (by decide) (rn_move E rfl rfl) ?_; clear E a; intro a E
            refine list_pure E rfl rfl (by decide) (rn_lss E rfl rfl rfl) ?_; clear E a; intro a E
            refine wpList_nil ?_
            refine then_k hK ?_; clear hK; clear K
            refine if_bool E rfl (fun hb => ?_) (fun hb => ?_)
            · replace hb := Nrm.nrm hb
              refine wp_skip ?_
              refine then_k hK ?_; clear hK; clear K
              refine wp_seq_k ?_; intro K hK
              refine wp_block ?_
              refine wp_seq_k ?_; intro K hK
              have hs8 : s < 8 := by omega
              refine region_list ?_
              refine list_pure E rfl rfl (by decide) (rn_move E rfl rfl) ?_; clear E a; intro a E
              refine list_pure E rfl rfl (by decide) (rn_move E rfl rfl) ?_; clear E a; intro a E
              refine list_call E rfl rfl (by decide) rfl Try.func16 rfl (by kernel_rfl) rfl (lsector_ret _ X Cx hx0.rd s (by omega) (by omega) ⟨_, _, rfl, hx0.cap_le⟩ _ (S.hp.sel (sel_cons (by repeat (first | exact pk1 | apply pick_tail)) (sel_nil _)))) ?_
              rintro v206 w ⟨rfl, hT⟩; clear E a; intro a E
              have S := S.call1 (sel_cons (by repeat (first | exact pk1 | apply pick_tail)) (sel_nil _)) hT
              refine list_pure E rfl rfl (by decide) (rn_move E rfl rfl) ?_; clear E a; intro a E
              refine list_pure E rfl rfl (by decide) (rn_move E rfl rfl) ?_; clear E a; intro a E
              refine list_call E rfl rfl (by decide) rfl Try.func16 rfl (by kernel_rfl) rfl (lsector_ret _ base Cb hb0.rd s (by omega) (by omega) ⟨_, _, rfl, hb0.cap_le⟩ _ (S.hp.sel (sel_cons (by repeat (first | exact pk1 | apply pick_tail)) (sel_nil _)))) ?_
              rintro v209 w ⟨rfl, hT⟩; clear E a; intro a E
              have S := (S.call1 (sel_cons (by repeat (first | exact pk1 | apply pick_tail)) (sel_nil _)) hT).front4 (A := Cx) (by repeat (first | exact pk1 | apply pick_tail)) (B := Ck) (by repeat (first | exact pk1 | apply pick_tail)) (C := Cb) (by repeat (first | exact pk1 | apply pick_tail)) (D := O) (by repeat (first | exact pk1 | apply pick_tail))
              refine list_pure E rfl rfl (by decide) (by first | exact rn_eql E rfl rfl rfl | exact rn_eql_ptr_nil E rfl rfl rfl rfl | exact rn_eql_bool E rfl rfl rfl rfl | exact rn_eql_string E rfl rfl rfl) ?_; clear E a; intro a E
              refine list_pure E rfl rfl (by decide) (rn_assign E rfl rfl) ?_; clear E a; intro a E
              refine wpList_nil ?_
              refine then_k hK ?_; clear hK; clear K
              refine wp_seq_k ?_; intro K hK
              refine wp_seq_k ?_; intro K hK
              refine region_list ?_
              refine list_pure E rfl rfl (by decide) (rn_assign E rfl rfl) ?_; clear E a; intro a E
              refine wpList_nil ?_
              refine then_k hK ?_; clear hK; clear K
              refine wp_block ?_
              refine wp_loop_ghost (fun (m : Nat) (a : Act) (w' : World) => ∃ (j : Nat) (good : Bool), m = ks.length - j ∧ j ≤ ks.length ∧ ((secB X s = secB base s ∨ ∃ j', ∃ h : j' < ks.length, j' < j ∧ ∃ n : Nat, n < ks[j'].b.length / 128 ∧ (s : Int) = ks[j'].at_ + n ∧ secB X s = secB ks[j'].b n) → good = true) ∧ St w0 [O] w' [Cx, Ck, Cb, O] ∧ Fr a 253 [(13, .slice adb base.length cb), (15, .slice adk ks.length ck), (23, .slice adx X.length cx), (25, .int .i64 s), (26, .bool good), (27, .int .i64 j)]) (ks.length - 0) ?_ ?_
              · exact ⟨0, _, rfl, by omega, (fun h => by rcases h with h | ⟨j', _, h, _⟩; exact decide_eq_true h; omega), S, E.keep (keep_cons rfl (keep_cons rfl (keep_cons rfl (keep_cons rfl (keep_cons rfl (keep_cons rfl keep_nil))))))⟩
              clear E; clear a; (try clear S); rintro m a w ⟨j, good, rfl, hj, hgood, S, E⟩
              refine wp_seq_k ?_; intro K hK
              refine wp_seq_k ?_; intro K hK
              refine region_list ?_
              refine list_pure E rfl rfl (by decide) (rn_move E rfl rfl) ?_; clear E a; intro a E
              refine list_pure E rfl rfl (by decide) (rn_move E rfl rfl) ?_; clear E a; intro a E
              refine list_pure E rfl rfl (by decide) (by first | exact rn_len E rfl rfl rfl | exact rn_len_str E rfl rfl rfl | exact rn_len_string E rfl rfl rfl) ?_; clear E a; intro a E
              refine list_pure E rfl rfl (by decide) (rn_lss E rfl rfl rfl) ?_; clear E a; intro a E
              refine wpList_nil ?_
              refine then_k hK ?_; clear hK; clear K
              refine if_bool E rfl (fun hb => ?_) (fun hb => ?_)
              · replace hb := Nrm.nrm hb
                refine wp_skip ?_
                refine then_k hK ?_; clear hK; clear K
                refine wp_seq_k ?_; intro K hK
                refine wp_block ?_
                refine wp_seq_k ?_; intro K hK
                have hjl : j < ks.length := by omega
                obtain ⟨gk, rfl⟩ := hCk.addr (by omega)
                obtain ⟨o, ho⟩ : ∃ o, o = ks[j]'hjl := ⟨_, rfl⟩
                obtain ⟨hog, hoa1, hoa2⟩ := hkg _ (List.getElem_mem hjl)
                rw [← ho] at hog hoa1 hoa2
                have hel := fun (w : World) (h : ∀ x ∈ Ck, w.heap[x.1]? = some x.2) => hCk.rd.elem (lay := Dop.lay) (w := w) Dop.lay_len h hjl
                rw [← ho] at hel
                have hgn : (secB X s = secB base s ∨ ∃ j', ∃ h : j' < ks.length, j' < j + 1 ∧ ∃ n : Nat, n < ks[j'].b.length / 128 ∧ (s : Int) = ks[j'].at_ + n ∧ secB X s = secB ks[j'].b n) → good = true ∨ ∃ n : Nat, n < o.b.length / 128 ∧ (s : Int) = o.at_ + n ∧ secB X s = secB o.b n := fun h => by
                  rcases h with h | ⟨j', h1, h2, h3⟩
                  · exact .inl (hgood (.inl h))
                  · by_cases he : j' = j
                    · subst he; rw [← ho] at h3; exact .inr h3
                    · exact .inl (hgood (.inr ⟨j', h1, by omega, h3⟩))
                obtain ⟨adv, cv, hv, hcv⟩ := hog.bc
                have hbl9 := hog.bl
                refine region_list ?_
                refine list_pure E rfl rfl (by decide) (rn_move E rfl rfl) ?_; clear E a; intro a E
                refine list_pure E rfl rfl (by decide) (rn_move E rfl rfl) ?_; clear E a; intro a E
                refine list_pure E rfl rfl (by decide) (rn_move E rfl rfl) ?_; clear E a; intro a E
                refine list_pure E rfl rfl (by decide) (rn_indexAddr (i := j) (s := 6) E rfl rfl rfl rfl rfl rfl (by omega)) ?_; clear E a; intro a E
                refine list_pure E rfl rfl (by decide) (by first | exact rn_fieldAddr0 (q := 2) E rfl rfl rfl | exact rn_fieldAddr (q := 2) E rfl rfl rfl) ?_; clear E a; intro a E
                refine list_pure E rfl rfl (by decide) (rn_loadc E rfl rfl rfl (hel _ (S.stab.at (by repeat (first | exact mm1 | assumption | apply List.Mem.tail))) 2 _ rfl)) ?_; clear E a; intro a E
                refine list_pure E rfl rfl (by decide) (rn_sub E rfl rfl rfl (w_in (by omega))) ?_; clear E a; intro a E
                refine list_pure E rfl rfl (by decide) (rn_assign E rfl rfl) ?_; clear E a; intro a E
                refine wpList_nil ?_
                refine then_k hK ?_; clear hK; clear K
                refine wp_seq_k ?_; intro K hK
                refine region_list ?_
                refine list_pure E rfl rfl (by decide) (rn_move E rfl rfl) ?_; clear E a; intro a E
                refine list_pure E rfl rfl (by decide) (rn_geq E rfl rfl rfl) ?_; clear E a; intro a E
                refine list_pure E rfl rfl (by decide) (rn_move E rfl rfl) ?_; clear E a; intro a E
                refine guard_split E (t := 226) rfl (fun hb226 => ?_) (fun hb226 => ?_)
                · have hb226n := hb226; replace hb226n := Nrm.nrm hb226n
                  refine list_guard_yes E rfl rfl rfl rfl hb226 rfl (by decide) (rn_move E rfl rfl) ?_; clear E a; intro a E
                  refine list_guard_yes E rfl rfl rfl rfl hb226 rfl (by decide) (rn_move E rfl rfl) ?_; clear E a; intro a E
                  refine list_guard_yes E rfl rfl rfl rfl hb226 rfl (by decide) (rn_move E rfl rfl) ?_; clear E a; intro a E
                  refine list_guard_yes E rfl rfl rfl rfl hb226 rfl (by decide) (rn_indexAddr (i := j) (s := 6) E rfl rfl rfl rfl rfl rfl (by omega)) ?_; clear E a; intro a E
                  refine list_guard_yes E rfl rfl rfl rfl hb226 rfl (by decide) (by first | exact rn_fieldAddr0 (q := 4) E rfl rfl rfl | exact rn_fieldAddr (q := 4) E rfl rfl rfl) ?_; clear E a; intro a E
                  refine list_guard_yes E rfl rfl rfl rfl hb226 rfl (by decide) (rn_loadc E rfl rfl rfl (hel _ (S.stab.at (by repeat (first | exact mm1 | assumption | apply List.Mem.tail))) 4 _ rfl)) ?_; clear E a; intro a E
                  rw [hv] at E
                  refine list_guard_yes E rfl rfl rfl rfl hb226 rfl (by decide) (by first | exact rn_len E rfl rfl rfl | exact rn_len_str E rfl rfl rfl | exact rn_len_string E rfl rfl rfl) ?_; clear E a; intro a E
                  refine list_guard_yes E rfl rfl rfl rfl hb226 rfl (by decide) (rn_quo E rfl rfl rfl (by decide) (by first | exact wq_lit (y := 128) (by omega) | exact wq_litu (y := 128) (by omega) | exact rfl)) ?_; clear E a; intro a E
                  refine list_guard_yes E rfl rfl rfl rfl hb226 rfl (by decide) (rn_lss E rfl rfl rfl) ?_; clear E a; intro a E
                  refine list_pure E rfl rfl (by decide) (rn_pick_yes' E rfl rfl hb226 rfl) ?_; clear E a; intro a E
                  refine wpList_nil ?_
                  refine then_k hK ?_; clear hK; clear K
                  refine if_bool E rfl (fun hb => ?_) (fun hb => ?_)
                  · replace hb := Nrm.nrm hb
                    obtain ⟨n, hn⟩ : ∃ n : Nat, (s : Int) - o.at_ = n := ⟨((s : Int) - o.at_).toNat, by omega⟩; rw [hn] at E hb
                    refine region_mix0 S (.ofL [(0, 0), (1, 0), (2, 0), (3, 0), (5, 0), (6, 0), (7, 0), (8, 0), (9, 0), (10, 0), (4, 1), (11, 3), (12, 2), (13, 2), (14, 2)]) (by kernel_rfl) (by kernel_rfl) ?_
                    clear S; intro w S
                    refine mix_pure E rfl rfl rfl (by decide) (fun w h => rn_move E rfl rfl) ?_; clear E a; intro a E
                    refine mix_pure E rfl rfl rfl (by decide) (fun w h => rn_move E rfl rfl) ?_; clear E a; intro a E
                    refine guard_split E (t := 238) rfl (fun hb238 => ?_) (fun hb238 => ?_)
                    · have hb238n := hb238; replace hb238n := Nrm.nrm hb238n
                      have hgt : good = true := hb238
                      refine mix_guard_no E rfl rfl rfl rfl rfl hb238 rfl (by decide) ?_; clear E a; intro a E
                      refine mix_guard_no E rfl rfl rfl rfl rfl hb238 rfl (by decide) ?_; clear E a; intro a E
                      refine mix_guard_no E rfl rfl rfl rfl rfl hb238 rfl (by decide) ?_; clear E a; intro a E
                      refine mix_guard_no E rfl rfl rfl rfl rfl hb238 rfl (by decide) ?_; clear E a; intro a E
                      refine mix_guard_no E rfl rfl rfl rfl rfl hb238 rfl (by decide) ?_; clear E a; intro a E
                      refine mix_guard_no E rfl rfl rfl rfl rfl hb238 rfl (by decide) ?_; clear E a; intro a E
                      refine mix_guard_no E rfl rfl rfl rfl rfl hb238 rfl (by decide) ?_; clear E a; intro a E
                      refine mix_guard_no E rfl rfl rfl rfl rfl hb238 rfl (by decide) ?_; clear E a; intro a E
                      refine mix_guard_no_act E rfl rfl rfl rfl rfl hb238 rfl (by decide) S.stab ?_; clear E a; intro a E
                      rw [← hv] at E
                      refine mix_guard_no_last E rfl rfl rfl rfl rfl hb238 rfl (by decide) ?_; clear E a; intro a E
                      refine mix_guard_no2 E rfl rfl rfl rfl rfl hb238 rfl (by decide) ?_; clear E a; intro a E
                      refine mix_free E rfl rfl rfl (by decide) (fun w => rn_pick_yes' E rfl rfl hb238 rfl) ?_; clear E a; intro a E
                      refine mix_free E rfl rfl rfl (by decide) (fun w => rn_assign E rfl rfl) ?_; clear E a; intro a E
                      refine mix_nil ?_
                      refine in_normal ?_
                      refine then_k hK ?_; clear hK; clear K
                      refine region_list ?_
                      refine list_pure E rfl rfl (by decide) (rn_move E rfl rfl) ?_; clear E a; intro a E
                      refine list_pure E rfl rfl (by decide) (rn_add E rfl rfl rfl (by first | exact wa_lit (y := 1) (by omega) | exact w_in (by omega) | exact w_inu (by omega) | exact rfl)) ?_; clear E a; intro a E
                      refine list_pure E rfl rfl (by decide) (rn_assign E rfl rfl) ?_; clear E a; intro a E
                      refine wpList_nil ?_
                      refine then_normal ?_
                      first
                      | exact ⟨_, by omega, j + 1, good, rfl, by omega, (fun h => (hgn h).elim id (fun ⟨n', h1, h2, h3⟩ => by exfalso; omega)), S, E.keep (keep_cons rfl (keep_cons rfl (keep_cons rfl (keep_cons rfl (keep_cons rfl (keep_cons rfl keep_nil))))))⟩
                      | exact ⟨_, by omega, j + 1, true, rfl, by omega, (fun h => rfl), S, E.keep (keep_cons rfl (keep_cons rfl (keep_cons rfl (keep_cons rfl (keep_cons rfl (keep_cons rfl keep_nil))))))⟩
                      | exact ⟨_, by omega, j + 1, _, rfl, by omega, (fun h => by
                         rcases hgn h with h | ⟨n', h1, h2, h3⟩
                         · rw [hgt] at h; cases h
                         · obtain rfl : n' = n := by omega
                           exact decide_eq_true h3), S.front4 (A := Cx) (by repeat (first | exact pk1 | apply pick_tail)) (B := Ck) (by repeat (first | exact pk1 | apply pick_tail)) (C := Cb) (by repeat (first | exact pk1 | apply pick_tail)) (D := O) (by repeat (first | exact pk1 | apply pick_tail)), E.keep (keep_cons rfl (keep_cons rfl (keep_cons rfl (keep_cons rfl (keep_cons rfl (keep_cons rfl keep_nil))))))⟩
                    · have hb238n := hb238; replace hb238n := Nrm.nrm hb238n
                      have hgt : good = false := hb238
                      refine mix_guard_yes E rfl rfl rfl rfl rfl hb238 rfl (by decide) (fun w h => rn_move E rfl rfl) ?_; clear E a; intro a E
                      refine mix_guard_yes E rfl rfl rfl rfl rfl hb238 rfl (by decide) (fun w h => rn_move E rfl rfl) ?_; clear E a; intro a E
                      refine mix_guard_yes E rfl rfl rfl rfl rfl hb238 rfl (by decide) (fun w h => rn_move E rfl rfl) ?_; clear E a; intro a E
                      refine mix_guard_yes E rfl rfl rfl rfl rfl hb238 rfl (by decide) (fun w h => rn_move E rfl rfl) ?_; clear E a; intro a E
                      refine mix_guard_yes E rfl rfl rfl rfl rfl hb238 rfl (by decide) (fun w h => rn_indexAddr (i := j) (s := 6) E rfl rfl rfl rfl rfl rfl (by omega)) ?_; clear E a; intro a E
                      refine mix_guard_yes E rfl rfl rfl rfl rfl hb238 rfl (by decide) (fun w h => by first | exact rn_fieldAddr0 (q := 4) E rfl rfl rfl | exact rn_fieldAddr (q := 4) E rfl rfl rfl) ?_; clear E a; intro a E
                      refine mix_guard_yes E rfl rfl rfl rfl rfl hb238 rfl (by decide) (fun w h => rn_loadc E rfl rfl rfl (hel _ (h.at (by repeat (first | exact mm1 | assumption | apply List.Mem.tail))) 4 _ rfl)) ?_; clear E a; intro a E
                      refine mix_guard_yes E rfl rfl rfl rfl rfl hb238 rfl (by decide) (fun w h => rn_move E rfl rfl) ?_; clear E a; intro a E
                      refine mix_guard_act E rfl rfl rfl rfl rfl hb238 ?_; refine wp_call' E rfl (by decide) rfl Try.func16 rfl (by kernel_rfl) rfl (lsector_ret _ X Cx hx0.rd s (by omega) (by omega) ⟨_, _, rfl, hx0.cap_le⟩ _ (S.hp.sel (sel_cons (by repeat (first | exact pk1 | apply pick_tail)) (sel_nil _)))) ?_
                      rintro v241 w ⟨rfl, hT⟩; clear E a; intro a E
                      have S := S.call1 (sel_cons (by repeat (first | exact pk1 | apply pick_tail)) (sel_nil _)) hT
                      refine ⟨S.stab.sub (by first | (simp; done) | (simp +contextual; done)), ?_⟩
                      rw [← hv] at E
                      refine mix_guard_last E rfl rfl rfl rfl rfl hb238 ?_; refine wp_call' E rfl (by decide) rfl Try.func16 rfl (by kernel_rfl) rfl (lsector_ret _ o.b O hog.rb n (by omega) (by omega) ⟨_, _, hv, hcv⟩ _ (S.hp.sel (sel_cons (by repeat (first | exact pk1 | apply pick_tail)) (sel_nil _)))) ?_
                      rintro v248 w ⟨rfl, hT⟩; clear E a; intro a E
                      have S := (S.call1 (sel_cons (by repeat (first | exact pk1 | apply pick_tail)) (sel_nil _)) hT).front4 (A := Cx) (by repeat (first | exact pk1 | apply pick_tail)) (B := Ck) (by repeat (first | exact pk1 | apply pick_tail)) (C := Cb) (by repeat (first | exact pk1 | apply pick_tail)) (D := O) (by repeat (first | exact pk1 | apply pick_tail))
                      refine mix_guard_free E rfl rfl rfl rfl rfl hb238 rfl (by decide) (fun w => by first | exact rn_eql E rfl rfl rfl | exact rn_eql_ptr_nil E rfl rfl rfl rfl | exact rn_eql_bool E rfl rfl rfl rfl | exact rn_eql_string E rfl rfl rfl) ?_; clear E a; intro a E
                      refine mix_free E rfl rfl rfl (by decide) (fun w => rn_pick_no' E rfl rfl hb238 rfl) ?_; clear E a; intro a E
                      refine mix_free E rfl rfl rfl (by decide) (fun w => rn_assign E rfl rfl) ?_; clear E a; intro a E
                      refine mix_nil ?_
                      refine in_normal ?_
                      refine then_k hK ?_; clear hK; clear K
                      refine region_list ?_
                      refine list_pure E rfl rfl (by decide) (rn_move E rfl rfl) ?_; clear E a; intro a E
                      refine list_pure E rfl rfl (by decide) (rn_add E rfl rfl rfl (by first | exact wa_lit (y := 1) (by omega) | exact w_in (by omega) | exact w_inu (by omega) | exact rfl)) ?_; clear E a; intro a E
                      refine list_pure E rfl rfl (by decide) (rn_assign E rfl rfl) ?_; clear E a; intro a E
                      refine wpList_nil ?_
                      refine then_normal ?_
                      first
                      | exact ⟨_, by omega, j + 1, good, rfl, by omega, (fun h => (hgn h).elim id (fun ⟨n', h1, h2, h3⟩ => by exfalso; omega)), S, E.keep (keep_cons rfl (keep_cons rfl (keep_cons rfl (keep_cons rfl (keep_cons rfl (keep_cons rfl keep_nil))))))⟩
                      | exact ⟨_, by omega, j + 1, true, rfl, by omega, (fun h => rfl), S, E.keep (keep_cons rfl (keep_cons rfl (keep_cons rfl (keep_cons rfl (keep_cons rfl (keep_cons rfl keep_nil))))))⟩
                      | exact ⟨_, by omega, j + 1, _, rfl, by omega, (fun h => by
                         rcases hgn h with h | ⟨n', h1, h2, h3⟩
                         · rw [hgt] at h; cases h
                         · obtain rfl : n' = n := by omega
                           exact decide_eq_true h3), S.front4 (A := Cx) (by repeat (first | exact pk1 | apply pick_tail)) (B := Ck) (by repeat (first | exact pk1 | apply pick_tail)) (C := Cb) (by repeat (first | exact pk1 | apply pick_tail)) (D := O) (by repeat (first | exact pk1 | apply pick_tail)), E.keep (keep_cons rfl (keep_cons rfl (keep_cons rfl (keep_cons rfl (keep_cons rfl (keep_cons rfl keep_nil))))))⟩
                  · replace hb := Nrm.nrm hb
                    skip
                    refine wp_skip ?_
                    refine in_normal ?_
                    refine then_k hK ?_; clear hK; clear K
                    refine region_list ?_
                    refine list_pure E rfl rfl (by decide) (rn_move E rfl rfl) ?_; clear E a; intro a E
                    refine list_pure E rfl rfl (by decide) (rn_add E rfl rfl rfl (by first | exact wa_lit (y := 1) (by omega) | exact w_in (by omega) | exact w_inu (by omega) | exact rfl)) ?_; clear E a; intro a E
                    refine list_pure E rfl rfl (by decide) (rn_assign E rfl rfl) ?_; clear E a; intro a E
                    refine wpList_nil ?_
                    refine then_normal ?_
                    first
                    | exact ⟨_, by omega, j + 1, good, rfl, by omega, (fun h => (hgn h).elim id (fun ⟨n', h1, h2, h3⟩ => by exfalso; omega)), S, E.keep (keep_cons rfl (keep_cons rfl (keep_cons rfl (keep_cons rfl (keep_cons rfl (keep_cons rfl keep_nil))))))⟩
                    | exact ⟨_, by omega, j + 1, true, rfl, by omega, (fun h => rfl), S, E.keep (keep_cons rfl (keep_cons rfl (keep_cons rfl (keep_cons rfl (keep_cons rfl (keep_cons rfl keep_nil))))))⟩
                    | exact ⟨_, by omega, j + 1, _, rfl, by omega, (fun h => by
                       rcases hgn h with h | ⟨n', h1, h2, h3⟩
                       · rw [hgt] at h; cases h
                       · obtain rfl : n' = n := by omega
                         exact decide_eq_true h3), S.front4 (A := Cx) (by repeat (first | exact pk1 | apply pick_tail)) (B := Ck) (by repeat (first | exact pk1 | apply pick_tail)) (C := Cb) (by repeat (first | exact pk1 | apply pick_tail)) (D := O) (by repeat (first | exact pk1 | apply pick_tail)), E.keep (keep_cons rfl (keep_cons rfl (keep_cons rfl (keep_cons rfl (keep_cons rfl (keep_cons rfl keep_nil))))))⟩
                · have hb226n := hb226; replace hb226n := Nrm.nrm hb226n
                  refine list_guard_no E rfl rfl rfl rfl hb226 rfl (by decide) ?_; clear E a; intro a E
                  refine list_guard_no E rfl rfl rfl rfl hb226 rfl (by decide) ?_; clear E a; intro a E
                  refine list_guard_no E rfl rfl rfl rfl hb226 rfl (by decide) ?_; clear E a; intro a E
                  refine list_guard_no E rfl rfl rfl rfl hb226 rfl (by decide) ?_; clear E a; intro a E
                  refine list_guard_no E rfl rfl rfl rfl hb226 rfl (by decide) ?_; clear E a; intro a E
                  refine list_guard_no E rfl rfl rfl rfl hb226 rfl (by decide) ?_; clear E a; intro a E
                  refine list_guard_no E rfl rfl rfl rfl hb226 rfl (by decide) ?_; clear E a; intro a E
                  refine list_guard_no E rfl rfl rfl rfl hb226 rfl (by decide) ?_; clear E a; intro a E
                  refine list_guard_no E rfl rfl rfl rfl hb226 rfl (by decide) ?_; clear E a; intro a E
                  refine list_pure E rfl rfl (by decide) (rn_pick_no' E rfl rfl hb226 rfl) ?_; clear E a; intro a E
                  refine wpList_nil ?_
                  refine then_k hK ?_; clear hK; clear K
                  refine if_false' E rfl rfl ?_
                  refine wp_skip ?_
                  refine in_normal ?_
                  refine then_k hK ?_; clear hK; clear K
                  refine region_list ?_
                  refine list_pure E rfl rfl (by decide) (rn_move E rfl rfl) ?_; clear E a; intro a E
                  refine list_pure E rfl rfl (by decide) (rn_add E rfl rfl rfl (by first | exact wa_lit (y := 1) (by omega) | exact w_in (by omega) | exact w_inu (by omega) | exact rfl)) ?_; clear E a; intro a E
                  refine list_pure E rfl rfl (by decide) (rn_assign E rfl rfl) ?_; clear E a; intro a E
                  refine wpList_nil ?_
                  refine then_normal ?_
                  first
                  | exact ⟨_, by omega, j + 1, good, rfl, by omega, (fun h => (hgn h).elim id (fun ⟨n', h1, h2, h3⟩ => by exfalso; omega)), S, E.keep (keep_cons rfl (keep_cons rfl (keep_cons rfl (keep_cons rfl (keep_cons rfl (keep_cons rfl keep_nil))))))⟩
                  | exact ⟨_, by omega, j + 1, true, rfl, by omega, (fun h => rfl), S, E.keep (keep_cons rfl (keep_cons rfl (keep_cons rfl (keep_cons rfl (keep_cons rfl (keep_cons rfl keep_nil))))))⟩
                  | exact ⟨_, by omega, j + 1, _, rfl, by omega, (fun h => by
                     rcases hgn h with h | ⟨n', h1, h2, h3⟩
                     · rw [hgt] at h; cases h
                     · obtain rfl : n' = n := by omega
                       exact decide_eq_true h3), S.front4 (A := Cx) (by repeat (first | exact pk1 | apply pick_tail)) (B := Ck) (by repeat (first | exact pk1 | apply pick_tail)) (C := Cb) (by repeat (first | exact pk1 | apply pick_tail)) (D := O) (by repeat (first | exact pk1 | apply pick_tail)), E.keep (keep_cons rfl (keep_cons rfl (keep_cons rfl (keep_cons rfl (keep_cons rfl (keep_cons rfl keep_nil))))))⟩
              · replace hb := Nrm.nrm hb
                refine wp_exit ?_
                refine then_exit ?_; clear hK; clear K
                refine then_exit ?_
                refine in_exit ?_
                refine then_k hK ?_; clear hK; clear K
                refine wp_seq_k ?_; intro K hK
                have hG : good = true := hgood (by
                  rcases hXs s hs8 with h | ⟨o, ho, n, h1, h2, h3⟩
                  · exact .inl h
                  · obtain ⟨j', hj', rfl⟩ := List.getElem_of_mem ho
                    exact .inr ⟨j', hj', by omega, n, h1, h2, h3⟩)
                refine region_list ?_
                refine list_pure E rfl rfl (by decide) (rn_move E rfl rfl) ?_; clear E a; intro a E
                refine list_pure E rfl rfl (by decide) (rn_not E rfl rfl) ?_; clear E a; intro a E
                refine wpList_nil ?_
                refine then_k hK ?_; clear hK; clear K
                refine if_false' E rfl ((by rw [hG]; rfl)) ?_
                refine wp_skip ?_
                refine in_normal ?_
                refine then_k hK ?_; clear hK; clear K
                refine region_list ?_
                refine list_pure E rfl rfl (by decide) (rn_move E rfl rfl) ?_; clear E a; intro a E
                refine list_pure E rfl rfl (by decide) (rn_add E rfl rfl rfl (by first | exact wa_lit (y := 1) (by omega) | exact w_in (by omega) | exact w_inu (by omega) | exact rfl)) ?_; clear E a; intro a E
                refine list_pure E rfl rfl (by decide) (rn_assign E rfl rfl) ?_; clear E a; intro a E
                refine wpList_nil ?_
                refine then_normal ?_
                exact ⟨_, by omega, s + 1, rfl, by omega, S, E.keep (keep_cons rfl (keep_cons rfl (keep_cons rfl (keep_cons rfl keep_nil))))⟩
            · replace hb := Nrm.nrm hb
              refine wp_exit ?_
              refine then_exit ?_; clear hK; clear K
              refine then_exit ?_
              refine in_exit ?_
              refine then_k hK ?_; clear hK; clear K
              refine wp_seq_k ?_; intro K hK
              refine region_list ?_
              refine list_pure E rfl rfl (by decide) (rn_assign E rfl rfl) ?_; clear E a; intro a E
              refine wpList_nil ?_
              refine then_k hK ?_; clear hK; clear K
              refine wp_ret ?_
              refine ret1 E rfl rfl ?_
              exact ⟨_, rfl, rfl, (S.only (Bs := [O]) (sel_cons (by repeat (first | exact pk1 | apply pick_tail)) (sel_nil _))).tr⟩
end Go.Proofs.Ytpppaohhnlgfoaa
