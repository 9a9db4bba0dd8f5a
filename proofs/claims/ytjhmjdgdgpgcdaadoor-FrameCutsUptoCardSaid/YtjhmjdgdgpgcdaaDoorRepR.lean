/-
  Replies read: plain, and the program.
-/
import Derived.Test.YtjhmjdgdgpgcdaaDoorRepS
namespace Go.Sl
/-- The first texts from a place on. -/
def tL (s : Rdr) (n : Nat) : List (List UInt8) := (List.range n).map (tT s)
theorem tL_succ (s : Rdr) (n : Nat) : tL s (n + 1) = tL s n ++ [tT s n] := by simp [tL, List.range_succ]
theorem tL_length (s : Rdr) (n : Nat) : (tL s n).length = n := by simp [tL]
def rpP (f : Rdr → List UInt8 × Rdr) (s : Rdr) : Rp × Rdr :=
  let a := s.num 1; let b := a.2.num 4; let c := b.2.num 2; let d := c.2.num 6; let t := d.2.text 2048; let n := t.2.num 2; let x := f (sT n.2 (min n.1 241))
  (⟨a.1, b.1, c.1, d.1, t.1, tL n.2 (min n.1 241), x.1⟩, x.2)
abbrev rp0 : Rp := ⟨0, 0, 0, 0, [], [], []⟩
/-- A reply out of bytes, and why there is none. -/
def rpF (f : Rdr → List UInt8 × Rdr) (b : List UInt8) : Rp × Int :=
  if opE b 2 ≠ 0 then (rp0, opE b 2) else
  if (rpP f ⟨opX b, 1, 0⟩).2.done = 0 ∧ (rpP f ⟨opX b, 1, 0⟩).1.may then ((rpP f ⟨opX b, 1, 0⟩).1, 0) else (rp0, 230)
end Go.Sl
namespace Go.Proofs.YtjhmjdgdgpgcdaaDoor
open Go.Sl
set_option maxRecDepth 10000

theorem readrp_ret (D : Chunk) (v : Value) (b : List UInt8) (hD : Rd D 1 v b.length (byt b)) (hcap : ∃ ad c, v = .slice ad b.length c ∧ b.length ≤ c) (As : List Chunk) (hDA : D ∈ As) (hG : Tab As 2 shaK) (w0 : World) (H : Hp w0 As) :
    Ret Tryd.prog 24 #[v] w0 fun u w' => ∃ y x B C, u = .tuple #[rpagg (rpF (dataP 4096) b).1 y x, .int .i64 (rpF (dataP 4096) b).2] ∧ Buf B 9 1 y (rpF (dataP 4096) b).1.list.length (sts (rpF (dataP 4096) b).1.list) ∧ Buf C 5 1 x (rpF (dataP 4096) b).1.data.length (byt (rpF (dataP 4096) b).1.data) ∧ Trs w0 w' As (B :: C :: As) := by
  have S := St.begin H
  have e2 := p2
  refine enter1 63 Tryd.func24 rfl rfl (by decide) ?_; intro a E
  refine wp_seq_k ?_; intro K hK
  refine region_list ?_
  refine list_wp rfl (wp_alloc E S rfl rfl (by decide) rfl rfl rfl ?_); clear E S a; intro a w b2 E S
  refine list_pure E rfl rfl (by decide) (rn_assign E rfl rfl) ?_; clear E a; intro a E
  refine wpList_nil ?_
  refine then_k hK ?_; clear hK; clear K
  refine wp_seq_k ?_; intro K hK
  refine region_list ?_
  refine list_pure E rfl rfl (by decide) (rn_move E rfl rfl) ?_; clear E a; intro a E
  refine list_call E rfl rfl (by decide) rfl Tryd.func35 rfl (by kernel_rfl) rfl (opened_ret D v b hD hcap 2 (by omega) _ (show D ∈ _ from (by repeat (first | exact mm1 | assumption | apply List.Mem.tail))) hG.tail _ S.hp) ?_
  rintro v9 w hO; clear E a; intro a E
  skip
  rcases hO with ⟨hE, rfl, hT⟩ | ⟨hE, h13, h64, pb, p, A, rfl, hA, hT⟩
  · skip
    have S := S.all hT
    refine list_pure E rfl rfl (by decide) (rn_move E rfl rfl) ?_; clear E a; intro a E
    refine list_pure E rfl rfl (by decide) (rn_extract E rfl rfl rfl) ?_; clear E a; intro a E
    refine list_pure E rfl rfl (by decide) (rn_extract E rfl rfl rfl) ?_; clear E a; intro a E
    refine list_pure E rfl rfl (by decide) (rn_assign E rfl rfl) ?_; clear E a; intro a E
    refine list_pure E rfl rfl (by decide) (rn_assign E rfl rfl) ?_; clear E a; intro a E
    refine wpList_nil ?_
    refine then_k hK ?_; clear hK; clear K
    refine wp_seq_k ?_; intro K hK
    refine wp_seq_k ?_; intro K hK
    refine region_list ?_
    refine list_pure E rfl rfl (by decide) (rn_move E rfl rfl) ?_; clear E a; intro a E
    refine list_pure E rfl rfl (by decide) (by first | exact rn_neq E rfl rfl rfl | exact rn_neq_ptr_nil E rfl rfl rfl rfl | exact rn_neq_bool E rfl rfl rfl rfl | exact rn_neq_string E rfl rfl rfl) ?_; clear E a; intro a E
    refine wpList_nil ?_
    refine then_k hK ?_; clear hK; clear K
    refine if_bool E rfl (fun hb => ?_) (fun hb => ?_)
    · replace hb := Nrm.nrm hb
      skip
      refine wp_seq_k ?_; intro K hK
      refine region_list ?_
      refine list_pure E rfl rfl (by decide) (rn_build (cells := [_, _, _, _, _, _, _]) E rfl rfl rfl) ?_; clear E a; intro a E
      refine list_pure E rfl rfl (by decide) (rn_move E rfl rfl) ?_; clear E a; intro a E
      refine list_wp rfl (wp_storeN E S rfl rfl rfl rfl (by simp [Value.oneCell']) rfl (by repeat (first | exact pk1 | apply pick_tail)) (by simp) ?_); clear E S a; intro a w E S; simp only [List.take_succ_cons, List.take_zero, List.drop_succ_cons, List.drop_zero, List.cons_append, List.nil_append, List.append_nil, List.length_cons, List.length_nil, Nat.zero_add, Nat.add_zero] at S
      refine list_pure E rfl rfl (by decide) (rn_assign E rfl rfl) ?_; clear E a; intro a E
      refine wpList_nil ?_
      refine then_k hK ?_; clear hK; clear K
      refine wp_ret ?_
      refine then_ret ?_; clear hK; clear K
      refine ret_ct E rfl rfl rfl (S.get (by repeat (first | exact pk1 | apply pick_tail))) rfl ?_
      have hv : rpF (dataP 4096) b = (rp0, opE b 2) := by unfold rpF; rw [if_pos hE]
      exact ⟨_, rfl, _, _, [], [], by rw [hv], by rw [hv]; exact Buf.nil _ _, by rw [hv]; exact Buf.nil _ _, (S.del (A := [(b2, _)]) (by repeat (first | exact pk1 | apply pick_tail))).addNil.addNil.tr⟩
    · replace hb := Nrm.nrm hb
      exfalso; omega
  · skip
    have S := S.all hT
    refine list_pure E rfl rfl (by decide) (rn_move E rfl rfl) ?_; clear E a; intro a E
    refine list_pure E rfl rfl (by decide) (rn_extract E rfl rfl rfl) ?_; clear E a; intro a E
    refine list_pure E rfl rfl (by decide) (rn_extract E rfl rfl rfl) ?_; clear E a; intro a E
    refine list_pure E rfl rfl (by decide) (rn_assign E rfl rfl) ?_; clear E a; intro a E
    refine list_pure E rfl rfl (by decide) (rn_assign E rfl rfl) ?_; clear E a; intro a E
    refine wpList_nil ?_
    refine then_k hK ?_; clear hK; clear K
    refine wp_seq_k ?_; intro K hK
    refine wp_seq_k ?_; intro K hK
    refine region_list ?_
    refine list_pure E rfl rfl (by decide) (rn_move E rfl rfl) ?_; clear E a; intro a E
    refine list_pure E rfl rfl (by decide) (by first | exact rn_neq E rfl rfl rfl | exact rn_neq_ptr_nil E rfl rfl rfl rfl | exact rn_neq_bool E rfl rfl rfl rfl | exact rn_neq_string E rfl rfl rfl) ?_; clear E a; intro a E
    refine wpList_nil ?_
    refine then_k hK ?_; clear hK; clear K
    refine if_bool E rfl (fun hb => ?_) (fun hb => ?_)
    · replace hb := Nrm.nrm hb
      exfalso; omega
    · replace hb := Nrm.nrm hb
      skip
      refine wp_skip ?_
      refine then_k hK ?_; clear hK; clear K
      refine wp_seq_k ?_; intro K hK
      refine region_list ?_
      refine list_pure E rfl rfl (by decide) (rn_move E rfl rfl) ?_; clear E a; intro a E
      refine list_call E rfl rfl (by decide) rfl Tryd.func36 rfl (by kernel_rfl) rfl (bnum_ret pb p _ A _ hA 1 (by omega) (S.hp.sel (sel_cons (by repeat (first | exact pk1 | apply pick_tail)) (sel_cons (by repeat (first | exact pk1 | apply pick_tail)) (sel_nil _))))) ?_
      rintro v17 w ⟨A1, rfl, hA1, hT⟩; clear E a; intro a E
      have S := S.call2 (sel_cons (by repeat (first | exact pk1 | apply pick_tail)) (sel_cons (by repeat (first | exact pk1 | apply pick_tail)) (sel_nil _))) hT
      obtain ⟨s1, hs1⟩ : ∃ s1, s1 = (Rdr.mk (opX b) 1 0).num 1 := ⟨_, rfl⟩
      rw [show (((1 : Nat) : Int)) = 1 from rfl, ← hs1] at E hA1
      refine list_pure E rfl rfl (by decide) (rn_move E rfl rfl) ?_; clear E a; intro a E
      refine list_call E rfl rfl (by decide) rfl Tryd.func36 rfl (by kernel_rfl) rfl (bnum_ret pb p _ A1 _ hA1 4 (by omega) (S.hp.sel (sel_cons (by repeat (first | exact pk1 | apply pick_tail)) (sel_cons (by repeat (first | exact pk1 | apply pick_tail)) (sel_nil _))))) ?_
      rintro v19 w ⟨A2, rfl, hA2, hT⟩; clear E a; intro a E
      have S := S.call2 (sel_cons (by repeat (first | exact pk1 | apply pick_tail)) (sel_cons (by repeat (first | exact pk1 | apply pick_tail)) (sel_nil _))) hT
      obtain ⟨s2, hs2⟩ : ∃ s2, s2 = s1.2.num 4 := ⟨_, rfl⟩
      rw [show (((4 : Nat) : Int)) = 4 from rfl, ← hs2] at E hA2
      refine list_pure E rfl rfl (by decide) (rn_move E rfl rfl) ?_; clear E a; intro a E
      refine list_call E rfl rfl (by decide) rfl Tryd.func36 rfl (by kernel_rfl) rfl (bnum_ret pb p _ A2 _ hA2 2 (by omega) (S.hp.sel (sel_cons (by repeat (first | exact pk1 | apply pick_tail)) (sel_cons (by repeat (first | exact pk1 | apply pick_tail)) (sel_nil _))))) ?_
      rintro v21 w ⟨A3, rfl, hA3, hT⟩; clear E a; intro a E
      have S := S.call2 (sel_cons (by repeat (first | exact pk1 | apply pick_tail)) (sel_cons (by repeat (first | exact pk1 | apply pick_tail)) (sel_nil _))) hT
      obtain ⟨s3, hs3⟩ : ∃ s3, s3 = s2.2.num 2 := ⟨_, rfl⟩
      rw [show (((2 : Nat) : Int)) = 2 from rfl, ← hs3] at E hA3
      refine list_pure E rfl rfl (by decide) (rn_move E rfl rfl) ?_; clear E a; intro a E
      refine list_call E rfl rfl (by decide) rfl Tryd.func36 rfl (by kernel_rfl) rfl (bnum_ret pb p _ A3 _ hA3 6 (by omega) (S.hp.sel (sel_cons (by repeat (first | exact pk1 | apply pick_tail)) (sel_cons (by repeat (first | exact pk1 | apply pick_tail)) (sel_nil _))))) ?_
      rintro v23 w ⟨A4, rfl, hA4, hT⟩; clear E a; intro a E
      have S := S.call2 (sel_cons (by repeat (first | exact pk1 | apply pick_tail)) (sel_cons (by repeat (first | exact pk1 | apply pick_tail)) (sel_nil _))) hT
      obtain ⟨s4, hs4⟩ : ∃ s4, s4 = s3.2.num 6 := ⟨_, rfl⟩
      rw [show (((6 : Nat) : Int)) = 6 from rfl, ← hs4] at E hA4
      refine list_pure E rfl rfl (by decide) (rn_build (cells := [_, _, _, _, _, _, _]) E rfl rfl rfl) ?_; clear E a; intro a E
      refine list_wp rfl (wp_alloc E S rfl rfl (by decide) rfl rfl rfl ?_); clear E S a; intro a w b6 E S
      refine list_wp rfl (wp_storeN E S rfl rfl rfl rfl (by simp [Value.oneCell']) rfl (by repeat (first | exact pk1 | apply pick_tail)) (by simp) ?_); clear E S a; intro a w E S; simp only [List.take_succ_cons, List.take_zero, List.drop_succ_cons, List.drop_zero, List.cons_append, List.nil_append, List.append_nil, List.length_cons, List.length_nil, Nat.zero_add, Nat.add_zero] at S
      refine wpList_nil ?_
      refine then_k hK ?_; clear hK; clear K
      refine wp_seq_k ?_; intro K hK
      refine region_list ?_
      refine list_pure E rfl rfl (by decide) (rn_move E rfl rfl) ?_; clear E a; intro a E
      refine list_pure E rfl rfl (by decide) (rn_nilCheck E rfl rfl) ?_; clear E a; intro a E
      refine list_pure E rfl rfl (by decide) (by first | exact rn_fieldAddr0 (q := 0) E rfl rfl rfl | exact rn_fieldAddr (q := 0) E rfl rfl rfl) ?_; clear E a; intro a E
      refine list_pure E rfl rfl (by decide) (by first | exact rn_load E rfl rfl rfl (S.get (by repeat (first | exact pk1 | apply pick_tail))) rfl | exact rn_loadc E rfl rfl rfl (by assumption)) ?_; clear E a; intro a E
      refine list_call E rfl rfl (by decide) rfl Tryd.func37 rfl (by kernel_rfl) rfl (rtext_ret p _ A4 _ hA4 (S.hp.sel (sel_cons (by repeat (first | exact pk1 | apply pick_tail)) (sel_nil _))) 2048) ?_
      rintro v29 w ⟨A5, rfl, hA5, hT⟩; clear E a; intro a E
      have S := S.call1 (sel_cons (by repeat (first | exact pk1 | apply pick_tail)) (sel_nil _)) hT
      obtain ⟨s5, hs5⟩ : ∃ s5, s5 = s4.2.text 2048 := ⟨_, rfl⟩
      rw [← hs5] at E hA5
      refine list_pure E rfl rfl (by decide) (by first | exact rn_fieldAddr0 (q := 4) E rfl rfl rfl | exact rn_fieldAddr (q := 4) E rfl rfl rfl) ?_; clear E a; intro a E
      refine list_wp rfl (wp_store1 E S rfl rfl rfl rfl rfl rfl (by repeat (first | exact pk1 | apply pick_tail)) (by first | exact Nat.le_of_ble_eq_true rfl | (simp; done) | (simp; omega)) ?_); clear E S a; intro a w E S; try dsimp only [List.set] at S
      refine wpList_nil ?_
      refine then_k hK ?_; clear hK; clear K
      refine wp_seq_k ?_; intro K hK
      refine wp_seq_k ?_; intro K hK
      replace E := E.keep (e' := [(2, _), (3, _), (4, _), (6, _)]) (keep_cons rfl (keep_cons rfl (keep_cons rfl (keep_cons rfl (keep_nil)))))
      refine region_list ?_
      refine list_pure E rfl rfl (by decide) (rn_move E rfl rfl) ?_; clear E a; intro a E
      refine list_call E rfl rfl (by decide) rfl Tryd.func36 rfl (by kernel_rfl) rfl (bnum_ret pb p _ A5 _ hA5 2 (by omega) (S.hp.sel (sel_cons (by repeat (first | exact pk1 | apply pick_tail)) (sel_cons (by repeat (first | exact pk1 | apply pick_tail)) (sel_nil _))))) ?_
      rintro v32 w ⟨A6, rfl, hA6, hT⟩; clear E a; intro a E
      have S := S.call2 (sel_cons (by repeat (first | exact pk1 | apply pick_tail)) (sel_cons (by repeat (first | exact pk1 | apply pick_tail)) (sel_nil _))) hT
      obtain ⟨s6, hs6⟩ : ∃ s6, s6 = s5.2.num 2 := ⟨_, rfl⟩
      rw [show (((2 : Nat) : Int)) = 2 from rfl, ← hs6] at E hA6
      obtain ⟨kk, hkk⟩ : ∃ kk, kk = min s6.1 241 := ⟨_, rfl⟩
      refine list_pure E rfl rfl (by decide) (rn_min E rfl rfl rfl) ?_; clear E a; intro a E
      rw [show min (s6.1 : Int) 241 = (kk : Int) by omega] at E
      refine list_pure E rfl rfl (by decide) (rn_move E rfl rfl) ?_; clear E a; intro a E
      refine wpList_nil ?_
      refine then_k hK ?_; clear hK; clear K
      refine wp_block ?_
      refine wp_loop_ghost (fun (m : Nat) (a : Act) (w' : World) => ∃ (i : Nat) (v : Value) (B A' : Chunk), m = kk - i ∧ i ≤ kk ∧ RdC 100 p (sT s6.2 i) A' ∧ Buf B 9 1 v i (sts (tL s6.2 i)) ∧ St w0 As w' ([(pb, cel [ptr p] 79)] :: A' :: [(b6, cel [.int .i64 s1.1, .int .i64 s2.1, .int .i64 s3.1, .int .i64 s4.1, str s5.1, v, .slice none 0 0] 50)] :: B :: [(b2, cel [.int .i64 0, .int .i64 0, .int .i64 0, .int .i64 0, str [], .slice none 0 0, .slice none 0 0] 50)] :: As) ∧ Fr a 63 [(2, ptr b2), (4, ptr pb), (6, ptr b6), (33, .int .i64 kk), (34, .int .i64 i)]) (kk - 0) ?_ ?_
      · exact ⟨0, _, [], A6, rfl, by omega, hA6, Buf.nil _ _, (S.addNil.front4 (A := [(pb, _)]) (by repeat (first | exact pk1 | apply pick_tail)) (B := A6) (by repeat (first | exact pk1 | apply pick_tail)) (C := [(b6, _)]) (by repeat (first | exact pk1 | apply pick_tail)) (D := []) (by repeat (first | exact pk1 | apply pick_tail))), E.keep (keep_cons rfl (keep_cons rfl (keep_cons rfl (keep_cons rfl (keep_cons rfl keep_nil)))))⟩
      clear E; clear a; (try clear S); rintro m a w ⟨i, v, B, A', rfl, hi, hA', hB, S, E⟩
      refine wp_seq_k ?_; intro K hK
      refine region_list ?_
      refine list_pure E rfl rfl (by decide) (rn_lss E rfl rfl rfl) ?_; clear E a; intro a E
      refine wpList_nil ?_
      refine then_k hK ?_; clear hK; clear K
      refine wp_seq_k ?_; intro K hK
      refine if_bool E rfl (fun hb => ?_) (fun hb => ?_)
      · replace hb := Nrm.nrm hb
        refine wp_skip ?_
        refine then_k hK ?_; clear hK; clear K
        refine wp_seq_k ?_; intro K hK
        refine wp_block ?_
        have hik : i < kk := by omega
        refine region_mix S (.ofL [(0, 0), (1, 0), (2, 0), (3, 0), (4, 0), (5, 0), (6, 1), (7, 1), (8, 1), (9, 0), (10, 3)]) [[(pb, cel [ptr p] 79)], [(b6, cel [.int .i64 s1.1, .int .i64 s2.1, .int .i64 s3.1, .int .i64 s4.1, str s5.1, v, .slice none 0 0] 50)]] (fun h => h.sub (by first | (simp; done) | (simp +contextual; done))) (by kernel_rfl) (by kernel_rfl) ?_
        clear S; intro w S
        refine mix_pure E rfl rfl rfl (by decide) (fun w h => by first | exact rn_fieldAddr0 (q := 5) E rfl rfl rfl | exact rn_fieldAddr (q := 5) E rfl rfl rfl) ?_; clear E a; intro a E
        refine mix_pure E rfl rfl rfl (by decide) (fun w h => by first | exact rn_load E rfl rfl rfl (h.one (by repeat (first | exact mm1 | assumption | apply List.Mem.tail))) rfl | exact rn_loadc E rfl rfl rfl (by assumption)) ?_; clear E a; intro a E
        refine mix_pure E rfl rfl rfl (by decide) (fun w h => rn_move E rfl rfl) ?_; clear E a; intro a E
        refine mix_pure E rfl rfl rfl (by decide) (fun w h => rn_nilCheck E rfl rfl) ?_; clear E a; intro a E
        refine mix_pure E rfl rfl rfl (by decide) (fun w h => by first | exact rn_fieldAddr0 (q := 0) E rfl rfl rfl | exact rn_fieldAddr (q := 0) E rfl rfl rfl) ?_; clear E a; intro a E
        refine mix_pure E rfl rfl rfl (by decide) (fun w h => by first | exact rn_load E rfl rfl rfl (h.one (by repeat (first | exact mm1 | assumption | apply List.Mem.tail))) rfl | exact rn_loadc E rfl rfl rfl (by assumption)) ?_; clear E a; intro a E
        refine mix_call E rfl rfl rfl (by decide) rfl Tryd.func37 rfl (by kernel_rfl) rfl (rtext_ret p _ A' _ hA' (S.hp.sel (sel_cons (by repeat (first | exact pk1 | apply pick_tail)) (sel_nil _))) 240) ?_
        rintro v42 w ⟨A7, rfl, hA7, hT⟩; clear E a; intro a E
        have S := S.call1 (sel_cons (by repeat (first | exact pk1 | apply pick_tail)) (sel_nil _)) hT
        refine ⟨S.stab.sub (by first | (simp; done) | (simp +contextual; done)), ?_⟩
        refine mix_act rfl rfl (wp_bslice (cells := [_]) E S rfl rfl (by decide) rfl rfl rfl rfl rfl (by decide) rfl ?_); clear E S a; intro a w b43 E S; refine ⟨S.stab.sub (by first | (simp; done) | (simp +contextual; done)), ?_⟩
        refine mix_act rfl rfl (wp_append (by' := 16) E S rfl rfl (by decide) rfl rfl hB (by repeat (first | exact pk1 | apply pick_tail)) ((rd_cells (g := b43) (T := 9) (xs := [str (tT s6.2 i)]) (s := 1) (m := 1) rfl (by simp [Value.oneCell']) (by omega) 1).src (S.stab.at (by repeat (first | exact mm1 | assumption | apply List.Mem.tail))) rfl) rfl rfl rfl rfl rfl rfl (by simp only [maxLen]; omega) (by omega) ?_); clear E S a; intro a w v44 C44 E S hB44; refine ⟨S.stab.sub (by first | (simp; done) | (simp +contextual; done)), ?_⟩
        rw [show (sts (tL s6.2 i)) ++ [str (tT s6.2 i)] = sts (tL s6.2 (i + 1)) by rw [tL_succ]; simp] at hB44; obtain ⟨ad44, c44, rfl⟩ := hB44.slice
        refine mix_pure E rfl rfl rfl (by decide) (fun w h => by first | exact rn_fieldAddr0 (q := 5) E rfl rfl rfl | exact rn_fieldAddr (q := 5) E rfl rfl rfl) ?_; clear E a; intro a E
        refine mix_last rfl rfl (wp_store1 E S rfl rfl rfl rfl rfl rfl (by repeat (first | exact pk1 | apply pick_tail)) (by first | exact Nat.le_of_ble_eq_true rfl | (simp; done) | (simp; omega)) ?_); clear E S a; intro a w E S; try dsimp only [List.set] at S
        refine mix_nil ?_
        refine in_normal ?_
        refine then_k hK ?_; clear hK; clear K
        refine region_list ?_
        refine list_pure E rfl rfl (by decide) (rn_add E rfl rfl rfl (by first | exact wa_lit (y := 1) (by omega) | exact w_in (by omega) | exact w_inu (by omega) | exact rfl)) ?_; clear E a; intro a E
        refine list_pure E rfl rfl (by decide) (rn_move E rfl rfl) ?_; clear E a; intro a E
        refine wpList_nil ?_
        refine then_normal ?_
        exact ⟨_, by omega, i + 1, _, C44, A7, rfl, by omega, hA7, hB44, (S.del (A := [(b43, _)]) (by repeat (first | exact pk1 | apply pick_tail))).front4 (A := [(pb, _)]) (by repeat (first | exact pk1 | apply pick_tail)) (B := A7) (by repeat (first | exact pk1 | apply pick_tail)) (C := [(b6, _)]) (by repeat (first | exact pk1 | apply pick_tail)) (D := C44) (by repeat (first | exact pk1 | apply pick_tail)), E.keep (keep_cons rfl (keep_cons rfl (keep_cons rfl (keep_cons rfl (keep_cons rfl keep_nil)))))⟩
      · replace hb := Nrm.nrm hb
        refine wp_exit ?_
        refine then_exit ?_; clear hK; clear K
        refine then_exit ?_
        refine in_exit ?_
        refine then_k hK ?_; clear hK; clear K
        refine wp_seq_k ?_; intro K hK
        obtain rfl : i = kk := by omega
        obtain ⟨adv, cv, rfl⟩ := hB.slice
        refine region_list ?_
        refine list_pure E rfl rfl (by decide) (rn_move E rfl rfl) ?_; clear E a; intro a E
        refine list_call E rfl rfl (by decide) rfl Tryd.func38 rfl (by kernel_rfl) rfl (bdata_ret pb p _ A' _ hA' 4096 (S.hp.sel (sel_cons (by repeat (first | exact pk1 | apply pick_tail)) (sel_cons (by repeat (first | exact pk1 | apply pick_tail)) (sel_nil _))))) ?_
        rintro v48 w ⟨A8, C, hA8, hC, hT⟩; clear E a; intro a E
        have S := S.call3 (sel_cons (by repeat (first | exact pk1 | apply pick_tail)) (sel_cons (by repeat (first | exact pk1 | apply pick_tail)) (sel_nil _))) hT
        obtain ⟨s7, hs7⟩ : ∃ s7, s7 = dataP 4096 (sT s6.2 i) := ⟨_, rfl⟩
        rw [← hs7] at hA8 hC
        obtain ⟨ad, c, rfl⟩ := hC.slice
        have hBr : Rd B 1 (.slice adv i cv) (tL s6.2 i).length (sts (tL s6.2 i)) := by rw [tL_length]; exact hB.rd
        obtain ⟨R, hR⟩ : ∃ R : Rp, R = ⟨s1.1, s2.1, s3.1, s4.1, s5.1, tL s6.2 i, s7.1⟩ := ⟨_, rfl⟩
        have hP : rpP (dataP 4096) ⟨opX b, 1, 0⟩ = (R, s7.2) := by subst hR hs7 hkk hs6 hs5 hs4 hs3 hs2 hs1; rfl
        have hv : rpF (dataP 4096) b = if s7.2.done = 0 ∧ R.may then (R, 0) else (rp0, 230) := by unfold rpF; rw [if_neg (by omega), hP]
        refine list_pure E rfl rfl (by decide) (by first | exact rn_fieldAddr0 (q := 6) E rfl rfl rfl | exact rn_fieldAddr (q := 6) E rfl rfl rfl) ?_; clear E a; intro a E
        refine list_wp rfl (wp_store1 E S rfl rfl rfl rfl rfl rfl (by repeat (first | exact pk1 | apply pick_tail)) (by first | exact Nat.le_of_ble_eq_true rfl | (simp; done) | (simp; omega)) ?_); clear E S a; intro a w E S; try dsimp only [List.set] at S
        refine wpList_nil ?_
        refine then_k hK ?_; clear hK; clear K
        refine wp_seq_k ?_; intro K hK
        refine wp_seq_k ?_; intro K hK
        refine region_list ?_
        refine list_pure E rfl rfl (by decide) (rn_move E rfl rfl) ?_; clear E a; intro a E
        refine list_pure E rfl rfl (by decide) (rn_nilCheck E rfl rfl) ?_; clear E a; intro a E
        refine list_pure E rfl rfl (by decide) (by first | exact rn_fieldAddr0 (q := 0) E rfl rfl rfl | exact rn_fieldAddr (q := 0) E rfl rfl rfl) ?_; clear E a; intro a E
        refine list_pure E rfl rfl (by decide) (by first | exact rn_load E rfl rfl rfl (S.get (by repeat (first | exact pk1 | apply pick_tail))) rfl | exact rn_loadc E rfl rfl rfl (by assumption)) ?_; clear E a; intro a E
        refine list_call E rfl rfl (by decide) rfl Tryd.func39 rfl (by kernel_rfl) rfl (rdone_ret p _ A8 _ hA8 (S.hp.sel (sel_cons (by repeat (first | exact pk1 | apply pick_tail)) (sel_nil _)))) ?_
        rintro v54 w ⟨rfl, hT⟩; clear E a; intro a E
        have S := S.call1 (sel_cons (by repeat (first | exact pk1 | apply pick_tail)) (sel_nil _)) hT
        refine list_pure E rfl rfl (by decide) (by first | exact rn_neq E rfl rfl rfl | exact rn_neq_ptr_nil E rfl rfl rfl rfl | exact rn_neq_bool E rfl rfl rfl rfl | exact rn_neq_string E rfl rfl rfl) ?_; clear E a; intro a E
        refine list_pure E rfl rfl (by decide) (rn_move E rfl rfl) ?_; clear E a; intro a E
        refine guard_split E (t := 56) rfl (fun hb56 => ?_) (fun hb56 => ?_)
        · have hb56n := hb56; replace hb56n := Nrm.nrm hb56n
          refine list_guard_no E rfl rfl rfl rfl hb56 rfl (by decide) ?_; clear E a; intro a E
          refine list_guard_no E rfl rfl rfl rfl hb56 rfl (by decide) ?_; clear E a; intro a E
          refine list_guard_no E rfl rfl rfl rfl hb56 rfl (by decide) ?_; clear E a; intro a E
          refine list_pure E rfl rfl (by decide) (rn_pick_yes' E rfl rfl hb56 rfl) ?_; clear E a; intro a E
          refine wpList_nil ?_
          refine then_k hK ?_; clear hK; clear K
          refine if_true' E rfl rfl ?_
          refine wp_seq_k ?_; intro K hK
          refine region_list ?_
          refine list_pure E rfl rfl (by decide) (rn_build (cells := [_, _, _, _, _, _, _]) E rfl rfl rfl) ?_; clear E a; intro a E
          refine list_wp rfl (wp_storeN E S rfl rfl rfl rfl (by simp [Value.oneCell']) rfl (by repeat (first | exact pk1 | apply pick_tail)) (by simp) ?_); clear E S a; intro a w E S; simp only [List.take_succ_cons, List.take_zero, List.drop_succ_cons, List.drop_zero, List.cons_append, List.nil_append, List.append_nil, List.length_cons, List.length_nil, Nat.zero_add, Nat.add_zero] at S
          refine list_pure E rfl rfl (by decide) (rn_assign E rfl rfl) ?_; clear E a; intro a E
          refine wpList_nil ?_
          refine then_k hK ?_; clear hK; clear K
          refine wp_ret ?_
          refine then_ret ?_; clear hK; clear K
          refine ret_ct E rfl rfl rfl (S.get (by repeat (first | exact pk1 | apply pick_tail))) rfl ?_
          rw [if_neg (fun q => by have := q.1; have := q.2; simp_all)] at hv
          exact ⟨_, rfl, _, _, [], [], by rw [hv], by rw [hv]; exact Buf.nil _ _, by rw [hv]; exact Buf.nil _ _, ((((((S.del (A := [(b2, _)]) (by repeat (first | exact pk1 | apply pick_tail))).del (A := A8) (by repeat (first | exact pk1 | apply pick_tail))).del (A := [(b6, _)]) (by repeat (first | exact pk1 | apply pick_tail))).del (A := [(pb, _)]) (by repeat (first | exact pk1 | apply pick_tail))).del (A := C) (by repeat (first | exact pk1 | apply pick_tail))).del (A := B) (by repeat (first | exact pk1 | apply pick_tail))).addNil.addNil.tr⟩
        · have hb56n := hb56; replace hb56n := Nrm.nrm hb56n
          refine list_guard_yes E rfl rfl rfl rfl hb56 rfl (by decide) (rn_load_blk (vs := [_, _, _, _, _, _, _]) E rfl rfl rfl (S.get (by repeat (first | exact pk1 | apply pick_tail))) rfl rfl) ?_; clear E a; intro a E
          refine list_guard_wp E rfl rfl rfl rfl hb56 ?_; refine wp_call' E rfl (by decide) rfl Tryd.func41 rfl (by kernel_rfl) rfl (answers_ret ⟨s1.1, s2.1, s3.1, s4.1, s5.1, tL s6.2 i, s7.1⟩ B _ ad c hBr (by rw [tL_length]; omega) _ (S.hpone (show B ∈ _ from (by repeat (first | exact mm1 | assumption | apply List.Mem.tail))))) ?_
          rintro v58 w ⟨rfl, hT⟩; clear E a; intro a E
          have S := S.callone (show B ∈ _ from (by repeat (first | exact mm1 | assumption | apply List.Mem.tail))) hT; rw [← hR] at E
          refine list_guard_yes E rfl rfl rfl rfl hb56 rfl (by decide) (rn_not E rfl rfl) ?_; clear E a; intro a E
          refine list_pure E rfl rfl (by decide) (rn_pick_no' E rfl rfl hb56 rfl) ?_; clear E a; intro a E
          refine wpList_nil ?_
          refine then_k hK ?_; clear hK; clear K
          refine if_bool E rfl (fun hb => ?_) (fun hb => ?_)
          · replace hb := Nrm.nrm hb
            refine wp_seq_k ?_; intro K hK
            refine region_list ?_
            refine list_pure E rfl rfl (by decide) (rn_build (cells := [_, _, _, _, _, _, _]) E rfl rfl rfl) ?_; clear E a; intro a E
            refine list_wp rfl (wp_storeN E S rfl rfl rfl rfl (by simp [Value.oneCell']) rfl (by repeat (first | exact pk1 | apply pick_tail)) (by simp) ?_); clear E S a; intro a w E S; simp only [List.take_succ_cons, List.take_zero, List.drop_succ_cons, List.drop_zero, List.cons_append, List.nil_append, List.append_nil, List.length_cons, List.length_nil, Nat.zero_add, Nat.add_zero] at S
            refine list_pure E rfl rfl (by decide) (rn_assign E rfl rfl) ?_; clear E a; intro a E
            refine wpList_nil ?_
            refine then_k hK ?_; clear hK; clear K
            refine wp_ret ?_
            refine then_ret ?_; clear hK; clear K
            refine ret_ct E rfl rfl rfl (S.get (by repeat (first | exact pk1 | apply pick_tail))) rfl ?_
            rw [if_neg (fun q => by have := q.1; have := q.2; simp_all)] at hv
            exact ⟨_, rfl, _, _, [], [], by rw [hv], by rw [hv]; exact Buf.nil _ _, by rw [hv]; exact Buf.nil _ _, ((((((S.del (A := [(b2, _)]) (by repeat (first | exact pk1 | apply pick_tail))).del (A := A8) (by repeat (first | exact pk1 | apply pick_tail))).del (A := [(b6, _)]) (by repeat (first | exact pk1 | apply pick_tail))).del (A := [(pb, _)]) (by repeat (first | exact pk1 | apply pick_tail))).del (A := C) (by repeat (first | exact pk1 | apply pick_tail))).del (A := B) (by repeat (first | exact pk1 | apply pick_tail))).addNil.addNil.tr⟩
          · replace hb := Nrm.nrm hb
            refine wp_skip ?_
            refine then_k hK ?_; clear hK; clear K
            refine wp_seq_k ?_; intro K hK
            refine region_list ?_
            refine list_pure E rfl rfl (by decide) (rn_load_blk (vs := [_, _, _, _, _, _, _]) E rfl rfl rfl (S.get (by repeat (first | exact pk1 | apply pick_tail))) rfl rfl) ?_; clear E a; intro a E
            refine list_wp rfl (wp_storeN E S rfl rfl rfl rfl (by simp [Value.oneCell']) rfl (by repeat (first | exact pk1 | apply pick_tail)) (by simp) ?_); clear E S a; intro a w E S; simp only [List.take_succ_cons, List.take_zero, List.drop_succ_cons, List.drop_zero, List.cons_append, List.nil_append, List.append_nil, List.length_cons, List.length_nil, Nat.zero_add, Nat.add_zero] at S
            refine list_pure E rfl rfl (by decide) (rn_assign E rfl rfl) ?_; clear E a; intro a E
            refine wpList_nil ?_
            refine then_k hK ?_; clear hK; clear K
            refine wp_ret ?_
            refine ret_ct E rfl rfl rfl (S.get (by repeat (first | exact pk1 | apply pick_tail))) rfl ?_
            rw [if_pos ⟨by omega, by simpa using hb⟩] at hv
            exact ⟨_, rfl, _, _, B, C, by rw [hv, hR], by rw [hv, hR]; show Buf B _ _ _ (tL s6.2 i).length _; rw [tL_length]; exact hB, by rw [hv, hR]; exact hC, ((((((S.del (A := [(b2, _)]) (by repeat (first | exact pk1 | apply pick_tail))).del (A := A8) (by repeat (first | exact pk1 | apply pick_tail))).del (A := [(b6, _)]) (by repeat (first | exact pk1 | apply pick_tail))).del (A := [(pb, _)]) (by repeat (first | exact pk1 | apply pick_tail)))).front2 (A := B) (by repeat (first | exact pk1 | apply pick_tail)) (B := C) (by repeat (first | exact pk1 | apply pick_tail))).tr⟩
end Go.Proofs.YtjhmjdgdgpgcdaaDoor
