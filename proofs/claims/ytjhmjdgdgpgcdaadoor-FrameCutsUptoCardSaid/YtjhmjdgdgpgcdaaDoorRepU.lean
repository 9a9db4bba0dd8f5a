/-
  Replies read by the document; the same ones.
-/
import Derived.Test.YtjhmjdgdgpgcdaaDoorRepT
namespace Go.Sl
theorem rq_eq (r s : Rq) : r = s ↔ (r.ses = s.ses ∧ r.id = s.id ∧ r.verb = s.verb ∧ r.at_ = s.at_ ∧ r.many = s.many) ∧ r.name = s.name ∧ r.item = s.item ∧ r.other = s.other ∧ r.path = s.path ∧ r.data = s.data := by
  cases r; cases s; simp only [Rq.mk.injEq]; constructor
  · rintro ⟨rfl, rfl, rfl, rfl, rfl, rfl, rfl, rfl, rfl, rfl⟩; simp
  · rintro ⟨⟨rfl, rfl, rfl, rfl, rfl⟩, rfl, rfl, rfl, rfl, rfl⟩; simp
theorem rp_eq (r s : Rp) : r = s ↔ r.ses = s.ses ∧ r.id = s.id ∧ r.err = s.err ∧ r.num = s.num ∧ r.text = s.text ∧ r.list = s.list ∧ r.data = s.data := by
  cases r; cases s; simp only [Rp.mk.injEq]
end Go.Sl
namespace Go.Proofs.YtjhmjdgdgpgcdaaDoor
open Go.Sl
set_option maxRecDepth 10000

theorem dreadrp_ret (D : Chunk) (v : Value) (b : List UInt8) (hD : Rd D 1 v b.length (byt b)) (hcap : ∃ ad c, v = .slice ad b.length c ∧ b.length ≤ c) (As : List Chunk) (hDA : D ∈ As) (hG0 : Tab As 0 sha0.l) (hG1 : Tab As 1 shaK) (w0 : World) (H : Hp w0 As) :
    Ret Tryd.prog 46 #[v] w0 fun u w' => ∃ y x B C, u = .tuple #[rpagg (rpF dataD b).1 y x, .int .i64 (rpF dataD b).2] ∧ Buf B 9 1 y (rpF dataD b).1.list.length (sts (rpF dataD b).1.list) ∧ Buf C 5 1 x (rpF dataD b).1.data.length (byt (rpF dataD b).1.data) ∧ Trs w0 w' As (B :: C :: As) := by
  have S := St.begin H
  have e2 := p2
  refine enter1 76 Tryd.func46 rfl rfl (by decide) ?_; intro a E
  refine wp_seq_k ?_; intro K hK
  refine region_list ?_
  refine list_wp rfl (wp_alloc E S rfl rfl (by decide) rfl rfl rfl ?_); clear E S a; intro a w b2 E S
  refine list_pure E rfl rfl (by decide) (rn_assign E rfl rfl) ?_; clear E a; intro a E
  refine wpList_nil ?_
  refine then_k hK ?_; clear hK; clear K
  refine wp_seq_k ?_; intro K hK
  refine region_list ?_
  refine list_pure E rfl rfl (by decide) (rn_move E rfl rfl) ?_; clear E a; intro a E
  refine list_call E rfl rfl (by decide) rfl Tryd.func69 rfl (by kernel_rfl) rfl (dbody_ret D v b hD hcap 2 (by omega) _ (show D ∈ _ from (by repeat (first | exact mm1 | assumption | apply List.Mem.tail))) hG0.tail hG1.tail _ S.hp) ?_
  rintro v15 w hO; clear E a; intro a E
  skip
  rcases hO with ⟨hE, rfl, hT⟩ | ⟨hE, h13, h64, p, A, rfl, hA, hT⟩
  · skip
    have S := S.all hT
    refine list_pure E rfl rfl (by decide) (rn_move E rfl rfl) ?_; clear E a; intro a E
    refine list_pure E rfl rfl (by decide) (rn_extract E rfl rfl rfl) ?_; clear E a; intro a E
    refine list_pure E rfl rfl (by decide) (rn_extract E rfl rfl rfl) ?_; clear E a; intro a E
    refine list_pure E rfl rfl (by decide) (rn_assign E rfl rfl) ?_; clear E a; intro a E
    refine list_pure E rfl rfl (by decide) (rn_assign E rfl rfl) ?_; clear E a; intro a E
    refine wpList_nil ?_
    refine then_k hK ?_; clear hK; clear K
    refine wp_seq_k ?_; intro K hK
    refine wp_seq_k ?_; intro K hK
    refine region_list ?_
    refine list_pure E rfl rfl (by decide) (rn_move E rfl rfl) ?_; clear E a; intro a E
    refine list_pure E rfl rfl (by decide) (by first | exact rn_neq E rfl rfl rfl | exact rn_neq_ptr_nil E rfl rfl rfl rfl | exact rn_neq_bool E rfl rfl rfl rfl | exact rn_neq_string E rfl rfl rfl) ?_; clear E a; intro a E
    refine wpList_nil ?_
    refine then_k hK ?_; clear hK; clear K
    refine if_bool E rfl (fun hb => ?_) (fun hb => ?_)
    · replace hb := Nrm.nrm hb
      skip
      refine wp_seq_k ?_; intro K hK
      refine region_list ?_
      refine list_pure E rfl rfl (by decide) (rn_build (cells := [_, _, _, _, _, _, _]) E rfl rfl rfl) ?_; clear E a; intro a E
      refine list_pure E rfl rfl (by decide) (rn_move E rfl rfl) ?_; clear E a; intro a E
      refine list_wp rfl (wp_storeN E S rfl rfl rfl rfl (by simp [Value.oneCell']) rfl (by repeat (first | exact pk1 | apply pick_tail)) (by simp) ?_); clear E S a; intro a w E S; simp only [List.take_succ_cons, List.take_zero, List.drop_succ_cons, List.drop_zero, List.cons_append, List.nil_append, List.append_nil, List.length_cons, List.length_nil, Nat.zero_add, Nat.add_zero] at S
      refine list_pure E rfl rfl (by decide) (rn_assign E rfl rfl) ?_; clear E a; intro a E
      refine wpList_nil ?_
      refine then_k hK ?_; clear hK; clear K
      refine wp_ret ?_
      refine then_ret ?_; clear hK; clear K
      refine ret_ct E rfl rfl rfl (S.get (by repeat (first | exact pk1 | apply pick_tail))) rfl ?_
      have hv : rpF dataD b = (rp0, opE b 2) := by unfold rpF; rw [if_pos hE]
      exact ⟨_, rfl, _, _, [], [], by rw [hv], by rw [hv]; exact Buf.nil _ _, by rw [hv]; exact Buf.nil _ _, (S.del (A := [(b2, _)]) (by repeat (first | exact pk1 | apply pick_tail))).addNil.addNil.tr⟩
    · replace hb := Nrm.nrm hb
      exfalso; omega
  · skip
    have S := S.all hT
    refine list_pure E rfl rfl (by decide) (rn_move E rfl rfl) ?_; clear E a; intro a E
    refine list_pure E rfl rfl (by decide) (rn_extract E rfl rfl rfl) ?_; clear E a; intro a E
    refine list_pure E rfl rfl (by decide) (rn_extract E rfl rfl rfl) ?_; clear E a; intro a E
    refine list_pure E rfl rfl (by decide) (rn_assign E rfl rfl) ?_; clear E a; intro a E
    refine list_pure E rfl rfl (by decide) (rn_assign E rfl rfl) ?_; clear E a; intro a E
    refine wpList_nil ?_
    refine then_k hK ?_; clear hK; clear K
    refine wp_seq_k ?_; intro K hK
    refine wp_seq_k ?_; intro K hK
    refine region_list ?_
    refine list_pure E rfl rfl (by decide) (rn_move E rfl rfl) ?_; clear E a; intro a E
    refine list_pure E rfl rfl (by decide) (by first | exact rn_neq E rfl rfl rfl | exact rn_neq_ptr_nil E rfl rfl rfl rfl | exact rn_neq_bool E rfl rfl rfl rfl | exact rn_neq_string E rfl rfl rfl) ?_; clear E a; intro a E
    refine wpList_nil ?_
    refine then_k hK ?_; clear hK; clear K
    refine if_bool E rfl (fun hb => ?_) (fun hb => ?_)
    · replace hb := Nrm.nrm hb
      exfalso; omega
    · replace hb := Nrm.nrm hb
      skip
      refine wp_skip ?_
      refine then_k hK ?_; clear hK; clear K
      refine wp_seq_k ?_; intro K hK
      refine region_list ?_
      refine list_pure E rfl rfl (by decide) (rn_build (cells := [_, _, _, _, _, _, _]) E rfl rfl rfl) ?_; clear E a; intro a E
      refine list_wp rfl (wp_alloc E S rfl rfl (by decide) rfl rfl rfl ?_); clear E S a; intro a w b6 E S
      refine list_wp rfl (wp_storeN E S rfl rfl rfl rfl (by simp [Value.oneCell']) rfl (by repeat (first | exact pk1 | apply pick_tail)) (by simp) ?_); clear E S a; intro a w E S; simp only [List.take_succ_cons, List.take_zero, List.drop_succ_cons, List.drop_zero, List.cons_append, List.nil_append, List.append_nil, List.length_cons, List.length_nil, Nat.zero_add, Nat.add_zero] at S
      refine wpList_nil ?_
      refine then_k hK ?_; clear hK; clear K
      refine wp_seq_k ?_; intro K hK
      refine region_list ?_
      refine list_pure E rfl rfl (by decide) (rn_move E rfl rfl) ?_; clear E a; intro a E
      refine list_call E rfl rfl (by decide) rfl Tryd.func70 rfl (by kernel_rfl) rfl (dnum_ret p _ A _ hA 1 (by omega) (S.hp.sel (sel_cons (by repeat (first | exact pk1 | apply pick_tail)) (sel_nil _)))) ?_
      rintro v24 w ⟨A1, rfl, hA1, hT⟩; clear E a; intro a E
      have S := S.call1 (sel_cons (by repeat (first | exact pk1 | apply pick_tail)) (sel_nil _)) hT
      obtain ⟨s1, hs1⟩ : ∃ s1, s1 = (Rdr.mk ((opX b).drop 1) 0 0).num 1 := ⟨_, rfl⟩
      rw [show (((1 : Nat) : Int)) = 1 from rfl, ← hs1] at E hA1
      refine list_pure E rfl rfl (by decide) (by first | exact rn_fieldAddr0 (q := 0) E rfl rfl rfl | exact rn_fieldAddr (q := 0) E rfl rfl rfl) ?_; clear E a; intro a E
      refine list_wp rfl (wp_store1 E S rfl rfl rfl rfl rfl rfl (by repeat (first | exact pk1 | apply pick_tail)) (by first | exact Nat.le_of_ble_eq_true rfl | (simp; done) | (simp; omega)) ?_); clear E S a; intro a w E S; try dsimp only [List.set] at S
      refine wpList_nil ?_
      refine then_k hK ?_; clear hK; clear K
      refine wp_seq_k ?_; intro K hK
      refine region_list ?_
      refine list_pure E rfl rfl (by decide) (rn_move E rfl rfl) ?_; clear E a; intro a E
      refine list_call E rfl rfl (by decide) rfl Tryd.func70 rfl (by kernel_rfl) rfl (dnum_ret p _ A1 _ hA1 4 (by omega) (S.hp.sel (sel_cons (by repeat (first | exact pk1 | apply pick_tail)) (sel_nil _)))) ?_
      rintro v27 w ⟨A2, rfl, hA2, hT⟩; clear E a; intro a E
      have S := S.call1 (sel_cons (by repeat (first | exact pk1 | apply pick_tail)) (sel_nil _)) hT
      obtain ⟨s2, hs2⟩ : ∃ s2, s2 = (s1.2).num 4 := ⟨_, rfl⟩
      rw [show (((4 : Nat) : Int)) = 4 from rfl, ← hs2] at E hA2
      refine list_pure E rfl rfl (by decide) (by first | exact rn_fieldAddr0 (q := 1) E rfl rfl rfl | exact rn_fieldAddr (q := 1) E rfl rfl rfl) ?_; clear E a; intro a E
      refine list_wp rfl (wp_store1 E S rfl rfl rfl rfl rfl rfl (by repeat (first | exact pk1 | apply pick_tail)) (by first | exact Nat.le_of_ble_eq_true rfl | (simp; done) | (simp; omega)) ?_); clear E S a; intro a w E S; try dsimp only [List.set] at S
      refine wpList_nil ?_
      refine then_k hK ?_; clear hK; clear K
      refine wp_seq_k ?_; intro K hK
      refine region_list ?_
      refine list_pure E rfl rfl (by decide) (rn_move E rfl rfl) ?_; clear E a; intro a E
      refine list_call E rfl rfl (by decide) rfl Tryd.func70 rfl (by kernel_rfl) rfl (dnum_ret p _ A2 _ hA2 2 (by omega) (S.hp.sel (sel_cons (by repeat (first | exact pk1 | apply pick_tail)) (sel_nil _)))) ?_
      rintro v30 w ⟨A3, rfl, hA3, hT⟩; clear E a; intro a E
      have S := S.call1 (sel_cons (by repeat (first | exact pk1 | apply pick_tail)) (sel_nil _)) hT
      obtain ⟨s3, hs3⟩ : ∃ s3, s3 = (s2.2).num 2 := ⟨_, rfl⟩
      rw [show (((2 : Nat) : Int)) = 2 from rfl, ← hs3] at E hA3
      refine list_pure E rfl rfl (by decide) (rn_assign E rfl rfl) ?_; clear E a; intro a E
      refine wpList_nil ?_
      refine then_k hK ?_; clear hK; clear K
      refine wp_seq_k ?_; intro K hK
      refine region_list ?_
      refine list_pure E rfl rfl (by decide) (rn_move E rfl rfl) ?_; clear E a; intro a E
      refine list_pure E rfl rfl (by decide) (by first | exact rn_fieldAddr0 (q := 2) E rfl rfl rfl | exact rn_fieldAddr (q := 2) E rfl rfl rfl) ?_; clear E a; intro a E
      refine list_wp rfl (wp_store1 E S rfl rfl rfl rfl rfl rfl (by repeat (first | exact pk1 | apply pick_tail)) (by first | exact Nat.le_of_ble_eq_true rfl | (simp; done) | (simp; omega)) ?_); clear E S a; intro a w E S; try dsimp only [List.set] at S
      refine wpList_nil ?_
      refine then_k hK ?_; clear hK; clear K
      refine wp_seq_k ?_; intro K hK
      replace E := E.keep (e' := [(2, _), (3, _), (4, _), (6, _)]) (keep_cons rfl (keep_cons rfl (keep_cons rfl (keep_cons rfl (keep_nil)))))
      refine region_list ?_
      refine list_pure E rfl rfl (by decide) (rn_move E rfl rfl) ?_; clear E a; intro a E
      refine list_call E rfl rfl (by decide) rfl Tryd.func70 rfl (by kernel_rfl) rfl (dnum_ret p _ A3 _ hA3 6 (by omega) (S.hp.sel (sel_cons (by repeat (first | exact pk1 | apply pick_tail)) (sel_nil _)))) ?_
      rintro v34 w ⟨A4, rfl, hA4, hT⟩; clear E a; intro a E
      have S := S.call1 (sel_cons (by repeat (first | exact pk1 | apply pick_tail)) (sel_nil _)) hT
      obtain ⟨s4, hs4⟩ : ∃ s4, s4 = (s3.2).num 6 := ⟨_, rfl⟩
      rw [show (((6 : Nat) : Int)) = 6 from rfl, ← hs4] at E hA4
      refine list_pure E rfl rfl (by decide) (by first | exact rn_fieldAddr0 (q := 3) E rfl rfl rfl | exact rn_fieldAddr (q := 3) E rfl rfl rfl) ?_; clear E a; intro a E
      refine list_wp rfl (wp_store1 E S rfl rfl rfl rfl rfl rfl (by repeat (first | exact pk1 | apply pick_tail)) (by first | exact Nat.le_of_ble_eq_true rfl | (simp; done) | (simp; omega)) ?_); clear E S a; intro a w E S; try dsimp only [List.set] at S
      refine wpList_nil ?_
      refine then_k hK ?_; clear hK; clear K
      refine wp_seq_k ?_; intro K hK
      refine region_list ?_
      refine list_pure E rfl rfl (by decide) (rn_move E rfl rfl) ?_; clear E a; intro a E
      refine list_call E rfl rfl (by decide) rfl Tryd.func71 rfl (by kernel_rfl) rfl (utext_ret p _ A4 _ hA4 (S.hp.sel (sel_cons (by repeat (first | exact pk1 | apply pick_tail)) (sel_nil _))) 2048) ?_
      rintro v37 w ⟨A5, rfl, hA5, hT⟩; clear E a; intro a E
      have S := S.call1 (sel_cons (by repeat (first | exact pk1 | apply pick_tail)) (sel_nil _)) hT
      obtain ⟨s5, hs5⟩ : ∃ s5, s5 = s4.2.text 2048 := ⟨_, rfl⟩
      rw [← hs5] at E hA5
      refine list_pure E rfl rfl (by decide) (by first | exact rn_fieldAddr0 (q := 4) E rfl rfl rfl | exact rn_fieldAddr (q := 4) E rfl rfl rfl) ?_; clear E a; intro a E
      refine list_wp rfl (wp_store1 E S rfl rfl rfl rfl rfl rfl (by repeat (first | exact pk1 | apply pick_tail)) (by first | exact Nat.le_of_ble_eq_true rfl | (simp; done) | (simp; omega)) ?_); clear E S a; intro a w E S; try dsimp only [List.set] at S
      refine wpList_nil ?_
      refine then_k hK ?_; clear hK; clear K
      refine wp_seq_k ?_; intro K hK
      refine region_list ?_
      refine list_pure E rfl rfl (by decide) (rn_move E rfl rfl) ?_; clear E a; intro a E
      refine list_call E rfl rfl (by decide) rfl Tryd.func70 rfl (by kernel_rfl) rfl (dnum_ret p _ A5 _ hA5 2 (by omega) (S.hp.sel (sel_cons (by repeat (first | exact pk1 | apply pick_tail)) (sel_nil _)))) ?_
      rintro v40 w ⟨A6, rfl, hA6, hT⟩; clear E a; intro a E
      have S := S.call1 (sel_cons (by repeat (first | exact pk1 | apply pick_tail)) (sel_nil _)) hT
      obtain ⟨s6, hs6⟩ : ∃ s6, s6 = (s5.2).num 2 := ⟨_, rfl⟩
      rw [show (((2 : Nat) : Int)) = 2 from rfl, ← hs6] at E hA6
      obtain ⟨kk, hkk⟩ : ∃ kk, kk = min s6.1 241 := ⟨_, rfl⟩
      refine list_pure E rfl rfl (by decide) (rn_assign E rfl rfl) ?_; clear E a; intro a E
      refine wpList_nil ?_
      refine then_k hK ?_; clear hK; clear K
      refine wp_seq_k ?_; intro K hK
      refine wp_seq_k ?_; intro K hK
      refine region_list ?_
      refine list_pure E rfl rfl (by decide) (rn_assign E rfl rfl) ?_; clear E a; intro a E
      refine wpList_nil ?_
      refine then_k hK ?_; clear hK; clear K
      refine wp_block ?_
      refine wp_loop_ghost (fun (m : Nat) (a : Act) (w' : World) => ∃ (i : Nat) (v : Value) (B A' : Chunk), m = kk - i ∧ i ≤ kk ∧ RdC 121 p (sT s6.2 i) A' ∧ Buf B 9 1 v i (sts (tL s6.2 i)) ∧ St w0 As w' (A' :: [(b6, cel [.int .i64 s1.1, .int .i64 s2.1, .int .i64 s3.1, .int .i64 s4.1, str s5.1, v, .slice none 0 0] 50)] :: B :: [(b2, cel [.int .i64 0, .int .i64 0, .int .i64 0, .int .i64 0, str [], .slice none 0 0, .slice none 0 0] 50)] :: As) ∧ Fr a 76 [(2, ptr b2), (4, ptr p), (6, ptr b6), (8, .int .i64 s6.1), (9, .int .i64 i)]) (kk - 0) ?_ ?_
      · exact ⟨0, _, [], A6, rfl, by omega, hA6, Buf.nil _ _, (S.addNil.front3 (A := A6) (by repeat (first | exact pk1 | apply pick_tail)) (B := [(b6, _)]) (by repeat (first | exact pk1 | apply pick_tail)) (C := []) (by repeat (first | exact pk1 | apply pick_tail))), E.keep (keep_cons rfl (keep_cons rfl (keep_cons rfl (keep_cons rfl (keep_cons rfl keep_nil)))))⟩
      clear E; clear a; (try clear S); rintro m a w ⟨i, v, B, A', rfl, hi, hA', hB, S, E⟩
      refine wp_seq_k ?_; intro K hK
      refine wp_seq_k ?_; intro K hK
      refine region_list ?_
      refine list_pure E rfl rfl (by decide) (rn_move E rfl rfl) ?_; clear E a; intro a E
      refine list_pure E rfl rfl (by decide) (rn_move E rfl rfl) ?_; clear E a; intro a E
      refine list_pure E rfl rfl (by decide) (rn_lss E rfl rfl rfl) ?_; clear E a; intro a E
      refine list_pure E rfl rfl (by decide) (rn_move E rfl rfl) ?_; clear E a; intro a E
      refine guard_split E (t := 44) rfl (fun hb44 => ?_) (fun hb44 => ?_)
      · have hb44n := hb44; replace hb44n := Nrm.nrm hb44n
        refine list_guard_yes E rfl rfl rfl rfl hb44 rfl (by decide) (rn_move E rfl rfl) ?_; clear E a; intro a E
        refine list_guard_yes E rfl rfl rfl rfl hb44 rfl (by decide) (rn_lss E rfl rfl rfl) ?_; clear E a; intro a E
        refine list_pure E rfl rfl (by decide) (rn_pick_yes' E rfl rfl hb44 rfl) ?_; clear E a; intro a E
        refine wpList_nil ?_
        refine then_k hK ?_; clear hK; clear K
        refine if_bool E rfl (fun hb => ?_) (fun hb => ?_)
        · replace hb := Nrm.nrm hb
          refine wp_skip ?_
          refine then_k hK ?_; clear hK; clear K
          refine wp_seq_k ?_; intro K hK
          refine wp_block ?_
          refine wp_seq_k ?_; intro K hK
          have hik : i < kk := by omega
          refine region_list ?_
          refine list_pure E rfl rfl (by decide) (rn_move E rfl rfl) ?_; clear E a; intro a E
          refine list_call E rfl rfl (by decide) rfl Tryd.func71 rfl (by kernel_rfl) rfl (utext_ret p (sT s6.2 i) A' _ hA' (S.hp.sel (sel_cons (by repeat (first | exact pk1 | apply pick_tail)) (sel_nil _))) 240) ?_
          rintro v51 w ⟨A7, rfl, hA7, hT⟩; clear E a; intro a E
          have S := S.call1 (sel_cons (by repeat (first | exact pk1 | apply pick_tail)) (sel_nil _)) hT
          refine list_pure E rfl rfl (by decide) (rn_assign E rfl rfl) ?_; clear E a; intro a E
          refine wpList_nil ?_
          refine then_k hK ?_; clear hK; clear K
          refine region_list ?_
          refine list_pure E rfl rfl (by decide) (by first | exact rn_fieldAddr0 (q := 5) E rfl rfl rfl | exact rn_fieldAddr (q := 5) E rfl rfl rfl) ?_; clear E a; intro a E
          refine list_pure E rfl rfl (by decide) (by first | exact rn_load E rfl rfl rfl (S.get (by repeat (first | exact pk1 | apply pick_tail))) rfl | exact rn_loadc E rfl rfl rfl (by assumption)) ?_; clear E a; intro a E
          refine list_pure E rfl rfl (by decide) (rn_move E rfl rfl) ?_; clear E a; intro a E
          refine list_wp rfl (wp_bslice (cells := [_]) E S rfl rfl (by decide) rfl rfl rfl rfl rfl (by decide) rfl ?_); clear E S a; intro a w b55 E S
          refine list_wp rfl (wp_append (by' := 16) E S rfl rfl (by decide) rfl rfl hB (by repeat (first | exact pk1 | apply pick_tail)) ((rd_cells (g := b55) (T := 9) (xs := [str (tT s6.2 i)]) (s := 1) (m := 1) rfl (by simp [Value.oneCell']) (by omega) 1).src (S.stab.at (by repeat (first | exact mm1 | assumption | apply List.Mem.tail))) rfl) rfl rfl rfl rfl rfl rfl (by simp only [maxLen]; omega) (by omega) ?_); clear E S a; intro a w v56 C56 E S hB56
          rw [show (sts (tL s6.2 i)) ++ [str (tT s6.2 i)] = sts (tL s6.2 (i + 1)) by rw [tL_succ]; simp] at hB56; obtain ⟨ad56, c56, rfl⟩ := hB56.slice
          refine list_pure E rfl rfl (by decide) (by first | exact rn_fieldAddr0 (q := 5) E rfl rfl rfl | exact rn_fieldAddr (q := 5) E rfl rfl rfl) ?_; clear E a; intro a E
          refine list_wp rfl (wp_store1 E S rfl rfl rfl rfl rfl rfl (by repeat (first | exact pk1 | apply pick_tail)) (by first | exact Nat.le_of_ble_eq_true rfl | (simp; done) | (simp; omega)) ?_); clear E S a; intro a w E S; try dsimp only [List.set] at S
          refine wpList_nil ?_
          refine in_normal ?_
          refine then_k hK ?_; clear hK; clear K
          refine region_list ?_
          refine list_pure E rfl rfl (by decide) (rn_move E rfl rfl) ?_; clear E a; intro a E
          refine list_pure E rfl rfl (by decide) (rn_add E rfl rfl rfl (by first | exact wa_lit (y := 1) (by omega) | exact w_in (by omega) | exact w_inu (by omega) | exact rfl)) ?_; clear E a; intro a E
          refine list_pure E rfl rfl (by decide) (rn_assign E rfl rfl) ?_; clear E a; intro a E
          refine wpList_nil ?_
          refine then_normal ?_
          exact ⟨_, by omega, i + 1, _, C56, A7, rfl, by omega, hA7, hB56, (S.del (A := [(b55, _)]) (by repeat (first | exact pk1 | apply pick_tail))).front3 (A := A7) (by repeat (first | exact pk1 | apply pick_tail)) (B := [(b6, _)]) (by repeat (first | exact pk1 | apply pick_tail)) (C := C56) (by repeat (first | exact pk1 | apply pick_tail)), E.keep (keep_cons rfl (keep_cons rfl (keep_cons rfl (keep_cons rfl (keep_cons rfl keep_nil)))))⟩
        · replace hb := Nrm.nrm hb
          refine wp_exit ?_
          refine then_exit ?_; clear hK; clear K
          refine then_exit ?_
          refine in_exit ?_
          refine then_k hK ?_; clear hK; clear K
          refine wp_seq_k ?_; intro K hK
          obtain rfl : i = kk := by omega
          obtain ⟨adv, cv, rfl⟩ := hB.slice
          refine region_list ?_
          refine list_pure E rfl rfl (by decide) (rn_move E rfl rfl) ?_; clear E a; intro a E
          refine list_call E rfl rfl (by decide) rfl Tryd.func70 rfl (by kernel_rfl) rfl (dnum_ret p _ A' _ hA' 2 (by omega) (S.hp.sel (sel_cons (by repeat (first | exact pk1 | apply pick_tail)) (sel_nil _)))) ?_
          rintro v59 w ⟨A8, rfl, hA8, hT⟩; clear E a; intro a E
          have S := S.call1 (sel_cons (by repeat (first | exact pk1 | apply pick_tail)) (sel_nil _)) hT
          obtain ⟨s8, hs8⟩ : ∃ s8, s8 = (sT s6.2 i).num 2 := ⟨_, rfl⟩
          rw [show (((2 : Nat) : Int)) = 2 from rfl, ← hs8] at E hA8
          refine list_pure E rfl rfl (by decide) (rn_assign E rfl rfl) ?_; clear E a; intro a E
          refine wpList_nil ?_
          refine then_k hK ?_; clear hK; clear K
          refine wp_seq_k ?_; intro K hK
          refine region_list ?_
          refine list_pure E rfl rfl (by decide) (rn_move E rfl rfl) ?_; clear E a; intro a E
          refine list_pure E rfl rfl (by decide) (rn_move E rfl rfl) ?_; clear E a; intro a E
          refine list_call E rfl rfl (by decide) rfl Tryd.func72 rfl (by kernel_rfl) rfl (ubytes_ret p _ A8 _ hA8 (S.hp.sel (sel_cons (by repeat (first | exact pk1 | apply pick_tail)) (sel_nil _))) s8.1 (by rw [hs8]; have := num_lt (sT s6.2 i) 2; rw [show (((2 : Nat) : Int)) = 2 from rfl] at this; omega)) ?_
          rintro v62 w ⟨A11, C, hA11, hT, hC⟩; clear E a; intro a E
          have S := S.call2 (sel_cons (by repeat (first | exact pk1 | apply pick_tail)) (sel_nil _)) hT
          obtain ⟨s7, hs7⟩ : ∃ s7, s7 = s8.2.bytes s8.1 := ⟨_, rfl⟩
          rw [← hs7] at hA11 hC
          obtain ⟨ad, c, rfl⟩ := hC.slice
          have hBr : Rd B 1 (.slice adv i cv) (tL s6.2 i).length (sts (tL s6.2 i)) := by rw [tL_length]; exact hB.rd
          obtain ⟨R, hR⟩ : ∃ R : Rp, R = ⟨s1.1, s2.1, s3.1, s4.1, s5.1, tL s6.2 i, s7.1⟩ := ⟨_, rfl⟩
          have hP : rpP dataD ⟨(opX b).drop 1, 0, 0⟩ = (R, s7.2) := by subst hR hs7 hs8 hkk hs6 hs5 hs4 hs3 hs2 hs1; rfl
          have hbd := rpP_body h13
          rw [hP] at hbd
          have hv : rpF dataD b = if s7.2.done = 0 ∧ R.may then (R, 0) else (rp0, 230) := by unfold rpF; rw [if_neg (by omega), hbd.1, hbd.2]
          refine list_pure E rfl rfl (by decide) (by first | exact rn_fieldAddr0 (q := 6) E rfl rfl rfl | exact rn_fieldAddr (q := 6) E rfl rfl rfl) ?_; clear E a; intro a E
          refine list_wp rfl (wp_store1 E S rfl rfl rfl rfl rfl rfl (by repeat (first | exact pk1 | apply pick_tail)) (by first | exact Nat.le_of_ble_eq_true rfl | (simp; done) | (simp; omega)) ?_); clear E S a; intro a w E S; try dsimp only [List.set] at S
          refine wpList_nil ?_
          refine then_k hK ?_; clear hK; clear K
          refine wp_seq_k ?_; intro K hK
          refine region_list ?_
          refine list_pure E rfl rfl (by decide) (rn_move E rfl rfl) ?_; clear E a; intro a E
          refine list_call E rfl rfl (by decide) rfl Tryd.func73 rfl (by kernel_rfl) rfl (udone_ret p _ A11 _ hA11 (S.hp.sel (sel_cons (by repeat (first | exact pk1 | apply pick_tail)) (sel_nil _)))) ?_
          rintro v65 w ⟨rfl, hT⟩; clear E a; intro a E
          have S := S.call1 (sel_cons (by repeat (first | exact pk1 | apply pick_tail)) (sel_nil _)) hT
          refine list_pure E rfl rfl (by decide) (rn_assign E rfl rfl) ?_; clear E a; intro a E
          refine wpList_nil ?_
          refine then_k hK ?_; clear hK; clear K
          refine wp_seq_k ?_; intro K hK
          refine region_list ?_
          refine list_pure E rfl rfl (by decide) (rn_load_blk (vs := [_, _, _, _, _, _, _]) E rfl rfl rfl (S.get (by repeat (first | exact pk1 | apply pick_tail))) rfl rfl) ?_; clear E a; intro a E
          refine list_call E rfl rfl (by decide) rfl Tryd.func43 rfl (by kernel_rfl) rfl (danswers_ret ⟨s1.1, s2.1, s3.1, s4.1, s5.1, tL s6.2 i, s7.1⟩ B _ ad c hBr (by rw [tL_length]; omega) _ (S.hpone (show B ∈ _ from (by repeat (first | exact mm1 | assumption | apply List.Mem.tail))))) ?_
          rintro v67 w ⟨rfl, hT⟩; clear E a; intro a E
          have S := S.callone (show B ∈ _ from (by repeat (first | exact mm1 | assumption | apply List.Mem.tail))) hT; rw [← hR] at E
          refine list_pure E rfl rfl (by decide) (rn_assign E rfl rfl) ?_; clear E a; intro a E
          refine wpList_nil ?_
          refine then_k hK ?_; clear hK; clear K
          refine wp_seq_k ?_; intro K hK
          refine wp_seq_k ?_; intro K hK
          replace E := E.keep (e' := [(2, _), (6, _), (11, _), (12, _)]) (keep_cons rfl (keep_cons rfl (keep_cons rfl (keep_cons rfl (keep_nil)))))
          refine region_list ?_
          refine list_pure E rfl rfl (by decide) (rn_move E rfl rfl) ?_; clear E a; intro a E
          refine list_pure E rfl rfl (by decide) (by first | exact rn_neq E rfl rfl rfl | exact rn_neq_ptr_nil E rfl rfl rfl rfl | exact rn_neq_bool E rfl rfl rfl rfl | exact rn_neq_string E rfl rfl rfl) ?_; clear E a; intro a E
          refine list_pure E rfl rfl (by decide) (rn_move E rfl rfl) ?_; clear E a; intro a E
          refine guard_split E (t := 70) rfl (fun hb70 => ?_) (fun hb70 => ?_)
          · have hb70n := hb70; replace hb70n := Nrm.nrm hb70n
            refine list_guard_no E rfl rfl rfl rfl hb70 rfl (by decide) ?_; clear E a; intro a E
            refine list_guard_no E rfl rfl rfl rfl hb70 rfl (by decide) ?_; clear E a; intro a E
            refine list_pure E rfl rfl (by decide) (rn_pick_yes' E rfl rfl hb70 rfl) ?_; clear E a; intro a E
            refine wpList_nil ?_
            refine then_k hK ?_; clear hK; clear K
            refine if_true' E rfl rfl ?_
            refine wp_seq_k ?_; intro K hK
            refine region_list ?_
            refine list_pure E rfl rfl (by decide) (rn_build (cells := [_, _, _, _, _, _, _]) E rfl rfl rfl) ?_; clear E a; intro a E
            refine list_wp rfl (wp_storeN E S rfl rfl rfl rfl (by simp [Value.oneCell']) rfl (by repeat (first | exact pk1 | apply pick_tail)) (by simp) ?_); clear E S a; intro a w E S; simp only [List.take_succ_cons, List.take_zero, List.drop_succ_cons, List.drop_zero, List.cons_append, List.nil_append, List.append_nil, List.length_cons, List.length_nil, Nat.zero_add, Nat.add_zero] at S
            refine list_pure E rfl rfl (by decide) (rn_assign E rfl rfl) ?_; clear E a; intro a E
            refine wpList_nil ?_
            refine then_k hK ?_; clear hK; clear K
            refine wp_ret ?_
            refine then_ret ?_; clear hK; clear K
            refine ret_ct E rfl rfl rfl (S.get (by repeat (first | exact pk1 | apply pick_tail))) rfl ?_
            rw [if_neg (fun q => by have := q.1; have := q.2; simp_all)] at hv
            exact ⟨_, rfl, _, _, [], [], by rw [hv], by rw [hv]; exact Buf.nil _ _, by rw [hv]; exact Buf.nil _ _, (((((S.del (A := [(b2, _)]) (by repeat (first | exact pk1 | apply pick_tail))).del (A := A11) (by repeat (first | exact pk1 | apply pick_tail))).del (A := [(b6, _)]) (by repeat (first | exact pk1 | apply pick_tail))).del (A := C) (by repeat (first | exact pk1 | apply pick_tail))).del (A := B) (by repeat (first | exact pk1 | apply pick_tail))).addNil.addNil.tr⟩
          · have hb70n := hb70; replace hb70n := Nrm.nrm hb70n
            refine list_guard_yes E rfl rfl rfl rfl hb70 rfl (by decide) (rn_move E rfl rfl) ?_; clear E a; intro a E
            refine list_guard_yes E rfl rfl rfl rfl hb70 rfl (by decide) (rn_not E rfl rfl) ?_; clear E a; intro a E
            refine list_pure E rfl rfl (by decide) (rn_pick_no' E rfl rfl hb70 rfl) ?_; clear E a; intro a E
            refine wpList_nil ?_
            refine then_k hK ?_; clear hK; clear K
            refine if_bool E rfl (fun hb => ?_) (fun hb => ?_)
            · replace hb := Nrm.nrm hb
              refine wp_seq_k ?_; intro K hK
              refine region_list ?_
              refine list_pure E rfl rfl (by decide) (rn_build (cells := [_, _, _, _, _, _, _]) E rfl rfl rfl) ?_; clear E a; intro a E
              refine list_wp rfl (wp_storeN E S rfl rfl rfl rfl (by simp [Value.oneCell']) rfl (by repeat (first | exact pk1 | apply pick_tail)) (by simp) ?_); clear E S a; intro a w E S; simp only [List.take_succ_cons, List.take_zero, List.drop_succ_cons, List.drop_zero, List.cons_append, List.nil_append, List.append_nil, List.length_cons, List.length_nil, Nat.zero_add, Nat.add_zero] at S
              refine list_pure E rfl rfl (by decide) (rn_assign E rfl rfl) ?_; clear E a; intro a E
              refine wpList_nil ?_
              refine then_k hK ?_; clear hK; clear K
              refine wp_ret ?_
              refine then_ret ?_; clear hK; clear K
              refine ret_ct E rfl rfl rfl (S.get (by repeat (first | exact pk1 | apply pick_tail))) rfl ?_
              rw [if_neg (fun q => by have := q.1; have := q.2; simp_all)] at hv
              exact ⟨_, rfl, _, _, [], [], by rw [hv], by rw [hv]; exact Buf.nil _ _, by rw [hv]; exact Buf.nil _ _, (((((S.del (A := [(b2, _)]) (by repeat (first | exact pk1 | apply pick_tail))).del (A := A11) (by repeat (first | exact pk1 | apply pick_tail))).del (A := [(b6, _)]) (by repeat (first | exact pk1 | apply pick_tail))).del (A := C) (by repeat (first | exact pk1 | apply pick_tail))).del (A := B) (by repeat (first | exact pk1 | apply pick_tail))).addNil.addNil.tr⟩
            · replace hb := Nrm.nrm hb
              refine wp_skip ?_
              refine then_k hK ?_; clear hK; clear K
              refine wp_seq_k ?_; intro K hK
              refine region_list ?_
              refine list_pure E rfl rfl (by decide) (rn_load_blk (vs := [_, _, _, _, _, _, _]) E rfl rfl rfl (S.get (by repeat (first | exact pk1 | apply pick_tail))) rfl rfl) ?_; clear E a; intro a E
              refine list_wp rfl (wp_storeN E S rfl rfl rfl rfl (by simp [Value.oneCell']) rfl (by repeat (first | exact pk1 | apply pick_tail)) (by simp) ?_); clear E S a; intro a w E S; simp only [List.take_succ_cons, List.take_zero, List.drop_succ_cons, List.drop_zero, List.cons_append, List.nil_append, List.append_nil, List.length_cons, List.length_nil, Nat.zero_add, Nat.add_zero] at S
              refine list_pure E rfl rfl (by decide) (rn_assign E rfl rfl) ?_; clear E a; intro a E
              refine wpList_nil ?_
              refine then_k hK ?_; clear hK; clear K
              refine wp_ret ?_
              refine ret_ct E rfl rfl rfl (S.get (by repeat (first | exact pk1 | apply pick_tail))) rfl ?_
              rw [if_pos ⟨by omega, by simpa using hb⟩] at hv
              exact ⟨_, rfl, _, _, B, C, by rw [hv, hR], by rw [hv, hR]; show Buf B _ _ _ (tL s6.2 i).length _; rw [tL_length]; exact hB, by rw [hv, hR]; exact hC, ((((S.del (A := [(b2, _)]) (by repeat (first | exact pk1 | apply pick_tail))).del (A := A11) (by repeat (first | exact pk1 | apply pick_tail))).del (A := [(b6, _)]) (by repeat (first | exact pk1 | apply pick_tail))).front2 (A := B) (by repeat (first | exact pk1 | apply pick_tail)) (B := C) (by repeat (first | exact pk1 | apply pick_tail))).tr⟩
      · have hb44n := hb44; replace hb44n := Nrm.nrm hb44n
        refine list_guard_no E rfl rfl rfl rfl hb44 rfl (by decide) ?_; clear E a; intro a E
        refine list_guard_no E rfl rfl rfl rfl hb44 rfl (by decide) ?_; clear E a; intro a E
        refine list_pure E rfl rfl (by decide) (rn_pick_no' E rfl rfl hb44 rfl) ?_; clear E a; intro a E
        refine wpList_nil ?_
        refine then_k hK ?_; clear hK; clear K
        refine if_false' E rfl rfl ?_
        refine wp_exit ?_
        refine then_exit ?_; clear hK; clear K
        refine then_exit ?_
        refine in_exit ?_
        refine then_k hK ?_; clear hK; clear K
        refine wp_seq_k ?_; intro K hK
        obtain rfl : i = kk := by omega
        obtain ⟨adv, cv, rfl⟩ := hB.slice
        refine region_list ?_
        refine list_pure E rfl rfl (by decide) (rn_move E rfl rfl) ?_; clear E a; intro a E
        refine list_call E rfl rfl (by decide) rfl Tryd.func70 rfl (by kernel_rfl) rfl (dnum_ret p _ A' _ hA' 2 (by omega) (S.hp.sel (sel_cons (by repeat (first | exact pk1 | apply pick_tail)) (sel_nil _)))) ?_
        rintro v59 w ⟨A8, rfl, hA8, hT⟩; clear E a; intro a E
        have S := S.call1 (sel_cons (by repeat (first | exact pk1 | apply pick_tail)) (sel_nil _)) hT
        obtain ⟨s8, hs8⟩ : ∃ s8, s8 = (sT s6.2 i).num 2 := ⟨_, rfl⟩
        rw [show (((2 : Nat) : Int)) = 2 from rfl, ← hs8] at E hA8
        refine list_pure E rfl rfl (by decide) (rn_assign E rfl rfl) ?_; clear E a; intro a E
        refine wpList_nil ?_
        refine then_k hK ?_; clear hK; clear K
        refine wp_seq_k ?_; intro K hK
        refine region_list ?_
        refine list_pure E rfl rfl (by decide) (rn_move E rfl rfl) ?_; clear E a; intro a E
        refine list_pure E rfl rfl (by decide) (rn_move E rfl rfl) ?_; clear E a; intro a E
        refine list_call E rfl rfl (by decide) rfl Tryd.func72 rfl (by kernel_rfl) rfl (ubytes_ret p _ A8 _ hA8 (S.hp.sel (sel_cons (by repeat (first | exact pk1 | apply pick_tail)) (sel_nil _))) s8.1 (by rw [hs8]; have := num_lt (sT s6.2 i) 2; rw [show (((2 : Nat) : Int)) = 2 from rfl] at this; omega)) ?_
        rintro v62 w ⟨A11, C, hA11, hT, hC⟩; clear E a; intro a E
        have S := S.call2 (sel_cons (by repeat (first | exact pk1 | apply pick_tail)) (sel_nil _)) hT
        obtain ⟨s7, hs7⟩ : ∃ s7, s7 = s8.2.bytes s8.1 := ⟨_, rfl⟩
        rw [← hs7] at hA11 hC
        obtain ⟨ad, c, rfl⟩ := hC.slice
        have hBr : Rd B 1 (.slice adv i cv) (tL s6.2 i).length (sts (tL s6.2 i)) := by rw [tL_length]; exact hB.rd
        obtain ⟨R, hR⟩ : ∃ R : Rp, R = ⟨s1.1, s2.1, s3.1, s4.1, s5.1, tL s6.2 i, s7.1⟩ := ⟨_, rfl⟩
        have hP : rpP dataD ⟨(opX b).drop 1, 0, 0⟩ = (R, s7.2) := by subst hR hs7 hs8 hkk hs6 hs5 hs4 hs3 hs2 hs1; rfl
        have hbd := rpP_body h13
        rw [hP] at hbd
        have hv : rpF dataD b = if s7.2.done = 0 ∧ R.may then (R, 0) else (rp0, 230) := by unfold rpF; rw [if_neg (by omega), hbd.1, hbd.2]
        refine list_pure E rfl rfl (by decide) (by first | exact rn_fieldAddr0 (q := 6) E rfl rfl rfl | exact rn_fieldAddr (q := 6) E rfl rfl rfl) ?_; clear E a; intro a E
        refine list_wp rfl (wp_store1 E S rfl rfl rfl rfl rfl rfl (by repeat (first | exact pk1 | apply pick_tail)) (by first | exact Nat.le_of_ble_eq_true rfl | (simp; done) | (simp; omega)) ?_); clear E S a; intro a w E S; try dsimp only [List.set] at S
        refine wpList_nil ?_
        refine then_k hK ?_; clear hK; clear K
        refine wp_seq_k ?_; intro K hK
        refine region_list ?_
        refine list_pure E rfl rfl (by decide) (rn_move E rfl rfl) ?_; clear E a; intro a E
        refine list_call E rfl rfl (by decide) rfl Tryd.func73 rfl (by kernel_rfl) rfl (udone_ret p _ A11 _ hA11 (S.hp.sel (sel_cons (by repeat (first | exact pk1 | apply pick_tail)) (sel_nil _)))) ?_
        rintro v65 w ⟨rfl, hT⟩; clear E a; intro a E
        have S := S.call1 (sel_cons (by repeat (first | exact pk1 | apply pick_tail)) (sel_nil _)) hT
        refine list_pure E rfl rfl (by decide) (rn_assign E rfl rfl) ?_; clear E a; intro a E
        refine wpList_nil ?_
        refine then_k hK ?_; clear hK; clear K
        refine wp_seq_k ?_; intro K hK
        refine region_list ?_
        refine list_pure E rfl rfl (by decide) (rn_load_blk (vs := [_, _, _, _, _, _, _]) E rfl rfl rfl (S.get (by repeat (first | exact pk1 | apply pick_tail))) rfl rfl) ?_; clear E a; intro a E
        refine list_call E rfl rfl (by decide) rfl Tryd.func43 rfl (by kernel_rfl) rfl (danswers_ret ⟨s1.1, s2.1, s3.1, s4.1, s5.1, tL s6.2 i, s7.1⟩ B _ ad c hBr (by rw [tL_length]; omega) _ (S.hpone (show B ∈ _ from (by repeat (first | exact mm1 | assumption | apply List.Mem.tail))))) ?_
        rintro v67 w ⟨rfl, hT⟩; clear E a; intro a E
        have S := S.callone (show B ∈ _ from (by repeat (first | exact mm1 | assumption | apply List.Mem.tail))) hT; rw [← hR] at E
        refine list_pure E rfl rfl (by decide) (rn_assign E rfl rfl) ?_; clear E a; intro a E
        refine wpList_nil ?_
        refine then_k hK ?_; clear hK; clear K
        refine wp_seq_k ?_; intro K hK
        refine wp_seq_k ?_; intro K hK
        replace E := E.keep (e' := [(2, _), (6, _), (11, _), (12, _)]) (keep_cons rfl (keep_cons rfl (keep_cons rfl (keep_cons rfl (keep_nil)))))
        refine region_list ?_
        refine list_pure E rfl rfl (by decide) (rn_move E rfl rfl) ?_; clear E a; intro a E
        refine list_pure E rfl rfl (by decide) (by first | exact rn_neq E rfl rfl rfl | exact rn_neq_ptr_nil E rfl rfl rfl rfl | exact rn_neq_bool E rfl rfl rfl rfl | exact rn_neq_string E rfl rfl rfl) ?_; clear E a; intro a E
        refine list_pure E rfl rfl (by decide) (rn_move E rfl rfl) ?_; clear E a; intro a E
        refine guard_split E (t := 70) rfl (fun hb70 => ?_) (fun hb70 => ?_)
        · have hb70n := hb70; replace hb70n := Nrm.nrm hb70n
          refine list_guard_no E rfl rfl rfl rfl hb70 rfl (by decide) ?_; clear E a; intro a E
          refine list_guard_no E rfl rfl rfl rfl hb70 rfl (by decide) ?_; clear E a; intro a E
          refine list_pure E rfl rfl (by decide) (rn_pick_yes' E rfl rfl hb70 rfl) ?_; clear E a; intro a E
          refine wpList_nil ?_
          refine then_k hK ?_; clear hK; clear K
          refine if_true' E rfl rfl ?_
          refine wp_seq_k ?_; intro K hK
          refine region_list ?_
          refine list_pure E rfl rfl (by decide) (rn_build (cells := [_, _, _, _, _, _, _]) E rfl rfl rfl) ?_; clear E a; intro a E
          refine list_wp rfl (wp_storeN E S rfl rfl rfl rfl (by simp [Value.oneCell']) rfl (by repeat (first | exact pk1 | apply pick_tail)) (by simp) ?_); clear E S a; intro a w E S; simp only [List.take_succ_cons, List.take_zero, List.drop_succ_cons, List.drop_zero, List.cons_append, List.nil_append, List.append_nil, List.length_cons, List.length_nil, Nat.zero_add, Nat.add_zero] at S
          refine list_pure E rfl rfl (by decide) (rn_assign E rfl rfl) ?_; clear E a; intro a E
          refine wpList_nil ?_
          refine then_k hK ?_; clear hK; clear K
          refine wp_ret ?_
          refine then_ret ?_; clear hK; clear K
          refine ret_ct E rfl rfl rfl (S.get (by repeat (first | exact pk1 | apply pick_tail))) rfl ?_
          rw [if_neg (fun q => by have := q.1; have := q.2; simp_all)] at hv
          exact ⟨_, rfl, _, _, [], [], by rw [hv], by rw [hv]; exact Buf.nil _ _, by rw [hv]; exact Buf.nil _ _, (((((S.del (A := [(b2, _)]) (by repeat (first | exact pk1 | apply pick_tail))).del (A := A11) (by repeat (first | exact pk1 | apply pick_tail))).del (A := [(b6, _)]) (by repeat (first | exact pk1 | apply pick_tail))).del (A := C) (by repeat (first | exact pk1 | apply pick_tail))).del (A := B) (by repeat (first | exact pk1 | apply pick_tail))).addNil.addNil.tr⟩
        · have hb70n := hb70; replace hb70n := Nrm.nrm hb70n
          refine list_guard_yes E rfl rfl rfl rfl hb70 rfl (by decide) (rn_move E rfl rfl) ?_; clear E a; intro a E
          refine list_guard_yes E rfl rfl rfl rfl hb70 rfl (by decide) (rn_not E rfl rfl) ?_; clear E a; intro a E
          refine list_pure E rfl rfl (by decide) (rn_pick_no' E rfl rfl hb70 rfl) ?_; clear E a; intro a E
          refine wpList_nil ?_
          refine then_k hK ?_; clear hK; clear K
          refine if_bool E rfl (fun hb => ?_) (fun hb => ?_)
          · replace hb := Nrm.nrm hb
            refine wp_seq_k ?_; intro K hK
            refine region_list ?_
            refine list_pure E rfl rfl (by decide) (rn_build (cells := [_, _, _, _, _, _, _]) E rfl rfl rfl) ?_; clear E a; intro a E
            refine list_wp rfl (wp_storeN E S rfl rfl rfl rfl (by simp [Value.oneCell']) rfl (by repeat (first | exact pk1 | apply pick_tail)) (by simp) ?_); clear E S a; intro a w E S; simp only [List.take_succ_cons, List.take_zero, List.drop_succ_cons, List.drop_zero, List.cons_append, List.nil_append, List.append_nil, List.length_cons, List.length_nil, Nat.zero_add, Nat.add_zero] at S
            refine list_pure E rfl rfl (by decide) (rn_assign E rfl rfl) ?_; clear E a; intro a E
            refine wpList_nil ?_
            refine then_k hK ?_; clear hK; clear K
            refine wp_ret ?_
            refine then_ret ?_; clear hK; clear K
            refine ret_ct E rfl rfl rfl (S.get (by repeat (first | exact pk1 | apply pick_tail))) rfl ?_
            rw [if_neg (fun q => by have := q.1; have := q.2; simp_all)] at hv
            exact ⟨_, rfl, _, _, [], [], by rw [hv], by rw [hv]; exact Buf.nil _ _, by rw [hv]; exact Buf.nil _ _, (((((S.del (A := [(b2, _)]) (by repeat (first | exact pk1 | apply pick_tail))).del (A := A11) (by repeat (first | exact pk1 | apply pick_tail))).del (A := [(b6, _)]) (by repeat (first | exact pk1 | apply pick_tail))).del (A := C) (by repeat (first | exact pk1 | apply pick_tail))).del (A := B) (by repeat (first | exact pk1 | apply pick_tail))).addNil.addNil.tr⟩
          · replace hb := Nrm.nrm hb
            refine wp_skip ?_
            refine then_k hK ?_; clear hK; clear K
            refine wp_seq_k ?_; intro K hK
            refine region_list ?_
            refine list_pure E rfl rfl (by decide) (rn_load_blk (vs := [_, _, _, _, _, _, _]) E rfl rfl rfl (S.get (by repeat (first | exact pk1 | apply pick_tail))) rfl rfl) ?_; clear E a; intro a E
            refine list_wp rfl (wp_storeN E S rfl rfl rfl rfl (by simp [Value.oneCell']) rfl (by repeat (first | exact pk1 | apply pick_tail)) (by simp) ?_); clear E S a; intro a w E S; simp only [List.take_succ_cons, List.take_zero, List.drop_succ_cons, List.drop_zero, List.cons_append, List.nil_append, List.append_nil, List.length_cons, List.length_nil, Nat.zero_add, Nat.add_zero] at S
            refine list_pure E rfl rfl (by decide) (rn_assign E rfl rfl) ?_; clear E a; intro a E
            refine wpList_nil ?_
            refine then_k hK ?_; clear hK; clear K
            refine wp_ret ?_
            refine ret_ct E rfl rfl rfl (S.get (by repeat (first | exact pk1 | apply pick_tail))) rfl ?_
            rw [if_pos ⟨by omega, by simpa using hb⟩] at hv
            exact ⟨_, rfl, _, _, B, C, by rw [hv, hR], by rw [hv, hR]; show Buf B _ _ _ (tL s6.2 i).length _; rw [tL_length]; exact hB, by rw [hv, hR]; exact hC, ((((S.del (A := [(b2, _)]) (by repeat (first | exact pk1 | apply pick_tail))).del (A := A11) (by repeat (first | exact pk1 | apply pick_tail))).del (A := [(b6, _)]) (by repeat (first | exact pk1 | apply pick_tail))).front2 (A := B) (by repeat (first | exact pk1 | apply pick_tail)) (B := C) (by repeat (first | exact pk1 | apply pick_tail))).tr⟩

theorem samerq_ret (r s : Rq) (v u : Value) (C D : Chunk) (hC : Rd C 1 v r.data.length (byt r.data)) (hD : Rd D 1 u s.data.length (byt s.data)) (As : List Chunk) (hCA : C ∈ As) (hDA : D ∈ As) (w0 : World) (H : Hp w0 As) :
    Ret Tryd.prog 19 #[rqagg r v, rqagg s u] w0 fun x w' => x = .bool (decide (r = s)) ∧ Trs w0 w' As As := by
  have S := St.begin H
  obtain ⟨ad, c, rfl⟩ := hC.slice
  obtain ⟨ad2, c2, rfl⟩ := hD.slice
  refine enter2 77 Tryd.func19 rfl rfl (by decide) ?_; intro a E
  refine wp_seq_k ?_; intro K hK
  refine region_list ?_
  refine list_wp rfl (wp_box E S rfl rfl (by decide) rfl rfl ?_); clear E S a; intro a w b2 E S
  refine list_wp rfl (wp_box E S rfl rfl (by decide) rfl rfl ?_); clear E S a; intro a w b3 E S
  refine list_pure E rfl rfl (by decide) (rn_assign E rfl rfl) ?_; clear E a; intro a E
  refine wpList_nil ?_
  refine then_k hK ?_; clear hK; clear K
  refine wp_seq_k ?_; intro K hK
  refine wp_join (fun (a : Act) (w' : World) => ∃ bt : Bool, (bt = true ↔ r.ses = s.ses ∧ r.id = s.id ∧ r.verb = s.verb ∧ r.at_ = s.at_ ∧ r.many = s.many) ∧ St w0 As w' ([(b3, cel [.int .i64 s.ses, .int .i64 s.id, .int .i64 s.verb, str s.name, str s.item, str s.other, str s.path, .int .i64 s.at_, .int .i64 s.many, .slice ad2 s.data.length c2] 24)] :: [(b2, cel [.int .i64 r.ses, .int .i64 r.id, .int .i64 r.verb, str r.name, str r.item, str r.other, str r.path, .int .i64 r.at_, .int .i64 r.many, .slice ad r.data.length c] 24)] :: As) ∧ Fr a 77 [(2, ptr b2), (3, ptr b3), (5, .bool bt)]) ?_ ?_
  · skip
    refine region_list ?_
    refine list_pure E rfl rfl (by decide) (by first | exact rn_fieldAddr0 (q := 0) E rfl rfl rfl | exact rn_fieldAddr (q := 0) E rfl rfl rfl) ?_; clear E a; intro a E
    refine list_pure E rfl rfl (by decide) (by first | exact rn_load E rfl rfl rfl (S.get (by repeat (first | exact pk1 | apply pick_tail))) rfl | exact rn_loadc E rfl rfl rfl (by assumption)) ?_; clear E a; intro a E
    refine list_pure E rfl rfl (by decide) (by first | exact rn_fieldAddr0 (q := 0) E rfl rfl rfl | exact rn_fieldAddr (q := 0) E rfl rfl rfl) ?_; clear E a; intro a E
    refine list_pure E rfl rfl (by decide) (by first | exact rn_load E rfl rfl rfl (S.get (by repeat (first | exact pk1 | apply pick_tail))) rfl | exact rn_loadc E rfl rfl rfl (by assumption)) ?_; clear E a; intro a E
    refine list_pure E rfl rfl (by decide) (by first | exact rn_eql E rfl rfl rfl | exact rn_eql_ptr_nil E rfl rfl rfl rfl | exact rn_eql_bool E rfl rfl rfl rfl | exact rn_eql_string E rfl rfl rfl) ?_; clear E a; intro a E
    refine list_pure E rfl rfl (by decide) (rn_move E rfl rfl) ?_; clear E a; intro a E
    refine guard_split E (t := 11) rfl (fun hb11 => ?_) (fun hb11 => ?_)
    · have hb11n := hb11; replace hb11n := Nrm.nrm hb11n
      refine list_guard_yes E rfl rfl rfl rfl hb11 rfl (by decide) (by first | exact rn_fieldAddr0 (q := 1) E rfl rfl rfl | exact rn_fieldAddr (q := 1) E rfl rfl rfl) ?_; clear E a; intro a E
      refine list_guard_yes E rfl rfl rfl rfl hb11 rfl (by decide) (by first | exact rn_load E rfl rfl rfl (S.get (by repeat (first | exact pk1 | apply pick_tail))) rfl | exact rn_loadc E rfl rfl rfl (by assumption)) ?_; clear E a; intro a E
      refine list_guard_yes E rfl rfl rfl rfl hb11 rfl (by decide) (by first | exact rn_fieldAddr0 (q := 1) E rfl rfl rfl | exact rn_fieldAddr (q := 1) E rfl rfl rfl) ?_; clear E a; intro a E
      refine list_guard_yes E rfl rfl rfl rfl hb11 rfl (by decide) (by first | exact rn_load E rfl rfl rfl (S.get (by repeat (first | exact pk1 | apply pick_tail))) rfl | exact rn_loadc E rfl rfl rfl (by assumption)) ?_; clear E a; intro a E
      refine list_guard_yes E rfl rfl rfl rfl hb11 rfl (by decide) (by first | exact rn_eql E rfl rfl rfl | exact rn_eql_ptr_nil E rfl rfl rfl rfl | exact rn_eql_bool E rfl rfl rfl rfl | exact rn_eql_string E rfl rfl rfl) ?_; clear E a; intro a E
      refine list_pure E rfl rfl (by decide) (rn_pick_yes' E rfl rfl hb11 rfl) ?_; clear E a; intro a E
      refine list_pure E rfl rfl (by decide) (rn_move E rfl rfl) ?_; clear E a; intro a E
      refine guard_split E (t := 18) rfl (fun hb18 => ?_) (fun hb18 => ?_)
      · have hb18n := hb18; replace hb18n := Nrm.nrm hb18n
        refine list_guard_yes E rfl rfl rfl rfl hb18 rfl (by decide) (by first | exact rn_fieldAddr0 (q := 2) E rfl rfl rfl | exact rn_fieldAddr (q := 2) E rfl rfl rfl) ?_; clear E a; intro a E
        refine list_guard_yes E rfl rfl rfl rfl hb18 rfl (by decide) (by first | exact rn_load E rfl rfl rfl (S.get (by repeat (first | exact pk1 | apply pick_tail))) rfl | exact rn_loadc E rfl rfl rfl (by assumption)) ?_; clear E a; intro a E
        refine list_guard_yes E rfl rfl rfl rfl hb18 rfl (by decide) (by first | exact rn_fieldAddr0 (q := 2) E rfl rfl rfl | exact rn_fieldAddr (q := 2) E rfl rfl rfl) ?_; clear E a; intro a E
        refine list_guard_yes E rfl rfl rfl rfl hb18 rfl (by decide) (by first | exact rn_load E rfl rfl rfl (S.get (by repeat (first | exact pk1 | apply pick_tail))) rfl | exact rn_loadc E rfl rfl rfl (by assumption)) ?_; clear E a; intro a E
        refine list_guard_yes E rfl rfl rfl rfl hb18 rfl (by decide) (by first | exact rn_eql E rfl rfl rfl | exact rn_eql_ptr_nil E rfl rfl rfl rfl | exact rn_eql_bool E rfl rfl rfl rfl | exact rn_eql_string E rfl rfl rfl) ?_; clear E a; intro a E
        refine list_pure E rfl rfl (by decide) (rn_pick_yes' E rfl rfl hb18 rfl) ?_; clear E a; intro a E
        refine list_pure E rfl rfl (by decide) (rn_move E rfl rfl) ?_; clear E a; intro a E
        refine guard_split E (t := 25) rfl (fun hb25 => ?_) (fun hb25 => ?_)
        · have hb25n := hb25; replace hb25n := Nrm.nrm hb25n
          refine list_guard_yes E rfl rfl rfl rfl hb25 rfl (by decide) (by first | exact rn_fieldAddr0 (q := 7) E rfl rfl rfl | exact rn_fieldAddr (q := 7) E rfl rfl rfl) ?_; clear E a; intro a E
          refine list_guard_yes E rfl rfl rfl rfl hb25 rfl (by decide) (by first | exact rn_load E rfl rfl rfl (S.get (by repeat (first | exact pk1 | apply pick_tail))) rfl | exact rn_loadc E rfl rfl rfl (by assumption)) ?_; clear E a; intro a E
          refine list_guard_yes E rfl rfl rfl rfl hb25 rfl (by decide) (by first | exact rn_fieldAddr0 (q := 7) E rfl rfl rfl | exact rn_fieldAddr (q := 7) E rfl rfl rfl) ?_; clear E a; intro a E
          refine list_guard_yes E rfl rfl rfl rfl hb25 rfl (by decide) (by first | exact rn_load E rfl rfl rfl (S.get (by repeat (first | exact pk1 | apply pick_tail))) rfl | exact rn_loadc E rfl rfl rfl (by assumption)) ?_; clear E a; intro a E
          refine list_guard_yes E rfl rfl rfl rfl hb25 rfl (by decide) (by first | exact rn_eql E rfl rfl rfl | exact rn_eql_ptr_nil E rfl rfl rfl rfl | exact rn_eql_bool E rfl rfl rfl rfl | exact rn_eql_string E rfl rfl rfl) ?_; clear E a; intro a E
          refine list_pure E rfl rfl (by decide) (rn_pick_yes' E rfl rfl hb25 rfl) ?_; clear E a; intro a E
          refine list_pure E rfl rfl (by decide) (rn_move E rfl rfl) ?_; clear E a; intro a E
          refine guard_split E (t := 32) rfl (fun hb32 => ?_) (fun hb32 => ?_)
          · have hb32n := hb32; replace hb32n := Nrm.nrm hb32n
            refine list_guard_yes E rfl rfl rfl rfl hb32 rfl (by decide) (by first | exact rn_fieldAddr0 (q := 8) E rfl rfl rfl | exact rn_fieldAddr (q := 8) E rfl rfl rfl) ?_; clear E a; intro a E
            refine list_guard_yes E rfl rfl rfl rfl hb32 rfl (by decide) (by first | exact rn_load E rfl rfl rfl (S.get (by repeat (first | exact pk1 | apply pick_tail))) rfl | exact rn_loadc E rfl rfl rfl (by assumption)) ?_; clear E a; intro a E
            refine list_guard_yes E rfl rfl rfl rfl hb32 rfl (by decide) (by first | exact rn_fieldAddr0 (q := 8) E rfl rfl rfl | exact rn_fieldAddr (q := 8) E rfl rfl rfl) ?_; clear E a; intro a E
            refine list_guard_yes E rfl rfl rfl rfl hb32 rfl (by decide) (by first | exact rn_load E rfl rfl rfl (S.get (by repeat (first | exact pk1 | apply pick_tail))) rfl | exact rn_loadc E rfl rfl rfl (by assumption)) ?_; clear E a; intro a E
            refine list_guard_yes E rfl rfl rfl rfl hb32 rfl (by decide) (by first | exact rn_eql E rfl rfl rfl | exact rn_eql_ptr_nil E rfl rfl rfl rfl | exact rn_eql_bool E rfl rfl rfl rfl | exact rn_eql_string E rfl rfl rfl) ?_; clear E a; intro a E
            refine list_pure E rfl rfl (by decide) (rn_pick_yes' E rfl rfl hb32 rfl) ?_; clear E a; intro a E
            refine list_pure E rfl rfl (by decide) (rn_assign E rfl rfl) ?_; clear E a; intro a E
            refine wpList_nil ?_
            refine joined_here ?_
            exact ⟨_, by simp; omega, S, E.keep (keep_cons rfl (keep_cons rfl (keep_cons rfl keep_nil)))⟩
          · have hb32n := hb32; replace hb32n := Nrm.nrm hb32n
            refine list_guard_no E rfl rfl rfl rfl hb32 rfl (by decide) ?_; clear E a; intro a E
            refine list_guard_no E rfl rfl rfl rfl hb32 rfl (by decide) ?_; clear E a; intro a E
            refine list_guard_no E rfl rfl rfl rfl hb32 rfl (by decide) ?_; clear E a; intro a E
            refine list_guard_no E rfl rfl rfl rfl hb32 rfl (by decide) ?_; clear E a; intro a E
            refine list_guard_no E rfl rfl rfl rfl hb32 rfl (by decide) ?_; clear E a; intro a E
            refine list_pure E rfl rfl (by decide) (rn_pick_no' E rfl rfl hb32 rfl) ?_; clear E a; intro a E
            refine list_pure E rfl rfl (by decide) (rn_assign E rfl rfl) ?_; clear E a; intro a E
            refine wpList_nil ?_
            refine joined_here ?_
            exact ⟨_, by simp; omega, S, E.keep (keep_cons rfl (keep_cons rfl (keep_cons rfl keep_nil)))⟩
        · have hb25n := hb25; replace hb25n := Nrm.nrm hb25n
          refine list_guard_no E rfl rfl rfl rfl hb25 rfl (by decide) ?_; clear E a; intro a E
          refine list_guard_no E rfl rfl rfl rfl hb25 rfl (by decide) ?_; clear E a; intro a E
          refine list_guard_no E rfl rfl rfl rfl hb25 rfl (by decide) ?_; clear E a; intro a E
          refine list_guard_no E rfl rfl rfl rfl hb25 rfl (by decide) ?_; clear E a; intro a E
          refine list_guard_no E rfl rfl rfl rfl hb25 rfl (by decide) ?_; clear E a; intro a E
          refine list_pure E rfl rfl (by decide) (rn_pick_no' E rfl rfl hb25 rfl) ?_; clear E a; intro a E
          refine list_pure E rfl rfl (by decide) (rn_move E rfl rfl) ?_; clear E a; intro a E
          refine list_guard_no E rfl rfl rfl rfl rfl rfl (by decide) ?_; clear E a; intro a E
          refine list_guard_no E rfl rfl rfl rfl rfl rfl (by decide) ?_; clear E a; intro a E
          refine list_guard_no E rfl rfl rfl rfl rfl rfl (by decide) ?_; clear E a; intro a E
          refine list_guard_no E rfl rfl rfl rfl rfl rfl (by decide) ?_; clear E a; intro a E
          refine list_guard_no E rfl rfl rfl rfl rfl rfl (by decide) ?_; clear E a; intro a E
          refine list_pure E rfl rfl (by decide) (rn_pick_no' E rfl rfl rfl rfl) ?_; clear E a; intro a E
          refine list_pure E rfl rfl (by decide) (rn_assign E rfl rfl) ?_; clear E a; intro a E
          refine wpList_nil ?_
          refine joined_here ?_
          exact ⟨_, by simp; omega, S, E.keep (keep_cons rfl (keep_cons rfl (keep_cons rfl keep_nil)))⟩
      · have hb18n := hb18; replace hb18n := Nrm.nrm hb18n
        refine list_guard_no E rfl rfl rfl rfl hb18 rfl (by decide) ?_; clear E a; intro a E
        refine list_guard_no E rfl rfl rfl rfl hb18 rfl (by decide) ?_; clear E a; intro a E
        refine list_guard_no E rfl rfl rfl rfl hb18 rfl (by decide) ?_; clear E a; intro a E
        refine list_guard_no E rfl rfl rfl rfl hb18 rfl (by decide) ?_; clear E a; intro a E
        refine list_guard_no E rfl rfl rfl rfl hb18 rfl (by decide) ?_; clear E a; intro a E
        refine list_pure E rfl rfl (by decide) (rn_pick_no' E rfl rfl hb18 rfl) ?_; clear E a; intro a E
        refine list_pure E rfl rfl (by decide) (rn_move E rfl rfl) ?_; clear E a; intro a E
        refine list_guard_no E rfl rfl rfl rfl rfl rfl (by decide) ?_; clear E a; intro a E
        refine list_guard_no E rfl rfl rfl rfl rfl rfl (by decide) ?_; clear E a; intro a E
        refine list_guard_no E rfl rfl rfl rfl rfl rfl (by decide) ?_; clear E a; intro a E
        refine list_guard_no E rfl rfl rfl rfl rfl rfl (by decide) ?_; clear E a; intro a E
        refine list_guard_no E rfl rfl rfl rfl rfl rfl (by decide) ?_; clear E a; intro a E
        refine list_pure E rfl rfl (by decide) (rn_pick_no' E rfl rfl rfl rfl) ?_; clear E a; intro a E
        refine list_pure E rfl rfl (by decide) (rn_move E rfl rfl) ?_; clear E a; intro a E
        refine list_guard_no E rfl rfl rfl rfl rfl rfl (by decide) ?_; clear E a; intro a E
        refine list_guard_no E rfl rfl rfl rfl rfl rfl (by decide) ?_; clear E a; intro a E
        refine list_guard_no E rfl rfl rfl rfl rfl rfl (by decide) ?_; clear E a; intro a E
        refine list_guard_no E rfl rfl rfl rfl rfl rfl (by decide) ?_; clear E a; intro a E
        refine list_guard_no E rfl rfl rfl rfl rfl rfl (by decide) ?_; clear E a; intro a E
        refine list_pure E rfl rfl (by decide) (rn_pick_no' E rfl rfl rfl rfl) ?_; clear E a; intro a E
        refine list_pure E rfl rfl (by decide) (rn_assign E rfl rfl) ?_; clear E a; intro a E
        refine wpList_nil ?_
        refine joined_here ?_
        exact ⟨_, by simp; omega, S, E.keep (keep_cons rfl (keep_cons rfl (keep_cons rfl keep_nil)))⟩
    · have hb11n := hb11; replace hb11n := Nrm.nrm hb11n
      refine list_guard_no E rfl rfl rfl rfl hb11 rfl (by decide) ?_; clear E a; intro a E
      refine list_guard_no E rfl rfl rfl rfl hb11 rfl (by decide) ?_; clear E a; intro a E
      refine list_guard_no E rfl rfl rfl rfl hb11 rfl (by decide) ?_; clear E a; intro a E
      refine list_guard_no E rfl rfl rfl rfl hb11 rfl (by decide) ?_; clear E a; intro a E
      refine list_guard_no E rfl rfl rfl rfl hb11 rfl (by decide) ?_; clear E a; intro a E
      refine list_pure E rfl rfl (by decide) (rn_pick_no' E rfl rfl hb11 rfl) ?_; clear E a; intro a E
      refine list_pure E rfl rfl (by decide) (rn_move E rfl rfl) ?_; clear E a; intro a E
      refine list_guard_no E rfl rfl rfl rfl rfl rfl (by decide) ?_; clear E a; intro a E
      refine list_guard_no E rfl rfl rfl rfl rfl rfl (by decide) ?_; clear E a; intro a E
      refine list_guard_no E rfl rfl rfl rfl rfl rfl (by decide) ?_; clear E a; intro a E
      refine list_guard_no E rfl rfl rfl rfl rfl rfl (by decide) ?_; clear E a; intro a E
      refine list_guard_no E rfl rfl rfl rfl rfl rfl (by decide) ?_; clear E a; intro a E
      refine list_pure E rfl rfl (by decide) (rn_pick_no' E rfl rfl rfl rfl) ?_; clear E a; intro a E
      refine list_pure E rfl rfl (by decide) (rn_move E rfl rfl) ?_; clear E a; intro a E
      refine list_guard_no E rfl rfl rfl rfl rfl rfl (by decide) ?_; clear E a; intro a E
      refine list_guard_no E rfl rfl rfl rfl rfl rfl (by decide) ?_; clear E a; intro a E
      refine list_guard_no E rfl rfl rfl rfl rfl rfl (by decide) ?_; clear E a; intro a E
      refine list_guard_no E rfl rfl rfl rfl rfl rfl (by decide) ?_; clear E a; intro a E
      refine list_guard_no E rfl rfl rfl rfl rfl rfl (by decide) ?_; clear E a; intro a E
      refine list_pure E rfl rfl (by decide) (rn_pick_no' E rfl rfl rfl rfl) ?_; clear E a; intro a E
      refine list_pure E rfl rfl (by decide) (rn_move E rfl rfl) ?_; clear E a; intro a E
      refine list_guard_no E rfl rfl rfl rfl rfl rfl (by decide) ?_; clear E a; intro a E
      refine list_guard_no E rfl rfl rfl rfl rfl rfl (by decide) ?_; clear E a; intro a E
      refine list_guard_no E rfl rfl rfl rfl rfl rfl (by decide) ?_; clear E a; intro a E
      refine list_guard_no E rfl rfl rfl rfl rfl rfl (by decide) ?_; clear E a; intro a E
      refine list_guard_no E rfl rfl rfl rfl rfl rfl (by decide) ?_; clear E a; intro a E
      refine list_pure E rfl rfl (by decide) (rn_pick_no' E rfl rfl rfl rfl) ?_; clear E a; intro a E
      refine list_pure E rfl rfl (by decide) (rn_assign E rfl rfl) ?_; clear E a; intro a E
      refine wpList_nil ?_
      refine joined_here ?_
      exact ⟨_, by simp; omega, S, E.keep (keep_cons rfl (keep_cons rfl (keep_cons rfl keep_nil)))⟩
  · clear E S a; intro a w J; obtain ⟨bt, hbt, S, E⟩ := J
    refine then_k hK ?_; clear hK; clear K
    refine wp_seq_k ?_; intro K hK
    refine region_list ?_
    refine list_pure E rfl rfl (by decide) (rn_move E rfl rfl) ?_; clear E a; intro a E
    refine list_pure E rfl rfl (by decide) (rn_move E rfl rfl) ?_; clear E a; intro a E
    refine guard_split E (t := 40) rfl (fun hb40 => ?_) (fun hb40 => ?_)
    · have hb40n := hb40; replace hb40n := Nrm.nrm hb40n
      refine list_guard_yes E rfl rfl rfl rfl hb40 rfl (by decide) (by first | exact rn_fieldAddr0 (q := 3) E rfl rfl rfl | exact rn_fieldAddr (q := 3) E rfl rfl rfl) ?_; clear E a; intro a E
      refine list_guard_yes E rfl rfl rfl rfl hb40 rfl (by decide) (by first | exact rn_load E rfl rfl rfl (S.get (by repeat (first | exact pk1 | apply pick_tail))) rfl | exact rn_loadc E rfl rfl rfl (by assumption)) ?_; clear E a; intro a E
      refine list_guard_yes E rfl rfl rfl rfl hb40 rfl (by decide) (by first | exact rn_fieldAddr0 (q := 3) E rfl rfl rfl | exact rn_fieldAddr (q := 3) E rfl rfl rfl) ?_; clear E a; intro a E
      refine list_guard_yes E rfl rfl rfl rfl hb40 rfl (by decide) (by first | exact rn_load E rfl rfl rfl (S.get (by repeat (first | exact pk1 | apply pick_tail))) rfl | exact rn_loadc E rfl rfl rfl (by assumption)) ?_; clear E a; intro a E
      refine list_guard_yes E rfl rfl rfl rfl hb40 rfl (by decide) (by first | exact rn_eql E rfl rfl rfl | exact rn_eql_ptr_nil E rfl rfl rfl rfl | exact rn_eql_bool E rfl rfl rfl rfl | exact rn_eql_string E rfl rfl rfl) ?_; clear E a; intro a E
      refine list_pure E rfl rfl (by decide) (rn_pick_yes' E rfl rfl hb40 rfl) ?_; clear E a; intro a E
      refine list_pure E rfl rfl (by decide) (rn_move E rfl rfl) ?_; clear E a; intro a E
      refine guard_split E (t := 47) rfl (fun hb47 => ?_) (fun hb47 => ?_)
      · have hb47n := hb47; replace hb47n := Nrm.nrm hb47n
        refine list_guard_yes E rfl rfl rfl rfl hb47 rfl (by decide) (by first | exact rn_fieldAddr0 (q := 4) E rfl rfl rfl | exact rn_fieldAddr (q := 4) E rfl rfl rfl) ?_; clear E a; intro a E
        refine list_guard_yes E rfl rfl rfl rfl hb47 rfl (by decide) (by first | exact rn_load E rfl rfl rfl (S.get (by repeat (first | exact pk1 | apply pick_tail))) rfl | exact rn_loadc E rfl rfl rfl (by assumption)) ?_; clear E a; intro a E
        refine list_guard_yes E rfl rfl rfl rfl hb47 rfl (by decide) (by first | exact rn_fieldAddr0 (q := 4) E rfl rfl rfl | exact rn_fieldAddr (q := 4) E rfl rfl rfl) ?_; clear E a; intro a E
        refine list_guard_yes E rfl rfl rfl rfl hb47 rfl (by decide) (by first | exact rn_load E rfl rfl rfl (S.get (by repeat (first | exact pk1 | apply pick_tail))) rfl | exact rn_loadc E rfl rfl rfl (by assumption)) ?_; clear E a; intro a E
        refine list_guard_yes E rfl rfl rfl rfl hb47 rfl (by decide) (by first | exact rn_eql E rfl rfl rfl | exact rn_eql_ptr_nil E rfl rfl rfl rfl | exact rn_eql_bool E rfl rfl rfl rfl | exact rn_eql_string E rfl rfl rfl) ?_; clear E a; intro a E
        refine list_pure E rfl rfl (by decide) (rn_pick_yes' E rfl rfl hb47 rfl) ?_; clear E a; intro a E
        refine list_pure E rfl rfl (by decide) (rn_move E rfl rfl) ?_; clear E a; intro a E
        refine guard_split E (t := 54) rfl (fun hb54 => ?_) (fun hb54 => ?_)
        · have hb54n := hb54; replace hb54n := Nrm.nrm hb54n
          refine list_guard_yes E rfl rfl rfl rfl hb54 rfl (by decide) (by first | exact rn_fieldAddr0 (q := 5) E rfl rfl rfl | exact rn_fieldAddr (q := 5) E rfl rfl rfl) ?_; clear E a; intro a E
          refine list_guard_yes E rfl rfl rfl rfl hb54 rfl (by decide) (by first | exact rn_load E rfl rfl rfl (S.get (by repeat (first | exact pk1 | apply pick_tail))) rfl | exact rn_loadc E rfl rfl rfl (by assumption)) ?_; clear E a; intro a E
          refine list_guard_yes E rfl rfl rfl rfl hb54 rfl (by decide) (by first | exact rn_fieldAddr0 (q := 5) E rfl rfl rfl | exact rn_fieldAddr (q := 5) E rfl rfl rfl) ?_; clear E a; intro a E
          refine list_guard_yes E rfl rfl rfl rfl hb54 rfl (by decide) (by first | exact rn_load E rfl rfl rfl (S.get (by repeat (first | exact pk1 | apply pick_tail))) rfl | exact rn_loadc E rfl rfl rfl (by assumption)) ?_; clear E a; intro a E
          refine list_guard_yes E rfl rfl rfl rfl hb54 rfl (by decide) (by first | exact rn_eql E rfl rfl rfl | exact rn_eql_ptr_nil E rfl rfl rfl rfl | exact rn_eql_bool E rfl rfl rfl rfl | exact rn_eql_string E rfl rfl rfl) ?_; clear E a; intro a E
          refine list_pure E rfl rfl (by decide) (rn_pick_yes' E rfl rfl hb54 rfl) ?_; clear E a; intro a E
          refine list_pure E rfl rfl (by decide) (rn_move E rfl rfl) ?_; clear E a; intro a E
          refine guard_split E (t := 61) rfl (fun hb61 => ?_) (fun hb61 => ?_)
          · have hb61n := hb61; replace hb61n := Nrm.nrm hb61n
            refine list_guard_yes E rfl rfl rfl rfl hb61 rfl (by decide) (by first | exact rn_fieldAddr0 (q := 6) E rfl rfl rfl | exact rn_fieldAddr (q := 6) E rfl rfl rfl) ?_; clear E a; intro a E
            refine list_guard_yes E rfl rfl rfl rfl hb61 rfl (by decide) (by first | exact rn_load E rfl rfl rfl (S.get (by repeat (first | exact pk1 | apply pick_tail))) rfl | exact rn_loadc E rfl rfl rfl (by assumption)) ?_; clear E a; intro a E
            refine list_guard_yes E rfl rfl rfl rfl hb61 rfl (by decide) (by first | exact rn_fieldAddr0 (q := 6) E rfl rfl rfl | exact rn_fieldAddr (q := 6) E rfl rfl rfl) ?_; clear E a; intro a E
            refine list_guard_yes E rfl rfl rfl rfl hb61 rfl (by decide) (by first | exact rn_load E rfl rfl rfl (S.get (by repeat (first | exact pk1 | apply pick_tail))) rfl | exact rn_loadc E rfl rfl rfl (by assumption)) ?_; clear E a; intro a E
            refine list_guard_yes E rfl rfl rfl rfl hb61 rfl (by decide) (by first | exact rn_eql E rfl rfl rfl | exact rn_eql_ptr_nil E rfl rfl rfl rfl | exact rn_eql_bool E rfl rfl rfl rfl | exact rn_eql_string E rfl rfl rfl) ?_; clear E a; intro a E
            refine list_pure E rfl rfl (by decide) (rn_pick_yes' E rfl rfl hb61 rfl) ?_; clear E a; intro a E
            refine list_pure E rfl rfl (by decide) (rn_move E rfl rfl) ?_; clear E a; intro a E
            refine guard_split E (t := 68) rfl (fun hb68 => ?_) (fun hb68 => ?_)
            · have hb68n := hb68; replace hb68n := Nrm.nrm hb68n
              refine list_guard_yes E rfl rfl rfl rfl hb68 rfl (by decide) (by first | exact rn_fieldAddr0 (q := 9) E rfl rfl rfl | exact rn_fieldAddr (q := 9) E rfl rfl rfl) ?_; clear E a; intro a E
              refine list_guard_yes E rfl rfl rfl rfl hb68 rfl (by decide) (by first | exact rn_load E rfl rfl rfl (S.get (by repeat (first | exact pk1 | apply pick_tail))) rfl | exact rn_loadc E rfl rfl rfl (by assumption)) ?_; clear E a; intro a E
              refine list_guard_yes E rfl rfl rfl rfl hb68 rfl (by decide) (rn_string E rfl rfl rfl rfl rfl (bs := r.data) hC (S.stab.at (by repeat (first | exact mm1 | assumption | apply List.Mem.tail)))) ?_; clear E a; intro a E
              refine list_guard_yes E rfl rfl rfl rfl hb68 rfl (by decide) (by first | exact rn_fieldAddr0 (q := 9) E rfl rfl rfl | exact rn_fieldAddr (q := 9) E rfl rfl rfl) ?_; clear E a; intro a E
              refine list_guard_yes E rfl rfl rfl rfl hb68 rfl (by decide) (by first | exact rn_load E rfl rfl rfl (S.get (by repeat (first | exact pk1 | apply pick_tail))) rfl | exact rn_loadc E rfl rfl rfl (by assumption)) ?_; clear E a; intro a E
              refine list_guard_yes E rfl rfl rfl rfl hb68 rfl (by decide) (rn_string E rfl rfl rfl rfl rfl (bs := s.data) hD (S.stab.at (by repeat (first | exact mm1 | assumption | apply List.Mem.tail)))) ?_; clear E a; intro a E
              refine list_guard_yes E rfl rfl rfl rfl hb68 rfl (by decide) (by first | exact rn_eql E rfl rfl rfl | exact rn_eql_ptr_nil E rfl rfl rfl rfl | exact rn_eql_bool E rfl rfl rfl rfl | exact rn_eql_string E rfl rfl rfl) ?_; clear E a; intro a E
              refine list_pure E rfl rfl (by decide) (rn_pick_yes' E rfl rfl hb68 rfl) ?_; clear E a; intro a E
              refine list_pure E rfl rfl (by decide) (rn_assign E rfl rfl) ?_; clear E a; intro a E
              refine wpList_nil ?_
              refine then_k hK ?_; clear hK; clear K
              refine wp_ret ?_
              refine ret1 E rfl rfl ?_
              exact ⟨_, rfl, by congr 1; rw [Bool.eq_iff_iff, decide_eq_true_eq (p := r = s), rq_eq]; simp_all, S.tail2.tr⟩
            · have hb68n := hb68; replace hb68n := Nrm.nrm hb68n
              refine list_guard_no E rfl rfl rfl rfl hb68 rfl (by decide) ?_; clear E a; intro a E
              refine list_guard_no E rfl rfl rfl rfl hb68 rfl (by decide) ?_; clear E a; intro a E
              refine list_guard_no E rfl rfl rfl rfl hb68 rfl (by decide) ?_; clear E a; intro a E
              refine list_guard_no E rfl rfl rfl rfl hb68 rfl (by decide) ?_; clear E a; intro a E
              refine list_guard_no E rfl rfl rfl rfl hb68 rfl (by decide) ?_; clear E a; intro a E
              refine list_guard_no E rfl rfl rfl rfl hb68 rfl (by decide) ?_; clear E a; intro a E
              refine list_guard_no E rfl rfl rfl rfl hb68 rfl (by decide) ?_; clear E a; intro a E
              refine list_pure E rfl rfl (by decide) (rn_pick_no' E rfl rfl hb68 rfl) ?_; clear E a; intro a E
              refine list_pure E rfl rfl (by decide) (rn_assign E rfl rfl) ?_; clear E a; intro a E
              refine wpList_nil ?_
              refine then_k hK ?_; clear hK; clear K
              refine wp_ret ?_
              refine ret1 E rfl rfl ?_
              exact ⟨_, rfl, by congr 1; rw [Bool.eq_iff_iff, decide_eq_true_eq (p := r = s), rq_eq]; simp_all, S.tail2.tr⟩
          · have hb61n := hb61; replace hb61n := Nrm.nrm hb61n
            refine list_guard_no E rfl rfl rfl rfl hb61 rfl (by decide) ?_; clear E a; intro a E
            refine list_guard_no E rfl rfl rfl rfl hb61 rfl (by decide) ?_; clear E a; intro a E
            refine list_guard_no E rfl rfl rfl rfl hb61 rfl (by decide) ?_; clear E a; intro a E
            refine list_guard_no E rfl rfl rfl rfl hb61 rfl (by decide) ?_; clear E a; intro a E
            refine list_guard_no E rfl rfl rfl rfl hb61 rfl (by decide) ?_; clear E a; intro a E
            refine list_pure E rfl rfl (by decide) (rn_pick_no' E rfl rfl hb61 rfl) ?_; clear E a; intro a E
            refine list_pure E rfl rfl (by decide) (rn_move E rfl rfl) ?_; clear E a; intro a E
            refine list_guard_no E rfl rfl rfl rfl rfl rfl (by decide) ?_; clear E a; intro a E
            refine list_guard_no E rfl rfl rfl rfl rfl rfl (by decide) ?_; clear E a; intro a E
            refine list_guard_no E rfl rfl rfl rfl rfl rfl (by decide) ?_; clear E a; intro a E
            refine list_guard_no E rfl rfl rfl rfl rfl rfl (by decide) ?_; clear E a; intro a E
            refine list_guard_no E rfl rfl rfl rfl rfl rfl (by decide) ?_; clear E a; intro a E
            refine list_guard_no E rfl rfl rfl rfl rfl rfl (by decide) ?_; clear E a; intro a E
            refine list_guard_no E rfl rfl rfl rfl rfl rfl (by decide) ?_; clear E a; intro a E
            refine list_pure E rfl rfl (by decide) (rn_pick_no' E rfl rfl rfl rfl) ?_; clear E a; intro a E
            refine list_pure E rfl rfl (by decide) (rn_assign E rfl rfl) ?_; clear E a; intro a E
            refine wpList_nil ?_
            refine then_k hK ?_; clear hK; clear K
            refine wp_ret ?_
            refine ret1 E rfl rfl ?_
            exact ⟨_, rfl, by congr 1; rw [Bool.eq_iff_iff, decide_eq_true_eq (p := r = s), rq_eq]; simp_all, S.tail2.tr⟩
        · have hb54n := hb54; replace hb54n := Nrm.nrm hb54n
          refine list_guard_no E rfl rfl rfl rfl hb54 rfl (by decide) ?_; clear E a; intro a E
          refine list_guard_no E rfl rfl rfl rfl hb54 rfl (by decide) ?_; clear E a; intro a E
          refine list_guard_no E rfl rfl rfl rfl hb54 rfl (by decide) ?_; clear E a; intro a E
          refine list_guard_no E rfl rfl rfl rfl hb54 rfl (by decide) ?_; clear E a; intro a E
          refine list_guard_no E rfl rfl rfl rfl hb54 rfl (by decide) ?_; clear E a; intro a E
          refine list_pure E rfl rfl (by decide) (rn_pick_no' E rfl rfl hb54 rfl) ?_; clear E a; intro a E
          refine list_pure E rfl rfl (by decide) (rn_move E rfl rfl) ?_; clear E a; intro a E
          refine list_guard_no E rfl rfl rfl rfl rfl rfl (by decide) ?_; clear E a; intro a E
          refine list_guard_no E rfl rfl rfl rfl rfl rfl (by decide) ?_; clear E a; intro a E
          refine list_guard_no E rfl rfl rfl rfl rfl rfl (by decide) ?_; clear E a; intro a E
          refine list_guard_no E rfl rfl rfl rfl rfl rfl (by decide) ?_; clear E a; intro a E
          refine list_guard_no E rfl rfl rfl rfl rfl rfl (by decide) ?_; clear E a; intro a E
          refine list_pure E rfl rfl (by decide) (rn_pick_no' E rfl rfl rfl rfl) ?_; clear E a; intro a E
          refine list_pure E rfl rfl (by decide) (rn_move E rfl rfl) ?_; clear E a; intro a E
          refine list_guard_no E rfl rfl rfl rfl rfl rfl (by decide) ?_; clear E a; intro a E
          refine list_guard_no E rfl rfl rfl rfl rfl rfl (by decide) ?_; clear E a; intro a E
          refine list_guard_no E rfl rfl rfl rfl rfl rfl (by decide) ?_; clear E a; intro a E
          refine list_guard_no E rfl rfl rfl rfl rfl rfl (by decide) ?_; clear E a; intro a E
          refine list_guard_no E rfl rfl rfl rfl rfl rfl (by decide) ?_; clear E a; intro a E
          refine list_guard_no E rfl rfl rfl rfl rfl rfl (by decide) ?_; clear E a; intro a E
          refine list_guard_no E rfl rfl rfl rfl rfl rfl (by decide) ?_; clear E a; intro a E
          refine list_pure E rfl rfl (by decide) (rn_pick_no' E rfl rfl rfl rfl) ?_; clear E a; intro a E
          refine list_pure E rfl rfl (by decide) (rn_assign E rfl rfl) ?_; clear E a; intro a E
          refine wpList_nil ?_
          refine then_k hK ?_; clear hK; clear K
          refine wp_ret ?_
          refine ret1 E rfl rfl ?_
          exact ⟨_, rfl, by congr 1; rw [Bool.eq_iff_iff, decide_eq_true_eq (p := r = s), rq_eq]; simp_all, S.tail2.tr⟩
      · have hb47n := hb47; replace hb47n := Nrm.nrm hb47n
        refine list_guard_no E rfl rfl rfl rfl hb47 rfl (by decide) ?_; clear E a; intro a E
        refine list_guard_no E rfl rfl rfl rfl hb47 rfl (by decide) ?_; clear E a; intro a E
        refine list_guard_no E rfl rfl rfl rfl hb47 rfl (by decide) ?_; clear E a; intro a E
        refine list_guard_no E rfl rfl rfl rfl hb47 rfl (by decide) ?_; clear E a; intro a E
        refine list_guard_no E rfl rfl rfl rfl hb47 rfl (by decide) ?_; clear E a; intro a E
        refine list_pure E rfl rfl (by decide) (rn_pick_no' E rfl rfl hb47 rfl) ?_; clear E a; intro a E
        refine list_pure E rfl rfl (by decide) (rn_move E rfl rfl) ?_; clear E a; intro a E
        refine list_guard_no E rfl rfl rfl rfl rfl rfl (by decide) ?_; clear E a; intro a E
        refine list_guard_no E rfl rfl rfl rfl rfl rfl (by decide) ?_; clear E a; intro a E
        refine list_guard_no E rfl rfl rfl rfl rfl rfl (by decide) ?_; clear E a; intro a E
        refine list_guard_no E rfl rfl rfl rfl rfl rfl (by decide) ?_; clear E a; intro a E
        refine list_guard_no E rfl rfl rfl rfl rfl rfl (by decide) ?_; clear E a; intro a E
        refine list_pure E rfl rfl (by decide) (rn_pick_no' E rfl rfl rfl rfl) ?_; clear E a; intro a E
        refine list_pure E rfl rfl (by decide) (rn_move E rfl rfl) ?_; clear E a; intro a E
        refine list_guard_no E rfl rfl rfl rfl rfl rfl (by decide) ?_; clear E a; intro a E
        refine list_guard_no E rfl rfl rfl rfl rfl rfl (by decide) ?_; clear E a; intro a E
        refine list_guard_no E rfl rfl rfl rfl rfl rfl (by decide) ?_; clear E a; intro a E
        refine list_guard_no E rfl rfl rfl rfl rfl rfl (by decide) ?_; clear E a; intro a E
        refine list_guard_no E rfl rfl rfl rfl rfl rfl (by decide) ?_; clear E a; intro a E
        refine list_pure E rfl rfl (by decide) (rn_pick_no' E rfl rfl rfl rfl) ?_; clear E a; intro a E
        refine list_pure E rfl rfl (by decide) (rn_move E rfl rfl) ?_; clear E a; intro a E
        refine list_guard_no E rfl rfl rfl rfl rfl rfl (by decide) ?_; clear E a; intro a E
        refine list_guard_no E rfl rfl rfl rfl rfl rfl (by decide) ?_; clear E a; intro a E
        refine list_guard_no E rfl rfl rfl rfl rfl rfl (by decide) ?_; clear E a; intro a E
        refine list_guard_no E rfl rfl rfl rfl rfl rfl (by decide) ?_; clear E a; intro a E
        refine list_guard_no E rfl rfl rfl rfl rfl rfl (by decide) ?_; clear E a; intro a E
        refine list_guard_no E rfl rfl rfl rfl rfl rfl (by decide) ?_; clear E a; intro a E
        refine list_guard_no E rfl rfl rfl rfl rfl rfl (by decide) ?_; clear E a; intro a E
        refine list_pure E rfl rfl (by decide) (rn_pick_no' E rfl rfl rfl rfl) ?_; clear E a; intro a E
        refine list_pure E rfl rfl (by decide) (rn_assign E rfl rfl) ?_; clear E a; intro a E
        refine wpList_nil ?_
        refine then_k hK ?_; clear hK; clear K
        refine wp_ret ?_
        refine ret1 E rfl rfl ?_
        exact ⟨_, rfl, by congr 1; rw [Bool.eq_iff_iff, decide_eq_true_eq (p := r = s), rq_eq]; simp_all, S.tail2.tr⟩
    · have hb40n := hb40; replace hb40n := Nrm.nrm hb40n
      refine list_guard_no E rfl rfl rfl rfl hb40 rfl (by decide) ?_; clear E a; intro a E
      refine list_guard_no E rfl rfl rfl rfl hb40 rfl (by decide) ?_; clear E a; intro a E
      refine list_guard_no E rfl rfl rfl rfl hb40 rfl (by decide) ?_; clear E a; intro a E
      refine list_guard_no E rfl rfl rfl rfl hb40 rfl (by decide) ?_; clear E a; intro a E
      refine list_guard_no E rfl rfl rfl rfl hb40 rfl (by decide) ?_; clear E a; intro a E
      refine list_pure E rfl rfl (by decide) (rn_pick_no' E rfl rfl hb40 rfl) ?_; clear E a; intro a E
      refine list_pure E rfl rfl (by decide) (rn_move E rfl rfl) ?_; clear E a; intro a E
      refine list_guard_no E rfl rfl rfl rfl rfl rfl (by decide) ?_; clear E a; intro a E
      refine list_guard_no E rfl rfl rfl rfl rfl rfl (by decide) ?_; clear E a; intro a E
      refine list_guard_no E rfl rfl rfl rfl rfl rfl (by decide) ?_; clear E a; intro a E
      refine list_guard_no E rfl rfl rfl rfl rfl rfl (by decide) ?_; clear E a; intro a E
      refine list_guard_no E rfl rfl rfl rfl rfl rfl (by decide) ?_; clear E a; intro a E
      refine list_pure E rfl rfl (by decide) (rn_pick_no' E rfl rfl rfl rfl) ?_; clear E a; intro a E
      refine list_pure E rfl rfl (by decide) (rn_move E rfl rfl) ?_; clear E a; intro a E
      refine list_guard_no E rfl rfl rfl rfl rfl rfl (by decide) ?_; clear E a; intro a E
      refine list_guard_no E rfl rfl rfl rfl rfl rfl (by decide) ?_; clear E a; intro a E
      refine list_guard_no E rfl rfl rfl rfl rfl rfl (by decide) ?_; clear E a; intro a E
      refine list_guard_no E rfl rfl rfl rfl rfl rfl (by decide) ?_; clear E a; intro a E
      refine list_guard_no E rfl rfl rfl rfl rfl rfl (by decide) ?_; clear E a; intro a E
      refine list_pure E rfl rfl (by decide) (rn_pick_no' E rfl rfl rfl rfl) ?_; clear E a; intro a E
      refine list_pure E rfl rfl (by decide) (rn_move E rfl rfl) ?_; clear E a; intro a E
      refine list_guard_no E rfl rfl rfl rfl rfl rfl (by decide) ?_; clear E a; intro a E
      refine list_guard_no E rfl rfl rfl rfl rfl rfl (by decide) ?_; clear E a; intro a E
      refine list_guard_no E rfl rfl rfl rfl rfl rfl (by decide) ?_; clear E a; intro a E
      refine list_guard_no E rfl rfl rfl rfl rfl rfl (by decide) ?_; clear E a; intro a E
      refine list_guard_no E rfl rfl rfl rfl rfl rfl (by decide) ?_; clear E a; intro a E
      refine list_pure E rfl rfl (by decide) (rn_pick_no' E rfl rfl rfl rfl) ?_; clear E a; intro a E
      refine list_pure E rfl rfl (by decide) (rn_move E rfl rfl) ?_; clear E a; intro a E
      refine list_guard_no E rfl rfl rfl rfl rfl rfl (by decide) ?_; clear E a; intro a E
      refine list_guard_no E rfl rfl rfl rfl rfl rfl (by decide) ?_; clear E a; intro a E
      refine list_guard_no E rfl rfl rfl rfl rfl rfl (by decide) ?_; clear E a; intro a E
      refine list_guard_no E rfl rfl rfl rfl rfl rfl (by decide) ?_; clear E a; intro a E
      refine list_guard_no E rfl rfl rfl rfl rfl rfl (by decide) ?_; clear E a; intro a E
      refine list_guard_no E rfl rfl rfl rfl rfl rfl (by decide) ?_; clear E a; intro a E
      refine list_guard_no E rfl rfl rfl rfl rfl rfl (by decide) ?_; clear E a; intro a E
      refine list_pure E rfl rfl (by decide) (rn_pick_no' E rfl rfl rfl rfl) ?_; clear E a; intro a E
      refine list_pure E rfl rfl (by decide) (rn_assign E rfl rfl) ?_; clear E a; intro a E
      refine wpList_nil ?_
      refine then_k hK ?_; clear hK; clear K
      refine wp_ret ?_
      refine ret1 E rfl rfl ?_
      exact ⟨_, rfl, by congr 1; rw [Bool.eq_iff_iff, decide_eq_true_eq (p := r = s), rq_eq]; simp_all, S.tail2.tr⟩

theorem samerp_ret (r s : Rp) (v u vl ul : Value) (L M C D : Chunk) (hL : Rd L 1 vl r.list.length (sts r.list)) (hM : Rd M 1 ul s.list.length (sts s.list)) (hC : Rd C 1 v r.data.length (byt r.data)) (hD : Rd D 1 u s.data.length (byt s.data)) (As : List Chunk) (hLA : L ∈ As) (hMA : M ∈ As) (hCA : C ∈ As) (hDA : D ∈ As) (w0 : World) (H : Hp w0 As) :
    Ret Tryd.prog 25 #[rpagg r vl v, rpagg s ul u] w0 fun x w' => x = .bool (decide (r = s)) ∧ Trs w0 w' As As := by
  have S := St.begin H
  have hll := hL.2.2.1
  simp only [maxLen] at hll
  obtain ⟨ad, c, rfl⟩ := hC.slice
  obtain ⟨ad2, c2, rfl⟩ := hD.slice
  obtain ⟨adl, cl, rfl⟩ := hL.slice
  obtain ⟨adm, cm, rfl⟩ := hM.slice
  refine enter2 73 Tryd.func25 rfl rfl (by decide) ?_; intro a E
  refine wp_seq_k ?_; intro K hK
  refine region_list ?_
  refine list_wp rfl (wp_box E S rfl rfl (by decide) rfl rfl ?_); clear E S a; intro a w b2 E S
  refine list_wp rfl (wp_box E S rfl rfl (by decide) rfl rfl ?_); clear E S a; intro a w b3 E S
  refine list_pure E rfl rfl (by decide) (rn_assign E rfl rfl) ?_; clear E a; intro a E
  refine wpList_nil ?_
  refine then_k hK ?_; clear hK; clear K
  refine wp_seq_k ?_; intro K hK
  refine wp_seq_k ?_; intro K hK
  refine region_list ?_
  refine list_pure E rfl rfl (by decide) (by first | exact rn_fieldAddr0 (q := 0) E rfl rfl rfl | exact rn_fieldAddr (q := 0) E rfl rfl rfl) ?_; clear E a; intro a E
  refine list_pure E rfl rfl (by decide) (by first | exact rn_load E rfl rfl rfl (S.get (by repeat (first | exact pk1 | apply pick_tail))) rfl | exact rn_loadc E rfl rfl rfl (by assumption)) ?_; clear E a; intro a E
  refine list_pure E rfl rfl (by decide) (by first | exact rn_fieldAddr0 (q := 0) E rfl rfl rfl | exact rn_fieldAddr (q := 0) E rfl rfl rfl) ?_; clear E a; intro a E
  refine list_pure E rfl rfl (by decide) (by first | exact rn_load E rfl rfl rfl (S.get (by repeat (first | exact pk1 | apply pick_tail))) rfl | exact rn_loadc E rfl rfl rfl (by assumption)) ?_; clear E a; intro a E
  refine list_pure E rfl rfl (by decide) (by first | exact rn_neq E rfl rfl rfl | exact rn_neq_ptr_nil E rfl rfl rfl rfl | exact rn_neq_bool E rfl rfl rfl rfl | exact rn_neq_string E rfl rfl rfl) ?_; clear E a; intro a E
  refine list_pure E rfl rfl (by decide) (rn_move E rfl rfl) ?_; clear E a; intro a E
  refine guard_split E (t := 11) rfl (fun hb11 => ?_) (fun hb11 => ?_)
  · have hb11n := hb11; replace hb11n := Nrm.nrm hb11n
    refine list_guard_no E rfl rfl rfl rfl hb11 rfl (by decide) ?_; clear E a; intro a E
    refine list_guard_no E rfl rfl rfl rfl hb11 rfl (by decide) ?_; clear E a; intro a E
    refine list_guard_no E rfl rfl rfl rfl hb11 rfl (by decide) ?_; clear E a; intro a E
    refine list_guard_no E rfl rfl rfl rfl hb11 rfl (by decide) ?_; clear E a; intro a E
    refine list_guard_no E rfl rfl rfl rfl hb11 rfl (by decide) ?_; clear E a; intro a E
    refine list_pure E rfl rfl (by decide) (rn_pick_yes' E rfl rfl hb11 rfl) ?_; clear E a; intro a E
    refine list_pure E rfl rfl (by decide) (rn_move E rfl rfl) ?_; clear E a; intro a E
    refine list_guard_no E rfl rfl rfl rfl rfl rfl (by decide) ?_; clear E a; intro a E
    refine list_guard_no E rfl rfl rfl rfl rfl rfl (by decide) ?_; clear E a; intro a E
    refine list_guard_no E rfl rfl rfl rfl rfl rfl (by decide) ?_; clear E a; intro a E
    refine list_guard_no E rfl rfl rfl rfl rfl rfl (by decide) ?_; clear E a; intro a E
    refine list_guard_no E rfl rfl rfl rfl rfl rfl (by decide) ?_; clear E a; intro a E
    refine list_pure E rfl rfl (by decide) (rn_pick_yes' E rfl rfl rfl rfl) ?_; clear E a; intro a E
    refine list_pure E rfl rfl (by decide) (rn_move E rfl rfl) ?_; clear E a; intro a E
    refine list_guard_no E rfl rfl rfl rfl rfl rfl (by decide) ?_; clear E a; intro a E
    refine list_guard_no E rfl rfl rfl rfl rfl rfl (by decide) ?_; clear E a; intro a E
    refine list_guard_no E rfl rfl rfl rfl rfl rfl (by decide) ?_; clear E a; intro a E
    refine list_guard_no E rfl rfl rfl rfl rfl rfl (by decide) ?_; clear E a; intro a E
    refine list_guard_no E rfl rfl rfl rfl rfl rfl (by decide) ?_; clear E a; intro a E
    refine list_pure E rfl rfl (by decide) (rn_pick_yes' E rfl rfl rfl rfl) ?_; clear E a; intro a E
    refine list_pure E rfl rfl (by decide) (rn_move E rfl rfl) ?_; clear E a; intro a E
    refine list_guard_no E rfl rfl rfl rfl rfl rfl (by decide) ?_; clear E a; intro a E
    refine list_guard_no E rfl rfl rfl rfl rfl rfl (by decide) ?_; clear E a; intro a E
    refine list_guard_no E rfl rfl rfl rfl rfl rfl (by decide) ?_; clear E a; intro a E
    refine list_guard_no E rfl rfl rfl rfl rfl rfl (by decide) ?_; clear E a; intro a E
    refine list_guard_no E rfl rfl rfl rfl rfl rfl (by decide) ?_; clear E a; intro a E
    refine list_pure E rfl rfl (by decide) (rn_pick_yes' E rfl rfl rfl rfl) ?_; clear E a; intro a E
    refine list_pure E rfl rfl (by decide) (rn_move E rfl rfl) ?_; clear E a; intro a E
    refine list_guard_no E rfl rfl rfl rfl rfl rfl (by decide) ?_; clear E a; intro a E
    refine list_guard_no E rfl rfl rfl rfl rfl rfl (by decide) ?_; clear E a; intro a E
    refine list_guard_no E rfl rfl rfl rfl rfl rfl (by decide) ?_; clear E a; intro a E
    refine list_guard_no E rfl rfl rfl rfl rfl rfl (by decide) ?_; clear E a; intro a E
    refine list_guard_no E rfl rfl rfl rfl rfl rfl (by decide) ?_; clear E a; intro a E
    refine list_guard_no E rfl rfl rfl rfl rfl rfl (by decide) ?_; clear E a; intro a E
    refine list_guard_no E rfl rfl rfl rfl rfl rfl (by decide) ?_; clear E a; intro a E
    refine list_pure E rfl rfl (by decide) (rn_pick_yes' E rfl rfl rfl rfl) ?_; clear E a; intro a E
    refine wpList_nil ?_
    refine then_k hK ?_; clear hK; clear K
    refine if_true' E rfl rfl ?_
    refine wp_seq_k ?_; intro K hK
    replace E := E.keep (e' := [(2, _), (3, _), (4, _)]) (keep_cons rfl (keep_cons rfl (keep_cons rfl (keep_nil))))
    refine region_list ?_
    refine list_pure E rfl rfl (by decide) (rn_assign E rfl rfl) ?_; clear E a; intro a E
    refine wpList_nil ?_
    refine then_k hK ?_; clear hK; clear K
    refine wp_ret ?_
    refine then_ret ?_; clear hK; clear K
    refine ret1 E rfl rfl ?_
    exact ⟨_, rfl, by congr 1; symm; rw [decide_eq_false_iff_not, rp_eq]; first | (rintro ⟨q1, q2, q3, q4, q5, q6, q7⟩; first | omega | simp_all), S.tail2.tr⟩
  · have hb11n := hb11; replace hb11n := Nrm.nrm hb11n
    refine list_guard_yes E rfl rfl rfl rfl hb11 rfl (by decide) (by first | exact rn_fieldAddr0 (q := 1) E rfl rfl rfl | exact rn_fieldAddr (q := 1) E rfl rfl rfl) ?_; clear E a; intro a E
    refine list_guard_yes E rfl rfl rfl rfl hb11 rfl (by decide) (by first | exact rn_load E rfl rfl rfl (S.get (by repeat (first | exact pk1 | apply pick_tail))) rfl | exact rn_loadc E rfl rfl rfl (by assumption)) ?_; clear E a; intro a E
    refine list_guard_yes E rfl rfl rfl rfl hb11 rfl (by decide) (by first | exact rn_fieldAddr0 (q := 1) E rfl rfl rfl | exact rn_fieldAddr (q := 1) E rfl rfl rfl) ?_; clear E a; intro a E
    refine list_guard_yes E rfl rfl rfl rfl hb11 rfl (by decide) (by first | exact rn_load E rfl rfl rfl (S.get (by repeat (first | exact pk1 | apply pick_tail))) rfl | exact rn_loadc E rfl rfl rfl (by assumption)) ?_; clear E a; intro a E
    refine list_guard_yes E rfl rfl rfl rfl hb11 rfl (by decide) (by first | exact rn_neq E rfl rfl rfl | exact rn_neq_ptr_nil E rfl rfl rfl rfl | exact rn_neq_bool E rfl rfl rfl rfl | exact rn_neq_string E rfl rfl rfl) ?_; clear E a; intro a E
    refine list_pure E rfl rfl (by decide) (rn_pick_no' E rfl rfl hb11 rfl) ?_; clear E a; intro a E
    refine list_pure E rfl rfl (by decide) (rn_move E rfl rfl) ?_; clear E a; intro a E
    refine guard_split E (t := 18) rfl (fun hb18 => ?_) (fun hb18 => ?_)
    · have hb18n := hb18; replace hb18n := Nrm.nrm hb18n
      refine list_guard_no E rfl rfl rfl rfl hb18 rfl (by decide) ?_; clear E a; intro a E
      refine list_guard_no E rfl rfl rfl rfl hb18 rfl (by decide) ?_; clear E a; intro a E
      refine list_guard_no E rfl rfl rfl rfl hb18 rfl (by decide) ?_; clear E a; intro a E
      refine list_guard_no E rfl rfl rfl rfl hb18 rfl (by decide) ?_; clear E a; intro a E
      refine list_guard_no E rfl rfl rfl rfl hb18 rfl (by decide) ?_; clear E a; intro a E
      refine list_pure E rfl rfl (by decide) (rn_pick_yes' E rfl rfl hb18 rfl) ?_; clear E a; intro a E
      refine list_pure E rfl rfl (by decide) (rn_move E rfl rfl) ?_; clear E a; intro a E
      refine list_guard_no E rfl rfl rfl rfl rfl rfl (by decide) ?_; clear E a; intro a E
      refine list_guard_no E rfl rfl rfl rfl rfl rfl (by decide) ?_; clear E a; intro a E
      refine list_guard_no E rfl rfl rfl rfl rfl rfl (by decide) ?_; clear E a; intro a E
      refine list_guard_no E rfl rfl rfl rfl rfl rfl (by decide) ?_; clear E a; intro a E
      refine list_guard_no E rfl rfl rfl rfl rfl rfl (by decide) ?_; clear E a; intro a E
      refine list_pure E rfl rfl (by decide) (rn_pick_yes' E rfl rfl rfl rfl) ?_; clear E a; intro a E
      refine list_pure E rfl rfl (by decide) (rn_move E rfl rfl) ?_; clear E a; intro a E
      refine list_guard_no E rfl rfl rfl rfl rfl rfl (by decide) ?_; clear E a; intro a E
      refine list_guard_no E rfl rfl rfl rfl rfl rfl (by decide) ?_; clear E a; intro a E
      refine list_guard_no E rfl rfl rfl rfl rfl rfl (by decide) ?_; clear E a; intro a E
      refine list_guard_no E rfl rfl rfl rfl rfl rfl (by decide) ?_; clear E a; intro a E
      refine list_guard_no E rfl rfl rfl rfl rfl rfl (by decide) ?_; clear E a; intro a E
      refine list_pure E rfl rfl (by decide) (rn_pick_yes' E rfl rfl rfl rfl) ?_; clear E a; intro a E
      refine list_pure E rfl rfl (by decide) (rn_move E rfl rfl) ?_; clear E a; intro a E
      refine list_guard_no E rfl rfl rfl rfl rfl rfl (by decide) ?_; clear E a; intro a E
      refine list_guard_no E rfl rfl rfl rfl rfl rfl (by decide) ?_; clear E a; intro a E
      refine list_guard_no E rfl rfl rfl rfl rfl rfl (by decide) ?_; clear E a; intro a E
      refine list_guard_no E rfl rfl rfl rfl rfl rfl (by decide) ?_; clear E a; intro a E
      refine list_guard_no E rfl rfl rfl rfl rfl rfl (by decide) ?_; clear E a; intro a E
      refine list_guard_no E rfl rfl rfl rfl rfl rfl (by decide) ?_; clear E a; intro a E
      refine list_guard_no E rfl rfl rfl rfl rfl rfl (by decide) ?_; clear E a; intro a E
      refine list_pure E rfl rfl (by decide) (rn_pick_yes' E rfl rfl rfl rfl) ?_; clear E a; intro a E
      refine wpList_nil ?_
      refine then_k hK ?_; clear hK; clear K
      refine if_true' E rfl rfl ?_
      refine wp_seq_k ?_; intro K hK
      replace E := E.keep (e' := [(2, _), (3, _), (4, _)]) (keep_cons rfl (keep_cons rfl (keep_cons rfl (keep_nil))))
      refine region_list ?_
      refine list_pure E rfl rfl (by decide) (rn_assign E rfl rfl) ?_; clear E a; intro a E
      refine wpList_nil ?_
      refine then_k hK ?_; clear hK; clear K
      refine wp_ret ?_
      refine then_ret ?_; clear hK; clear K
      refine ret1 E rfl rfl ?_
      exact ⟨_, rfl, by congr 1; symm; rw [decide_eq_false_iff_not, rp_eq]; first | (rintro ⟨q1, q2, q3, q4, q5, q6, q7⟩; first | omega | simp_all), S.tail2.tr⟩
    · have hb18n := hb18; replace hb18n := Nrm.nrm hb18n
      refine list_guard_yes E rfl rfl rfl rfl hb18 rfl (by decide) (by first | exact rn_fieldAddr0 (q := 2) E rfl rfl rfl | exact rn_fieldAddr (q := 2) E rfl rfl rfl) ?_; clear E a; intro a E
      refine list_guard_yes E rfl rfl rfl rfl hb18 rfl (by decide) (by first | exact rn_load E rfl rfl rfl (S.get (by repeat (first | exact pk1 | apply pick_tail))) rfl | exact rn_loadc E rfl rfl rfl (by assumption)) ?_; clear E a; intro a E
      refine list_guard_yes E rfl rfl rfl rfl hb18 rfl (by decide) (by first | exact rn_fieldAddr0 (q := 2) E rfl rfl rfl | exact rn_fieldAddr (q := 2) E rfl rfl rfl) ?_; clear E a; intro a E
      refine list_guard_yes E rfl rfl rfl rfl hb18 rfl (by decide) (by first | exact rn_load E rfl rfl rfl (S.get (by repeat (first | exact pk1 | apply pick_tail))) rfl | exact rn_loadc E rfl rfl rfl (by assumption)) ?_; clear E a; intro a E
      refine list_guard_yes E rfl rfl rfl rfl hb18 rfl (by decide) (by first | exact rn_neq E rfl rfl rfl | exact rn_neq_ptr_nil E rfl rfl rfl rfl | exact rn_neq_bool E rfl rfl rfl rfl | exact rn_neq_string E rfl rfl rfl) ?_; clear E a; intro a E
      refine list_pure E rfl rfl (by decide) (rn_pick_no' E rfl rfl hb18 rfl) ?_; clear E a; intro a E
      refine list_pure E rfl rfl (by decide) (rn_move E rfl rfl) ?_; clear E a; intro a E
      refine guard_split E (t := 25) rfl (fun hb25 => ?_) (fun hb25 => ?_)
      · have hb25n := hb25; replace hb25n := Nrm.nrm hb25n
        refine list_guard_no E rfl rfl rfl rfl hb25 rfl (by decide) ?_; clear E a; intro a E
        refine list_guard_no E rfl rfl rfl rfl hb25 rfl (by decide) ?_; clear E a; intro a E
        refine list_guard_no E rfl rfl rfl rfl hb25 rfl (by decide) ?_; clear E a; intro a E
        refine list_guard_no E rfl rfl rfl rfl hb25 rfl (by decide) ?_; clear E a; intro a E
        refine list_guard_no E rfl rfl rfl rfl hb25 rfl (by decide) ?_; clear E a; intro a E
        refine list_pure E rfl rfl (by decide) (rn_pick_yes' E rfl rfl hb25 rfl) ?_; clear E a; intro a E
        refine list_pure E rfl rfl (by decide) (rn_move E rfl rfl) ?_; clear E a; intro a E
        refine list_guard_no E rfl rfl rfl rfl rfl rfl (by decide) ?_; clear E a; intro a E
        refine list_guard_no E rfl rfl rfl rfl rfl rfl (by decide) ?_; clear E a; intro a E
        refine list_guard_no E rfl rfl rfl rfl rfl rfl (by decide) ?_; clear E a; intro a E
        refine list_guard_no E rfl rfl rfl rfl rfl rfl (by decide) ?_; clear E a; intro a E
        refine list_guard_no E rfl rfl rfl rfl rfl rfl (by decide) ?_; clear E a; intro a E
        refine list_pure E rfl rfl (by decide) (rn_pick_yes' E rfl rfl rfl rfl) ?_; clear E a; intro a E
        refine list_pure E rfl rfl (by decide) (rn_move E rfl rfl) ?_; clear E a; intro a E
        refine list_guard_no E rfl rfl rfl rfl rfl rfl (by decide) ?_; clear E a; intro a E
        refine list_guard_no E rfl rfl rfl rfl rfl rfl (by decide) ?_; clear E a; intro a E
        refine list_guard_no E rfl rfl rfl rfl rfl rfl (by decide) ?_; clear E a; intro a E
        refine list_guard_no E rfl rfl rfl rfl rfl rfl (by decide) ?_; clear E a; intro a E
        refine list_guard_no E rfl rfl rfl rfl rfl rfl (by decide) ?_; clear E a; intro a E
        refine list_guard_no E rfl rfl rfl rfl rfl rfl (by decide) ?_; clear E a; intro a E
        refine list_guard_no E rfl rfl rfl rfl rfl rfl (by decide) ?_; clear E a; intro a E
        refine list_pure E rfl rfl (by decide) (rn_pick_yes' E rfl rfl rfl rfl) ?_; clear E a; intro a E
        refine wpList_nil ?_
        refine then_k hK ?_; clear hK; clear K
        refine if_true' E rfl rfl ?_
        refine wp_seq_k ?_; intro K hK
        replace E := E.keep (e' := [(2, _), (3, _), (4, _)]) (keep_cons rfl (keep_cons rfl (keep_cons rfl (keep_nil))))
        refine region_list ?_
        refine list_pure E rfl rfl (by decide) (rn_assign E rfl rfl) ?_; clear E a; intro a E
        refine wpList_nil ?_
        refine then_k hK ?_; clear hK; clear K
        refine wp_ret ?_
        refine then_ret ?_; clear hK; clear K
        refine ret1 E rfl rfl ?_
        exact ⟨_, rfl, by congr 1; symm; rw [decide_eq_false_iff_not, rp_eq]; first | (rintro ⟨q1, q2, q3, q4, q5, q6, q7⟩; first | omega | simp_all), S.tail2.tr⟩
      · have hb25n := hb25; replace hb25n := Nrm.nrm hb25n
        refine list_guard_yes E rfl rfl rfl rfl hb25 rfl (by decide) (by first | exact rn_fieldAddr0 (q := 3) E rfl rfl rfl | exact rn_fieldAddr (q := 3) E rfl rfl rfl) ?_; clear E a; intro a E
        refine list_guard_yes E rfl rfl rfl rfl hb25 rfl (by decide) (by first | exact rn_load E rfl rfl rfl (S.get (by repeat (first | exact pk1 | apply pick_tail))) rfl | exact rn_loadc E rfl rfl rfl (by assumption)) ?_; clear E a; intro a E
        refine list_guard_yes E rfl rfl rfl rfl hb25 rfl (by decide) (by first | exact rn_fieldAddr0 (q := 3) E rfl rfl rfl | exact rn_fieldAddr (q := 3) E rfl rfl rfl) ?_; clear E a; intro a E
        refine list_guard_yes E rfl rfl rfl rfl hb25 rfl (by decide) (by first | exact rn_load E rfl rfl rfl (S.get (by repeat (first | exact pk1 | apply pick_tail))) rfl | exact rn_loadc E rfl rfl rfl (by assumption)) ?_; clear E a; intro a E
        refine list_guard_yes E rfl rfl rfl rfl hb25 rfl (by decide) (by first | exact rn_neq E rfl rfl rfl | exact rn_neq_ptr_nil E rfl rfl rfl rfl | exact rn_neq_bool E rfl rfl rfl rfl | exact rn_neq_string E rfl rfl rfl) ?_; clear E a; intro a E
        refine list_pure E rfl rfl (by decide) (rn_pick_no' E rfl rfl hb25 rfl) ?_; clear E a; intro a E
        refine list_pure E rfl rfl (by decide) (rn_move E rfl rfl) ?_; clear E a; intro a E
        refine guard_split E (t := 32) rfl (fun hb32 => ?_) (fun hb32 => ?_)
        · have hb32n := hb32; replace hb32n := Nrm.nrm hb32n
          refine list_guard_no E rfl rfl rfl rfl hb32 rfl (by decide) ?_; clear E a; intro a E
          refine list_guard_no E rfl rfl rfl rfl hb32 rfl (by decide) ?_; clear E a; intro a E
          refine list_guard_no E rfl rfl rfl rfl hb32 rfl (by decide) ?_; clear E a; intro a E
          refine list_guard_no E rfl rfl rfl rfl hb32 rfl (by decide) ?_; clear E a; intro a E
          refine list_guard_no E rfl rfl rfl rfl hb32 rfl (by decide) ?_; clear E a; intro a E
          refine list_pure E rfl rfl (by decide) (rn_pick_yes' E rfl rfl hb32 rfl) ?_; clear E a; intro a E
          refine list_pure E rfl rfl (by decide) (rn_move E rfl rfl) ?_; clear E a; intro a E
          refine list_guard_no E rfl rfl rfl rfl rfl rfl (by decide) ?_; clear E a; intro a E
          refine list_guard_no E rfl rfl rfl rfl rfl rfl (by decide) ?_; clear E a; intro a E
          refine list_guard_no E rfl rfl rfl rfl rfl rfl (by decide) ?_; clear E a; intro a E
          refine list_guard_no E rfl rfl rfl rfl rfl rfl (by decide) ?_; clear E a; intro a E
          refine list_guard_no E rfl rfl rfl rfl rfl rfl (by decide) ?_; clear E a; intro a E
          refine list_guard_no E rfl rfl rfl rfl rfl rfl (by decide) ?_; clear E a; intro a E
          refine list_guard_no E rfl rfl rfl rfl rfl rfl (by decide) ?_; clear E a; intro a E
          refine list_pure E rfl rfl (by decide) (rn_pick_yes' E rfl rfl rfl rfl) ?_; clear E a; intro a E
          refine wpList_nil ?_
          refine then_k hK ?_; clear hK; clear K
          refine if_true' E rfl rfl ?_
          refine wp_seq_k ?_; intro K hK
          replace E := E.keep (e' := [(2, _), (3, _), (4, _)]) (keep_cons rfl (keep_cons rfl (keep_cons rfl (keep_nil))))
          refine region_list ?_
          refine list_pure E rfl rfl (by decide) (rn_assign E rfl rfl) ?_; clear E a; intro a E
          refine wpList_nil ?_
          refine then_k hK ?_; clear hK; clear K
          refine wp_ret ?_
          refine then_ret ?_; clear hK; clear K
          refine ret1 E rfl rfl ?_
          exact ⟨_, rfl, by congr 1; symm; rw [decide_eq_false_iff_not, rp_eq]; first | (rintro ⟨q1, q2, q3, q4, q5, q6, q7⟩; first | omega | simp_all), S.tail2.tr⟩
        · have hb32n := hb32; replace hb32n := Nrm.nrm hb32n
          refine list_guard_yes E rfl rfl rfl rfl hb32 rfl (by decide) (by first | exact rn_fieldAddr0 (q := 4) E rfl rfl rfl | exact rn_fieldAddr (q := 4) E rfl rfl rfl) ?_; clear E a; intro a E
          refine list_guard_yes E rfl rfl rfl rfl hb32 rfl (by decide) (by first | exact rn_load E rfl rfl rfl (S.get (by repeat (first | exact pk1 | apply pick_tail))) rfl | exact rn_loadc E rfl rfl rfl (by assumption)) ?_; clear E a; intro a E
          refine list_guard_yes E rfl rfl rfl rfl hb32 rfl (by decide) (by first | exact rn_fieldAddr0 (q := 4) E rfl rfl rfl | exact rn_fieldAddr (q := 4) E rfl rfl rfl) ?_; clear E a; intro a E
          refine list_guard_yes E rfl rfl rfl rfl hb32 rfl (by decide) (by first | exact rn_load E rfl rfl rfl (S.get (by repeat (first | exact pk1 | apply pick_tail))) rfl | exact rn_loadc E rfl rfl rfl (by assumption)) ?_; clear E a; intro a E
          refine list_guard_yes E rfl rfl rfl rfl hb32 rfl (by decide) (by first | exact rn_neq E rfl rfl rfl | exact rn_neq_ptr_nil E rfl rfl rfl rfl | exact rn_neq_bool E rfl rfl rfl rfl | exact rn_neq_string E rfl rfl rfl) ?_; clear E a; intro a E
          refine list_pure E rfl rfl (by decide) (rn_pick_no' E rfl rfl hb32 rfl) ?_; clear E a; intro a E
          refine list_pure E rfl rfl (by decide) (rn_move E rfl rfl) ?_; clear E a; intro a E
          refine guard_split E (t := 39) rfl (fun hb39 => ?_) (fun hb39 => ?_)
          · have hb39n := hb39; replace hb39n := Nrm.nrm hb39n
            refine list_guard_no E rfl rfl rfl rfl hb39 rfl (by decide) ?_; clear E a; intro a E
            refine list_guard_no E rfl rfl rfl rfl hb39 rfl (by decide) ?_; clear E a; intro a E
            refine list_guard_no E rfl rfl rfl rfl hb39 rfl (by decide) ?_; clear E a; intro a E
            refine list_guard_no E rfl rfl rfl rfl hb39 rfl (by decide) ?_; clear E a; intro a E
            refine list_guard_no E rfl rfl rfl rfl hb39 rfl (by decide) ?_; clear E a; intro a E
            refine list_guard_no E rfl rfl rfl rfl hb39 rfl (by decide) ?_; clear E a; intro a E
            refine list_guard_no E rfl rfl rfl rfl hb39 rfl (by decide) ?_; clear E a; intro a E
            refine list_pure E rfl rfl (by decide) (rn_pick_yes' E rfl rfl hb39 rfl) ?_; clear E a; intro a E
            refine wpList_nil ?_
            refine then_k hK ?_; clear hK; clear K
            refine if_true' E rfl rfl ?_
            refine wp_seq_k ?_; intro K hK
            replace E := E.keep (e' := [(2, _), (3, _), (4, _)]) (keep_cons rfl (keep_cons rfl (keep_cons rfl (keep_nil))))
            refine region_list ?_
            refine list_pure E rfl rfl (by decide) (rn_assign E rfl rfl) ?_; clear E a; intro a E
            refine wpList_nil ?_
            refine then_k hK ?_; clear hK; clear K
            refine wp_ret ?_
            refine then_ret ?_; clear hK; clear K
            refine ret1 E rfl rfl ?_
            exact ⟨_, rfl, by congr 1; symm; rw [decide_eq_false_iff_not, rp_eq]; first | (rintro ⟨q1, q2, q3, q4, q5, q6, q7⟩; first | omega | simp_all), S.tail2.tr⟩
          · have hb39n := hb39; replace hb39n := Nrm.nrm hb39n
            refine list_guard_yes E rfl rfl rfl rfl hb39 rfl (by decide) (by first | exact rn_fieldAddr0 (q := 5) E rfl rfl rfl | exact rn_fieldAddr (q := 5) E rfl rfl rfl) ?_; clear E a; intro a E
            refine list_guard_yes E rfl rfl rfl rfl hb39 rfl (by decide) (by first | exact rn_load E rfl rfl rfl (S.get (by repeat (first | exact pk1 | apply pick_tail))) rfl | exact rn_loadc E rfl rfl rfl (by assumption)) ?_; clear E a; intro a E
            refine list_guard_yes E rfl rfl rfl rfl hb39 rfl (by decide) (by first | exact rn_len E rfl rfl rfl | exact rn_len_str E rfl rfl rfl | exact rn_len_string E rfl rfl rfl) ?_; clear E a; intro a E
            refine list_guard_yes E rfl rfl rfl rfl hb39 rfl (by decide) (by first | exact rn_fieldAddr0 (q := 5) E rfl rfl rfl | exact rn_fieldAddr (q := 5) E rfl rfl rfl) ?_; clear E a; intro a E
            refine list_guard_yes E rfl rfl rfl rfl hb39 rfl (by decide) (by first | exact rn_load E rfl rfl rfl (S.get (by repeat (first | exact pk1 | apply pick_tail))) rfl | exact rn_loadc E rfl rfl rfl (by assumption)) ?_; clear E a; intro a E
            refine list_guard_yes E rfl rfl rfl rfl hb39 rfl (by decide) (by first | exact rn_len E rfl rfl rfl | exact rn_len_str E rfl rfl rfl | exact rn_len_string E rfl rfl rfl) ?_; clear E a; intro a E
            refine list_guard_yes E rfl rfl rfl rfl hb39 rfl (by decide) (by first | exact rn_neq E rfl rfl rfl | exact rn_neq_ptr_nil E rfl rfl rfl rfl | exact rn_neq_bool E rfl rfl rfl rfl | exact rn_neq_string E rfl rfl rfl) ?_; clear E a; intro a E
            refine list_pure E rfl rfl (by decide) (rn_pick_no' E rfl rfl hb39 rfl) ?_; clear E a; intro a E
            refine wpList_nil ?_
            refine then_k hK ?_; clear hK; clear K
            refine if_bool E rfl (fun hb => ?_) (fun hb => ?_)
            · replace hb := Nrm.nrm hb
              refine wp_seq_k ?_; intro K hK
              replace E := E.keep (e' := [(2, _), (3, _), (4, _)]) (keep_cons rfl (keep_cons rfl (keep_cons rfl (keep_nil))))
              refine region_list ?_
              refine list_pure E rfl rfl (by decide) (rn_assign E rfl rfl) ?_; clear E a; intro a E
              refine wpList_nil ?_
              refine then_k hK ?_; clear hK; clear K
              refine wp_ret ?_
              refine then_ret ?_; clear hK; clear K
              refine ret1 E rfl rfl ?_
              exact ⟨_, rfl, by congr 1; symm; rw [decide_eq_false_iff_not, rp_eq]; first | (rintro ⟨q1, q2, q3, q4, q5, q6, q7⟩; first | omega | simp_all), S.tail2.tr⟩
            · replace hb := Nrm.nrm hb
              refine wp_skip ?_
              refine then_k hK ?_; clear hK; clear K
              refine wp_seq_k ?_; intro K hK
              refine wp_seq_k ?_; intro K hK
              replace E := E.keep (e' := [(2, _), (3, _), (4, _)]) (keep_cons rfl (keep_cons rfl (keep_cons rfl (keep_nil))))
              refine region_list ?_
              refine list_pure E rfl rfl (by decide) (rn_assign E rfl rfl) ?_; clear E a; intro a E
              refine wpList_nil ?_
              refine then_k hK ?_; clear hK; clear K
              refine wp_block ?_
              refine wp_loop_ghost (fun (m : Nat) (a : Act) (w' : World) => ∃ i : Nat, m = r.list.length - i ∧ i ≤ r.list.length ∧ (∀ j, j < i → r.list[j]? = s.list[j]?) ∧ St w0 As w' ([(b3, cel [.int .i64 s.ses, .int .i64 s.id, .int .i64 s.err, .int .i64 s.num, str s.text, .slice adm s.list.length cm, .slice ad2 s.data.length c2] 50)] :: [(b2, cel [.int .i64 r.ses, .int .i64 r.id, .int .i64 r.err, .int .i64 r.num, str r.text, .slice adl r.list.length cl, .slice ad r.data.length c] 50)] :: As) ∧ Fr a 73 [(2, ptr b2), (3, ptr b3), (5, .int .i64 i)]) (r.list.length - 0) ?_ ?_
              · exact ⟨0, rfl, by omega, fun j h => by omega, S, E.keep (keep_cons rfl (keep_cons rfl (keep_cons rfl keep_nil)))⟩
              clear E; clear a; (try clear S); rintro m a w ⟨i, rfl, hi, hm, S, E⟩
              have hlen : r.list.length = s.list.length := (by omega)
              refine wp_seq_k ?_; intro K hK
              refine wp_seq_k ?_; intro K hK
              refine region_list ?_
              refine list_pure E rfl rfl (by decide) (rn_move E rfl rfl) ?_; clear E a; intro a E
              refine list_pure E rfl rfl (by decide) (by first | exact rn_fieldAddr0 (q := 5) E rfl rfl rfl | exact rn_fieldAddr (q := 5) E rfl rfl rfl) ?_; clear E a; intro a E
              refine list_pure E rfl rfl (by decide) (by first | exact rn_load E rfl rfl rfl (S.get (by repeat (first | exact pk1 | apply pick_tail))) rfl | exact rn_loadc E rfl rfl rfl (by assumption)) ?_; clear E a; intro a E
              refine list_pure E rfl rfl (by decide) (by first | exact rn_len E rfl rfl rfl | exact rn_len_str E rfl rfl rfl | exact rn_len_string E rfl rfl rfl) ?_; clear E a; intro a E
              refine list_pure E rfl rfl (by decide) (rn_lss E rfl rfl rfl) ?_; clear E a; intro a E
              refine wpList_nil ?_
              refine then_k hK ?_; clear hK; clear K
              refine if_bool E rfl (fun hb => ?_) (fun hb => ?_)
              · replace hb := Nrm.nrm hb
                refine wp_skip ?_
                refine then_k hK ?_; clear hK; clear K
                refine wp_seq_k ?_; intro K hK
                refine wp_block ?_
                refine wp_seq_k ?_; intro K hK
                have hib : i < r.list.length := by omega
                have hib2 : i < s.list.length := by omega
                obtain ⟨g, off, rfl⟩ := hL.addr (by omega)
                obtain ⟨g2, off2, rfl⟩ := hM.addr (by omega)
                refine region_mix0 S (.ofL [(0, 0), (1, 0), (2, 0), (3, 0), (4, 0), (5, 0), (6, 0), (7, 0), (8, 0), (9, 0), (10, 0)]) (by kernel_rfl) (by kernel_rfl) ?_
                clear S; intro w S
                refine mix_pure E rfl rfl rfl (by decide) (fun w h => by first | exact rn_fieldAddr0 (q := 5) E rfl rfl rfl | exact rn_fieldAddr (q := 5) E rfl rfl rfl) ?_; clear E a; intro a E
                refine mix_pure E rfl rfl rfl (by decide) (fun w h => by first | exact rn_load E rfl rfl rfl (h.one (by repeat (first | exact mm1 | assumption | apply List.Mem.tail))) rfl | exact rn_loadc E rfl rfl rfl (by assumption)) ?_; clear E a; intro a E
                refine mix_pure E rfl rfl rfl (by decide) (fun w h => rn_move E rfl rfl) ?_; clear E a; intro a E
                refine mix_pure E rfl rfl rfl (by decide) (fun w h => by first | exact rn_indexAddr1 E rfl rfl rfl rfl rfl rfl (by omega) | exact rn_indexAddr E rfl rfl rfl rfl rfl rfl (by omega) | exact rn_indexAddr_array E rfl rfl rfl rfl rfl rfl (by omega)) ?_; clear E a; intro a E
                refine mix_pure E rfl rfl rfl (by decide) (fun w h => rn_loadc E rfl rfl rfl (hL.text (h.at (by repeat (first | exact mm1 | assumption | apply List.Mem.tail))) hib)) ?_; clear E a; intro a E
                refine mix_pure E rfl rfl rfl (by decide) (fun w h => by first | exact rn_fieldAddr0 (q := 5) E rfl rfl rfl | exact rn_fieldAddr (q := 5) E rfl rfl rfl) ?_; clear E a; intro a E
                refine mix_pure E rfl rfl rfl (by decide) (fun w h => by first | exact rn_load E rfl rfl rfl (h.one (by repeat (first | exact mm1 | assumption | apply List.Mem.tail))) rfl | exact rn_loadc E rfl rfl rfl (by assumption)) ?_; clear E a; intro a E
                refine mix_pure E rfl rfl rfl (by decide) (fun w h => rn_move E rfl rfl) ?_; clear E a; intro a E
                refine mix_pure E rfl rfl rfl (by decide) (fun w h => by first | exact rn_indexAddr1 E rfl rfl rfl rfl rfl rfl (by omega) | exact rn_indexAddr E rfl rfl rfl rfl rfl rfl (by omega) | exact rn_indexAddr_array E rfl rfl rfl rfl rfl rfl (by omega)) ?_; clear E a; intro a E
                refine mix_pure E rfl rfl rfl (by decide) (fun w h => rn_loadc E rfl rfl rfl (hM.text (h.at (by repeat (first | exact mm1 | assumption | apply List.Mem.tail))) hib2)) ?_; clear E a; intro a E
                refine mix_pure E rfl rfl rfl (by decide) (fun w h => by first | exact rn_neq E rfl rfl rfl | exact rn_neq_ptr_nil E rfl rfl rfl rfl | exact rn_neq_bool E rfl rfl rfl rfl | exact rn_neq_string E rfl rfl rfl) ?_; clear E a; intro a E
                refine mix_nil ?_
                refine then_k hK ?_; clear hK; clear K
                refine if_bool E rfl (fun hb => ?_) (fun hb => ?_)
                · replace hb := Nrm.nrm hb
                  have hne : r.list[i] ≠ s.list[i] := (by simpa using hb)
                  refine wp_seq_k ?_; intro K hK
                  refine region_list ?_
                  refine list_pure E rfl rfl (by decide) (rn_assign E rfl rfl) ?_; clear E a; intro a E
                  refine wpList_nil ?_
                  refine then_k hK ?_; clear hK; clear K
                  refine wp_ret ?_
                  refine in_ret ?_
                  refine then_ret ?_; clear hK; clear K
                  refine then_ret ?_
                  refine in_ret ?_
                  refine then_ret ?_; clear hK; clear K
                  refine ret1 E rfl rfl ?_
                  exact ⟨_, rfl, by congr 1; symm; rw [decide_eq_false_iff_not]; intro q; subst q; exact hne rfl, S.tail2.tr⟩
                · replace hb := Nrm.nrm hb
                  have heq : r.list[i] = s.list[i] := (by simpa using hb)
                  refine wp_skip ?_
                  refine in_normal ?_
                  refine then_k hK ?_; clear hK; clear K
                  refine region_list ?_
                  refine list_pure E rfl rfl (by decide) (rn_move E rfl rfl) ?_; clear E a; intro a E
                  refine list_pure E rfl rfl (by decide) (rn_add E rfl rfl rfl (by first | exact wa_lit (y := 1) (by omega) | exact w_in (by omega) | exact w_inu (by omega) | exact rfl)) ?_; clear E a; intro a E
                  refine list_pure E rfl rfl (by decide) (rn_assign E rfl rfl) ?_; clear E a; intro a E
                  refine wpList_nil ?_
                  refine then_normal ?_
                  exact ⟨_, by omega, i + 1, rfl, by omega, fun j h => (by rcases Nat.lt_or_ge j i with c1 | c1; exact hm j c1; obtain rfl : j = i := (by omega); rw [List.getElem?_eq_getElem hib, List.getElem?_eq_getElem hib2, heq]), S, E.keep (keep_cons rfl (keep_cons rfl (keep_cons rfl keep_nil)))⟩
              · replace hb := Nrm.nrm hb
                refine wp_exit ?_
                refine then_exit ?_; clear hK; clear K
                refine then_exit ?_
                refine in_exit ?_
                refine then_k hK ?_; clear hK; clear K
                refine wp_seq_k ?_; intro K hK
                obtain rfl : i = r.list.length := by omega
                have hlist : r.list = s.list := List.ext_getElem? fun j => (by rcases Nat.lt_or_ge j r.list.length with c1 | c1; exact hm j c1; rw [List.getElem?_eq_none (by omega), List.getElem?_eq_none (by omega)])
                refine region_list ?_
                refine list_pure E rfl rfl (by decide) (by first | exact rn_fieldAddr0 (q := 6) E rfl rfl rfl | exact rn_fieldAddr (q := 6) E rfl rfl rfl) ?_; clear E a; intro a E
                refine list_pure E rfl rfl (by decide) (by first | exact rn_load E rfl rfl rfl (S.get (by repeat (first | exact pk1 | apply pick_tail))) rfl | exact rn_loadc E rfl rfl rfl (by assumption)) ?_; clear E a; intro a E
                refine list_pure E rfl rfl (by decide) (rn_string E rfl rfl rfl rfl rfl (bs := r.data) hC (S.stab.at (by repeat (first | exact mm1 | assumption | apply List.Mem.tail)))) ?_; clear E a; intro a E
                refine list_pure E rfl rfl (by decide) (by first | exact rn_fieldAddr0 (q := 6) E rfl rfl rfl | exact rn_fieldAddr (q := 6) E rfl rfl rfl) ?_; clear E a; intro a E
                refine list_pure E rfl rfl (by decide) (by first | exact rn_load E rfl rfl rfl (S.get (by repeat (first | exact pk1 | apply pick_tail))) rfl | exact rn_loadc E rfl rfl rfl (by assumption)) ?_; clear E a; intro a E
                refine list_pure E rfl rfl (by decide) (rn_string E rfl rfl rfl rfl rfl (bs := s.data) hD (S.stab.at (by repeat (first | exact mm1 | assumption | apply List.Mem.tail)))) ?_; clear E a; intro a E
                refine list_pure E rfl rfl (by decide) (by first | exact rn_eql E rfl rfl rfl | exact rn_eql_ptr_nil E rfl rfl rfl rfl | exact rn_eql_bool E rfl rfl rfl rfl | exact rn_eql_string E rfl rfl rfl) ?_; clear E a; intro a E
                refine list_pure E rfl rfl (by decide) (rn_assign E rfl rfl) ?_; clear E a; intro a E
                refine wpList_nil ?_
                refine then_k hK ?_; clear hK; clear K
                refine wp_ret ?_
                refine ret1 E rfl rfl ?_
                exact ⟨_, rfl, by congr 1; rw [Bool.eq_iff_iff, decide_eq_true_eq (p := r = s), rp_eq]; simp_all, S.tail2.tr⟩
end Go.Proofs.YtjhmjdgdgpgcdaaDoor
