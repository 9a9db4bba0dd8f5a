/-
  CodeWrites: a writer lays down what the document says, whatever it is asked.
-/
import Derived.Test.YtbnldjephphhhaaCodeC
import Derived.Test.YtbnldjephphhhaaCodeV
namespace Go.Sl

def Wr.step (s : Wr) (c : Cl) : Wr := if c.kind = 0 then s.num c.n c.many else if c.kind = 1 then s.bytes c.b else if c.kind = 2 then s.text c.s else if c.kind = 3 then s.pad c.many else s
theorem Wr.lay_fit (s : Wr) (x : Laid) (h : s.bs.length ≤ s.room) : (s.lay x).room = s.room ∧ (s.lay x).bs.length ≤ s.room := by
  unfold Wr.lay
  split
  · exact ⟨rfl, h⟩
  · split
    · exact ⟨rfl, h⟩
    · rename_i b
      refine ⟨s.putS_room b, ?_⟩
      simp only [Wr.putS]
      split
      · rename_i hf
        simp only [Wr.fits, decide_eq_true_eq] at hf
        simp only [List.length_append]; exact hf
      · exact h
theorem Wr.step_fit (s : Wr) (c : Cl) (h : s.bs.length ≤ s.room) : (s.step c).room = s.room ∧ (s.step c).bs.length ≤ s.room := by
  unfold Wr.step
  split
  · exact s.lay_fit _ h
  split
  · exact s.lay_fit _ h
  split
  · exact s.lay_fit _ h
  split
  · exact s.lay_fit _ h
  · exact ⟨rfl, h⟩
end Go.Sl

namespace Go.Proofs.Ytbnldjephphhhaa
open Go.Sl Go.ChangeShapes Go.WideShapes Go.ChangeAt Go.RowKit
set_option maxRecDepth 10000

theorem done_any (p : Nat) (s : Wr) (A : Chunk) (w0 : World) (hA : WrC 57 p s A) (H : Hp w0 [A]) (hr : s.bs.length ≤ 140737488355328) :
    Ret Try.prog 12 #[ptr p] w0 fun u w' => ∃ ad c C x, u = .tuple #[.slice ad x.length c, .int .i64 s.e] ∧ x = (if s.e = 0 then s.bs else []) ∧ Buf C 5 1 (.slice ad x.length c) x.length (byt x) ∧ Trs w0 w' [A] [C, A] :=
  (done_ret p s A w0 hA H hr).mono fun u w' h => by
    rcases h with ⟨h, rfl, hT⟩ | ⟨h, g, rfl, hT⟩
    · exact ⟨none, 0, [], [], rfl, by rw [if_neg h], Buf.nil _ _, ((St.begin H).all hT).addNil.tr⟩
    · exact ⟨_, _, _, s.bs, by rw [h]; rfl, by rw [if_pos h], buf_block rfl (by omega), hT⟩

set_option maxHeartbeats 4000000 in
theorem lays_ret (p q : Nat) (s : Wr) (A B O : Chunk) (c : Cl) (w0 : World) (hA : WrC 57 p s A) (hB : WrC 68 q s B) (hcok : c.Ok O) (H : Hp w0 [A, B, O]) (hr : s.room ≤ 100000) :
    Ret Try.prog 17 #[ptr p, ptr q, .agg c.lay.toArray] w0 fun _ w' => ∃ A' B', WrC 57 p (s.step c) A' ∧ WrC 68 q (s.step c) B' ∧ Trs w0 w' [A, B, O] [A', B', O] := by
  have S := St.begin H
  obtain ⟨adb, cpb, hbv⟩ := hcok.bv
  have hrd : Rd O 1 (.slice adb c.b.length cpb) c.b.length (byt c.b) := hbv ▸ hcok.rd
  have hbl := hcok.bl
  have hmb := hcok.many
  refine enter3 70 Try.func17 rfl rfl (by decide) ?_; intro a E
  simp only [Cl.lay, hbv] at E
  refine wp_seq_k ?_; intro K hK
  refine region_list ?_
  refine list_wp rfl (wp_box E S rfl rfl (by decide) rfl rfl ?_); clear E S a; intro a w b5 E S
  refine wpList_nil ?_
  refine then_k hK ?_; clear hK; clear K
  refine wp_seq_k ?_; intro K hK
  refine region_list ?_
  refine list_pure E rfl rfl (by decide) (by first | exact rn_fieldAddr0 (q := 0) E rfl rfl rfl | exact rn_fieldAddr (q := 0) E rfl rfl rfl) ?_; clear E a; intro a E
  refine list_pure E rfl rfl (by decide) (by first | exact rn_load E rfl rfl rfl (S.get (by first | exact pk1 | exact pk2 | exact pk3 | exact pk4 | exact pk5 | exact pk6 | exact pk7 | exact pk8 | exact pk9)) rfl | exact rn_loadc E rfl rfl rfl (by assumption)) ?_; clear E a; intro a E
  refine wpList_nil ?_
  refine then_k hK ?_; clear hK; clear K
  refine wp_block ?_
  refine wp_seq_k ?_; intro K hK
  refine region_list ?_
  refine list_pure E rfl rfl (by decide) (by first | exact rn_eql E rfl rfl rfl | exact rn_eql_ptr_nil E rfl rfl rfl rfl | exact rn_eql_bool E rfl rfl rfl rfl | exact rn_eql_string E rfl rfl rfl) ?_; clear E a; intro a E
  refine list_pure E rfl rfl (by decide) (rn_assign E rfl rfl) ?_; clear E a; intro a E
  refine wpList_nil ?_
  refine then_k hK ?_; clear hK; clear K
  refine if_bool E rfl (fun hb => ?_) (fun hb => ?_)
  · first | replace hb := n1 hb | replace hb := n2 hb | replace hb := n3 hb | replace hb := n4 hb | replace hb := n5 hb | replace hb := n6 hb | skip
    refine wp_seq_k ?_; intro K hK
    refine region_list ?_
    refine list_pure E rfl rfl (by decide) (rn_move E rfl rfl) ?_; clear E a; intro a E
    refine list_pure E rfl rfl (by decide) (by first | exact rn_fieldAddr0 (q := 1) E rfl rfl rfl | exact rn_fieldAddr (q := 1) E rfl rfl rfl) ?_; clear E a; intro a E
    refine list_pure E rfl rfl (by decide) (by first | exact rn_load E rfl rfl rfl (S.get (by first | exact pk1 | exact pk2 | exact pk3 | exact pk4 | exact pk5 | exact pk6 | exact pk7 | exact pk8 | exact pk9)) rfl | exact rn_loadc E rfl rfl rfl (by assumption)) ?_; clear E a; intro a E
    refine list_pure E rfl rfl (by decide) (by first | exact rn_fieldAddr0 (q := 2) E rfl rfl rfl | exact rn_fieldAddr (q := 2) E rfl rfl rfl) ?_; clear E a; intro a E
    refine list_pure E rfl rfl (by decide) (by first | exact rn_load E rfl rfl rfl (S.get (by first | exact pk1 | exact pk2 | exact pk3 | exact pk4 | exact pk5 | exact pk6 | exact pk7 | exact pk8 | exact pk9)) rfl | exact rn_loadc E rfl rfl rfl (by assumption)) ?_; clear E a; intro a E
    refine list_call E rfl rfl (by decide) rfl Try.func11 rfl (by kernel_rfl) rfl (num_ret p s A _ hA c.n c.many (S.hp.sel (sel_cons (by first | exact pk1 | exact pk2 | exact pk3 | exact pk4 | exact pk5 | exact pk6 | exact pk7 | exact pk8 | exact pk9) (sel_nil _))) (by omega)) ?_
    rintro v17 w ⟨A1, hA1, hT⟩; clear E a; intro a E
    have S := S.call1 (sel_cons (by first | exact pk1 | exact pk2 | exact pk3 | exact pk4 | exact pk5 | exact pk6 | exact pk7 | exact pk8 | exact pk9) (sel_nil _)) hT
    refine wpList_nil ?_
    refine then_k hK ?_; clear hK; clear K
    refine region_list ?_
    refine list_pure E rfl rfl (by decide) (rn_move E rfl rfl) ?_; clear E a; intro a E
    refine list_pure E rfl rfl (by decide) (by first | exact rn_fieldAddr0 (q := 1) E rfl rfl rfl | exact rn_fieldAddr (q := 1) E rfl rfl rfl) ?_; clear E a; intro a E
    refine list_pure E rfl rfl (by decide) (by first | exact rn_load E rfl rfl rfl (S.get (by first | exact pk1 | exact pk2 | exact pk3 | exact pk4 | exact pk5 | exact pk6 | exact pk7 | exact pk8 | exact pk9)) rfl | exact rn_loadc E rfl rfl rfl (by assumption)) ?_; clear E a; intro a E
    refine list_pure E rfl rfl (by decide) (by first | exact rn_fieldAddr0 (q := 2) E rfl rfl rfl | exact rn_fieldAddr (q := 2) E rfl rfl rfl) ?_; clear E a; intro a E
    refine list_pure E rfl rfl (by decide) (by first | exact rn_load E rfl rfl rfl (S.get (by first | exact pk1 | exact pk2 | exact pk3 | exact pk4 | exact pk5 | exact pk6 | exact pk7 | exact pk8 | exact pk9)) rfl | exact rn_loadc E rfl rfl rfl (by assumption)) ?_; clear E a; intro a E
    refine list_call E rfl rfl (by decide) rfl Try.func39 rfl (by kernel_rfl) rfl (vnum_ret q s B c.n hcok.n c.many _ hB (S.hp.sel (sel_cons (by first | exact pk1 | exact pk2 | exact pk3 | exact pk4 | exact pk5 | exact pk6 | exact pk7 | exact pk8 | exact pk9) (sel_nil _))) (by omega)) ?_
    rintro v23 w ⟨B1, hB1, hT⟩; clear E a; intro a E
    have S := S.call1 (sel_cons (by first | exact pk1 | exact pk2 | exact pk3 | exact pk4 | exact pk5 | exact pk6 | exact pk7 | exact pk8 | exact pk9) (sel_nil _)) hT
    refine wpList_nil ?_
    refine in_normal ?_
    refine end0 E rfl ?_
    exact ⟨_, rfl, A1, B1, by rw [Wr.step, if_pos (by omega)]; exact hA1, by rw [Wr.step, if_pos (by omega)]; exact hB1, (S.only (Bs := [A1, B1, O]) (sel_cons (by first | exact pk1 | exact pk2 | exact pk3 | exact pk4 | exact pk5 | exact pk6 | exact pk7 | exact pk8 | exact pk9) (sel_cons (by first | exact pk1 | exact pk2 | exact pk3 | exact pk4 | exact pk5 | exact pk6 | exact pk7 | exact pk8 | exact pk9) (sel_cons (by first | exact pk1 | exact pk2 | exact pk3 | exact pk4 | exact pk5 | exact pk6 | exact pk7 | exact pk8 | exact pk9) (sel_nil _))))).tr⟩
  · first | replace hb := n1 hb | replace hb := n2 hb | replace hb := n3 hb | replace hb := n4 hb | replace hb := n5 hb | replace hb := n6 hb | skip
    refine wp_seq_k ?_; intro K hK
    refine region_list ?_
    refine list_pure E rfl rfl (by decide) (by first | exact rn_eql E rfl rfl rfl | exact rn_eql_ptr_nil E rfl rfl rfl rfl | exact rn_eql_bool E rfl rfl rfl rfl | exact rn_eql_string E rfl rfl rfl) ?_; clear E a; intro a E
    refine list_pure E rfl rfl (by decide) (rn_assign E rfl rfl) ?_; clear E a; intro a E
    refine wpList_nil ?_
    refine then_k hK ?_; clear hK; clear K
    refine if_bool E rfl (fun hb => ?_) (fun hb => ?_)
    · first | replace hb := n1 hb | replace hb := n2 hb | replace hb := n3 hb | replace hb := n4 hb | replace hb := n5 hb | replace hb := n6 hb | skip
      refine wp_seq_k ?_; intro K hK
      have S := S.addNil
      refine region_list ?_
      refine list_pure E rfl rfl (by decide) (by first | exact rn_fieldAddr0 (q := 3) E rfl rfl rfl | exact rn_fieldAddr (q := 3) E rfl rfl rfl) ?_; clear E a; intro a E
      refine list_pure E rfl rfl (by decide) (by first | exact rn_load E rfl rfl rfl (S.get (by first | exact pk1 | exact pk2 | exact pk3 | exact pk4 | exact pk5 | exact pk6 | exact pk7 | exact pk8 | exact pk9)) rfl | exact rn_loadc E rfl rfl rfl (by assumption)) ?_; clear E a; intro a E
      refine list_wp rfl (wp_append (by' := 1) E S rfl rfl (by decide) rfl rfl (Buf.nil 5 1) (by first | exact pk1 | exact pk2 | exact pk3 | exact pk4 | exact pk5 | exact pk6 | exact pk7 | exact pk8 | exact pk9) (hrd.src (S.stab.at (by first | exact mm1 | exact mm2 | exact mm3 | exact mm4 | exact mm5 | exact mm6 | exact mm7 | exact mm8)) rfl) rfl rfl rfl rfl rfl rfl (by simp only [maxLen]; omega) (by omega) ?_); clear E S a; intro a w v28 C28 E S hB28
      rw [Nat.zero_add, List.nil_append] at hB28
      obtain ⟨ad6, c6, rfl⟩ := hB28.slice
      refine list_pure E rfl rfl (by decide) (rn_assign E rfl rfl) ?_; clear E a; intro a E
      refine wpList_nil ?_
      refine then_k hK ?_; clear hK; clear K
      refine wp_seq_k ?_; intro K hK
      refine region_list ?_
      refine list_pure E rfl rfl (by decide) (rn_move E rfl rfl) ?_; clear E a; intro a E
      refine list_pure E rfl rfl (by decide) (rn_move E rfl rfl) ?_; clear E a; intro a E
      refine list_call E rfl rfl (by decide) rfl Try.func24 rfl (by kernel_rfl) rfl (bytes_ret p s A C28 _ hA _ c.b hB28.rd (S.hp.sel (sel_cons (by first | exact pk1 | exact pk2 | exact pk3 | exact pk4 | exact pk5 | exact pk6 | exact pk7 | exact pk8 | exact pk9) (sel_cons (by first | exact pk1 | exact pk2 | exact pk3 | exact pk4 | exact pk5 | exact pk6 | exact pk7 | exact pk8 | exact pk9) (sel_nil _)))) (by omega)) ?_
      rintro v31 w ⟨A1, hA1, hT⟩; clear E a; intro a E
      have S := S.call2 (sel_cons (by first | exact pk1 | exact pk2 | exact pk3 | exact pk4 | exact pk5 | exact pk6 | exact pk7 | exact pk8 | exact pk9) (sel_cons (by first | exact pk1 | exact pk2 | exact pk3 | exact pk4 | exact pk5 | exact pk6 | exact pk7 | exact pk8 | exact pk9) (sel_nil _))) hT
      refine wpList_nil ?_
      rw [byt_ints] at hB28
      refine then_k hK ?_; clear hK; clear K
      refine wp_seq_k ?_; intro K hK
      refine wp_seq_k ?_; intro K hK
      refine region_list ?_
      refine list_pure E rfl rfl (by decide) (rn_assign E rfl rfl) ?_; clear E a; intro a E
      refine wpList_nil ?_
      refine then_k hK ?_; clear hK; clear K
      refine wp_block ?_
      refine wp_loop_ghost (fun (m : Nat) (a : Act) (w' : World) => ∃ (j : Nat) (zs : List Int) (C1 : Chunk), m = c.b.length - j ∧ zs.length = c.b.length ∧ Buf C1 5 1 (.slice ad6 c.b.length c6) c.b.length (zs.map (.int .u8)) ∧ St w0 [A, B, O] w' [C1, A1, [(b5, cel [.int .i64 c.kind, .int .u64 c.n, .int .i64 c.many, .slice adb c.b.length cpb, str c.s] 42)], B, O] ∧ Fr a 70 [(1, ptr q), (5, ptr b5), (6, .slice ad6 c.b.length c6), (7, .int .i64 j)]) (c.b.length - 0) ?_ ?_
      · exact ⟨0, _, C28, rfl, by simp, hB28, S.perm (Bs := [C28, A1, [(b5, _)], B, O]) (sel_cons (by first | exact pk1 | exact pk2 | exact pk3 | exact pk4 | exact pk5 | exact pk6 | exact pk7 | exact pk8 | exact pk9) (sel_cons (by first | exact pk1 | exact pk2 | exact pk3 | exact pk4 | exact pk5 | exact pk6 | exact pk7 | exact pk8 | exact pk9) (sel_cons (by first | exact pk1 | exact pk2 | exact pk3 | exact pk4 | exact pk5 | exact pk6 | exact pk7 | exact pk8 | exact pk9) (sel_cons (by first | exact pk1 | exact pk2 | exact pk3 | exact pk4 | exact pk5 | exact pk6 | exact pk7 | exact pk8 | exact pk9) (sel_cons (by first | exact pk1 | exact pk2 | exact pk3 | exact pk4 | exact pk5 | exact pk6 | exact pk7 | exact pk8 | exact pk9) (sel_nil _)))))), E.keep (keep_cons rfl (keep_cons rfl (keep_cons rfl (keep_cons rfl keep_nil))))⟩
      clear E; clear a; rintro m a w ⟨j, zs, C1, rfl, hzl, hB1, S, E⟩
      refine wp_seq_k ?_; intro K hK
      refine wp_seq_k ?_; intro K hK
      refine region_list ?_
      refine list_pure E rfl rfl (by decide) (rn_move E rfl rfl) ?_; clear E a; intro a E
      refine list_pure E rfl rfl (by decide) (rn_move E rfl rfl) ?_; clear E a; intro a E
      refine list_pure E rfl rfl (by decide) (by first | exact rn_len E rfl rfl rfl | exact rn_len_str E rfl rfl rfl | exact rn_len_string E rfl rfl rfl) ?_; clear E a; intro a E
      refine list_pure E rfl rfl (by decide) (rn_lss E rfl rfl rfl) ?_; clear E a; intro a E
      refine wpList_nil ?_
      refine then_k hK ?_; clear hK; clear K
      refine if_bool E rfl (fun hb => ?_) (fun hb => ?_)
      · first | replace hb := n1 hb | replace hb := n2 hb | replace hb := n3 hb | replace hb := n4 hb | replace hb := n5 hb | replace hb := n6 hb | skip
        refine wp_skip ?_
        refine then_k hK ?_; clear hK; clear K
        refine wp_seq_k ?_; intro K hK
        refine wp_block ?_
        obtain ⟨g, c', r, hv, rfl, hn', hc', hl'⟩ := hB1.opened (by omega)
        cases hv
        have hcell := hB1.rd.cells (S.stab.at (by first | exact mm1 | exact mm2 | exact mm3 | exact mm4 | exact mm5 | exact mm6 | exact mm7 | exact mm8)) rfl j (.int .u8 zs[j]) (by simp [List.getElem?_eq_getElem (show j < zs.length by omega)])
        refine region_list ?_
        refine list_pure E rfl rfl (by decide) (rn_move E rfl rfl) ?_; clear E a; intro a E
        refine list_pure E rfl rfl (by decide) (rn_move E rfl rfl) ?_; clear E a; intro a E
        refine list_pure E rfl rfl (by decide) (rn_move E rfl rfl) ?_; clear E a; intro a E
        refine list_pure E rfl rfl (by decide) (rn_move E rfl rfl) ?_; clear E a; intro a E
        refine list_pure E rfl rfl (by decide) (by first | exact rn_indexAddr1 E rfl rfl rfl rfl rfl rfl (by omega) | exact rn_indexAddr E rfl rfl rfl rfl rfl rfl (by omega) | exact rn_indexAddr_array E rfl rfl rfl rfl rfl rfl (by omega)) ?_; clear E a; intro a E
        refine list_pure E rfl rfl (by decide) (rn_loadc E rfl rfl rfl (hcell)) ?_; clear E a; intro a E
        refine list_pure E rfl rfl (by decide) (rn_add E rfl rfl rfl (by first | exact wa_lit (y := 1) (by omega) | exact w_in (by omega) | exact w_inu (by omega) | exact rfl)) ?_; clear E a; intro a E
        refine list_pure E rfl rfl (by decide) (by first | exact rn_indexAddr1 E rfl rfl rfl rfl rfl rfl (by omega) | exact rn_indexAddr E rfl rfl rfl rfl rfl rfl (by omega) | exact rn_indexAddr_array E rfl rfl rfl rfl rfl rfl (by omega)) ?_; clear E a; intro a E
        refine list_wp rfl (wp_store1 E S rfl rfl rfl rfl rfl rfl (by first | exact pk1 | exact pk2 | exact pk3 | exact pk4 | exact pk5 | exact pk6 | exact pk7 | exact pk8 | exact pk9) (by simp only [List.length_append, List.length_map]; omega) ?_); clear E S a; intro a w E S; try dsimp only [List.set] at S
        refine wpList_nil ?_
        refine in_normal ?_
        refine then_k hK ?_; clear hK; clear K
        refine region_list ?_
        refine list_pure E rfl rfl (by decide) (rn_move E rfl rfl) ?_; clear E a; intro a E
        refine list_pure E rfl rfl (by decide) (rn_add E rfl rfl rfl (by first | exact wa_lit (y := 1) (by omega) | exact w_in (by omega) | exact w_inu (by omega) | exact rfl)) ?_; clear E a; intro a E
        refine list_pure E rfl rfl (by decide) (rn_assign E rfl rfl) ?_; clear E a; intro a E
        refine wpList_nil ?_
        refine then_normal ?_
        rw [Nat.zero_add, List.set_append_left _ _ (by simp; omega), ← List.map_set] at S
        exact ⟨_, by omega, j + 1, _, _, rfl, by rw [List.length_set]; exact hzl, buf_mk (by simp [hzl]) (ints_one _) hn' hc' (by simpa using hl'), S, E.keep (keep_cons rfl (keep_cons rfl (keep_cons rfl (keep_cons rfl keep_nil))))⟩
      · first | replace hb := n1 hb | replace hb := n2 hb | replace hb := n3 hb | replace hb := n4 hb | replace hb := n5 hb | replace hb := n6 hb | skip
        refine wp_exit ?_
        refine then_exit ?_; clear hK; clear K
        refine then_exit ?_
        refine in_exit ?_
        refine then_k hK ?_; clear hK; clear K
        refine region_list ?_
        refine list_pure E rfl rfl (by decide) (rn_move E rfl rfl) ?_; clear E a; intro a E
        refine list_pure E rfl rfl (by decide) (by first | exact rn_fieldAddr0 (q := 3) E rfl rfl rfl | exact rn_fieldAddr (q := 3) E rfl rfl rfl) ?_; clear E a; intro a E
        refine list_pure E rfl rfl (by decide) (by first | exact rn_load E rfl rfl rfl (S.get (by first | exact pk1 | exact pk2 | exact pk3 | exact pk4 | exact pk5 | exact pk6 | exact pk7 | exact pk8 | exact pk9)) rfl | exact rn_loadc E rfl rfl rfl (by assumption)) ?_; clear E a; intro a E
        refine list_call E rfl rfl (by decide) rfl Try.func40 rfl (by kernel_rfl) rfl (vbytes_ret q s B O _ c.b _ hB hrd (S.hp.sel (sel_cons (by first | exact pk1 | exact pk2 | exact pk3 | exact pk4 | exact pk5 | exact pk6 | exact pk7 | exact pk8 | exact pk9) (sel_cons (by first | exact pk1 | exact pk2 | exact pk3 | exact pk4 | exact pk5 | exact pk6 | exact pk7 | exact pk8 | exact pk9) (sel_nil _)))) (by omega)) ?_
        rintro v49 w ⟨B1, hB1', hT⟩; clear E a; intro a E
        have S := S.call2 (sel_cons (by first | exact pk1 | exact pk2 | exact pk3 | exact pk4 | exact pk5 | exact pk6 | exact pk7 | exact pk8 | exact pk9) (sel_cons (by first | exact pk1 | exact pk2 | exact pk3 | exact pk4 | exact pk5 | exact pk6 | exact pk7 | exact pk8 | exact pk9) (sel_nil _))) hT
        refine wpList_nil ?_
        refine in_normal ?_
        refine end0 E rfl ?_
        exact ⟨_, rfl, A1, B1, by rw [Wr.step, if_neg (by omega), if_pos (by omega)]; exact hA1, by rw [Wr.step, if_neg (by omega), if_pos (by omega)]; exact hB1', (S.only (Bs := [A1, B1, O]) (sel_cons (by first | exact pk1 | exact pk2 | exact pk3 | exact pk4 | exact pk5 | exact pk6 | exact pk7 | exact pk8 | exact pk9) (sel_cons (by first | exact pk1 | exact pk2 | exact pk3 | exact pk4 | exact pk5 | exact pk6 | exact pk7 | exact pk8 | exact pk9) (sel_cons (by first | exact pk1 | exact pk2 | exact pk3 | exact pk4 | exact pk5 | exact pk6 | exact pk7 | exact pk8 | exact pk9) (sel_nil _))))).tr⟩
    · first | replace hb := n1 hb | replace hb := n2 hb | replace hb := n3 hb | replace hb := n4 hb | replace hb := n5 hb | replace hb := n6 hb | skip
      refine wp_seq_k ?_; intro K hK
      refine region_list ?_
      refine list_pure E rfl rfl (by decide) (by first | exact rn_eql E rfl rfl rfl | exact rn_eql_ptr_nil E rfl rfl rfl rfl | exact rn_eql_bool E rfl rfl rfl rfl | exact rn_eql_string E rfl rfl rfl) ?_; clear E a; intro a E
      refine list_pure E rfl rfl (by decide) (rn_assign E rfl rfl) ?_; clear E a; intro a E
      refine wpList_nil ?_
      refine then_k hK ?_; clear hK; clear K
      refine if_bool E rfl (fun hb => ?_) (fun hb => ?_)
      · first | replace hb := n1 hb | replace hb := n2 hb | replace hb := n3 hb | replace hb := n4 hb | replace hb := n5 hb | replace hb := n6 hb | skip
        refine wp_seq_k ?_; intro K hK
        refine region_list ?_
        refine list_pure E rfl rfl (by decide) (rn_move E rfl rfl) ?_; clear E a; intro a E
        refine list_pure E rfl rfl (by decide) (by first | exact rn_fieldAddr0 (q := 4) E rfl rfl rfl | exact rn_fieldAddr (q := 4) E rfl rfl rfl) ?_; clear E a; intro a E
        refine list_pure E rfl rfl (by decide) (by first | exact rn_load E rfl rfl rfl (S.get (by first | exact pk1 | exact pk2 | exact pk3 | exact pk4 | exact pk5 | exact pk6 | exact pk7 | exact pk8 | exact pk9)) rfl | exact rn_loadc E rfl rfl rfl (by assumption)) ?_; clear E a; intro a E
        refine list_call E rfl rfl (by decide) rfl Try.func25 rfl (by kernel_rfl) rfl (text_ret p s A _ hA c.s (S.hp.sel (sel_cons (by first | exact pk1 | exact pk2 | exact pk3 | exact pk4 | exact pk5 | exact pk6 | exact pk7 | exact pk8 | exact pk9) (sel_nil _))) (by omega)) ?_
        rintro v55 w ⟨A1, hA1, hT⟩; clear E a; intro a E
        have S := S.call1 (sel_cons (by first | exact pk1 | exact pk2 | exact pk3 | exact pk4 | exact pk5 | exact pk6 | exact pk7 | exact pk8 | exact pk9) (sel_nil _)) hT
        refine wpList_nil ?_
        refine then_k hK ?_; clear hK; clear K
        refine region_list ?_
        refine list_pure E rfl rfl (by decide) (rn_move E rfl rfl) ?_; clear E a; intro a E
        refine list_pure E rfl rfl (by decide) (by first | exact rn_fieldAddr0 (q := 4) E rfl rfl rfl | exact rn_fieldAddr (q := 4) E rfl rfl rfl) ?_; clear E a; intro a E
        refine list_pure E rfl rfl (by decide) (by first | exact rn_load E rfl rfl rfl (S.get (by first | exact pk1 | exact pk2 | exact pk3 | exact pk4 | exact pk5 | exact pk6 | exact pk7 | exact pk8 | exact pk9)) rfl | exact rn_loadc E rfl rfl rfl (by assumption)) ?_; clear E a; intro a E
        refine list_call E rfl rfl (by decide) rfl Try.func41 rfl (by kernel_rfl) rfl (vtext_ret q s B c.s _ hB (S.hp.sel (sel_cons (by first | exact pk1 | exact pk2 | exact pk3 | exact pk4 | exact pk5 | exact pk6 | exact pk7 | exact pk8 | exact pk9) (sel_nil _))) (by omega) hcok.sl) ?_
        rintro v59 w ⟨B1, hB1, hT⟩; clear E a; intro a E
        have S := S.call1 (sel_cons (by first | exact pk1 | exact pk2 | exact pk3 | exact pk4 | exact pk5 | exact pk6 | exact pk7 | exact pk8 | exact pk9) (sel_nil _)) hT
        refine wpList_nil ?_
        refine in_normal ?_
        refine end0 E rfl ?_
        exact ⟨_, rfl, A1, B1, by rw [Wr.step, if_neg (by omega), if_neg (by omega), if_pos (by omega)]; exact hA1, by rw [Wr.step, if_neg (by omega), if_neg (by omega), if_pos (by omega)]; exact hB1, (S.only (Bs := [A1, B1, O]) (sel_cons (by first | exact pk1 | exact pk2 | exact pk3 | exact pk4 | exact pk5 | exact pk6 | exact pk7 | exact pk8 | exact pk9) (sel_cons (by first | exact pk1 | exact pk2 | exact pk3 | exact pk4 | exact pk5 | exact pk6 | exact pk7 | exact pk8 | exact pk9) (sel_cons (by first | exact pk1 | exact pk2 | exact pk3 | exact pk4 | exact pk5 | exact pk6 | exact pk7 | exact pk8 | exact pk9) (sel_nil _))))).tr⟩
      · first | replace hb := n1 hb | replace hb := n2 hb | replace hb := n3 hb | replace hb := n4 hb | replace hb := n5 hb | replace hb := n6 hb | skip
        refine wp_seq_k ?_; intro K hK
        refine region_list ?_
        refine list_pure E rfl rfl (by decide) (by first | exact rn_eql E rfl rfl rfl | exact rn_eql_ptr_nil E rfl rfl rfl rfl | exact rn_eql_bool E rfl rfl rfl rfl | exact rn_eql_string E rfl rfl rfl) ?_; clear E a; intro a E
        refine list_pure E rfl rfl (by decide) (rn_assign E rfl rfl) ?_; clear E a; intro a E
        refine wpList_nil ?_
        refine then_k hK ?_; clear hK; clear K
        refine if_bool E rfl (fun hb => ?_) (fun hb => ?_)
        · first | replace hb := n1 hb | replace hb := n2 hb | replace hb := n3 hb | replace hb := n4 hb | replace hb := n5 hb | replace hb := n6 hb | skip
          refine wp_seq_k ?_; intro K hK
          refine region_list ?_
          refine list_pure E rfl rfl (by decide) (rn_move E rfl rfl) ?_; clear E a; intro a E
          refine list_pure E rfl rfl (by decide) (by first | exact rn_fieldAddr0 (q := 2) E rfl rfl rfl | exact rn_fieldAddr (q := 2) E rfl rfl rfl) ?_; clear E a; intro a E
          refine list_pure E rfl rfl (by decide) (by first | exact rn_load E rfl rfl rfl (S.get (by first | exact pk1 | exact pk2 | exact pk3 | exact pk4 | exact pk5 | exact pk6 | exact pk7 | exact pk8 | exact pk9)) rfl | exact rn_loadc E rfl rfl rfl (by assumption)) ?_; clear E a; intro a E
          refine list_call E rfl rfl (by decide) rfl Try.func26 rfl (by kernel_rfl) rfl (pad_ret p s A _ hA c.many (S.hp.sel (sel_cons (by first | exact pk1 | exact pk2 | exact pk3 | exact pk4 | exact pk5 | exact pk6 | exact pk7 | exact pk8 | exact pk9) (sel_nil _))) (by omega)) ?_
          rintro v65 w ⟨A1, hA1, hT⟩; clear E a; intro a E
          have S := S.call1 (sel_cons (by first | exact pk1 | exact pk2 | exact pk3 | exact pk4 | exact pk5 | exact pk6 | exact pk7 | exact pk8 | exact pk9) (sel_nil _)) hT
          refine wpList_nil ?_
          refine then_k hK ?_; clear hK; clear K
          refine region_list ?_
          refine list_pure E rfl rfl (by decide) (rn_move E rfl rfl) ?_; clear E a; intro a E
          refine list_pure E rfl rfl (by decide) (by first | exact rn_fieldAddr0 (q := 2) E rfl rfl rfl | exact rn_fieldAddr (q := 2) E rfl rfl rfl) ?_; clear E a; intro a E
          refine list_pure E rfl rfl (by decide) (by first | exact rn_load E rfl rfl rfl (S.get (by first | exact pk1 | exact pk2 | exact pk3 | exact pk4 | exact pk5 | exact pk6 | exact pk7 | exact pk8 | exact pk9)) rfl | exact rn_loadc E rfl rfl rfl (by assumption)) ?_; clear E a; intro a E
          refine list_call E rfl rfl (by decide) rfl Try.func42 rfl (by kernel_rfl) rfl (vpad_ret q s B c.many _ hB (S.hp.sel (sel_cons (by first | exact pk1 | exact pk2 | exact pk3 | exact pk4 | exact pk5 | exact pk6 | exact pk7 | exact pk8 | exact pk9) (sel_nil _))) (by omega) (by omega)) ?_
          rintro v69 w ⟨B1, hB1, hT⟩; clear E a; intro a E
          have S := S.call1 (sel_cons (by first | exact pk1 | exact pk2 | exact pk3 | exact pk4 | exact pk5 | exact pk6 | exact pk7 | exact pk8 | exact pk9) (sel_nil _)) hT
          refine wpList_nil ?_
          refine in_normal ?_
          refine end0 E rfl ?_
          exact ⟨_, rfl, A1, B1, by rw [Wr.step, if_neg (by omega), if_neg (by omega), if_neg (by omega), if_pos (by omega)]; exact hA1, by rw [Wr.step, if_neg (by omega), if_neg (by omega), if_neg (by omega), if_pos (by omega)]; exact hB1, (S.only (Bs := [A1, B1, O]) (sel_cons (by first | exact pk1 | exact pk2 | exact pk3 | exact pk4 | exact pk5 | exact pk6 | exact pk7 | exact pk8 | exact pk9) (sel_cons (by first | exact pk1 | exact pk2 | exact pk3 | exact pk4 | exact pk5 | exact pk6 | exact pk7 | exact pk8 | exact pk9) (sel_cons (by first | exact pk1 | exact pk2 | exact pk3 | exact pk4 | exact pk5 | exact pk6 | exact pk7 | exact pk8 | exact pk9) (sel_nil _))))).tr⟩
        · first | replace hb := n1 hb | replace hb := n2 hb | replace hb := n3 hb | replace hb := n4 hb | replace hb := n5 hb | replace hb := n6 hb | skip
          refine wp_skip ?_
          refine in_normal ?_
          refine end0 E rfl ?_
          exact ⟨_, rfl, A, B, by rw [Wr.step, if_neg (by omega), if_neg (by omega), if_neg (by omega), if_neg (by omega)]; exact hA, by rw [Wr.step, if_neg (by omega), if_neg (by omega), if_neg (by omega), if_neg (by omega)]; exact hB, (S.only (Bs := [A, B, O]) (sel_cons (by first | exact pk1 | exact pk2 | exact pk3 | exact pk4 | exact pk5 | exact pk6 | exact pk7 | exact pk8 | exact pk9) (sel_cons (by first | exact pk1 | exact pk2 | exact pk3 | exact pk4 | exact pk5 | exact pk6 | exact pk7 | exact pk8 | exact pk9) (sel_cons (by first | exact pk1 | exact pk2 | exact pk3 | exact pk4 | exact pk5 | exact pk6 | exact pk7 | exact pk8 | exact pk9) (sel_nil _))))).tr⟩

set_option maxHeartbeats 4000000 in
theorem writes_walk (O : Chunk) (room : Int) (hroom : -9223372036854775808 ≤ room ∧ room ≤ 9223372036854775807) (lv : Value) (l : List Cl) (hO : Rd O 5 lv l.length (l.flatMap Cl.lay)) (hg : ∀ c ∈ l, c.Ok O) (hl : l.length * 64 ≤ 140737488351232) (w0 : World) (H : Hp w0 [O]) :
    Ret Try.prog 4 #[.int .i64 room, lv] w0 fun u w' => u = .bool true ∧ Trs w0 w' [O] [O] := by
  have S := St.begin H
  obtain ⟨ad, cp, rfl⟩ := hO.slice
  refine enter2 98 Try.func4 rfl rfl (by decide) ?_; intro a E
  refine wp_seq_k ?_; intro K hK
  refine region_list ?_
  refine list_pure E rfl rfl (by decide) (rn_assign E rfl rfl) ?_; clear E a; intro a E
  refine wpList_nil ?_
  refine then_k hK ?_; clear hK; clear K
  refine wp_seq_k ?_; intro K hK
  refine region_list ?_
  refine list_call E rfl rfl (by decide) rfl Try.func9 rfl (by kernel_rfl) rfl (awake_ret _) ?_
  rintro v16 w ⟨rfl, hT⟩; clear E a; intro a E
  have S := S.quiet hT
  refine list_pure E rfl rfl (by decide) (rn_assign E rfl rfl) ?_; clear E a; intro a E
  refine wpList_nil ?_
  refine then_k hK ?_; clear hK; clear K
  refine wp_seq_k ?_; intro K hK
  refine wp_seq_k ?_; intro K hK
  refine region_list ?_
  refine list_pure E rfl rfl (by decide) (rn_move E rfl rfl) ?_; clear E a; intro a E
  refine list_pure E rfl rfl (by decide) (rn_gtr E rfl rfl rfl) ?_; clear E a; intro a E
  refine wpList_nil ?_
  refine then_k hK ?_; clear hK; clear K
  refine if_bool E rfl (fun hb => ?_) (fun hb => ?_)
  · first | replace hb := n1 hb | replace hb := n2 hb | replace hb := n3 hb | replace hb := n4 hb | replace hb := n5 hb | replace hb := n6 hb | skip
    refine wp_seq_k ?_; intro K hK
    refine region_list ?_
    refine list_pure E rfl rfl (by decide) (rn_move E rfl rfl) ?_; clear E a; intro a E
    refine list_pure E rfl rfl (by decide) (rn_assign E rfl rfl) ?_; clear E a; intro a E
    refine wpList_nil ?_
    refine then_k hK ?_; clear hK; clear K
    refine wp_ret ?_
    refine then_ret ?_; clear hK; clear K
    refine ret1 E rfl rfl ?_
    exact ⟨_, rfl, rfl, S.tr⟩
  · first | replace hb := n1 hb | replace hb := n2 hb | replace hb := n3 hb | replace hb := n4 hb | replace hb := n5 hb | replace hb := n6 hb | skip
    refine wp_skip ?_
    refine then_k hK ?_; clear hK; clear K
    refine wp_seq_k ?_; intro K hK
    refine region_list ?_
    refine list_pure E rfl rfl (by decide) (rn_move E rfl rfl) ?_; clear E a; intro a E
    refine list_call E rfl rfl (by decide) rfl Try.func10 rfl (by kernel_rfl) rfl (writer_ret room _) ?_
    rintro v21 w ⟨p, A, rfl, hA, hT⟩; clear E a; intro a E
    have S := S.fresh hT
    refine list_pure E rfl rfl (by decide) (rn_assign E rfl rfl) ?_; clear E a; intro a E
    refine wpList_nil ?_
    refine then_k hK ?_; clear hK; clear K
    refine wp_seq_k ?_; intro K hK
    refine region_list ?_
    refine list_pure E rfl rfl (by decide) (rn_move E rfl rfl) ?_; clear E a; intro a E
    refine list_call E rfl rfl (by decide) rfl Try.func16 rfl (by kernel_rfl) rfl (vnew_ret room _) ?_
    rintro v23 w ⟨q, B, rfl, hB, hT⟩; clear E a; intro a E
    have S := S.fresh hT
    refine list_pure E rfl rfl (by decide) (rn_assign E rfl rfl) ?_; clear E a; intro a E
    refine wpList_nil ?_
    refine then_k hK ?_; clear hK; clear K
    refine wp_seq_k ?_; intro K hK
    refine wp_seq_k ?_; intro K hK
    refine region_list ?_
    refine list_pure E rfl rfl (by decide) (rn_move E rfl rfl) ?_; clear E a; intro a E
    refine list_pure E rfl rfl (by decide) (by first | exact rn_eql E rfl rfl rfl | exact rn_eql_ptr_nil E rfl rfl rfl rfl | exact rn_eql_bool E rfl rfl rfl rfl | exact rn_eql_string E rfl rfl rfl) ?_; clear E a; intro a E
    refine list_pure E rfl rfl (by decide) (rn_move E rfl rfl) ?_; clear E a; intro a E
    refine guard_false E (t := 26) rfl (rfl) (fun hb26 => ?_)
    refine list_guard_yes E rfl rfl rfl rfl hb26 rfl (by decide) (rn_move E rfl rfl) ?_; clear E a; intro a E
    refine list_guard_yes E rfl rfl rfl rfl hb26 rfl (by decide) (rn_not E rfl rfl) ?_; clear E a; intro a E
    refine list_pure E rfl rfl (by decide) (rn_pick_no' E rfl rfl hb26 rfl) ?_; clear E a; intro a E
    refine wpList_nil ?_
    refine then_k hK ?_; clear hK; clear K
    refine if_false' E rfl (rfl) ?_
    refine wp_skip ?_
    refine then_k hK ?_; clear hK; clear K
    refine wp_seq_k ?_; intro K hK
    refine wp_seq_k ?_; intro K hK
    refine region_list ?_
    refine list_pure E rfl rfl (by decide) (rn_assign E rfl rfl) ?_; clear E a; intro a E
    refine wpList_nil ?_
    refine then_k hK ?_; clear hK; clear K
    refine wp_block ?_
    refine wp_loop_ghost (fun (m : Nat) (a : Act) (w' : World) => ∃ (i : Nat) (s : Wr) (A B : Chunk), i ≤ l.length ∧ m = l.length - i ∧ WrC 57 p s A ∧ WrC 68 q s B ∧ s.room ≤ 100000 ∧ s.bs.length ≤ s.room ∧ St w0 [O] w' [A, B, O] ∧ Fr a 98 [(1, .slice ad l.length cp), (6, ptr p), (7, ptr q), (8, .int .i64 i)]) (l.length - 0) ?_ ?_
    · exact ⟨0, _, A, B, by omega, rfl, hA, hB, by simp only; omega, by simp, S.perm (Bs := [A, B, O]) (sel_cons (by first | exact pk1 | exact pk2 | exact pk3 | exact pk4 | exact pk5 | exact pk6 | exact pk7 | exact pk8 | exact pk9) (sel_cons (by first | exact pk1 | exact pk2 | exact pk3 | exact pk4 | exact pk5 | exact pk6 | exact pk7 | exact pk8 | exact pk9) (sel_cons (by first | exact pk1 | exact pk2 | exact pk3 | exact pk4 | exact pk5 | exact pk6 | exact pk7 | exact pk8 | exact pk9) (sel_nil _)))), E.keep (keep_cons rfl (keep_cons rfl (keep_cons rfl (keep_cons rfl keep_nil))))⟩
    clear E; clear a; rintro m a w ⟨i, s, A, B, hi, rfl, hA, hB, hsr, hsb, S, E⟩
    refine wp_seq_k ?_; intro K hK
    refine wp_seq_k ?_; intro K hK
    refine region_list ?_
    refine list_pure E rfl rfl (by decide) (rn_move E rfl rfl) ?_; clear E a; intro a E
    refine list_pure E rfl rfl (by decide) (rn_move E rfl rfl) ?_; clear E a; intro a E
    refine list_pure E rfl rfl (by decide) (by first | exact rn_len E rfl rfl rfl | exact rn_len_str E rfl rfl rfl | exact rn_len_string E rfl rfl rfl) ?_; clear E a; intro a E
    refine list_pure E rfl rfl (by decide) (rn_lss E rfl rfl rfl) ?_; clear E a; intro a E
    refine wpList_nil ?_
    refine then_k hK ?_; clear hK; clear K
    refine if_bool E rfl (fun hb => ?_) (fun hb => ?_)
    · first | replace hb := n1 hb | replace hb := n2 hb | replace hb := n3 hb | replace hb := n4 hb | replace hb := n5 hb | replace hb := n6 hb | skip
      refine wp_skip ?_
      refine then_k hK ?_; clear hK; clear K
      refine wp_seq_k ?_; intro K hK
      refine wp_block ?_
      refine wp_seq_k ?_; intro K hK
      obtain ⟨b0, off, rfl⟩ := hO.addr (by omega)
      have hcell := hO.elem (lay := Cl.lay) Cl.lay_len (S.stab.at (by first | exact mm1 | exact mm2 | exact mm3 | exact mm4 | exact mm5 | exact mm6 | exact mm7 | exact mm8)) (i := i) (by omega)
      have hcok := hg _ (List.getElem_mem (by omega : i < l.length))
      generalize l[i] = c at hcell hcok
      obtain ⟨hfr, hfl⟩ := s.step_fit c hsb
      refine region_list ?_
      refine list_pure E rfl rfl (by decide) (rn_move E rfl rfl) ?_; clear E a; intro a E
      refine list_pure E rfl rfl (by decide) (rn_move E rfl rfl) ?_; clear E a; intro a E
      refine list_pure E rfl rfl (by decide) (rn_move E rfl rfl) ?_; clear E a; intro a E
      refine list_pure E rfl rfl (by decide) (rn_move E rfl rfl) ?_; clear E a; intro a E
      refine list_pure E rfl rfl (by decide) (by first | exact rn_indexAddr1 E rfl rfl rfl rfl rfl rfl (by omega) | exact rn_indexAddr E rfl rfl rfl rfl rfl rfl (by omega) | exact rn_indexAddr_array E rfl rfl rfl rfl rfl rfl (by omega)) ?_; clear E a; intro a E
      refine list_pure E rfl rfl (by decide) (rn_load_aggc (vs := [_, _, _, _, _]) E rfl rfl rfl rfl (hcell)) ?_; clear E a; intro a E
      refine list_call E rfl rfl (by decide) rfl Try.func17 rfl (by kernel_rfl) rfl (lays_ret p q s A B O c _ hA hB hcok S.hp hsr) ?_
      rintro v42 w ⟨A1, B1, hA1, hB1, hT⟩; clear E a; intro a E
      have S := S.all hT
      refine wpList_nil ?_
      refine then_k hK ?_; clear hK; clear K
      refine wp_seq_k ?_; intro K hK
      refine region_list ?_
      refine list_pure E rfl rfl (by decide) (rn_move E rfl rfl) ?_; clear E a; intro a E
      refine list_call E rfl rfl (by decide) rfl Try.func12 rfl (by kernel_rfl) rfl (done_any p _ A1 _ hA1 (S.hp.sel (sel_cons (by first | exact pk1 | exact pk2 | exact pk3 | exact pk4 | exact pk5 | exact pk6 | exact pk7 | exact pk8 | exact pk9) (sel_nil _))) (by omega)) ?_
      rintro v45 w ⟨ad1, c1, C1, x, rfl, hx, hC1, hT⟩; clear E a; intro a E
      have S := S.call2 (sel_cons (by first | exact pk1 | exact pk2 | exact pk3 | exact pk4 | exact pk5 | exact pk6 | exact pk7 | exact pk8 | exact pk9) (sel_nil _)) hT
      refine list_pure E rfl rfl (by decide) (rn_move E rfl rfl) ?_; clear E a; intro a E
      refine list_pure E rfl rfl (by decide) (rn_extract E rfl rfl rfl) ?_; clear E a; intro a E
      refine list_pure E rfl rfl (by decide) (rn_extract E rfl rfl rfl) ?_; clear E a; intro a E
      refine list_pure E rfl rfl (by decide) (rn_assign E rfl rfl) ?_; clear E a; intro a E
      refine list_pure E rfl rfl (by decide) (rn_assign E rfl rfl) ?_; clear E a; intro a E
      refine wpList_nil ?_
      refine then_k hK ?_; clear hK; clear K
      refine wp_seq_k ?_; intro K hK
      refine region_list ?_
      refine list_pure E rfl rfl (by decide) (rn_move E rfl rfl) ?_; clear E a; intro a E
      refine list_call E rfl rfl (by decide) rfl Try.func18 rfl (by kernel_rfl) rfl (vdone_ret q _ B1 _ hB1 (S.hp.sel (sel_cons (by first | exact pk1 | exact pk2 | exact pk3 | exact pk4 | exact pk5 | exact pk6 | exact pk7 | exact pk8 | exact pk9) (sel_nil _))) (by omega)) ?_
      rintro v50 w ⟨ad2, c2, C2, x2, rfl, hx2, hC2, hT⟩; clear E a; intro a E
      have S := S.call2 (sel_cons (by first | exact pk1 | exact pk2 | exact pk3 | exact pk4 | exact pk5 | exact pk6 | exact pk7 | exact pk8 | exact pk9) (sel_nil _)) hT
      obtain rfl : x2 = x := hx2.trans hx.symm
      have hxl : x2.length ≤ 100000 := by { rw [hx]; split; omega; simp }
      refine list_pure E rfl rfl (by decide) (rn_move E rfl rfl) ?_; clear E a; intro a E
      refine list_pure E rfl rfl (by decide) (rn_extract E rfl rfl rfl) ?_; clear E a; intro a E
      refine list_pure E rfl rfl (by decide) (rn_extract E rfl rfl rfl) ?_; clear E a; intro a E
      refine list_pure E rfl rfl (by decide) (rn_assign E rfl rfl) ?_; clear E a; intro a E
      refine list_pure E rfl rfl (by decide) (rn_assign E rfl rfl) ?_; clear E a; intro a E
      refine wpList_nil ?_
      refine then_k hK ?_; clear hK; clear K
      refine wp_seq_k ?_; intro K hK
      refine wp_seq_k ?_; intro K hK
      refine region_list ?_
      refine list_pure E rfl rfl (by decide) (rn_move E rfl rfl) ?_; clear E a; intro a E
      refine list_pure E rfl rfl (by decide) (rn_string E rfl rfl rfl rfl rfl hC1.rd (S.stab.at (by first | exact mm1 | exact mm2 | exact mm3 | exact mm4 | exact mm5 | exact mm6 | exact mm7 | exact mm8))) ?_; clear E a; intro a E
      refine list_pure E rfl rfl (by decide) (rn_move E rfl rfl) ?_; clear E a; intro a E
      refine list_pure E rfl rfl (by decide) (rn_string E rfl rfl rfl rfl rfl hC2.rd (S.stab.at (by first | exact mm1 | exact mm2 | exact mm3 | exact mm4 | exact mm5 | exact mm6 | exact mm7 | exact mm8))) ?_; clear E a; intro a E
      refine list_pure E rfl rfl (by decide) (by first | exact rn_neq E rfl rfl rfl | exact rn_neq_ptr_nil E rfl rfl rfl rfl | exact rn_neq_bool E rfl rfl rfl rfl | exact rn_neq_string E rfl rfl rfl) ?_; clear E a; intro a E
      refine list_pure E rfl rfl (by decide) (rn_move E rfl rfl) ?_; clear E a; intro a E
      refine guard_false E (t := 58) rfl ((by simp)) (fun hb58 => ?_)
      refine list_guard_yes E rfl rfl rfl rfl hb58 rfl (by decide) (rn_move E rfl rfl) ?_; clear E a; intro a E
      refine list_guard_yes E rfl rfl rfl rfl hb58 rfl (by decide) (rn_move E rfl rfl) ?_; clear E a; intro a E
      refine list_guard_yes E rfl rfl rfl rfl hb58 rfl (by decide) (by first | exact rn_neq E rfl rfl rfl | exact rn_neq_ptr_nil E rfl rfl rfl rfl | exact rn_neq_bool E rfl rfl rfl rfl | exact rn_neq_string E rfl rfl rfl) ?_; clear E a; intro a E
      refine list_pure E rfl rfl (by decide) (rn_pick_no' E rfl rfl hb58 rfl) ?_; clear E a; intro a E
      refine wpList_nil ?_
      refine then_k hK ?_; clear hK; clear K
      refine if_false' E rfl ((by simp)) ?_
      refine wp_skip ?_
      refine then_k hK ?_; clear hK; clear K
      refine wp_seq_k ?_; intro K hK
      refine wp_seq_k ?_; intro K hK
      refine region_list ?_
      refine list_pure E rfl rfl (by decide) (rn_assign E rfl rfl) ?_; clear E a; intro a E
      refine wpList_nil ?_
      refine then_k hK ?_; clear hK; clear K
      refine wp_block ?_
      refine wp_loop_ghost (fun (m : Nat) (a : Act) (w' : World) => ∃ (j : Nat) (zs : List Int) (C1 : Chunk), m = x2.length - j ∧ zs.length = x2.length ∧ Buf C1 5 1 (.slice ad1 x2.length c1) x2.length (zs.map (.int .u8)) ∧ St w0 [O] w' [C1, C2, A1, B1, O] ∧ Fr a 98 [(1, .slice (some ⟨b0, off, none⟩) l.length cp), (6, ptr p), (7, ptr q), (8, .int .i64 i), (9, .slice ad1 x2.length c1), (11, .slice ad2 x2.length c2), (12, .int .i64 (s.step c).e), (13, .int .i64 j)]) (x2.length - 0) ?_ ?_
      · exact ⟨0, _, C1, rfl, by simp, byt_ints _ ▸ hC1, S.perm (Bs := [C1, C2, A1, B1, O]) (sel_cons (by first | exact pk1 | exact pk2 | exact pk3 | exact pk4 | exact pk5 | exact pk6 | exact pk7 | exact pk8 | exact pk9) (sel_cons (by first | exact pk1 | exact pk2 | exact pk3 | exact pk4 | exact pk5 | exact pk6 | exact pk7 | exact pk8 | exact pk9) (sel_cons (by first | exact pk1 | exact pk2 | exact pk3 | exact pk4 | exact pk5 | exact pk6 | exact pk7 | exact pk8 | exact pk9) (sel_cons (by first | exact pk1 | exact pk2 | exact pk3 | exact pk4 | exact pk5 | exact pk6 | exact pk7 | exact pk8 | exact pk9) (sel_cons (by first | exact pk1 | exact pk2 | exact pk3 | exact pk4 | exact pk5 | exact pk6 | exact pk7 | exact pk8 | exact pk9) (sel_nil _)))))), E.keep (keep_cons rfl (keep_cons rfl (keep_cons rfl (keep_cons rfl (keep_cons rfl (keep_cons rfl (keep_cons rfl (keep_cons rfl keep_nil))))))))⟩
      clear E; clear a; rintro m a w ⟨j, zs, C1, rfl, hzl, hC1, S, E⟩
      refine wp_seq_k ?_; intro K hK
      refine wp_seq_k ?_; intro K hK
      refine region_list ?_
      refine list_pure E rfl rfl (by decide) (rn_move E rfl rfl) ?_; clear E a; intro a E
      refine list_pure E rfl rfl (by decide) (rn_move E rfl rfl) ?_; clear E a; intro a E
      refine list_pure E rfl rfl (by decide) (by first | exact rn_len E rfl rfl rfl | exact rn_len_str E rfl rfl rfl | exact rn_len_string E rfl rfl rfl) ?_; clear E a; intro a E
      refine list_pure E rfl rfl (by decide) (rn_lss E rfl rfl rfl) ?_; clear E a; intro a E
      refine wpList_nil ?_
      refine then_k hK ?_; clear hK; clear K
      refine if_bool E rfl (fun hb => ?_) (fun hb => ?_)
      · first | replace hb := n1 hb | replace hb := n2 hb | replace hb := n3 hb | replace hb := n4 hb | replace hb := n5 hb | replace hb := n6 hb | skip
        refine wp_skip ?_
        refine then_k hK ?_; clear hK; clear K
        refine wp_seq_k ?_; intro K hK
        refine wp_block ?_
        obtain ⟨g, c', r, hv, rfl, hn', hc', hl'⟩ := hC1.opened (by omega)
        cases hv
        refine region_list ?_
        refine list_pure E rfl rfl (by decide) (rn_move E rfl rfl) ?_; clear E a; intro a E
        refine list_pure E rfl rfl (by decide) (rn_move E rfl rfl) ?_; clear E a; intro a E
        refine list_pure E rfl rfl (by decide) (by first | exact rn_indexAddr1 E rfl rfl rfl rfl rfl rfl (by omega) | exact rn_indexAddr E rfl rfl rfl rfl rfl rfl (by omega) | exact rn_indexAddr_array E rfl rfl rfl rfl rfl rfl (by omega)) ?_; clear E a; intro a E
        refine list_wp rfl (wp_store1 E S rfl rfl rfl rfl rfl rfl (by first | exact pk1 | exact pk2 | exact pk3 | exact pk4 | exact pk5 | exact pk6 | exact pk7 | exact pk8 | exact pk9) (by simp only [List.length_append, List.length_map]; omega) ?_); clear E S a; intro a w E S; try dsimp only [List.set] at S
        refine wpList_nil ?_
        refine in_normal ?_
        refine then_k hK ?_; clear hK; clear K
        refine region_list ?_
        refine list_pure E rfl rfl (by decide) (rn_move E rfl rfl) ?_; clear E a; intro a E
        refine list_pure E rfl rfl (by decide) (rn_add E rfl rfl rfl (by first | exact wa_lit (y := 1) (by omega) | exact w_in (by omega) | exact w_inu (by omega) | exact rfl)) ?_; clear E a; intro a E
        refine list_pure E rfl rfl (by decide) (rn_assign E rfl rfl) ?_; clear E a; intro a E
        refine wpList_nil ?_
        refine then_normal ?_
        rw [Nat.zero_add, List.set_append_left _ _ (by simp; omega), ← List.map_set] at S
        exact ⟨_, by omega, j + 1, _, _, rfl, by rw [List.length_set]; exact hzl, buf_mk (by simp [hzl]) (ints_one _) hn' hc' (by simpa using hl'), S, E.keep (keep_cons rfl (keep_cons rfl (keep_cons rfl (keep_cons rfl (keep_cons rfl (keep_cons rfl (keep_cons rfl (keep_cons rfl keep_nil))))))))⟩
      · first | replace hb := n1 hb | replace hb := n2 hb | replace hb := n3 hb | replace hb := n4 hb | replace hb := n5 hb | replace hb := n6 hb | skip
        refine wp_exit ?_
        refine then_exit ?_; clear hK; clear K
        refine then_exit ?_
        refine in_exit ?_
        refine then_k hK ?_; clear hK; clear K
        refine wp_seq_k ?_; intro K hK
        refine region_list ?_
        refine list_pure E rfl rfl (by decide) (rn_move E rfl rfl) ?_; clear E a; intro a E
        refine list_wp rfl (wp_bslice (cells := [_]) E S rfl rfl (by decide) rfl rfl rfl rfl rfl (by decide) rfl ?_); clear E S a; intro a w b73 E S
        refine list_wp rfl (wp_append (by' := 1) E S rfl rfl (by decide) rfl rfl hC1 (by first | exact pk1 | exact pk2 | exact pk3 | exact pk4 | exact pk5 | exact pk6 | exact pk7 | exact pk8 | exact pk9) ((rd_cells (g := b73) (T := 5) (xs := [.int .u8 255]) (s := 1) (m := 1) rfl (by simp [Value.oneCell']) (by omega) 1).src (S.stab.at (by first | exact mm1 | exact mm2 | exact mm3 | exact mm4 | exact mm5 | exact mm6 | exact mm7 | exact mm8)) rfl) rfl rfl rfl rfl rfl rfl (by simp only [maxLen]; omega) (by omega) ?_); clear E S a; intro a w v74 C74 E S hB74
        obtain ⟨ad4, c4, rfl⟩ := hB74.slice
        refine list_pure E rfl rfl (by decide) (rn_assign E rfl rfl) ?_; clear E a; intro a E
        refine wpList_nil ?_
        refine then_k hK ?_; clear hK; clear K
        refine wp_seq_k ?_; intro K hK
        refine region_list ?_
        refine list_pure E rfl rfl (by decide) (rn_move E rfl rfl) ?_; clear E a; intro a E
        refine list_call E rfl rfl (by decide) rfl Try.func12 rfl (by kernel_rfl) rfl (done_any p _ A1 _ hA1 (S.hp.sel (sel_cons (by first | exact pk1 | exact pk2 | exact pk3 | exact pk4 | exact pk5 | exact pk6 | exact pk7 | exact pk8 | exact pk9) (sel_nil _))) (by omega)) ?_
        rintro v77 w ⟨ad3, c3, C3, x3, rfl, hx3, hC3, hT⟩; clear E a; intro a E
        have S := S.call2 (sel_cons (by first | exact pk1 | exact pk2 | exact pk3 | exact pk4 | exact pk5 | exact pk6 | exact pk7 | exact pk8 | exact pk9) (sel_nil _)) hT
        obtain rfl : x3 = x2 := hx3.trans hx.symm
        refine list_pure E rfl rfl (by decide) (rn_move E rfl rfl) ?_; clear E a; intro a E
        refine list_pure E rfl rfl (by decide) (rn_extract E rfl rfl rfl) ?_; clear E a; intro a E
        refine list_pure E rfl rfl (by decide) (rn_extract E rfl rfl rfl) ?_; clear E a; intro a E
        refine list_pure E rfl rfl (by decide) (rn_assign E rfl rfl) ?_; clear E a; intro a E
        refine list_pure E rfl rfl (by decide) (rn_assign E rfl rfl) ?_; clear E a; intro a E
        refine wpList_nil ?_
        refine then_k hK ?_; clear hK; clear K
        refine wp_seq_k ?_; intro K hK
        refine region_list ?_
        refine list_pure E rfl rfl (by decide) (rn_move E rfl rfl) ?_; clear E a; intro a E
        refine list_pure E rfl rfl (by decide) (rn_string E rfl rfl rfl rfl rfl hC3.rd (S.stab.at (by first | exact mm1 | exact mm2 | exact mm3 | exact mm4 | exact mm5 | exact mm6 | exact mm7 | exact mm8))) ?_; clear E a; intro a E
        refine list_pure E rfl rfl (by decide) (rn_move E rfl rfl) ?_; clear E a; intro a E
        refine list_pure E rfl rfl (by decide) (rn_string E rfl rfl rfl rfl rfl hC2.rd (S.stab.at (by first | exact mm1 | exact mm2 | exact mm3 | exact mm4 | exact mm5 | exact mm6 | exact mm7 | exact mm8))) ?_; clear E a; intro a E
        refine list_pure E rfl rfl (by decide) (by first | exact rn_neq E rfl rfl rfl | exact rn_neq_ptr_nil E rfl rfl rfl rfl | exact rn_neq_bool E rfl rfl rfl rfl | exact rn_neq_string E rfl rfl rfl) ?_; clear E a; intro a E
        refine list_pure E rfl rfl (by decide) (rn_move E rfl rfl) ?_; clear E a; intro a E
        refine guard_false E (t := 85) rfl ((by simp)) (fun hb85 => ?_)
        refine list_guard_yes E rfl rfl rfl rfl hb85 rfl (by decide) (rn_move E rfl rfl) ?_; clear E a; intro a E
        refine list_guard_yes E rfl rfl rfl rfl hb85 rfl (by decide) (rn_move E rfl rfl) ?_; clear E a; intro a E
        refine list_guard_yes E rfl rfl rfl rfl hb85 rfl (by decide) (by first | exact rn_neq E rfl rfl rfl | exact rn_neq_ptr_nil E rfl rfl rfl rfl | exact rn_neq_bool E rfl rfl rfl rfl | exact rn_neq_string E rfl rfl rfl) ?_; clear E a; intro a E
        refine list_pure E rfl rfl (by decide) (rn_pick_no' E rfl rfl hb85 rfl) ?_; clear E a; intro a E
        refine list_pure E rfl rfl (by decide) (rn_move E rfl rfl) ?_; clear E a; intro a E
        refine guard_false E (t := 90) rfl ((by simp)) (fun hb90 => ?_)
        refine list_guard_yes E rfl rfl rfl rfl hb90 rfl (by decide) (rn_move E rfl rfl) ?_; clear E a; intro a E
        refine list_guard_yes E rfl rfl rfl rfl hb90 rfl (by decide) (by first | exact rn_len E rfl rfl rfl | exact rn_len_str E rfl rfl rfl | exact rn_len_string E rfl rfl rfl) ?_; clear E a; intro a E
        refine list_guard_yes E rfl rfl rfl rfl hb90 rfl (by decide) (rn_move E rfl rfl) ?_; clear E a; intro a E
        refine list_guard_yes E rfl rfl rfl rfl hb90 rfl (by decide) (by first | exact rn_len E rfl rfl rfl | exact rn_len_str E rfl rfl rfl | exact rn_len_string E rfl rfl rfl) ?_; clear E a; intro a E
        refine list_guard_yes E rfl rfl rfl rfl hb90 rfl (by decide) (rn_add E rfl rfl rfl (by first | exact wa_lit (y := 1) (by omega) | exact w_in (by omega) | exact w_inu (by omega) | exact rfl)) ?_; clear E a; intro a E
        refine list_guard_yes E rfl rfl rfl rfl hb90 rfl (by decide) (by first | exact rn_neq E rfl rfl rfl | exact rn_neq_ptr_nil E rfl rfl rfl rfl | exact rn_neq_bool E rfl rfl rfl rfl | exact rn_neq_string E rfl rfl rfl) ?_; clear E a; intro a E
        refine list_pure E rfl rfl (by decide) (rn_pick_no' E rfl rfl hb90 rfl) ?_; clear E a; intro a E
        refine wpList_nil ?_
        refine then_k hK ?_; clear hK; clear K
        refine if_false' E rfl ((by simp)) ?_
        refine wp_skip ?_
        refine in_normal ?_
        refine then_k hK ?_; clear hK; clear K
        refine region_list ?_
        refine list_pure E rfl rfl (by decide) (rn_move E rfl rfl) ?_; clear E a; intro a E
        refine list_pure E rfl rfl (by decide) (rn_add E rfl rfl rfl (by first | exact wa_lit (y := 1) (by omega) | exact w_in (by omega) | exact w_inu (by omega) | exact rfl)) ?_; clear E a; intro a E
        refine list_pure E rfl rfl (by decide) (rn_assign E rfl rfl) ?_; clear E a; intro a E
        refine wpList_nil ?_
        refine then_normal ?_
        exact ⟨_, by omega, i + 1, s.step c, A1, B1, by omega, rfl, hA1, hB1, by omega, by omega, S.only (Bs := [A1, B1, O]) (sel_cons (by first | exact pk1 | exact pk2 | exact pk3 | exact pk4 | exact pk5 | exact pk6 | exact pk7 | exact pk8 | exact pk9) (sel_cons (by first | exact pk1 | exact pk2 | exact pk3 | exact pk4 | exact pk5 | exact pk6 | exact pk7 | exact pk8 | exact pk9) (sel_cons (by first | exact pk1 | exact pk2 | exact pk3 | exact pk4 | exact pk5 | exact pk6 | exact pk7 | exact pk8 | exact pk9) (sel_nil _)))), E.keep (keep_cons rfl (keep_cons rfl (keep_cons rfl (keep_cons rfl keep_nil))))⟩
    · first | replace hb := n1 hb | replace hb := n2 hb | replace hb := n3 hb | replace hb := n4 hb | replace hb := n5 hb | replace hb := n6 hb | skip
      refine wp_exit ?_
      refine then_exit ?_; clear hK; clear K
      refine then_exit ?_
      refine in_exit ?_
      refine then_k hK ?_; clear hK; clear K
      refine wp_seq_k ?_; intro K hK
      refine region_list ?_
      refine list_pure E rfl rfl (by decide) (rn_assign E rfl rfl) ?_; clear E a; intro a E
      refine wpList_nil ?_
      refine then_k hK ?_; clear hK; clear K
      refine wp_ret ?_
      refine ret1 E rfl rfl ?_
      exact ⟨_, rfl, rfl, (S.only (Bs := [O]) (sel_cons (by first | exact pk1 | exact pk2 | exact pk3 | exact pk4 | exact pk5 | exact pk6 | exact pk7 | exact pk8 | exact pk9) (sel_nil _))).tr⟩
end Go.Proofs.Ytbnldjephphhhaa
