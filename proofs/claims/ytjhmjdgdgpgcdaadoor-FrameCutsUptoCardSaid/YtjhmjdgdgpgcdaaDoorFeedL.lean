/-
  FrameFeeds.
-/
import Derived.Test.YtjhmjdgdgpgcdaaDoorFeedD
import Derived.Test.YtjhmjdgdgpgcdaaDoorBulk
import Derived.Test.YtjhmjdgdgpgcdaaDoorLaid
namespace Go.Proofs.YtjhmjdgdgpgcdaaDoor
open Go.Sl
set_option maxRecDepth 10000

/-- A list of pieces: each a slice that is read off this chunk. -/
def PcG (O : Chunk) (v : Value) (l : List (Value × List UInt8)) : Prop := Rd O 1 v l.length (l.map (·.1)) ∧ l.length ≤ 1048576 ∧ ∀ x ∈ l, Rd O 1 x.1 x.2.length (byt x.2) ∧ x.2.length ≤ 1048576

theorem feeds_walk (O : Chunk) (hG : Tab [O] 2 shaK) (v : Value) (l : List (Value × List UInt8)) (hg : PcG O v l) (w0 : World) (H : Hp w0 [O]) :
    Ret Tryd.prog 4 #[v] w0 fun u w' => u = .bool true ∧ Trs w0 w' [O] [O] := by
  have S := St.begin H
  obtain ⟨hO, hll, hpc⟩ := hg
  obtain ⟨ad, c, rfl⟩ := hO.slice
  refine enter1 105 Tryd.func4 rfl rfl (by decide) ?_; intro a E
  refine wp_seq_k ?_; intro K hK
  refine region_list ?_
  refine list_pure E rfl rfl (by decide) (rn_assign E rfl rfl) ?_; clear E a; intro a E
  refine wpList_nil ?_
  refine then_k hK ?_; clear hK; clear K
  refine wp_seq_k ?_; intro K hK
  refine region_list ?_
  refine list_call E rfl rfl (by decide) rfl Tryd.func9 rfl (by kernel_rfl) rfl (awake_ret _ hG _ S.hp) ?_
  rintro v17 w ⟨rfl, hT⟩; clear E a; intro a E
  have S := S.all hT
  refine list_pure E rfl rfl (by decide) (rn_assign E rfl rfl) ?_; clear E a; intro a E
  refine wpList_nil ?_
  refine then_k hK ?_; clear hK; clear K
  refine wp_seq_k ?_; intro K hK
  refine region_list ?_
  refine list_call E rfl rfl (by decide) rfl Tryd.func12 rfl (by kernel_rfl) rfl (lnew_ret _) ?_
  rintro v18 w ⟨p, A0, rfl, hA0, hT⟩; clear E a; intro a E
  have S := S.fresh hT
  refine list_pure E rfl rfl (by decide) (rn_assign E rfl rfl) ?_; clear E a; intro a E
  refine wpList_nil ?_
  refine then_k hK ?_; clear hK; clear K
  refine wp_seq_k ?_; intro K hK
  refine region_list ?_
  refine list_pure E rfl rfl (by decide) (rn_build (cells := [_]) E rfl rfl rfl) ?_; clear E a; intro a E
  refine list_wp rfl (wp_box E S rfl rfl (by decide) rfl rfl ?_); clear E S a; intro a w b20 E S
  refine list_pure E rfl rfl (by decide) (rn_assign E rfl rfl) ?_; clear E a; intro a E
  refine wpList_nil ?_
  refine then_k hK ?_; clear hK; clear K
  refine wp_seq_k ?_; intro K hK
  refine wp_seq_k ?_; intro K hK
  refine region_list ?_
  refine list_pure E rfl rfl (by decide) (rn_move E rfl rfl) ?_; clear E a; intro a E
  refine list_pure E rfl rfl (by decide) (rn_not E rfl rfl) ?_; clear E a; intro a E
  refine list_pure E rfl rfl (by decide) (rn_move E rfl rfl) ?_; clear E a; intro a E
  refine guard_false E (t := 23) rfl (rfl) (fun hb23 => ?_)
  refine list_guard_yes E rfl rfl rfl rfl hb23 rfl (by decide) (rn_move E rfl rfl) ?_; clear E a; intro a E
  refine list_guard_yes E rfl rfl rfl rfl hb23 rfl (by decide) (by first | exact rn_eql E rfl rfl rfl | exact rn_eql_ptr_nil E rfl rfl rfl rfl | exact rn_eql_bool E rfl rfl rfl rfl | exact rn_eql_string E rfl rfl rfl) ?_; clear E a; intro a E
  refine list_pure E rfl rfl (by decide) (rn_pick_no' E rfl rfl hb23 rfl) ?_; clear E a; intro a E
  refine wpList_nil ?_
  refine then_k hK ?_; clear hK; clear K
  refine if_false' E rfl (rfl) ?_
  refine wp_skip ?_
  refine then_k hK ?_; clear hK; clear K
  refine wp_seq_k ?_; intro K hK
  refine wp_seq_k ?_; intro K hK
  refine region_list ?_
  refine list_pure E rfl rfl (by decide) (rn_assign E rfl rfl) ?_; clear E a; intro a E
  refine wpList_nil ?_
  refine then_k hK ?_; clear hK; clear K
  refine wp_block ?_
  refine wp_loop_ghost (fun (m : Nat) (a : Act) (w' : World) => ∃ (i : Nat) (q : List UInt8) (A B : Chunk), m = l.length - i ∧ i ≤ l.length ∧ q.length ≤ 65536 ∧ LnC 64 p q A ∧ LnC 35 b20 q B ∧ St w0 [O] w' [A, B, O] ∧ Fr a 105 [(0, .slice ad l.length c), (4, ptr p), (5, ptr b20), (6, .int .i64 i)]) (l.length - 0) ?_ ?_
  · exact ⟨0, [], A0, [(b20, _)] ++ [], rfl, by omega, by simp, hA0, ⟨none, 0, [], rfl, Nat.le_refl _, (Buf.nil 5 1).rd⟩, S.front3 (A := A0) (by repeat (first | exact pk1 | apply pick_tail)) (B := [(b20, _)]) (by repeat (first | exact pk1 | apply pick_tail)) (C := O) (by repeat (first | exact pk1 | apply pick_tail)), E.keep (keep_cons rfl (keep_cons rfl (keep_cons rfl (keep_cons rfl keep_nil))))⟩
  clear E; clear a; (try clear S); rintro m a w ⟨i, q, A, B, rfl, hi, hql, hA, hB, S, E⟩
  refine wp_seq_k ?_; intro K hK
  refine wp_seq_k ?_; intro K hK
  refine region_list ?_
  refine list_pure E rfl rfl (by decide) (rn_move E rfl rfl) ?_; clear E a; intro a E
  refine list_pure E rfl rfl (by decide) (rn_move E rfl rfl) ?_; clear E a; intro a E
  refine list_pure E rfl rfl (by decide) (by first | exact rn_len E rfl rfl rfl | exact rn_len_str E rfl rfl rfl | exact rn_len_string E rfl rfl rfl) ?_; clear E a; intro a E
  refine list_pure E rfl rfl (by decide) (rn_lss E rfl rfl rfl) ?_; clear E a; intro a E
  refine wpList_nil ?_
  refine then_k hK ?_; clear hK; clear K
  refine if_bool E rfl (fun hb => ?_) (fun hb => ?_)
  · replace hb := Nrm.nrm hb
    refine wp_skip ?_
    refine then_k hK ?_; clear hK; clear K
    refine wp_seq_k ?_; intro K hK
    refine wp_block ?_
    refine wp_seq_k ?_; intro K hK
    refine region_list ?_
    refine list_pure E rfl rfl (by decide) (rn_assign E rfl rfl) ?_; clear E a; intro a E
    refine wpList_nil ?_
    refine then_k hK ?_; clear hK; clear K
    refine wp_seq_k ?_; intro K hK
    have hil : i < l.length := by omega
    obtain ⟨hpr, hpl⟩ := hpc _ (List.getElem_mem hil)
    obtain ⟨g, off, rfl⟩ := hO.addr (by omega)
    obtain ⟨pv, hpv⟩ : ∃ pv, pv = (l[i]'hil).1 := ⟨_, rfl⟩
    obtain ⟨pc, hpc2⟩ : ∃ pc, pc = (l[i]'hil).2 := ⟨_, rfl⟩
    have hcell : (l.map (·.1))[i]? = some pv := by rw [hpv]; simp [hil]
    rw [← hpv, ← hpc2] at hpr
    rw [← hpc2] at hpl
    have hpr0 := hpr
    obtain ⟨adp, cp, rfl⟩ := hpr.slice
    have S := S.addNil
    refine region_list ?_
    refine list_pure E rfl rfl (by decide) (rn_move E rfl rfl) ?_; clear E a; intro a E
    refine list_pure E rfl rfl (by decide) (rn_move E rfl rfl) ?_; clear E a; intro a E
    refine list_pure E rfl rfl (by decide) (rn_move E rfl rfl) ?_; clear E a; intro a E
    refine list_pure E rfl rfl (by decide) (by first | exact rn_indexAddr1 E rfl rfl rfl rfl rfl rfl (by omega) | exact rn_indexAddr E rfl rfl rfl rfl rfl rfl (by omega) | exact rn_indexAddr_array E rfl rfl rfl rfl rfl rfl (by omega)) ?_; clear E a; intro a E
    refine list_pure E rfl rfl (by decide) (rn_loadc E rfl rfl rfl (hO.cells (S.stab.at (by repeat (first | exact mm1 | assumption | apply List.Mem.tail))) rfl i _ hcell)) ?_; clear E a; intro a E
    refine list_wp rfl (wp_append (by' := 1) E S rfl rfl (by decide) rfl rfl (Buf.nil 5 1) (by repeat (first | exact pk1 | apply pick_tail)) (hpr.src (S.stab.at (by repeat (first | exact mm1 | assumption | apply List.Mem.tail))) rfl) rfl rfl rfl rfl rfl rfl (by simp only [maxLen]; omega) (by omega) ?_); clear E S a; intro a w v38 C38 E S hB38
    rw [Nat.zero_add, List.nil_append] at hB38; obtain ⟨ad38, c38, rfl⟩ := hB38.slice
    obtain ⟨cr, hcr⟩ : ∃ cr, cr = cutR (q ++ pc) := ⟨_, rfl⟩
    have hcs := cutR_small (q ++ pc)
    rw [← hcr] at hcs
    refine list_pure E rfl rfl (by decide) (rn_assign E rfl rfl) ?_; clear E a; intro a E
    refine wpList_nil ?_
    refine then_k hK ?_; clear hK; clear K
    refine wp_seq_k ?_; intro K hK
    refine region_list ?_
    refine list_pure E rfl rfl (by decide) (rn_move E rfl rfl) ?_; clear E a; intro a E
    refine list_pure E rfl rfl (by decide) (rn_move E rfl rfl) ?_; clear E a; intro a E
    refine list_call E rfl rfl (by decide) rfl Tryd.func13 rfl (by kernel_rfl) rfl (feed_ret p q A C38 _ pc hA hB38.rd (by omega) _ (S.hp.sel (sel_cons (by repeat (first | exact pk1 | apply pick_tail)) (sel_cons (by repeat (first | exact pk1 | apply pick_tail)) (sel_nil _))))) ?_
    rintro v42 w ⟨x, X, Y, A1, vs, rfl, hA1, hX, hY, hT⟩; clear E a; intro a E
    have S := S.call4 (sel_cons (by repeat (first | exact pk1 | apply pick_tail)) (sel_cons (by repeat (first | exact pk1 | apply pick_tail)) (sel_nil _))) hT; rw [← hcr] at hA1 hX hY E
    obtain ⟨adx, cx, rfl⟩ := hX.slice
    refine list_pure E rfl rfl (by decide) (rn_move E rfl rfl) ?_; clear E a; intro a E
    refine list_pure E rfl rfl (by decide) (rn_extract E rfl rfl rfl) ?_; clear E a; intro a E
    refine list_pure E rfl rfl (by decide) (rn_extract E rfl rfl rfl) ?_; clear E a; intro a E
    refine list_pure E rfl rfl (by decide) (rn_assign E rfl rfl) ?_; clear E a; intro a E
    refine list_pure E rfl rfl (by decide) (rn_assign E rfl rfl) ?_; clear E a; intro a E
    refine wpList_nil ?_
    refine then_k hK ?_; clear hK; clear K
    refine wp_seq_k ?_; intro K hK
    refine wp_seq_k ?_; intro K hK
    obtain ⟨Ls, hLs, S⟩ := (S.front1 (A := C38) (by repeat (first | exact pk1 | apply pick_tail))).name
    refine region_list ?_
    refine list_pure E rfl rfl (by decide) (rn_assign E rfl rfl) ?_; clear E a; intro a E
    refine wpList_nil ?_
    refine then_k hK ?_; clear hK; clear K
    refine wp_block ?_
    refine wp_loop_ghost (fun (m : Nat) (a : Act) (w' : World) => ∃ (j : Nat) (xs : List UInt8) (C' : Chunk), m = pc.length - j ∧ j ≤ pc.length ∧ xs.length = pc.length ∧ Buf C' 5 1 (.slice ad38 pc.length c38) pc.length (byt xs) ∧ St w0 [O] w' (C' :: Ls) ∧ Fr a 105 [(0, .slice (some ⟨g, off, none⟩) l.length c), (4, ptr p), (5, ptr b20), (6, .int .i64 i), (7, .slice ad38 pc.length c38), (8, .slice adx cr.1.length cx), (9, .int .i64 cr.2.2), (10, .int .i64 j)]) (pc.length - 0) ?_ ?_
    · exact ⟨0, pc, C38, rfl, by omega, rfl, hB38, S, E.keep (keep_cons rfl (keep_cons rfl (keep_cons rfl (keep_cons rfl (keep_cons rfl (keep_cons rfl (keep_cons rfl (keep_cons rfl keep_nil))))))))⟩
    clear E; clear a; (try clear S); rintro m a w ⟨j, xs, C', rfl, hj, hxl, hC', S, E⟩
    refine wp_seq_k ?_; intro K hK
    refine wp_seq_k ?_; intro K hK
    refine region_list ?_
    refine list_pure E rfl rfl (by decide) (rn_move E rfl rfl) ?_; clear E a; intro a E
    refine list_pure E rfl rfl (by decide) (rn_move E rfl rfl) ?_; clear E a; intro a E
    refine list_pure E rfl rfl (by decide) (by first | exact rn_len E rfl rfl rfl | exact rn_len_str E rfl rfl rfl | exact rn_len_string E rfl rfl rfl) ?_; clear E a; intro a E
    refine list_pure E rfl rfl (by decide) (rn_lss E rfl rfl rfl) ?_; clear E a; intro a E
    refine wpList_nil ?_
    refine then_k hK ?_; clear hK; clear K
    refine if_bool E rfl (fun hb => ?_) (fun hb => ?_)
    · replace hb := Nrm.nrm hb
      refine wp_skip ?_
      refine then_k hK ?_; clear hK; clear K
      refine wp_seq_k ?_; intro K hK
      refine wp_block ?_
      have hjb : j < pc.length := by omega
      obtain ⟨g38, rfl⟩ := hC'.addr (by omega)
      refine region_list ?_
      refine list_pure E rfl rfl (by decide) (rn_move E rfl rfl) ?_; clear E a; intro a E
      refine list_pure E rfl rfl (by decide) (rn_move E rfl rfl) ?_; clear E a; intro a E
      refine list_pure E rfl rfl (by decide) (rn_indexAddr1 (i := j) E rfl rfl rfl rfl rfl rfl (by omega)) ?_; clear E a; intro a E
      refine list_wp rfl (wp_elem1 E S rfl rfl rfl rfl rfl rfl hC' (by repeat (first | exact pk1 | apply pick_tail)) (i := j) (by rw [byt_length]; omega) (Nat.zero_add _) ?_); clear E S a; intro a w Cs3 E hBs3 S
      refine wpList_nil ?_
      refine in_normal ?_
      refine then_k hK ?_; clear hK; clear K
      refine region_list ?_
      refine list_pure E rfl rfl (by decide) (rn_move E rfl rfl) ?_; clear E a; intro a E
      refine list_pure E rfl rfl (by decide) (rn_add E rfl rfl rfl (by first | exact wa_lit (y := 1) (by omega) | exact w_in (by omega) | exact w_inu (by omega) | exact rfl)) ?_; clear E a; intro a E
      refine list_pure E rfl rfl (by decide) (rn_assign E rfl rfl) ?_; clear E a; intro a E
      refine wpList_nil ?_
      refine then_normal ?_
      exact ⟨_, by omega, j + 1, xs.set j 98, Cs3, rfl, by omega, by rw [List.length_set]; exact hxl, by have h := byt_set1 xs j 98; rw [← h]; exact hBs3, S, E.keep (keep_cons rfl (keep_cons rfl (keep_cons rfl (keep_cons rfl (keep_cons rfl (keep_cons rfl (keep_cons rfl (keep_cons rfl keep_nil))))))))⟩
    · replace hb := Nrm.nrm hb
      refine wp_exit ?_
      refine then_exit ?_; clear hK; clear K
      refine then_exit ?_
      refine in_exit ?_
      refine then_k hK ?_; clear hK; clear K
      refine wp_seq_k ?_; intro K hK
      have S := S.tail
      subst hLs
      refine region_list ?_
      refine list_pure E rfl rfl (by decide) (rn_move E rfl rfl) ?_; clear E a; intro a E
      refine list_pure E rfl rfl (by decide) (rn_move E rfl rfl) ?_; clear E a; intro a E
      refine list_pure E rfl rfl (by decide) (rn_move E rfl rfl) ?_; clear E a; intro a E
      refine list_pure E rfl rfl (by decide) (by first | exact rn_indexAddr1 E rfl rfl rfl rfl rfl rfl (by omega) | exact rn_indexAddr E rfl rfl rfl rfl rfl rfl (by omega) | exact rn_indexAddr_array E rfl rfl rfl rfl rfl rfl (by omega)) ?_; clear E a; intro a E
      refine list_pure E rfl rfl (by decide) (rn_loadc E rfl rfl rfl (hO.cells (S.stab.at (by repeat (first | exact mm1 | assumption | apply List.Mem.tail))) rfl i _ hcell)) ?_; clear E a; intro a E
      refine list_call E rfl rfl (by decide) rfl Tryd.func14 rfl (by kernel_rfl) rfl (dfeed_ret b20 q B O _ pc hB hpr0 (by omega) _ (S.hp.sel (sel_cons (by repeat (first | exact pk1 | apply pick_tail)) (sel_cons (by repeat (first | exact pk1 | apply pick_tail)) (sel_nil _))))) ?_
      rintro v60 w ⟨z, Z, Cal, B1, us, rfl, hB1, hZ, hU, hT⟩; clear E a; intro a E
      have S := S.call4 (sel_cons (by repeat (first | exact pk1 | apply pick_tail)) (sel_cons (by repeat (first | exact pk1 | apply pick_tail)) (sel_nil _))) hT; rw [← hcr] at hB1 hZ hU E
      obtain ⟨adz, cz, rfl⟩ := hZ.slice
      refine list_pure E rfl rfl (by decide) (rn_move E rfl rfl) ?_; clear E a; intro a E
      refine list_pure E rfl rfl (by decide) (rn_extract E rfl rfl rfl) ?_; clear E a; intro a E
      refine list_pure E rfl rfl (by decide) (rn_extract E rfl rfl rfl) ?_; clear E a; intro a E
      refine list_pure E rfl rfl (by decide) (rn_assign E rfl rfl) ?_; clear E a; intro a E
      refine list_pure E rfl rfl (by decide) (rn_assign E rfl rfl) ?_; clear E a; intro a E
      refine wpList_nil ?_
      refine then_k hK ?_; clear hK; clear K
      refine wp_seq_k ?_; intro K hK
      refine region_list ?_
      refine list_pure E rfl rfl (by decide) (rn_move E rfl rfl) ?_; clear E a; intro a E
      refine list_pure E rfl rfl (by decide) (rn_move E rfl rfl) ?_; clear E a; intro a E
      refine list_call E rfl rfl (by decide) rfl Tryd.func15 rfl (by kernel_rfl) rfl (lsame_ret _ X Z _ _ cr.1 vs us hX.rd hZ.rd ((inn_rds hY).mono (fun D hD => by rw [List.mem_singleton.1 hD]; exact (by repeat (first | exact mm1 | assumption | apply List.Mem.tail)))) (hU.mono (fun D hD => by rw [List.mem_singleton.1 hD]; exact (by repeat (first | exact mm1 | assumption | apply List.Mem.tail)))) (show X ∈ _ from (by repeat (first | exact mm1 | assumption | apply List.Mem.tail))) (show Z ∈ _ from (by repeat (first | exact mm1 | assumption | apply List.Mem.tail))) _ S.hp) ?_
      rintro v65 w ⟨rfl, hT⟩; clear E a; intro a E
      have S := S.all hT
      refine list_pure E rfl rfl (by decide) (rn_assign E rfl rfl) ?_; clear E a; intro a E
      refine wpList_nil ?_
      refine then_k hK ?_; clear hK; clear K
      refine wp_seq_k ?_; intro K hK
      refine region_list ?_
      refine list_pure E rfl rfl (by decide) (rn_move E rfl rfl) ?_; clear E a; intro a E
      refine list_call E rfl rfl (by decide) rfl Tryd.func16 rfl (by kernel_rfl) rfl (lleft_ret p _ A1 _ hA1 (S.hp.sel (sel_cons (by repeat (first | exact pk1 | apply pick_tail)) (sel_nil _)))) ?_
      rintro v67 w ⟨rfl, hT⟩; clear E a; intro a E
      have S := S.call1 (sel_cons (by repeat (first | exact pk1 | apply pick_tail)) (sel_nil _)) hT
      refine list_pure E rfl rfl (by decide) (rn_assign E rfl rfl) ?_; clear E a; intro a E
      refine wpList_nil ?_
      refine then_k hK ?_; clear hK; clear K
      refine wp_seq_k ?_; intro K hK
      refine wp_seq_k ?_; intro K hK
      have S := (S.del (A := Z) (by repeat (first | exact pk1 | apply pick_tail))).del (A := Cal) (by repeat (first | exact pk1 | apply pick_tail))
      have S := S.front2 (A := X) (by repeat (first | exact pk1 | apply pick_tail)) (B := Y) (by repeat (first | exact pk1 | apply pick_tail))
      refine region_list ?_
      refine list_pure E rfl rfl (by decide) (rn_assign E rfl rfl) ?_; clear E a; intro a E
      refine wpList_nil ?_
      refine then_k hK ?_; clear hK; clear K
      refine wp_block ?_
      refine wp_loop_ghost (fun (m : Nat) (a : Act) (w' : World) => ∃ (k : Nat) (fs : List (List UInt8)) (Y' : Chunk), m = cr.1.length - k ∧ k ≤ cr.1.length ∧ fs.length = cr.1.length ∧ Inn 5 1 byt Y' vs fs ∧ St w0 [O] w' [X, Y', B1, A1, O] ∧ Fr a 105 [(0, .slice (some ⟨g, off, none⟩) l.length c), (4, ptr p), (5, ptr b20), (6, .int .i64 i), (8, .slice adx cr.1.length cx), (9, .int .i64 cr.2.2), (12, .int .i64 cr.2.2), (13, .bool true), (14, .int .i64 cr.2.1.length), (15, .int .i64 k)]) (cr.1.length - 0) ?_ ?_
      · exact ⟨0, cr.1, Y, rfl, by omega, rfl, hY, S.front4 (A := X) (by repeat (first | exact pk1 | apply pick_tail)) (B := Y) (by repeat (first | exact pk1 | apply pick_tail)) (C := B1) (by repeat (first | exact pk1 | apply pick_tail)) (D := A1) (by repeat (first | exact pk1 | apply pick_tail)), E.keep (keep_cons rfl (keep_cons rfl (keep_cons rfl (keep_cons rfl (keep_cons rfl (keep_cons rfl (keep_cons rfl (keep_cons rfl (keep_cons rfl (keep_cons rfl keep_nil))))))))))⟩
      clear E; clear a; (try clear S); rintro m a w ⟨k, fs, Y', rfl, hk, hfl, hY', S, E⟩
      refine wp_seq_k ?_; intro K hK
      refine wp_seq_k ?_; intro K hK
      refine region_list ?_
      refine list_pure E rfl rfl (by decide) (rn_move E rfl rfl) ?_; clear E a; intro a E
      refine list_pure E rfl rfl (by decide) (rn_move E rfl rfl) ?_; clear E a; intro a E
      refine list_pure E rfl rfl (by decide) (by first | exact rn_len E rfl rfl rfl | exact rn_len_str E rfl rfl rfl | exact rn_len_string E rfl rfl rfl) ?_; clear E a; intro a E
      refine list_pure E rfl rfl (by decide) (rn_lss E rfl rfl rfl) ?_; clear E a; intro a E
      refine wpList_nil ?_
      refine then_k hK ?_; clear hK; clear K
      refine if_bool E rfl (fun hb => ?_) (fun hb => ?_)
      · replace hb := Nrm.nrm hb
        refine wp_skip ?_
        refine then_k hK ?_; clear hK; clear K
        refine wp_seq_k ?_; intro K hK
        refine wp_block ?_
        refine wp_seq_k ?_; intro K hK
        have hkl : k < fs.length := by omega
        obtain ⟨P, Cf, Q, fv, rfl, hfv, hCf, hput⟩ := hY'.at hkl
        have S := (S.perm2).openMid
        obtain ⟨gx, offx, rfl⟩ := hX.rd.addr (by omega)
        obtain ⟨fl, hfl2⟩ : ∃ fl, fl = fs[k] := ⟨_, rfl⟩
        rw [← hfl2] at hCf
        obtain ⟨adf, cf, rfl⟩ := hCf.slice
        have hfm := hCf.rd.2.2.1
        have hXm := hX.rd.2.2.1
        simp only [maxLen] at hfm hXm
        refine region_list ?_
        refine list_pure E rfl rfl (by decide) (rn_assign E rfl rfl) ?_; clear E a; intro a E
        refine wpList_nil ?_
        refine then_k hK ?_; clear hK; clear K
        refine wp_block ?_
        refine wp_loop_ghost (fun (m : Nat) (a : Act) (w' : World) => ∃ (j : Nat) (xs : List UInt8) (C' : Chunk), m = fl.length - j ∧ j ≤ fl.length ∧ xs.length = fl.length ∧ Buf C' 5 1 (.slice adf fl.length cf) fl.length (byt xs) ∧ St w0 [O] w' (C' :: P :: Q :: [X, B1, A1, O]) ∧ Fr a 105 [(0, .slice (some ⟨g, off, none⟩) l.length c), (4, ptr p), (5, ptr b20), (6, .int .i64 i), (8, .slice (some ⟨gx, offx, none⟩) cr.1.length cx), (9, .int .i64 cr.2.2), (12, .int .i64 cr.2.2), (13, .bool true), (14, .int .i64 cr.2.1.length), (15, .int .i64 k), (16, .int .i64 j)]) (fl.length - 0) ?_ ?_
        · exact ⟨0, fl, Cf, rfl, by omega, rfl, hCf, S, E.keep (keep_cons rfl (keep_cons rfl (keep_cons rfl (keep_cons rfl (keep_cons rfl (keep_cons rfl (keep_cons rfl (keep_cons rfl (keep_cons rfl (keep_cons rfl (keep_cons rfl keep_nil)))))))))))⟩
        clear E; clear a; (try clear S); rintro m a w ⟨j, xs, C', rfl, hj, hxl, hC', S, E⟩
        refine wp_seq_k ?_; intro K hK
        refine wp_seq_k ?_; intro K hK
        refine region_list ?_
        refine list_pure E rfl rfl (by decide) (rn_move E rfl rfl) ?_; clear E a; intro a E
        refine list_pure E rfl rfl (by decide) (rn_move E rfl rfl) ?_; clear E a; intro a E
        refine list_pure E rfl rfl (by decide) (rn_move E rfl rfl) ?_; clear E a; intro a E
        refine list_pure E rfl rfl (by decide) (rn_indexAddr1 (i := k) E rfl rfl rfl rfl rfl rfl (by omega)) ?_; clear E a; intro a E
        refine list_pure E rfl rfl (by decide) (rn_loadc E rfl rfl rfl (hX.rd.cells (S.stab.at (by repeat (first | exact mm1 | assumption | apply List.Mem.tail))) rfl k _ hfv)) ?_; clear E a; intro a E
        refine list_pure E rfl rfl (by decide) (by first | exact rn_len E rfl rfl rfl | exact rn_len_str E rfl rfl rfl | exact rn_len_string E rfl rfl rfl) ?_; clear E a; intro a E
        refine list_pure E rfl rfl (by decide) (rn_lss E rfl rfl rfl) ?_; clear E a; intro a E
        refine wpList_nil ?_
        refine then_k hK ?_; clear hK; clear K
        refine if_bool E rfl (fun hb => ?_) (fun hb => ?_)
        · replace hb := Nrm.nrm hb
          refine wp_skip ?_
          refine then_k hK ?_; clear hK; clear K
          refine wp_seq_k ?_; intro K hK
          refine wp_block ?_
          have hjb : j < fl.length := by omega
          obtain ⟨gf, rfl⟩ := hC'.addr (by omega)
          refine region_list ?_
          refine list_pure E rfl rfl (by decide) (rn_move E rfl rfl) ?_; clear E a; intro a E
          refine list_pure E rfl rfl (by decide) (rn_move E rfl rfl) ?_; clear E a; intro a E
          refine list_pure E rfl rfl (by decide) (rn_indexAddr1 (i := k) E rfl rfl rfl rfl rfl rfl (by omega)) ?_; clear E a; intro a E
          refine list_pure E rfl rfl (by decide) (rn_loadc E rfl rfl rfl (hX.rd.cells (S.stab.at (by repeat (first | exact mm1 | assumption | apply List.Mem.tail))) rfl k _ hfv)) ?_; clear E a; intro a E
          refine list_pure E rfl rfl (by decide) (rn_move E rfl rfl) ?_; clear E a; intro a E
          refine list_pure E rfl rfl (by decide) (rn_indexAddr1 (i := j) E rfl rfl rfl rfl rfl rfl (by omega)) ?_; clear E a; intro a E
          refine list_wp rfl (wp_elem1 E S rfl rfl rfl rfl rfl rfl hC' (by repeat (first | exact pk1 | apply pick_tail)) (i := j) (by rw [byt_length]; omega) (Nat.zero_add _) ?_); clear E S a; intro a w Cs6 E hBs6 S
          refine wpList_nil ?_
          refine in_normal ?_
          refine then_k hK ?_; clear hK; clear K
          refine region_list ?_
          refine list_pure E rfl rfl (by decide) (rn_move E rfl rfl) ?_; clear E a; intro a E
          refine list_pure E rfl rfl (by decide) (rn_add E rfl rfl rfl (by first | exact wa_lit (y := 1) (by omega) | exact w_in (by omega) | exact w_inu (by omega) | exact rfl)) ?_; clear E a; intro a E
          refine list_pure E rfl rfl (by decide) (rn_assign E rfl rfl) ?_; clear E a; intro a E
          refine wpList_nil ?_
          refine then_normal ?_
          exact ⟨_, by omega, j + 1, xs.set j 97, Cs6, rfl, by omega, by rw [List.length_set]; exact hxl, by have h := byt_set1 xs j 97; rw [← h]; exact hBs6, S, E.keep (keep_cons rfl (keep_cons rfl (keep_cons rfl (keep_cons rfl (keep_cons rfl (keep_cons rfl (keep_cons rfl (keep_cons rfl (keep_cons rfl (keep_cons rfl (keep_cons rfl keep_nil)))))))))))⟩
        · replace hb := Nrm.nrm hb
          refine wp_exit ?_
          refine then_exit ?_; clear hK; clear K
          refine then_exit ?_
          refine in_exit ?_
          refine in_normal ?_
          refine then_k hK ?_; clear hK; clear K
          refine region_list ?_
          refine list_pure E rfl rfl (by decide) (rn_move E rfl rfl) ?_; clear E a; intro a E
          refine list_pure E rfl rfl (by decide) (rn_add E rfl rfl rfl (by first | exact wa_lit (y := 1) (by omega) | exact w_in (by omega) | exact w_inu (by omega) | exact rfl)) ?_; clear E a; intro a E
          refine list_pure E rfl rfl (by decide) (rn_assign E rfl rfl) ?_; clear E a; intro a E
          refine wpList_nil ?_
          refine then_normal ?_
          have hI := hput C' _ xs (by rw [hxl]; exact hC')
          have hset : vs.set k (.slice adf fl.length cf) = vs := by apply List.ext_getElem?; intro t; rw [List.getElem?_set]; by_cases h : k = t; subst h; rw [if_pos rfl, hfv, if_pos (List.getElem?_eq_some_iff.1 hfv).1]; rw [if_neg h]
          rw [hset] at hI
          exact ⟨_, by omega, k + 1, fs.set k xs, _, rfl, by omega, by rw [List.length_set]; exact hfl, hI, S.closeMid.perm2, E.keep (keep_cons rfl (keep_cons rfl (keep_cons rfl (keep_cons rfl (keep_cons rfl (keep_cons rfl (keep_cons rfl (keep_cons rfl (keep_cons rfl (keep_cons rfl keep_nil))))))))))⟩
      · replace hb := Nrm.nrm hb
        refine wp_exit ?_
        refine then_exit ?_; clear hK; clear K
        refine then_exit ?_
        refine in_exit ?_
        refine then_k hK ?_; clear hK; clear K
        refine wp_seq_k ?_; intro K hK
        obtain ⟨adb, cb, CB, hBe, hcb, hRb⟩ := hB1
        have S := S.front1 (A := B1) (by repeat (first | exact pk1 | apply pick_tail))
        rw [hBe] at S
        have S := S.split
        refine region_list ?_
        refine list_pure E rfl rfl (by decide) (rn_move E rfl rfl) ?_; clear E a; intro a E
        refine list_pure E rfl rfl (by decide) (rn_not E rfl rfl) ?_; clear E a; intro a E
        refine list_pure E rfl rfl (by decide) (rn_move E rfl rfl) ?_; clear E a; intro a E
        refine guard_false E (t := 91) rfl (rfl) (fun hb91 => ?_)
        refine list_guard_yes E rfl rfl rfl rfl hb91 rfl (by decide) (rn_move E rfl rfl) ?_; clear E a; intro a E
        refine list_guard_yes E rfl rfl rfl rfl hb91 rfl (by decide) (rn_move E rfl rfl) ?_; clear E a; intro a E
        refine list_guard_yes E rfl rfl rfl rfl hb91 rfl (by decide) (by first | exact rn_neq E rfl rfl rfl | exact rn_neq_ptr_nil E rfl rfl rfl rfl | exact rn_neq_bool E rfl rfl rfl rfl | exact rn_neq_string E rfl rfl rfl) ?_; clear E a; intro a E
        refine list_pure E rfl rfl (by decide) (rn_pick_no' E rfl rfl hb91 rfl) ?_; clear E a; intro a E
        refine list_pure E rfl rfl (by decide) (rn_move E rfl rfl) ?_; clear E a; intro a E
        refine guard_false E (t := 96) rfl ((by simp)) (fun hb96 => ?_)
        refine list_guard_yes E rfl rfl rfl rfl hb96 rfl (by decide) (rn_move E rfl rfl) ?_; clear E a; intro a E
        refine list_guard_yes E rfl rfl rfl rfl hb96 rfl (by decide) (rn_move E rfl rfl) ?_; clear E a; intro a E
        refine list_guard_yes E rfl rfl rfl rfl hb96 rfl (by decide) (rn_nilCheck E rfl rfl) ?_; clear E a; intro a E
        refine list_guard_yes E rfl rfl rfl rfl hb96 rfl (by decide) (by first | exact rn_fieldAddr0 (q := 0) E rfl rfl rfl | exact rn_fieldAddr (q := 0) E rfl rfl rfl) ?_; clear E a; intro a E
        refine list_guard_yes E rfl rfl rfl rfl hb96 rfl (by decide) (by first | exact rn_load E rfl rfl rfl (S.get (by repeat (first | exact pk1 | apply pick_tail))) rfl | exact rn_loadc E rfl rfl rfl (by assumption)) ?_; clear E a; intro a E
        refine list_guard_yes E rfl rfl rfl rfl hb96 rfl (by decide) (by first | exact rn_len E rfl rfl rfl | exact rn_len_str E rfl rfl rfl | exact rn_len_string E rfl rfl rfl) ?_; clear E a; intro a E
        refine list_guard_yes E rfl rfl rfl rfl hb96 rfl (by decide) (by first | exact rn_neq E rfl rfl rfl | exact rn_neq_ptr_nil E rfl rfl rfl rfl | exact rn_neq_bool E rfl rfl rfl rfl | exact rn_neq_string E rfl rfl rfl) ?_; clear E a; intro a E
        refine list_pure E rfl rfl (by decide) (rn_pick_no' E rfl rfl hb96 rfl) ?_; clear E a; intro a E
        refine wpList_nil ?_
        refine then_k hK ?_; clear hK; clear K
        refine if_false' E rfl ((by simp)) ?_
        refine wp_skip ?_
        refine in_normal ?_
        refine then_k hK ?_; clear hK; clear K
        refine region_list ?_
        refine list_pure E rfl rfl (by decide) (rn_move E rfl rfl) ?_; clear E a; intro a E
        refine list_pure E rfl rfl (by decide) (rn_add E rfl rfl rfl (by first | exact wa_lit (y := 1) (by omega) | exact w_in (by omega) | exact w_inu (by omega) | exact rfl)) ?_; clear E a; intro a E
        refine list_pure E rfl rfl (by decide) (rn_assign E rfl rfl) ?_; clear E a; intro a E
        refine wpList_nil ?_
        refine then_normal ?_
        exact ⟨_, by omega, i + 1, cr.2.1, A1, B1, rfl, by omega, hcs, hA1, ⟨adb, cb, CB, hBe, hcb, hRb⟩, (by rw [hBe]; exact S.join.only (Bs := [A1, _, O]) (sel_cons (by repeat (first | exact pk1 | apply pick_tail)) (sel_cons (by repeat (first | exact pk1 | apply pick_tail)) (sel_cons (by repeat (first | exact pk1 | apply pick_tail)) (sel_nil _))))), E.keep (keep_cons rfl (keep_cons rfl (keep_cons rfl (keep_cons rfl keep_nil))))⟩
  · replace hb := Nrm.nrm hb
    refine wp_exit ?_
    refine then_exit ?_; clear hK; clear K
    refine then_exit ?_
    refine in_exit ?_
    refine then_k hK ?_; clear hK; clear K
    refine wp_seq_k ?_; intro K hK
    refine region_list ?_
    refine list_pure E rfl rfl (by decide) (rn_assign E rfl rfl) ?_; clear E a; intro a E
    refine wpList_nil ?_
    refine then_k hK ?_; clear hK; clear K
    refine wp_ret ?_
    refine ret1 E rfl rfl ?_
    exact ⟨_, rfl, rfl, (S.only (Bs := [O]) (sel_cons (by repeat (first | exact pk1 | apply pick_tail)) (sel_nil _))).tr⟩

theorem ones_len {α : Type} : ∀ (l : List α), (l.map fun _ => 1).sum = l.length
  | [] => rfl
  | _ :: l => by rw [List.map_cons, List.sum_cons, ones_len l, List.length_cons, Nat.add_comm]
theorem flat_one {α : Type} (f : α → Value) : ∀ (l : List α), (l.flatMap fun x => [f x]) = l.map f
  | [] => rfl
  | _ :: l => by rw [List.flatMap_cons, flat_one f l]; rfl
theorem feeds_upto (W : World) (hL : laidMetH Tryd.prog Rows.frameFeedsUptoRow.laid W) (X : Value × List (Value × List UInt8))
    (g : OldS W 1 24 (fun x : Value × List UInt8 => [x.1]) (OldS W 1 1 (fun b : UInt8 => [.int .u8 b.toNat]) (fun _ => True)) X) (s : (X.2.map fun x => (x.2.map fun _ => 1).sum + 1).sum + 1 ≤ 1048576) :
    Ret Tryd.prog 4 #[X.1] W fun u w' => u = .bool true ∧ Trs W w' [old W] [old W] := by
  obtain ⟨v, l⟩ := X
  obtain ⟨ad, c, h1, h2, h3, h4, h5⟩ := g
  simp only at h1 h2 h3 h4 h5 s
  rw [flat_one] at h4
  refine feeds_walk (old W) (laid1 hL) v l ⟨h4, ?_, fun x hx => ?_⟩ W (hp_old W)
  · have := size_len (size := fun x : Value × List UInt8 => (x.2.map fun _ => 1).sum + 1) (al := l) (fun a => by omega)
    omega
  · obtain ⟨ad2, c2, k1, k2, k3, k4, k5⟩ := h5 x hx
    rw [flat_byt] at k4
    have := size_mem (size := fun x : Value × List UInt8 => (x.2.map fun _ => 1).sum + 1) hx
    simp only [ones_len] at this s
    exact ⟨k4, by omega⟩
end Go.Proofs.YtjhmjdgdgpgcdaaDoor
