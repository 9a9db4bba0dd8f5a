/-
  Disks: replaced, turned; small questions.
-/
import Derived.Test.YtpppaohhnlgfoaaDiskX
import Derived.Test.YtpppaohhnlgfoaaMore8
namespace Go.Sl
theorem byt_set (l : List UInt8) (i : Nat) (x : UInt8) : (byt l).set i (.int .u8 x.toNat) = byt (l.set i x) := by simp [byt, List.map_set]
end Go.Sl
namespace Go.Proofs.Ytpppaohhnlgfoaa
open Go.Sl
set_option maxRecDepth 10000

theorem failed_ret (d p gp gn n : Nat) (f : Bool) (w0 : World) (H : Hp w0 [[(d, dcl p gp gn n f)]]) : Ret Try.prog 41 #[ptr d] w0 fun u w' => u = .bool f ∧ Trs w0 w' [[(d, dcl p gp gn n f)]] [[(d, dcl p gp gn n f)]] := by
  have S := St.begin H
  refine enter1 7 Try.func41 rfl rfl (by decide) ?_; intro a E
  refine wp_seq_k ?_; intro K hK
  refine region_list ?_
  refine list_pure E rfl rfl (by decide) (rn_assign E rfl rfl) ?_; clear E a; intro a E
  refine wpList_nil ?_
  refine then_k hK ?_; clear hK; clear K
  refine wp_seq_k ?_; intro K hK
  refine region_list ?_
  refine list_pure E rfl rfl (by decide) (rn_move E rfl rfl) ?_; clear E a; intro a E
  refine list_pure E rfl rfl (by decide) (rn_nilCheck E rfl rfl) ?_; clear E a; intro a E
  refine list_pure E rfl rfl (by decide) (by first | exact rn_fieldAddr0 (q := 3) E rfl rfl rfl | exact rn_fieldAddr (q := 3) E rfl rfl rfl) ?_; clear E a; intro a E
  refine list_pure E rfl rfl (by decide) (by first | exact rn_load E rfl rfl rfl (S.get (by repeat (first | exact pk1 | apply pick_tail))) rfl | exact rn_loadc E rfl rfl rfl (by assumption)) ?_; clear E a; intro a E
  refine list_pure E rfl rfl (by decide) (rn_assign E rfl rfl) ?_; clear E a; intro a E
  refine wpList_nil ?_
  refine then_k hK ?_; clear hK; clear K
  refine wp_ret ?_
  refine ret1 E rfl rfl ?_
  exact ⟨_, rfl, rfl, S.tr⟩

theorem replace_ret (d p gp gn n : Nat) (f : Bool) (s : Pw) (vw vd : Value) (pl nw : List UInt8) (hpl : pl.length = n) (hnw : nw.length = n) (hn : n ≤ 1048576) (ws : List Wt) (Cw : Chunk) (hCw : Buf Cw 65 130 vw ws.length (wl ws)) (As : List Chunk) (hB : ∀ x ∈ ws, x.d = d ∨ Bks As x.d) (w0 : World)
    (H : Hp w0 ([(p, pcl s vw vd)] :: Cw :: [(d, dcl p gp gn n f)] :: [(gp, cel (byt pl) 5)] :: [(gn, cel (byt nw) 5)] :: As)) :
    Ret Try.prog 20 #[ptr d] w0 fun _ w' => ∃ vw' Cw', Buf Cw' 65 130 vw' (outW d ws).length (wl (outW d ws)) ∧
        Trs w0 w' ([(p, pcl s vw vd)] :: Cw :: [(d, dcl p gp gn n f)] :: [(gp, cel (byt pl) 5)] :: [(gn, cel (byt nw) 5)] :: As) ([(p, pcl s vw' vd)] :: Cw' :: [(d, dcl p gp gn n false)] :: [(gp, cel (byt (List.replicate n 0)) 5)] :: [(gn, cel (byt (List.replicate n 0)) 5)] :: As) := by
  have S := St.begin H
  have hz : List.replicate n (.int .u8 0) = byt (List.replicate n 0) := (byt_rep n).symm
  refine enter1 19 Try.func20 rfl rfl (by decide) ?_; intro a E
  refine wp_seq_k ?_; intro K hK
  refine region_list ?_
  refine list_pure E rfl rfl (by decide) (rn_move E rfl rfl) ?_; clear E a; intro a E
  refine list_pure E rfl rfl (by decide) (rn_nilCheck E rfl rfl) ?_; clear E a; intro a E
  refine list_pure E rfl rfl (by decide) (by first | exact rn_fieldAddr0 (q := 0) E rfl rfl rfl | exact rn_fieldAddr (q := 0) E rfl rfl rfl) ?_; clear E a; intro a E
  refine list_pure E rfl rfl (by decide) (by first | exact rn_load E rfl rfl rfl (S.get (by repeat (first | exact pk1 | apply pick_tail))) rfl | exact rn_loadc E rfl rfl rfl (by assumption)) ?_; clear E a; intro a E
  refine list_pure E rfl rfl (by decide) (rn_move E rfl rfl) ?_; clear E a; intro a E
  refine list_call E rfl rfl (by decide) rfl Try.func31 rfl (by kernel_rfl) rfl (drop_ret p s vw vd ws Cw hCw d ([(d, dcl p gp gn n f)] :: [(gp, cel (byt pl) 5)] :: [(gn, cel (byt nw) 5)] :: As) (fun x hx => (hB x hx).imp_right fun h => ⟨h.sub (fun _ h => by repeat (first | exact h | apply List.Mem.tail)), ⟨_, List.Mem.head _, _, _, List.Mem.head _⟩⟩) _ S.hp) ?_
  rintro v7 w ⟨vw', Cw', hCw', hT⟩; clear E a; intro a E
  have S := S.all hT
  refine wpList_nil ?_
  refine then_k hK ?_; clear hK; clear K
  refine wp_seq_k ?_; intro K hK
  refine region_list ?_
  refine list_pure E rfl rfl (by decide) (rn_move E rfl rfl) ?_; clear E a; intro a E
  refine list_pure E rfl rfl (by decide) (rn_nilCheck E rfl rfl) ?_; clear E a; intro a E
  refine list_pure E rfl rfl (by decide) (by first | exact rn_fieldAddr0 (q := 1) E rfl rfl rfl | exact rn_fieldAddr (q := 1) E rfl rfl rfl) ?_; clear E a; intro a E
  refine list_pure E rfl rfl (by decide) (by first | exact rn_load E rfl rfl rfl (S.get (by repeat (first | exact pk1 | apply pick_tail))) rfl | exact rn_loadc E rfl rfl rfl (by assumption)) ?_; clear E a; intro a E
  refine list_wp rfl (wp_clear E S rfl rfl rfl rfl rfl rfl rfl rfl (by repeat (first | exact pk1 | apply pick_tail)) (by rw [byt_length]; exact hpl) ?_); clear E S a; intro a w E S
  rw [hz] at S
  refine wpList_nil ?_
  refine then_k hK ?_; clear hK; clear K
  refine wp_seq_k ?_; intro K hK
  refine region_list ?_
  refine list_pure E rfl rfl (by decide) (rn_move E rfl rfl) ?_; clear E a; intro a E
  refine list_pure E rfl rfl (by decide) (rn_nilCheck E rfl rfl) ?_; clear E a; intro a E
  refine list_pure E rfl rfl (by decide) (by first | exact rn_fieldAddr0 (q := 2) E rfl rfl rfl | exact rn_fieldAddr (q := 2) E rfl rfl rfl) ?_; clear E a; intro a E
  refine list_pure E rfl rfl (by decide) (by first | exact rn_load E rfl rfl rfl (S.get (by repeat (first | exact pk1 | apply pick_tail))) rfl | exact rn_loadc E rfl rfl rfl (by assumption)) ?_; clear E a; intro a E
  refine list_wp rfl (wp_clear E S rfl rfl rfl rfl rfl rfl rfl rfl (by repeat (first | exact pk1 | apply pick_tail)) (by rw [byt_length]; exact hnw) ?_); clear E S a; intro a w E S
  rw [hz] at S
  refine wpList_nil ?_
  refine then_k hK ?_; clear hK; clear K
  refine region_list ?_
  refine list_pure E rfl rfl (by decide) (rn_move E rfl rfl) ?_; clear E a; intro a E
  refine list_pure E rfl rfl (by decide) (rn_nilCheck E rfl rfl) ?_; clear E a; intro a E
  refine list_pure E rfl rfl (by decide) (by first | exact rn_fieldAddr0 (q := 3) E rfl rfl rfl | exact rn_fieldAddr (q := 3) E rfl rfl rfl) ?_; clear E a; intro a E
  refine list_wp rfl (wp_store1 E S rfl rfl rfl rfl rfl rfl (by repeat (first | exact pk1 | apply pick_tail)) (by first | exact Nat.le_of_ble_eq_true rfl | (simp; done) | (simp; omega)) ?_); clear E S a; intro a w E S; try dsimp only [List.set] at S
  refine wpList_nil ?_
  refine end0 E rfl ?_
  exact ⟨_, rfl, vw', Cw', hCw', (S.front5 (A := [(p, _)]) (by repeat (first | exact pk1 | apply pick_tail)) (B := Cw') (by repeat (first | exact pk1 | apply pick_tail)) (C := [(d, _)]) (by repeat (first | exact pk1 | apply pick_tail)) (D := [(gp, _)]) (by repeat (first | exact pk1 | apply pick_tail)) (F := [(gn, _)]) (by repeat (first | exact pk1 | apply pick_tail))).tr⟩

/-- Bytes in a block are turned by a mask. -/
theorem turn_ret (g off m c : Nat) (T : TypeId) (pre post : List Value) (xs : List UInt8) (hpre : pre.length = off) (hxm : xs.length = m) (hb : m ≤ 4611686018427387904) (v : Value) (ms : List UInt8) (hms : ms.length ≤ m) (D : Chunk) (hD : Rd D 1 v ms.length (byt ms)) (As : List Chunk) (hDA : D ∈ As) (w0 : World)
    (H : Hp w0 ([(g, cel (pre ++ byt xs ++ post) T)] :: As)) :
    Ret Try.prog 47 #[.slice (some ⟨g, off, none⟩) m c, v] w0 fun _ w' => Trs w0 w' ([(g, cel (pre ++ byt xs ++ post) T)] :: As) ([(g, cel (pre ++ byt (xorB xs ms) ++ post) T)] :: As) := by
  have S := St.begin H
  obtain ⟨ad, cd, rfl⟩ := hD.slice
  have hm9 := hD.2.2.1
  simp only [maxLen] at hm9
  refine enter2 21 Try.func47 rfl rfl (by decide) ?_; intro a E
  refine wp_seq_k ?_; intro K hK
  refine region_list ?_
  refine list_pure E rfl rfl (by decide) (rn_move E rfl rfl) ?_; clear E a; intro a E
  refine list_pure E rfl rfl (by decide) (by first | exact rn_len E rfl rfl rfl | exact rn_len_str E rfl rfl rfl | exact rn_len_string E rfl rfl rfl) ?_; clear E a; intro a E
  refine list_pure E rfl rfl (by decide) (rn_move E rfl rfl) ?_; clear E a; intro a E
  refine wpList_nil ?_
  refine then_k hK ?_; clear hK; clear K
  refine wp_block ?_
  refine wp_loop_ghost (fun (m : Nat) (a : Act) (w' : World) => ∃ i : Nat, m = ms.length - i ∧ i ≤ ms.length ∧ St w0 ([(g, cel (pre ++ byt xs ++ post) T)] :: As) w' ([(g, cel (pre ++ byt (xorB xs (ms.take i)) ++ post) T)] :: As) ∧ Fr a 21 [(0, .slice (some ⟨g, off, none⟩) xs.length c), (6, .slice ad ms.length cd), (7, .int .i64 ms.length), (8, .int .i64 i)]) (ms.length - 0) ?_ ?_
  · subst hxm; exact ⟨0, rfl, by omega, by rw [List.take_zero, xorB_nil]; exact S, E.keep (keep_cons rfl (keep_cons rfl (keep_cons rfl (keep_cons rfl keep_nil))))⟩
  clear E; clear a; (try clear S); rintro m a w ⟨i, rfl, hi, S, E⟩
  refine wp_seq_k ?_; intro K hK
  refine region_list ?_
  refine list_pure E rfl rfl (by decide) (rn_lss E rfl rfl rfl) ?_; clear E a; intro a E
  refine wpList_nil ?_
  refine then_k hK ?_; clear hK; clear K
  refine wp_seq_k ?_; intro K hK
  refine if_bool E rfl (fun hb => ?_) (fun hb => ?_)
  · replace hb := Nrm.nrm hb
    refine wp_skip ?_
    refine then_k hK ?_; clear hK; clear K
    refine wp_seq_k ?_; intro K hK
    refine wp_block ?_
    refine wp_seq_k ?_; intro K hK
    have hil : i < ms.length := by omega
    obtain ⟨gm, om, rfl⟩ := hD.addr (by omega)
    obtain ⟨x, hx⟩ : ∃ x, xs[i]? = some x := ⟨_, List.getElem?_eq_getElem (by omega)⟩
    obtain ⟨q, hq⟩ : ∃ q, ms[i]? = some q := ⟨_, List.getElem?_eq_getElem hil⟩
    have hqb : (byt ms)[i]? = some (.int .u8 q.toNat) := by simp [byt, hq]
    have hxi : (xorB xs (ms.take i))[i]? = some x := by rw [xorB_past _ _ _ (by rw [List.length_take]; omega)]; exact hx
    have hcell : (pre ++ byt (xorB xs (ms.take i)) ++ post)[off + i]? = some (.int .u8 x.toNat) := by
      rw [List.append_assoc, List.getElem?_append_right (by omega), hpre, Nat.add_sub_cancel_left, List.getElem?_append_left (by rw [byt_length, xorB_length]; omega)]; simp [byt, hxi]
    have hset : (pre ++ byt (xorB xs (ms.take i)) ++ post).set (off + i) (.int .u8 (x ^^^ q).toNat) = pre ++ byt (xorB xs (ms.take (i + 1))) ++ post := by
      rw [List.append_assoc, List.set_append, if_neg (by omega), hpre, Nat.add_sub_cancel_left, List.set_append, if_pos (by rw [byt_length, xorB_length]; omega), byt_set, xorB_step hx hq, List.append_assoc]
    refine region_list ?_
    refine list_pure E rfl rfl (by decide) (rn_move E rfl rfl) ?_; clear E a; intro a E
    refine list_pure E rfl rfl (by decide) (rn_indexAddr1 (i := i) E rfl rfl rfl rfl rfl rfl (by omega)) ?_; clear E a; intro a E
    refine list_pure E rfl rfl (by decide) (rn_loadc E rfl rfl rfl (hD.cells (S.stab.at (by repeat (first | exact mm1 | assumption | apply List.Mem.tail))) rfl i _ hqb)) ?_; clear E a; intro a E
    refine list_pure E rfl rfl (by decide) (rn_assign E rfl rfl) ?_; clear E a; intro a E
    refine list_pure E rfl rfl (by decide) (rn_assign E rfl rfl) ?_; clear E a; intro a E
    refine wpList_nil ?_
    refine then_k hK ?_; clear hK; clear K
    refine region_list ?_
    refine list_pure E rfl rfl (by decide) (rn_move E rfl rfl) ?_; clear E a; intro a E
    refine list_pure E rfl rfl (by decide) (rn_move E rfl rfl) ?_; clear E a; intro a E
    refine list_pure E rfl rfl (by decide) (rn_indexAddr1 (i := i) E rfl rfl rfl rfl rfl rfl (by omega)) ?_; clear E a; intro a E
    refine list_pure E rfl rfl (by decide) (rn_loadc E rfl rfl rfl (blk_cell (S.get (show List.Perm _ ([(g, _)] :: _) from (by repeat (first | exact pk1 | apply pick_tail)))) hcell)) ?_; clear E a; intro a E
    refine list_pure E rfl rfl (by decide) (rn_move E rfl rfl) ?_; clear E a; intro a E
    refine list_pure E rfl rfl (by decide) (rn_xor E rfl rfl rfl (xor8 x q)) ?_; clear E a; intro a E
    refine list_pure E rfl rfl (by decide) (rn_indexAddr1 (i := i) E rfl rfl rfl rfl rfl rfl (by omega)) ?_; clear E a; intro a E
    refine list_wp rfl (wp_store1 E S rfl rfl rfl rfl rfl rfl (by repeat (first | exact pk1 | apply pick_tail)) (by simp [byt_length, xorB_length]; omega) ?_); clear E S a; intro a w E S; try dsimp only [List.set] at S
    refine wpList_nil ?_
    refine in_normal ?_
    refine then_k hK ?_; clear hK; clear K
    refine region_list ?_
    refine list_pure E rfl rfl (by decide) (rn_add E rfl rfl rfl (by first | exact wa_lit (y := 1) (by omega) | exact w_in (by omega) | exact w_inu (by omega) | exact rfl)) ?_; clear E a; intro a E
    refine list_pure E rfl rfl (by decide) (rn_move E rfl rfl) ?_; clear E a; intro a E
    refine wpList_nil ?_
    refine then_normal ?_
    rw [hset] at S
    exact ⟨_, by omega, i + 1, rfl, by omega, S, E.keep (keep_cons rfl (keep_cons rfl (keep_cons rfl (keep_cons rfl keep_nil))))⟩
  · replace hb := Nrm.nrm hb
    refine wp_exit ?_
    refine then_exit ?_; clear hK; clear K
    refine then_exit ?_
    refine in_exit ?_
    refine end0 E rfl ?_
    obtain rfl : i = ms.length := by omega
    rw [List.take_length] at S
    exact ⟨_, rfl, S.tr⟩
end Go.Proofs.Ytpppaohhnlgfoaa
