/-
  The document's reader (package undercroftref01): each of its functions does what the plain one says.
-/
import Derived.Test.YtjhmjdgdgpgcdaaDoorCodeV
namespace Go.Proofs.YtjhmjdgdgpgcdaaDoor
open Go.Sl
set_option maxRecDepth 10000

theorem uopen_ret (D : Chunk) (v : Value) (bs : List UInt8) (w0 : World) (h : Rd D 1 v bs.length (byt bs)) (H : Hp w0 [D]) (hl : bs.length ≤ 140737488355328) :
    Ret Tryd.prog 85 #[v] w0 fun u w' => ∃ p A, u = ptr p ∧ RdC 121 p ⟨bs, 0, 0⟩ A ∧ Trs w0 w' [D] [A, D] := by
  have S := (St.begin H).addNil
  obtain ⟨ad, c, rfl⟩ := h.slice
  refine enter1 7 Tryd.func85 rfl rfl (by decide) ?_; intro a E
  refine wp_seq_k ?_; intro K hK
  refine region_list ?_
  refine list_pure E rfl rfl (by decide) (rn_assign E rfl rfl) ?_; clear E a; intro a E
  refine wpList_nil ?_
  refine then_k hK ?_; clear hK; clear K
  refine wp_seq_k ?_; intro K hK
  refine region_list ?_
  refine list_pure E rfl rfl (by decide) (rn_move E rfl rfl) ?_; clear E a; intro a E
  refine list_wp rfl (wp_append (by' := 1) E S rfl rfl (by decide) rfl rfl (Buf.nil 5 1) (by repeat (first | exact pk1 | apply pick_tail)) (h.src (S.stab.at (by repeat (first | exact mm1 | apply List.Mem.tail))) rfl) rfl rfl rfl rfl rfl rfl (by simp only [maxLen]; omega) (by omega) ?_); clear E S a; intro a w v4 C4 E S hB4
  rw [Nat.zero_add, List.nil_append] at hB4
  obtain ⟨ad4, c4, rfl⟩ := hB4.slice
  refine list_pure E rfl rfl (by decide) (rn_build (cells := [_, _, _]) E rfl rfl rfl) ?_; clear E a; intro a E
  refine list_wp rfl (wp_box E S rfl rfl (by decide) rfl rfl ?_); clear E S a; intro a w b6 E S
  refine list_pure E rfl rfl (by decide) (rn_assign E rfl rfl) ?_; clear E a; intro a E
  refine wpList_nil ?_
  refine then_k hK ?_; clear hK; clear K
  refine wp_ret ?_
  refine ret1 E rfl rfl ?_
  have hc := hB4.cap_le
  have S := S.gather (A := [(b6, _)]) (B := C4) (by repeat (first | exact pk1 | apply pick_tail)) (by repeat (first | exact pk1 | apply pick_tail))
  exact ⟨_, rfl, b6, _, rfl, ⟨Nat.zero_le _, hl, _, _, _, rfl, hc, hB4.rd⟩, S.tr⟩

theorem uvalue_ret (C : Chunk) (v : Value) (bs : List UInt8) (w0 : World) (h : Rd C 1 v bs.length (byt bs)) (hs : ∀ x ∈ C, w0.heap[x.1]? = some x.2) (hl : bs.length ≤ 8) :
    Ret Tryd.prog 87 #[v] w0 fun u w' => u = .int .u64 (numOf bs) ∧ w' = w0 := by
  obtain ⟨ad, c, rfl⟩ := h.slice
  refine enter1 21 Tryd.func87 rfl rfl (by decide) ?_; intro a E
  refine wp_seq_k ?_; intro K hK
  refine region_list ?_
  refine list_pure E rfl rfl (by decide) (rn_assign E rfl rfl) ?_; clear E a; intro a E
  refine wpList_nil ?_
  refine then_k hK ?_; clear hK; clear K
  refine wp_seq_k ?_; intro K hK
  refine region_list ?_
  refine list_pure E rfl rfl (by decide) (rn_assign E rfl rfl) ?_; clear E a; intro a E
  refine wpList_nil ?_
  refine then_k hK ?_; clear hK; clear K
  refine wp_seq_k ?_; intro K hK
  refine wp_seq_k ?_; intro K hK
  refine region_list ?_
  refine list_pure E rfl rfl (by decide) (rn_move E rfl rfl) ?_; clear E a; intro a E
  refine list_pure E rfl rfl (by decide) (by first | exact rn_len E rfl rfl rfl | exact rn_len_str E rfl rfl rfl | exact rn_len_string E rfl rfl rfl) ?_; clear E a; intro a E
  refine list_pure E rfl rfl (by decide) (rn_sub E rfl rfl rfl (w_in (by omega))) ?_; clear E a; intro a E
  refine list_pure E rfl rfl (by decide) (rn_assign E rfl rfl) ?_; clear E a; intro a E
  refine wpList_nil ?_
  refine then_k hK ?_; clear hK; clear K
  refine wp_block ?_
  refine wp_loop_ghost (fun (m : Nat) (a : Act) (w' : World) => ∃ k : Nat, k ≤ bs.length ∧ m = k ∧ w' = w0 ∧ Fr a 21 [(0, .slice ad bs.length c), (3, .int .u64 (numOf (bs.drop k))), (4, .int .i64 ((k : Int) - 1))]) (bs.length) ?_ ?_
  · exact ⟨bs.length, by omega, rfl, rfl, by rw [List.drop_length]; exact E.keep (keep_cons rfl (keep_cons rfl (keep_cons rfl keep_nil)))⟩
  clear E; clear a; (try clear S); rintro m a w ⟨k, hk, hm, rfl, E⟩
  refine wp_seq_k ?_; intro K hK
  refine wp_seq_k ?_; intro K hK
  refine region_list ?_
  refine list_pure E rfl rfl (by decide) (rn_move E rfl rfl) ?_; clear E a; intro a E
  refine list_pure E rfl rfl (by decide) (rn_geq E rfl rfl rfl) ?_; clear E a; intro a E
  refine wpList_nil ?_
  refine then_k hK ?_; clear hK; clear K
  refine if_bool E rfl (fun hb => ?_) (fun hb => ?_)
  · replace hb := Nrm.nrm hb
    refine wp_skip ?_
    refine then_k hK ?_; clear hK; clear K
    refine wp_seq_k ?_; intro K hK
    refine wp_block ?_
    obtain ⟨b, off, rfl⟩ := h.addr (by omega)
    have hcb := h.byte hs (i := k - 1) (by omega)
    have hlt : numOf (bs.drop k) < 72057594037927936 := Nat.lt_of_lt_of_le (numOf_lt _) (Nat.pow_le_pow_right (n := 256) (j := 7) (by omega) (by rw [List.length_drop]; omega))
    have h8 := (bs[k - 1]).toNat_lt
    have hnum : numOf (bs.drop (k - 1)) = 256 * numOf (bs.drop k) + (bs[k - 1]).toNat := by { rw [List.drop_eq_getElem_cons (show k - 1 < bs.length by omega), show k - 1 + 1 = k by omega]; simp only [numOf]; omega }
    refine region_list ?_
    refine list_pure E rfl rfl (by decide) (rn_move E rfl rfl) ?_; clear E a; intro a E
    refine list_pure E rfl rfl (by decide) (rn_mul E rfl rfl rfl (by first | exact wm_lit (x := 256) (by omega) | exact wm_litu (x := 256) (by omega) | exact w_in (by omega) | exact rfl)) ?_; clear E a; intro a E
    refine list_pure E rfl rfl (by decide) (rn_move E rfl rfl) ?_; clear E a; intro a E
    refine list_pure E rfl rfl (by decide) (rn_move E rfl rfl) ?_; clear E a; intro a E
    refine list_pure E rfl rfl (by decide) (rn_indexAddr1 (i := k - 1) E rfl rfl rfl rfl rfl (by omega) (by omega)) ?_; clear E a; intro a E
    refine list_pure E rfl rfl (by decide) (rn_loadc E rfl rfl rfl (hcb)) ?_; clear E a; intro a E
    refine list_pure E rfl rfl (by decide) (by first | exact rn_convert E rfl rfl rfl rfl (by first | exact wu8 _ | exact w_nat (by omega) | exact w_natu (by omega) | exact w_in (by omega) | exact w_inu (by omega) | exact rfl) | exact rn_string E rfl rfl rfl rfl rfl (by assumption) (S.stab.at (by simp))) ?_; clear E a; intro a E
    refine list_pure E rfl rfl (by decide) (rn_add E rfl rfl rfl ((congrArg _ (Int.natCast_add _ _).symm).trans (w_natu (by omega)))) ?_; clear E a; intro a E
    refine list_pure E rfl rfl (by decide) (rn_assign E rfl rfl) ?_; clear E a; intro a E
    refine wpList_nil ?_
    refine in_normal ?_
    refine then_k hK ?_; clear hK; clear K
    refine region_list ?_
    refine list_pure E rfl rfl (by decide) (rn_move E rfl rfl) ?_; clear E a; intro a E
    refine list_pure E rfl rfl (by decide) (rn_sub E rfl rfl rfl (r := ((k - 1 : Nat) : Int) - 1) (by rw [show ((k : Int) - 1 - 1) = ((k - 1 : Nat) : Int) - 1 by omega]; exact w_in (by omega))) ?_; clear E a; intro a E
    refine list_pure E rfl rfl (by decide) (rn_assign E rfl rfl) ?_; clear E a; intro a E
    refine wpList_nil ?_
    refine then_normal ?_
    exact ⟨k - 1, by omega, k - 1, by omega, rfl, rfl, by rw [hnum]; exact E.keep (keep_cons rfl (keep_cons rfl (keep_cons rfl keep_nil)))⟩
  · replace hb := Nrm.nrm hb
    refine wp_exit ?_
    refine then_exit ?_; clear hK; clear K
    refine then_exit ?_
    refine in_exit ?_
    refine then_k hK ?_; clear hK; clear K
    refine wp_seq_k ?_; intro K hK
    refine region_list ?_
    refine list_pure E rfl rfl (by decide) (rn_move E rfl rfl) ?_; clear E a; intro a E
    refine list_pure E rfl rfl (by decide) (rn_assign E rfl rfl) ?_; clear E a; intro a E
    refine wpList_nil ?_
    refine then_k hK ?_; clear hK; clear K
    refine wp_ret ?_
    refine ret1 E rfl rfl ?_
    obtain rfl : k = 0 := by omega
    exact ⟨_, rfl, rfl, rfl⟩

theorem ubytes_ret (p : Nat) (s : Rdr) (A : Chunk) (w0 : World) (hA : RdC 121 p s A) (H : Hp w0 [A]) (k : Int) (hk : k ≤ 9223372036854775807) :
    Ret Tryd.prog 72 #[ptr p, .int .i64 k] w0 fun u w' => ∃ A' C, RdC 121 p (s.bytes k).2 A' ∧ Trs w0 w' [A] [A', C] ∧ Buf C 5 1 u (s.bytes k).1.length (byt (s.bytes k).1) := by
  obtain ⟨hat, hlen, ad, c, C, rfl, hc, hR⟩ := hA
  have S := (St.begin H).split
  refine enter2 57 Tryd.func72 rfl rfl (by decide) ?_; intro a E
  refine wp_seq_k ?_; intro K hK
  refine region_list ?_
  refine list_pure E rfl rfl (by decide) (rn_assign E rfl rfl) ?_; clear E a; intro a E
  refine wpList_nil ?_
  refine then_k hK ?_; clear hK; clear K
  refine wp_seq_k ?_; intro K hK
  refine wp_seq_k ?_; intro K hK
  refine region_list ?_
  refine list_pure E rfl rfl (by decide) (rn_move E rfl rfl) ?_; clear E a; intro a E
  refine list_pure E rfl rfl (by decide) (rn_nilCheck E rfl rfl) ?_; clear E a; intro a E
  refine list_pure E rfl rfl (by decide) (by first | exact rn_fieldAddr0 (q := 2) E rfl rfl rfl | exact rn_fieldAddr (q := 2) E rfl rfl rfl) ?_; clear E a; intro a E
  refine list_pure E rfl rfl (by decide) (by first | exact rn_load E rfl rfl rfl (S.get (by repeat (first | exact pk1 | apply pick_tail))) rfl | exact rn_loadc E rfl rfl rfl (by assumption)) ?_; clear E a; intro a E
  refine list_pure E rfl rfl (by decide) (by first | exact rn_neq E rfl rfl rfl | exact rn_neq_ptr_nil E rfl rfl rfl rfl | exact rn_neq_bool E rfl rfl rfl rfl | exact rn_neq_string E rfl rfl rfl) ?_; clear E a; intro a E
  refine wpList_nil ?_
  refine then_k hK ?_; clear hK; clear K
  refine if_bool E rfl (fun hb => ?_) (fun hb => ?_)
  · replace hb := Nrm.nrm hb
    refine wp_seq_k ?_; intro K hK
    refine region_list ?_
    refine list_pure E rfl rfl (by decide) (rn_assign E rfl rfl) ?_; clear E a; intro a E
    refine wpList_nil ?_
    refine then_k hK ?_; clear hK; clear K
    refine wp_ret ?_
    refine then_ret ?_; clear hK; clear K
    refine ret1 E rfl rfl ?_
    have hv : s.bytes k = ([], s) := by simp [Rdr.bytes, show s.e ≠ 0 by omega]
    exact ⟨_, rfl, _, [], by rw [hv]; exact ⟨hat, hlen, ad, c, C, rfl, hc, hR⟩, (S.join.addNil.perm (Bs := [_, []]) (sel_cons (by repeat (first | exact pk1 | apply pick_tail)) (sel_cons (by repeat (first | exact pk1 | apply pick_tail)) (sel_nil _)))).tr, by rw [hv]; exact Buf.nil _ _⟩
  · replace hb := Nrm.nrm hb
    refine wp_skip ?_
    refine then_k hK ?_; clear hK; clear K
    refine wp_seq_k ?_; intro K hK
    refine wp_seq_k ?_; intro K hK
    refine region_list ?_
    refine list_pure E rfl rfl (by decide) (rn_move E rfl rfl) ?_; clear E a; intro a E
    refine list_pure E rfl rfl (by decide) (rn_lss E rfl rfl rfl) ?_; clear E a; intro a E
    refine wpList_nil ?_
    refine then_k hK ?_; clear hK; clear K
    refine if_bool E rfl (fun hb => ?_) (fun hb => ?_)
    · replace hb := Nrm.nrm hb
      refine wp_seq_k ?_; intro K hK
      refine region_list ?_
      refine list_pure E rfl rfl (by decide) (rn_move E rfl rfl) ?_; clear E a; intro a E
      refine list_pure E rfl rfl (by decide) (rn_nilCheck E rfl rfl) ?_; clear E a; intro a E
      refine list_pure E rfl rfl (by decide) (by first | exact rn_fieldAddr0 (q := 2) E rfl rfl rfl | exact rn_fieldAddr (q := 2) E rfl rfl rfl) ?_; clear E a; intro a E
      refine list_wp rfl (wp_store1 E S rfl rfl rfl rfl rfl rfl (by repeat (first | exact pk1 | apply pick_tail)) (by first | exact Nat.le_of_ble_eq_true rfl | (simp; done) | (simp; omega)) ?_); clear E S a; intro a w E S; try dsimp only [List.set] at S
      refine wpList_nil ?_
      refine then_k hK ?_; clear hK; clear K
      refine wp_seq_k ?_; intro K hK
      refine region_list ?_
      refine list_pure E rfl rfl (by decide) (rn_assign E rfl rfl) ?_; clear E a; intro a E
      refine wpList_nil ?_
      refine then_k hK ?_; clear hK; clear K
      refine wp_ret ?_
      refine then_ret ?_; clear hK; clear K
      refine ret1 E rfl rfl ?_
      have hv : s.bytes k = ([], { s with e := 1 }) := by simp [Rdr.bytes, show s.e = 0 by omega, show k < 0 by omega]
      exact ⟨_, rfl, _, [], by rw [hv]; exact ⟨hat, hlen, ad, c, C, rfl, hc, hR⟩, (S.join.addNil.perm (Bs := [_, []]) (sel_cons (by repeat (first | exact pk1 | apply pick_tail)) (sel_cons (by repeat (first | exact pk1 | apply pick_tail)) (sel_nil _)))).tr, by rw [hv]; exact Buf.nil _ _⟩
    · replace hb := Nrm.nrm hb
      refine wp_skip ?_
      refine then_k hK ?_; clear hK; clear K
      refine wp_seq_k ?_; intro K hK
      refine wp_seq_k ?_; intro K hK
      obtain ⟨kn, rfl⟩ : ∃ kn : Nat, k = kn := ⟨k.toNat, by omega⟩
      refine region_mix0 S (.ofL [(0, 0), (1, 0), (2, 0), (3, 0), (4, 0), (5, 0), (6, 0), (7, 0), (8, 0), (9, 0), (10, 0), (11, 0)]) (by kernel_rfl) (by kernel_rfl) ?_
      clear S; intro w S
      refine mix_pure E rfl rfl rfl (by decide) (fun w h => rn_move E rfl rfl) ?_; clear E a; intro a E
      refine mix_pure E rfl rfl rfl (by decide) (fun w h => rn_move E rfl rfl) ?_; clear E a; intro a E
      refine mix_pure E rfl rfl rfl (by decide) (fun w h => rn_nilCheck E rfl rfl) ?_; clear E a; intro a E
      refine mix_pure E rfl rfl rfl (by decide) (fun w h => by first | exact rn_fieldAddr0 (q := 0) E rfl rfl rfl | exact rn_fieldAddr (q := 0) E rfl rfl rfl) ?_; clear E a; intro a E
      refine mix_pure E rfl rfl rfl (by decide) (fun w h => by first | exact rn_load E rfl rfl rfl (h.one (by repeat (first | exact mm1 | apply List.Mem.tail))) rfl | exact rn_loadc E rfl rfl rfl (by assumption)) ?_; clear E a; intro a E
      refine mix_pure E rfl rfl rfl (by decide) (fun w h => by first | exact rn_len E rfl rfl rfl | exact rn_len_str E rfl rfl rfl | exact rn_len_string E rfl rfl rfl) ?_; clear E a; intro a E
      refine mix_pure E rfl rfl rfl (by decide) (fun w h => rn_move E rfl rfl) ?_; clear E a; intro a E
      refine mix_pure E rfl rfl rfl (by decide) (fun w h => rn_nilCheck E rfl rfl) ?_; clear E a; intro a E
      refine mix_pure E rfl rfl rfl (by decide) (fun w h => by first | exact rn_fieldAddr0 (q := 1) E rfl rfl rfl | exact rn_fieldAddr (q := 1) E rfl rfl rfl) ?_; clear E a; intro a E
      refine mix_pure E rfl rfl rfl (by decide) (fun w h => by first | exact rn_load E rfl rfl rfl (h.one (by repeat (first | exact mm1 | apply List.Mem.tail))) rfl | exact rn_loadc E rfl rfl rfl (by assumption)) ?_; clear E a; intro a E
      refine mix_pure E rfl rfl rfl (by decide) (fun w h => rn_sub E rfl rfl rfl (by first | exact ws1 (by omega) (by omega) | exact w_in (by omega) | exact w_inu (by omega) | exact rfl)) ?_; clear E a; intro a E
      refine mix_pure E rfl rfl rfl (by decide) (fun w h => rn_gtr E rfl rfl rfl) ?_; clear E a; intro a E
      refine mix_nil ?_
      refine then_k hK ?_; clear hK; clear K
      refine if_bool E rfl (fun hb => ?_) (fun hb => ?_)
      · replace hb := Nrm.nrm hb
        refine wp_seq_k ?_; intro K hK
        refine region_list ?_
        refine list_pure E rfl rfl (by decide) (rn_move E rfl rfl) ?_; clear E a; intro a E
        refine list_pure E rfl rfl (by decide) (rn_nilCheck E rfl rfl) ?_; clear E a; intro a E
        refine list_pure E rfl rfl (by decide) (by first | exact rn_fieldAddr0 (q := 2) E rfl rfl rfl | exact rn_fieldAddr (q := 2) E rfl rfl rfl) ?_; clear E a; intro a E
        refine list_wp rfl (wp_store1 E S rfl rfl rfl rfl rfl rfl (by repeat (first | exact pk1 | apply pick_tail)) (by first | exact Nat.le_of_ble_eq_true rfl | (simp; done) | (simp; omega)) ?_); clear E S a; intro a w E S; try dsimp only [List.set] at S
        refine wpList_nil ?_
        refine then_k hK ?_; clear hK; clear K
        refine wp_seq_k ?_; intro K hK
        replace E := E.keep (e' := [(0, _), (1, _), (4, _)]) (keep_cons rfl (keep_cons rfl (keep_cons rfl (keep_nil))))
        refine region_list ?_
        refine list_pure E rfl rfl (by decide) (rn_assign E rfl rfl) ?_; clear E a; intro a E
        refine wpList_nil ?_
        refine then_k hK ?_; clear hK; clear K
        refine wp_ret ?_
        refine then_ret ?_; clear hK; clear K
        refine ret1 E rfl rfl ?_
        have hv : s.bytes kn = ([], { s with e := 10 }) := by simp [Rdr.bytes, show s.e = 0 by omega, show ¬ (kn : Int) < 0 by omega, show s.bs.length < s.at_ + kn by omega]
        exact ⟨_, rfl, _, [], by rw [hv]; exact ⟨hat, hlen, ad, c, C, rfl, hc, hR⟩, (S.join.addNil.perm (Bs := [_, []]) (sel_cons (by repeat (first | exact pk1 | apply pick_tail)) (sel_cons (by repeat (first | exact pk1 | apply pick_tail)) (sel_nil _)))).tr, by rw [hv]; exact Buf.nil _ _⟩
      · replace hb := Nrm.nrm hb
        refine wp_skip ?_
        refine then_k hK ?_; clear hK; clear K
        refine wp_seq_k ?_; intro K hK
        have S := S.addNil
        refine region_mix0 S (.ofL [(0, 0), (1, 0), (2, 0), (3, 0), (4, 0), (5, 0), (6, 0), (7, 0), (8, 0), (9, 0), (10, 0), (11, 0), (12, 0), (13, 0), (14, 0), (15, 3), (16, 2)]) (by kernel_rfl) (by kernel_rfl) ?_
        clear S; intro w S
        refine mix_pure E rfl rfl rfl (by decide) (fun w h => rn_move E rfl rfl) ?_; clear E a; intro a E
        refine mix_pure E rfl rfl rfl (by decide) (fun w h => rn_nilCheck E rfl rfl) ?_; clear E a; intro a E
        refine mix_pure E rfl rfl rfl (by decide) (fun w h => by first | exact rn_fieldAddr0 (q := 0) E rfl rfl rfl | exact rn_fieldAddr (q := 0) E rfl rfl rfl) ?_; clear E a; intro a E
        refine mix_pure E rfl rfl rfl (by decide) (fun w h => by first | exact rn_load E rfl rfl rfl (h.one (by repeat (first | exact mm1 | apply List.Mem.tail))) rfl | exact rn_loadc E rfl rfl rfl (by assumption)) ?_; clear E a; intro a E
        refine mix_pure E rfl rfl rfl (by decide) (fun w h => rn_move E rfl rfl) ?_; clear E a; intro a E
        refine mix_pure E rfl rfl rfl (by decide) (fun w h => rn_nilCheck E rfl rfl) ?_; clear E a; intro a E
        refine mix_pure E rfl rfl rfl (by decide) (fun w h => by first | exact rn_fieldAddr0 (q := 1) E rfl rfl rfl | exact rn_fieldAddr (q := 1) E rfl rfl rfl) ?_; clear E a; intro a E
        refine mix_pure E rfl rfl rfl (by decide) (fun w h => by first | exact rn_load E rfl rfl rfl (h.one (by repeat (first | exact mm1 | apply List.Mem.tail))) rfl | exact rn_loadc E rfl rfl rfl (by assumption)) ?_; clear E a; intro a E
        refine mix_pure E rfl rfl rfl (by decide) (fun w h => rn_move E rfl rfl) ?_; clear E a; intro a E
        refine mix_pure E rfl rfl rfl (by decide) (fun w h => rn_nilCheck E rfl rfl) ?_; clear E a; intro a E
        refine mix_pure E rfl rfl rfl (by decide) (fun w h => by first | exact rn_fieldAddr0 (q := 1) E rfl rfl rfl | exact rn_fieldAddr (q := 1) E rfl rfl rfl) ?_; clear E a; intro a E
        refine mix_pure E rfl rfl rfl (by decide) (fun w h => by first | exact rn_load E rfl rfl rfl (h.one (by repeat (first | exact mm1 | apply List.Mem.tail))) rfl | exact rn_loadc E rfl rfl rfl (by assumption)) ?_; clear E a; intro a E
        refine mix_pure E rfl rfl rfl (by decide) (fun w h => rn_move E rfl rfl) ?_; clear E a; intro a E
        refine mix_pure E rfl rfl rfl (by decide) (fun w h => rn_add E rfl rfl rfl (by first | exact wa1 (by omega) | exact w_in (by omega) | exact w_inu (by omega) | exact rfl)) ?_; clear E a; intro a E
        refine mix_pure E rfl rfl rfl (by decide) (fun w h => rn_slice_lh (s := 1) E rfl rfl rfl rfl rfl rfl rfl rfl (by omega) (by omega)) ?_; clear E a; intro a E
        obtain ⟨ad2, c2, hs2, hR2⟩ := hR.cut (lo := s.at_) (hi := s.at_ + kn) (by omega) (by omega) (by omega)
        rw [hs2] at E
        have hcl := s.cut_length kn 0 (by omega)
        have hR2 : Rd C 1 (.slice ad2 (s.at_ + kn - s.at_) c2) (s.cut kn 0).length (byt (s.cut kn 0)) := by { rw [hcl]; simpa [byt_take, byt_drop, Rdr.cut, Nat.add_sub_cancel_left] using hR2 }
        refine mix_last rfl rfl (wp_append (by' := 1) E S rfl rfl (by decide) rfl rfl (Buf.nil 5 1) (by repeat (first | exact pk1 | apply pick_tail)) (hR2.src (S.stab.at (by repeat (first | exact mm1 | apply List.Mem.tail))) rfl) rfl rfl rfl rfl rfl rfl (by simp only [maxLen]; omega) (by omega) ?_); clear E S a; intro a w v46 C46 E S hB46
        rw [Nat.zero_add, List.nil_append] at hB46
        refine mix_free E rfl rfl rfl (by decide) (fun w => rn_assign E rfl rfl) ?_; clear E a; intro a E
        refine mix_nil ?_
        refine then_k hK ?_; clear hK; clear K
        refine wp_seq_k ?_; intro K hK
        replace E := E.keep (e' := [(0, _), (1, _), (4, _), (5, _)]) (keep_cons rfl (keep_cons rfl (keep_cons rfl (keep_cons rfl (keep_nil)))))
        refine region_list ?_
        refine list_pure E rfl rfl (by decide) (rn_move E rfl rfl) ?_; clear E a; intro a E
        refine list_pure E rfl rfl (by decide) (rn_move E rfl rfl) ?_; clear E a; intro a E
        refine list_pure E rfl rfl (by decide) (rn_nilCheck E rfl rfl) ?_; clear E a; intro a E
        refine list_pure E rfl rfl (by decide) (by first | exact rn_fieldAddr0 (q := 1) E rfl rfl rfl | exact rn_fieldAddr (q := 1) E rfl rfl rfl) ?_; clear E a; intro a E
        refine list_pure E rfl rfl (by decide) (by first | exact rn_load E rfl rfl rfl (S.get (by repeat (first | exact pk1 | apply pick_tail))) rfl | exact rn_loadc E rfl rfl rfl (by assumption)) ?_; clear E a; intro a E
        refine list_pure E rfl rfl (by decide) (rn_move E rfl rfl) ?_; clear E a; intro a E
        refine list_pure E rfl rfl (by decide) (rn_add E rfl rfl rfl (by first | exact wa1 (by omega) | exact w_in (by omega) | exact w_inu (by omega) | exact rfl)) ?_; clear E a; intro a E
        refine list_pure E rfl rfl (by decide) (rn_nilCheck E rfl rfl) ?_; clear E a; intro a E
        refine list_pure E rfl rfl (by decide) (by first | exact rn_fieldAddr0 (q := 1) E rfl rfl rfl | exact rn_fieldAddr (q := 1) E rfl rfl rfl) ?_; clear E a; intro a E
        refine list_wp rfl (wp_store1 E S rfl rfl rfl rfl rfl rfl (by repeat (first | exact pk1 | apply pick_tail)) (by first | exact Nat.le_of_ble_eq_true rfl | (simp; done) | (simp; omega)) ?_); clear E S a; intro a w E S; try dsimp only [List.set] at S
        refine wpList_nil ?_
        refine then_k hK ?_; clear hK; clear K
        refine wp_seq_k ?_; intro K hK
        refine region_list ?_
        refine list_pure E rfl rfl (by decide) (rn_move E rfl rfl) ?_; clear E a; intro a E
        refine list_pure E rfl rfl (by decide) (rn_assign E rfl rfl) ?_; clear E a; intro a E
        refine wpList_nil ?_
        refine then_k hK ?_; clear hK; clear K
        refine wp_ret ?_
        refine ret1 E rfl rfl ?_
        have hv : s.bytes kn = (s.cut kn 0, { s with at_ := s.at_ + kn }) := by simp [Rdr.bytes, show s.e = 0 by omega, show ¬ (kn : Int) < 0 by omega, show ¬ s.bs.length < s.at_ + kn by omega]
        have S := (S.perm (Bs := [[(p, _)], C, C46]) (sel_cons (by repeat (first | exact pk1 | apply pick_tail)) (sel_cons (by repeat (first | exact pk1 | apply pick_tail)) (sel_cons (by repeat (first | exact pk1 | apply pick_tail)) (sel_nil _))))).join
        exact ⟨_, rfl, _, C46, by rw [hv]; exact ⟨by simp only; omega, hlen, ad, c, C, rfl, hc, hR⟩, S.tr, by rw [hv]; exact hB46⟩

theorem unum_ret (p : Nat) (s : Rdr) (A : Chunk) (w0 : World) (hA : RdC 121 p s A) (H : Hp w0 [A]) (k : Int) :
    Ret Tryd.prog 86 #[ptr p, .int .i64 k] w0 fun u w' => ∃ A', u = .int .u64 (s.num k).1 ∧ RdC 121 p (s.num k).2 A' ∧ Trs w0 w' [A] [A'] := by
  have hA0 := hA
  obtain ⟨hat, hlen, ad, c, C, hAe, hc, hR⟩ := hA
  have S := St.begin H
  have S := (by rw [hAe] at S; exact S.split : St w0 _ w0 ([(p, cel [.slice ad s.bs.length c, .int .i64 s.at_, .int .i64 s.e] 121)] :: C :: _))
  refine enter2 25 Tryd.func86 rfl rfl (by decide) ?_; intro a E
  refine wp_seq_k ?_; intro K hK
  refine region_list ?_
  refine list_pure E rfl rfl (by decide) (rn_assign E rfl rfl) ?_; clear E a; intro a E
  refine wpList_nil ?_
  refine then_k hK ?_; clear hK; clear K
  refine wp_seq_k ?_; intro K hK
  refine wp_seq_k ?_; intro K hK
  refine region_list ?_
  refine list_pure E rfl rfl (by decide) (rn_move E rfl rfl) ?_; clear E a; intro a E
  refine list_pure E rfl rfl (by decide) (rn_nilCheck E rfl rfl) ?_; clear E a; intro a E
  refine list_pure E rfl rfl (by decide) (by first | exact rn_fieldAddr0 (q := 2) E rfl rfl rfl | exact rn_fieldAddr (q := 2) E rfl rfl rfl) ?_; clear E a; intro a E
  refine list_pure E rfl rfl (by decide) (by first | exact rn_load E rfl rfl rfl (S.get (by repeat (first | exact pk1 | apply pick_tail))) rfl | exact rn_loadc E rfl rfl rfl (by assumption)) ?_; clear E a; intro a E
  refine list_pure E rfl rfl (by decide) (by first | exact rn_neq E rfl rfl rfl | exact rn_neq_ptr_nil E rfl rfl rfl rfl | exact rn_neq_bool E rfl rfl rfl rfl | exact rn_neq_string E rfl rfl rfl) ?_; clear E a; intro a E
  refine wpList_nil ?_
  refine then_k hK ?_; clear hK; clear K
  refine if_bool E rfl (fun hb => ?_) (fun hb => ?_)
  · replace hb := Nrm.nrm hb
    refine wp_seq_k ?_; intro K hK
    refine region_list ?_
    refine list_pure E rfl rfl (by decide) (rn_assign E rfl rfl) ?_; clear E a; intro a E
    refine wpList_nil ?_
    refine then_k hK ?_; clear hK; clear K
    refine wp_ret ?_
    refine then_ret ?_; clear hK; clear K
    refine ret1 E rfl rfl ?_
    have S := S.join; rw [← hAe] at S
    have hv : s.num k = (0, s) := by simp [Rdr.num, show s.e ≠ 0 by omega]
    exact ⟨_, rfl, A, by rw [hv]; rfl, by rw [hv]; exact hA0, S.tr⟩
  · replace hb := Nrm.nrm hb
    refine wp_skip ?_
    refine then_k hK ?_; clear hK; clear K
    refine wp_seq_k ?_; intro K hK
    refine wp_seq_k ?_; intro K hK
    refine region_list ?_
    refine list_pure E rfl rfl (by decide) (rn_move E rfl rfl) ?_; clear E a; intro a E
    refine list_pure E rfl rfl (by decide) (rn_lss E rfl rfl rfl) ?_; clear E a; intro a E
    refine list_pure E rfl rfl (by decide) (rn_move E rfl rfl) ?_; clear E a; intro a E
    refine guard_split E (t := 13) rfl (fun hb13 => ?_) (fun hb13 => ?_)
    · have hb13n := hb13; replace hb13n := Nrm.nrm hb13n
      refine list_guard_no E rfl rfl rfl rfl hb13 rfl (by decide) ?_; clear E a; intro a E
      refine list_guard_no E rfl rfl rfl rfl hb13 rfl (by decide) ?_; clear E a; intro a E
      refine list_pure E rfl rfl (by decide) (rn_pick_yes' E rfl rfl hb13 rfl) ?_; clear E a; intro a E
      refine wpList_nil ?_
      refine then_k hK ?_; clear hK; clear K
      refine if_true' E rfl rfl ?_
      refine wp_seq_k ?_; intro K hK
      refine region_list ?_
      refine list_pure E rfl rfl (by decide) (rn_move E rfl rfl) ?_; clear E a; intro a E
      refine list_pure E rfl rfl (by decide) (rn_nilCheck E rfl rfl) ?_; clear E a; intro a E
      refine list_pure E rfl rfl (by decide) (by first | exact rn_fieldAddr0 (q := 2) E rfl rfl rfl | exact rn_fieldAddr (q := 2) E rfl rfl rfl) ?_; clear E a; intro a E
      refine list_wp rfl (wp_store1 E S rfl rfl rfl rfl rfl rfl (by repeat (first | exact pk1 | apply pick_tail)) (by first | exact Nat.le_of_ble_eq_true rfl | (simp; done) | (simp; omega)) ?_); clear E S a; intro a w E S; try dsimp only [List.set] at S
      refine wpList_nil ?_
      refine then_k hK ?_; clear hK; clear K
      refine wp_seq_k ?_; intro K hK
      refine region_list ?_
      refine list_pure E rfl rfl (by decide) (rn_assign E rfl rfl) ?_; clear E a; intro a E
      refine wpList_nil ?_
      refine then_k hK ?_; clear hK; clear K
      refine wp_ret ?_
      refine then_ret ?_; clear hK; clear K
      refine ret1 E rfl rfl ?_
      have hv : s.num k = (0, { s with e := 1 }) := by simp only [Rdr.num]; rw [if_neg (by omega), if_pos (by omega)]
      exact ⟨_, rfl, _, by rw [hv]; rfl, by rw [hv]; exact ⟨hat, hlen, ad, c, C, rfl, hc, hR⟩, by rw [hAe]; exact S.join.tr⟩
    · have hb13n := hb13; replace hb13n := Nrm.nrm hb13n
      refine list_guard_yes E rfl rfl rfl rfl hb13 rfl (by decide) (rn_move E rfl rfl) ?_; clear E a; intro a E
      refine list_guard_yes E rfl rfl rfl rfl hb13 rfl (by decide) (rn_gtr E rfl rfl rfl) ?_; clear E a; intro a E
      refine list_pure E rfl rfl (by decide) (rn_pick_no' E rfl rfl hb13 rfl) ?_; clear E a; intro a E
      refine wpList_nil ?_
      refine then_k hK ?_; clear hK; clear K
      refine if_bool E rfl (fun hb => ?_) (fun hb => ?_)
      · replace hb := Nrm.nrm hb
        refine wp_seq_k ?_; intro K hK
        refine region_list ?_
        refine list_pure E rfl rfl (by decide) (rn_move E rfl rfl) ?_; clear E a; intro a E
        refine list_pure E rfl rfl (by decide) (rn_nilCheck E rfl rfl) ?_; clear E a; intro a E
        refine list_pure E rfl rfl (by decide) (by first | exact rn_fieldAddr0 (q := 2) E rfl rfl rfl | exact rn_fieldAddr (q := 2) E rfl rfl rfl) ?_; clear E a; intro a E
        refine list_wp rfl (wp_store1 E S rfl rfl rfl rfl rfl rfl (by repeat (first | exact pk1 | apply pick_tail)) (by first | exact Nat.le_of_ble_eq_true rfl | (simp; done) | (simp; omega)) ?_); clear E S a; intro a w E S; try dsimp only [List.set] at S
        refine wpList_nil ?_
        refine then_k hK ?_; clear hK; clear K
        refine wp_seq_k ?_; intro K hK
        refine region_list ?_
        refine list_pure E rfl rfl (by decide) (rn_assign E rfl rfl) ?_; clear E a; intro a E
        refine wpList_nil ?_
        refine then_k hK ?_; clear hK; clear K
        refine wp_ret ?_
        refine then_ret ?_; clear hK; clear K
        refine ret1 E rfl rfl ?_
        have hv : s.num k = (0, { s with e := 1 }) := by simp only [Rdr.num]; rw [if_neg (by omega), if_pos (by omega)]
        exact ⟨_, rfl, _, by rw [hv]; rfl, by rw [hv]; exact ⟨hat, hlen, ad, c, C, rfl, hc, hR⟩, by rw [hAe]; exact S.join.tr⟩
      · replace hb := Nrm.nrm hb
        refine wp_skip ?_
        refine then_k hK ?_; clear hK; clear K
        refine wp_seq_k ?_; intro K hK
        have S := S.join; rw [← hAe] at S
        obtain ⟨kn, rfl⟩ : ∃ kn : Nat, k = kn := ⟨k.toNat, by omega⟩
        refine region_list ?_
        refine list_pure E rfl rfl (by decide) (rn_move E rfl rfl) ?_; clear E a; intro a E
        refine list_pure E rfl rfl (by decide) (rn_move E rfl rfl) ?_; clear E a; intro a E
        refine list_call E rfl rfl (by decide) rfl Tryd.func72 rfl (by kernel_rfl) rfl (ubytes_ret p s A _ hA0 S.hp kn (by omega)) ?_
        rintro v22 w ⟨A1, C1, hA1, hT, hB1⟩; clear E a; intro a E
        have S := S.all hT
        obtain ⟨ad1, c1, rfl⟩ := hB1.slice
        have hbl : (s.bytes kn).1.length ≤ 8 := by { simp only [Rdr.bytes]; split; simp; split; simp; split; simp; simp only [Rdr.cut, List.length_take, Int.toNat_natCast]; omega }
        refine list_pure E rfl rfl (by decide) (rn_assign E rfl rfl) ?_; clear E a; intro a E
        refine wpList_nil ?_
        refine then_k hK ?_; clear hK; clear K
        refine wp_seq_k ?_; intro K hK
        refine region_list ?_
        refine list_pure E rfl rfl (by decide) (rn_move E rfl rfl) ?_; clear E a; intro a E
        refine list_call E rfl rfl (by decide) rfl Tryd.func87 rfl (by kernel_rfl) rfl (uvalue_ret C1 _ (s.bytes kn).1 _ hB1.rd (S.stab.at (by repeat (first | exact mm1 | apply List.Mem.tail))) hbl) ?_
        rintro v24 w ⟨rfl, rfl⟩; clear E a; intro a E
        refine list_pure E rfl rfl (by decide) (rn_assign E rfl rfl) ?_; clear E a; intro a E
        refine wpList_nil ?_
        refine then_k hK ?_; clear hK; clear K
        refine wp_ret ?_
        refine ret1 E rfl rfl ?_
        have he : s.e = 0 := by omega
        have hv : s.num kn = (numOf (s.bytes kn).1, (s.bytes kn).2) := by { by_cases hsh : s.bs.length < s.at_ + kn <;> simp [Rdr.num, Rdr.bytes, he, hsh, numOf, show ¬ ((kn : Int) < 1 ∨ 8 < (kn : Int)) by omega, show ¬ (kn : Int) < 0 by omega] }
        exact ⟨_, rfl, A1, by rw [hv], by rw [hv]; exact hA1, (S.only (Bs := [A1]) (sel_cons (by repeat (first | exact pk1 | apply pick_tail)) (sel_nil _))).tr⟩

theorem udone_ret (p : Nat) (s : Rdr) (A : Chunk) (w0 : World) (hA : RdC 121 p s A) (H : Hp w0 [A]) :
    Ret Tryd.prog 73 #[ptr p] w0 fun u w' => u = .int .i64 s.done ∧ Trs w0 w' [A] [A] := by
  obtain ⟨hat, hlen, ad, c, C, rfl, hc, hR⟩ := hA
  have S := (St.begin H).split
  refine enter1 24 Tryd.func73 rfl rfl (by decide) ?_; intro a E
  refine wp_seq_k ?_; intro K hK
  refine region_list ?_
  refine list_pure E rfl rfl (by decide) (rn_assign E rfl rfl) ?_; clear E a; intro a E
  refine wpList_nil ?_
  refine then_k hK ?_; clear hK; clear K
  refine wp_seq_k ?_; intro K hK
  refine wp_seq_k ?_; intro K hK
  refine region_mix0 S (.ofL [(0, 0), (1, 0), (2, 0), (3, 0), (4, 0), (5, 0), (6, 0), (7, 0), (8, 0), (9, 0), (10, 0), (11, 0), (12, 0), (13, 0), (14, 0), (15, 0), (16, 0)]) (by kernel_rfl) (by kernel_rfl) ?_
  clear S; intro w S
  refine mix_pure E rfl rfl rfl (by decide) (fun w h => rn_move E rfl rfl) ?_; clear E a; intro a E
  refine mix_pure E rfl rfl rfl (by decide) (fun w h => rn_nilCheck E rfl rfl) ?_; clear E a; intro a E
  refine mix_pure E rfl rfl rfl (by decide) (fun w h => by first | exact rn_fieldAddr0 (q := 2) E rfl rfl rfl | exact rn_fieldAddr (q := 2) E rfl rfl rfl) ?_; clear E a; intro a E
  refine mix_pure E rfl rfl rfl (by decide) (fun w h => by first | exact rn_load E rfl rfl rfl (h.one (by repeat (first | exact mm1 | apply List.Mem.tail))) rfl | exact rn_loadc E rfl rfl rfl (by assumption)) ?_; clear E a; intro a E
  refine mix_pure E rfl rfl rfl (by decide) (fun w h => by first | exact rn_eql E rfl rfl rfl | exact rn_eql_ptr_nil E rfl rfl rfl rfl | exact rn_eql_bool E rfl rfl rfl rfl | exact rn_eql_string E rfl rfl rfl) ?_; clear E a; intro a E
  refine mix_pure E rfl rfl rfl (by decide) (fun w h => rn_move E rfl rfl) ?_; clear E a; intro a E
  refine guard_split E (t := 8) rfl (fun hb8 => ?_) (fun hb8 => ?_)
  · have hb8n := hb8; replace hb8n := Nrm.nrm hb8n
    refine mix_guard_yes E rfl rfl rfl rfl rfl hb8 rfl (by decide) (fun w h => rn_move E rfl rfl) ?_; clear E a; intro a E
    refine mix_guard_yes E rfl rfl rfl rfl rfl hb8 rfl (by decide) (fun w h => rn_nilCheck E rfl rfl) ?_; clear E a; intro a E
    refine mix_guard_yes E rfl rfl rfl rfl rfl hb8 rfl (by decide) (fun w h => by first | exact rn_fieldAddr0 (q := 1) E rfl rfl rfl | exact rn_fieldAddr (q := 1) E rfl rfl rfl) ?_; clear E a; intro a E
    refine mix_guard_yes E rfl rfl rfl rfl rfl hb8 rfl (by decide) (fun w h => by first | exact rn_load E rfl rfl rfl (h.one (by repeat (first | exact mm1 | apply List.Mem.tail))) rfl | exact rn_loadc E rfl rfl rfl (by assumption)) ?_; clear E a; intro a E
    refine mix_guard_yes E rfl rfl rfl rfl rfl hb8 rfl (by decide) (fun w h => rn_move E rfl rfl) ?_; clear E a; intro a E
    refine mix_guard_yes E rfl rfl rfl rfl rfl hb8 rfl (by decide) (fun w h => rn_nilCheck E rfl rfl) ?_; clear E a; intro a E
    refine mix_guard_yes E rfl rfl rfl rfl rfl hb8 rfl (by decide) (fun w h => by first | exact rn_fieldAddr0 (q := 0) E rfl rfl rfl | exact rn_fieldAddr (q := 0) E rfl rfl rfl) ?_; clear E a; intro a E
    refine mix_guard_yes E rfl rfl rfl rfl rfl hb8 rfl (by decide) (fun w h => by first | exact rn_load E rfl rfl rfl (h.one (by repeat (first | exact mm1 | apply List.Mem.tail))) rfl | exact rn_loadc E rfl rfl rfl (by assumption)) ?_; clear E a; intro a E
    refine mix_guard_yes E rfl rfl rfl rfl rfl hb8 rfl (by decide) (fun w h => by first | exact rn_len E rfl rfl rfl | exact rn_len_str E rfl rfl rfl | exact rn_len_string E rfl rfl rfl) ?_; clear E a; intro a E
    refine mix_guard_yes E rfl rfl rfl rfl rfl hb8 rfl (by decide) (fun w h => rn_lss E rfl rfl rfl) ?_; clear E a; intro a E
    refine mix_pure E rfl rfl rfl (by decide) (fun w h => rn_pick_yes' E rfl rfl hb8 rfl) ?_; clear E a; intro a E
    refine mix_nil ?_
    refine then_k hK ?_; clear hK; clear K
    refine if_bool E rfl (fun hb => ?_) (fun hb => ?_)
    · replace hb := Nrm.nrm hb
      refine wp_seq_k ?_; intro K hK
      refine region_list ?_
      refine list_pure E rfl rfl (by decide) (rn_assign E rfl rfl) ?_; clear E a; intro a E
      refine wpList_nil ?_
      refine then_k hK ?_; clear hK; clear K
      refine wp_ret ?_
      refine then_ret ?_; clear hK; clear K
      refine ret1 E rfl rfl ?_
      exact ⟨_, rfl, by simp only [Rdr.done]; rw [if_pos (by omega)]; rfl, S.join.tr⟩
    · replace hb := Nrm.nrm hb
      refine wp_skip ?_
      refine then_k hK ?_; clear hK; clear K
      refine wp_seq_k ?_; intro K hK
      refine region_list ?_
      refine list_pure E rfl rfl (by decide) (rn_move E rfl rfl) ?_; clear E a; intro a E
      refine list_pure E rfl rfl (by decide) (rn_nilCheck E rfl rfl) ?_; clear E a; intro a E
      refine list_pure E rfl rfl (by decide) (by first | exact rn_fieldAddr0 (q := 2) E rfl rfl rfl | exact rn_fieldAddr (q := 2) E rfl rfl rfl) ?_; clear E a; intro a E
      refine list_pure E rfl rfl (by decide) (by first | exact rn_load E rfl rfl rfl (S.get (by repeat (first | exact pk1 | apply pick_tail))) rfl | exact rn_loadc E rfl rfl rfl (by assumption)) ?_; clear E a; intro a E
      refine list_pure E rfl rfl (by decide) (rn_assign E rfl rfl) ?_; clear E a; intro a E
      refine wpList_nil ?_
      refine then_k hK ?_; clear hK; clear K
      refine wp_ret ?_
      refine ret1 E rfl rfl ?_
      exact ⟨_, rfl, by simp only [Rdr.done]; rw [if_neg (by omega)], S.join.tr⟩
  · have hb8n := hb8; replace hb8n := Nrm.nrm hb8n
    refine mix_guard_no E rfl rfl rfl rfl rfl hb8 rfl (by decide) ?_; clear E a; intro a E
    refine mix_guard_no E rfl rfl rfl rfl rfl hb8 rfl (by decide) ?_; clear E a; intro a E
    refine mix_guard_no E rfl rfl rfl rfl rfl hb8 rfl (by decide) ?_; clear E a; intro a E
    refine mix_guard_no E rfl rfl rfl rfl rfl hb8 rfl (by decide) ?_; clear E a; intro a E
    refine mix_guard_no E rfl rfl rfl rfl rfl hb8 rfl (by decide) ?_; clear E a; intro a E
    refine mix_guard_no E rfl rfl rfl rfl rfl hb8 rfl (by decide) ?_; clear E a; intro a E
    refine mix_guard_no E rfl rfl rfl rfl rfl hb8 rfl (by decide) ?_; clear E a; intro a E
    refine mix_guard_no E rfl rfl rfl rfl rfl hb8 rfl (by decide) ?_; clear E a; intro a E
    refine mix_guard_no E rfl rfl rfl rfl rfl hb8 rfl (by decide) ?_; clear E a; intro a E
    refine mix_guard_no E rfl rfl rfl rfl rfl hb8 rfl (by decide) ?_; clear E a; intro a E
    refine mix_pure E rfl rfl rfl (by decide) (fun w h => rn_pick_no' E rfl rfl hb8 rfl) ?_; clear E a; intro a E
    refine mix_nil ?_
    refine then_k hK ?_; clear hK; clear K
    refine if_false' E rfl rfl ?_
    refine wp_skip ?_
    refine then_k hK ?_; clear hK; clear K
    refine wp_seq_k ?_; intro K hK
    refine region_list ?_
    refine list_pure E rfl rfl (by decide) (rn_move E rfl rfl) ?_; clear E a; intro a E
    refine list_pure E rfl rfl (by decide) (rn_nilCheck E rfl rfl) ?_; clear E a; intro a E
    refine list_pure E rfl rfl (by decide) (by first | exact rn_fieldAddr0 (q := 2) E rfl rfl rfl | exact rn_fieldAddr (q := 2) E rfl rfl rfl) ?_; clear E a; intro a E
    refine list_pure E rfl rfl (by decide) (by first | exact rn_load E rfl rfl rfl (S.get (by repeat (first | exact pk1 | apply pick_tail))) rfl | exact rn_loadc E rfl rfl rfl (by assumption)) ?_; clear E a; intro a E
    refine list_pure E rfl rfl (by decide) (rn_assign E rfl rfl) ?_; clear E a; intro a E
    refine wpList_nil ?_
    refine then_k hK ?_; clear hK; clear K
    refine wp_ret ?_
    refine ret1 E rfl rfl ?_
    exact ⟨_, rfl, by simp only [Rdr.done]; rw [if_neg (by omega)], S.join.tr⟩

theorem utext_ret (p : Nat) (s : Rdr) (A : Chunk) (w0 : World) (hA : RdC 121 p s A) (H : Hp w0 [A]) (most : Int) :
    Ret Tryd.prog 71 #[ptr p, .int .i64 most] w0 fun u w' => ∃ A', u = str (s.text most).1 ∧ RdC 121 p (s.text most).2 A' ∧ Trs w0 w' [A] [A'] := by
  obtain ⟨hat, hlen, ad, c, C, rfl, hc, hR⟩ := hA
  have S := (St.begin H).split
  refine enter2 93 Tryd.func71 rfl rfl (by decide) ?_; intro a E
  refine wp_seq_k ?_; intro K hK
  refine region_list ?_
  refine list_pure E rfl rfl (by decide) (rn_assign E rfl rfl) ?_; clear E a; intro a E
  refine wpList_nil ?_
  refine then_k hK ?_; clear hK; clear K
  refine wp_seq_k ?_; intro K hK
  refine wp_seq_k ?_; intro K hK
  refine region_list ?_
  refine list_pure E rfl rfl (by decide) (rn_move E rfl rfl) ?_; clear E a; intro a E
  refine list_pure E rfl rfl (by decide) (rn_nilCheck E rfl rfl) ?_; clear E a; intro a E
  refine list_pure E rfl rfl (by decide) (by first | exact rn_fieldAddr0 (q := 2) E rfl rfl rfl | exact rn_fieldAddr (q := 2) E rfl rfl rfl) ?_; clear E a; intro a E
  refine list_pure E rfl rfl (by decide) (by first | exact rn_load E rfl rfl rfl (S.get (by repeat (first | exact pk1 | apply pick_tail))) rfl | exact rn_loadc E rfl rfl rfl (by assumption)) ?_; clear E a; intro a E
  refine list_pure E rfl rfl (by decide) (by first | exact rn_neq E rfl rfl rfl | exact rn_neq_ptr_nil E rfl rfl rfl rfl | exact rn_neq_bool E rfl rfl rfl rfl | exact rn_neq_string E rfl rfl rfl) ?_; clear E a; intro a E
  refine wpList_nil ?_
  refine then_k hK ?_; clear hK; clear K
  refine if_bool E rfl (fun hb => ?_) (fun hb => ?_)
  · replace hb := Nrm.nrm hb
    refine wp_seq_k ?_; intro K hK
    refine region_list ?_
    refine list_pure E rfl rfl (by decide) (rn_assign E rfl rfl) ?_; clear E a; intro a E
    refine wpList_nil ?_
    refine then_k hK ?_; clear hK; clear K
    refine wp_ret ?_
    refine then_ret ?_; clear hK; clear K
    refine ret1 E rfl rfl ?_
    have hv : s.text most = ([], s) := by simp [Rdr.text, show s.e ≠ 0 by omega]
    exact ⟨_, rfl, _, by rw [hv], by rw [hv]; exact ⟨hat, hlen, ad, c, C, rfl, hc, hR⟩, S.join.tr⟩
  · replace hb := Nrm.nrm hb
    refine wp_skip ?_
    refine then_k hK ?_; clear hK; clear K
    refine wp_seq_k ?_; intro K hK
    refine wp_seq_k ?_; intro K hK
    have he : s.e = 0 := by omega
    refine region_mix0 S (.ofL [(0, 0), (1, 0), (2, 0), (3, 0), (4, 0), (5, 0), (6, 0), (7, 0), (8, 0), (9, 0), (10, 0)]) (by kernel_rfl) (by kernel_rfl) ?_
    clear S; intro w S
    refine mix_pure E rfl rfl rfl (by decide) (fun w h => rn_move E rfl rfl) ?_; clear E a; intro a E
    refine mix_pure E rfl rfl rfl (by decide) (fun w h => rn_nilCheck E rfl rfl) ?_; clear E a; intro a E
    refine mix_pure E rfl rfl rfl (by decide) (fun w h => by first | exact rn_fieldAddr0 (q := 0) E rfl rfl rfl | exact rn_fieldAddr (q := 0) E rfl rfl rfl) ?_; clear E a; intro a E
    refine mix_pure E rfl rfl rfl (by decide) (fun w h => by first | exact rn_load E rfl rfl rfl (h.one (by repeat (first | exact mm1 | apply List.Mem.tail))) rfl | exact rn_loadc E rfl rfl rfl (by assumption)) ?_; clear E a; intro a E
    refine mix_pure E rfl rfl rfl (by decide) (fun w h => by first | exact rn_len E rfl rfl rfl | exact rn_len_str E rfl rfl rfl | exact rn_len_string E rfl rfl rfl) ?_; clear E a; intro a E
    refine mix_pure E rfl rfl rfl (by decide) (fun w h => rn_move E rfl rfl) ?_; clear E a; intro a E
    refine mix_pure E rfl rfl rfl (by decide) (fun w h => rn_nilCheck E rfl rfl) ?_; clear E a; intro a E
    refine mix_pure E rfl rfl rfl (by decide) (fun w h => by first | exact rn_fieldAddr0 (q := 1) E rfl rfl rfl | exact rn_fieldAddr (q := 1) E rfl rfl rfl) ?_; clear E a; intro a E
    refine mix_pure E rfl rfl rfl (by decide) (fun w h => by first | exact rn_load E rfl rfl rfl (h.one (by repeat (first | exact mm1 | apply List.Mem.tail))) rfl | exact rn_loadc E rfl rfl rfl (by assumption)) ?_; clear E a; intro a E
    refine mix_pure E rfl rfl rfl (by decide) (fun w h => rn_sub E rfl rfl rfl (by first | exact ws1 (by omega) (by omega) | exact w_in (by omega) | exact w_inu (by omega) | exact rfl)) ?_; clear E a; intro a E
    refine mix_pure E rfl rfl rfl (by decide) (fun w h => rn_lss E rfl rfl rfl) ?_; clear E a; intro a E
    refine mix_nil ?_
    refine then_k hK ?_; clear hK; clear K
    refine if_bool E rfl (fun hb => ?_) (fun hb => ?_)
    · replace hb := Nrm.nrm hb
      refine wp_seq_k ?_; intro K hK
      refine region_list ?_
      refine list_pure E rfl rfl (by decide) (rn_move E rfl rfl) ?_; clear E a; intro a E
      refine list_pure E rfl rfl (by decide) (rn_nilCheck E rfl rfl) ?_; clear E a; intro a E
      refine list_pure E rfl rfl (by decide) (by first | exact rn_fieldAddr0 (q := 2) E rfl rfl rfl | exact rn_fieldAddr (q := 2) E rfl rfl rfl) ?_; clear E a; intro a E
      refine list_wp rfl (wp_store1 E S rfl rfl rfl rfl rfl rfl (by repeat (first | exact pk1 | apply pick_tail)) (by first | exact Nat.le_of_ble_eq_true rfl | (simp; done) | (simp; omega)) ?_); clear E S a; intro a w E S; try dsimp only [List.set] at S
      refine wpList_nil ?_
      refine then_k hK ?_; clear hK; clear K
      refine wp_seq_k ?_; intro K hK
      refine region_list ?_
      refine list_pure E rfl rfl (by decide) (rn_assign E rfl rfl) ?_; clear E a; intro a E
      refine wpList_nil ?_
      refine then_k hK ?_; clear hK; clear K
      refine wp_ret ?_
      refine then_ret ?_; clear hK; clear K
      refine ret1 E rfl rfl ?_
      have hv : s.text most = ([], { s with e := 10 }) := by simp [Rdr.text, he, show s.bs.length < s.at_ + 2 by omega]
      exact ⟨_, rfl, _, by rw [hv], by rw [hv]; exact ⟨hat, hlen, ad, c, C, rfl, hc, hR⟩, S.join.tr⟩
    · replace hb := Nrm.nrm hb
      refine wp_skip ?_
      refine then_k hK ?_; clear hK; clear K
      refine wp_seq_k ?_; intro K hK
      have hcl := s.cut_length 2 0 (by omega)
      have hnl := numOf_lt (s.cut 2 0)
      rw [hcl] at hnl
      refine region_mix0 S (.ofL [(0, 0), (1, 0), (2, 0), (3, 0), (4, 0), (5, 0), (6, 0), (7, 0), (8, 0), (9, 0), (10, 0), (11, 0), (12, 0), (13, 0), (14, 3), (15, 2), (16, 2)]) (by kernel_rfl) (by kernel_rfl) ?_
      clear S; intro w S
      refine mix_pure E rfl rfl rfl (by decide) (fun w h => rn_move E rfl rfl) ?_; clear E a; intro a E
      refine mix_pure E rfl rfl rfl (by decide) (fun w h => rn_nilCheck E rfl rfl) ?_; clear E a; intro a E
      refine mix_pure E rfl rfl rfl (by decide) (fun w h => by first | exact rn_fieldAddr0 (q := 0) E rfl rfl rfl | exact rn_fieldAddr (q := 0) E rfl rfl rfl) ?_; clear E a; intro a E
      refine mix_pure E rfl rfl rfl (by decide) (fun w h => by first | exact rn_load E rfl rfl rfl (h.one (by repeat (first | exact mm1 | apply List.Mem.tail))) rfl | exact rn_loadc E rfl rfl rfl (by assumption)) ?_; clear E a; intro a E
      refine mix_pure E rfl rfl rfl (by decide) (fun w h => rn_move E rfl rfl) ?_; clear E a; intro a E
      refine mix_pure E rfl rfl rfl (by decide) (fun w h => rn_nilCheck E rfl rfl) ?_; clear E a; intro a E
      refine mix_pure E rfl rfl rfl (by decide) (fun w h => by first | exact rn_fieldAddr0 (q := 1) E rfl rfl rfl | exact rn_fieldAddr (q := 1) E rfl rfl rfl) ?_; clear E a; intro a E
      refine mix_pure E rfl rfl rfl (by decide) (fun w h => by first | exact rn_load E rfl rfl rfl (h.one (by repeat (first | exact mm1 | apply List.Mem.tail))) rfl | exact rn_loadc E rfl rfl rfl (by assumption)) ?_; clear E a; intro a E
      refine mix_pure E rfl rfl rfl (by decide) (fun w h => rn_move E rfl rfl) ?_; clear E a; intro a E
      refine mix_pure E rfl rfl rfl (by decide) (fun w h => rn_nilCheck E rfl rfl) ?_; clear E a; intro a E
      refine mix_pure E rfl rfl rfl (by decide) (fun w h => by first | exact rn_fieldAddr0 (q := 1) E rfl rfl rfl | exact rn_fieldAddr (q := 1) E rfl rfl rfl) ?_; clear E a; intro a E
      refine mix_pure E rfl rfl rfl (by decide) (fun w h => by first | exact rn_load E rfl rfl rfl (h.one (by repeat (first | exact mm1 | apply List.Mem.tail))) rfl | exact rn_loadc E rfl rfl rfl (by assumption)) ?_; clear E a; intro a E
      refine mix_pure E rfl rfl rfl (by decide) (fun w h => rn_add E rfl rfl rfl (by first | exact wa_lit (y := 2) (by omega) | exact w_in (by omega) | exact w_inu (by omega) | exact rfl)) ?_; clear E a; intro a E
      refine mix_pure E rfl rfl rfl (by decide) (fun w h => rn_slice_lh (s := 1) E rfl rfl rfl rfl rfl rfl rfl rfl (by omega) (by omega)) ?_; clear E a; intro a E
      obtain ⟨ad2, c2, hs2, hR2⟩ := hR.cut (lo := s.at_) (hi := s.at_ + 2) (by omega) (by omega) (by omega)
      rw [hs2] at E
      have hR2 : Rd C 1 (.slice ad2 (s.at_ + 2 - s.at_) c2) (s.cut 2 0).length (byt (s.cut 2 0)) := by { rw [hcl]; simpa [byt_take, byt_drop, Rdr.cut, Nat.add_sub_cancel_left] using hR2 }
      refine mix_call3 E rfl rfl rfl (by decide) rfl Tryd.func87 rfl (by kernel_rfl) rfl (uvalue_ret C _ (s.cut 2 0) _ hR2 (S.stab.at (by repeat (first | exact mm1 | apply List.Mem.tail))) (by omega)) ?_
      rintro v40 w ⟨rfl, rfl⟩; clear E a; intro a E
      refine mix_free E rfl rfl rfl (by decide) (fun w => by first | exact rn_convert E rfl rfl rfl rfl (by first | exact wu8 _ | exact w_nat (by omega) | exact w_natu (by omega) | exact w_in (by omega) | exact w_inu (by omega) | exact rfl) | exact rn_string E rfl rfl rfl rfl rfl (by assumption) (S.stab.at (by simp))) ?_; clear E a; intro a E
      refine mix_free E rfl rfl rfl (by decide) (fun w => rn_assign E rfl rfl) ?_; clear E a; intro a E
      refine mix_nil ?_
      refine then_k hK ?_; clear hK; clear K
      refine wp_seq_k ?_; intro K hK
      refine wp_seq_k ?_; intro K hK
      replace E := E.keep (e' := [(0, _), (1, _), (4, _), (5, _)]) (keep_cons rfl (keep_cons rfl (keep_cons rfl (keep_cons rfl (keep_nil)))))
      refine region_list ?_
      refine list_pure E rfl rfl (by decide) (rn_move E rfl rfl) ?_; clear E a; intro a E
      refine list_pure E rfl rfl (by decide) (rn_move E rfl rfl) ?_; clear E a; intro a E
      refine list_pure E rfl rfl (by decide) (rn_gtr E rfl rfl rfl) ?_; clear E a; intro a E
      refine wpList_nil ?_
      refine then_k hK ?_; clear hK; clear K
      refine if_bool E rfl (fun hb => ?_) (fun hb => ?_)
      · replace hb := Nrm.nrm hb
        refine wp_seq_k ?_; intro K hK
        refine region_list ?_
        refine list_pure E rfl rfl (by decide) (rn_move E rfl rfl) ?_; clear E a; intro a E
        refine list_pure E rfl rfl (by decide) (rn_nilCheck E rfl rfl) ?_; clear E a; intro a E
        refine list_pure E rfl rfl (by decide) (by first | exact rn_fieldAddr0 (q := 2) E rfl rfl rfl | exact rn_fieldAddr (q := 2) E rfl rfl rfl) ?_; clear E a; intro a E
        refine list_wp rfl (wp_store1 E S rfl rfl rfl rfl rfl rfl (by repeat (first | exact pk1 | apply pick_tail)) (by first | exact Nat.le_of_ble_eq_true rfl | (simp; done) | (simp; omega)) ?_); clear E S a; intro a w E S; try dsimp only [List.set] at S
        refine wpList_nil ?_
        refine then_k hK ?_; clear hK; clear K
        refine wp_seq_k ?_; intro K hK
        refine region_list ?_
        refine list_pure E rfl rfl (by decide) (rn_assign E rfl rfl) ?_; clear E a; intro a E
        refine wpList_nil ?_
        refine then_k hK ?_; clear hK; clear K
        refine wp_ret ?_
        refine then_ret ?_; clear hK; clear K
        refine ret1 E rfl rfl ?_
        have hv : s.text most = ([], { s with e := 11 }) := by simp [Rdr.text, he, show ¬ s.bs.length < s.at_ + 2 by omega, show most < (numOf (s.cut 2 0) : Int) by omega]
        exact ⟨_, rfl, _, by rw [hv], by rw [hv]; exact ⟨hat, hlen, ad, c, C, rfl, hc, hR⟩, S.join.tr⟩
      · replace hb := Nrm.nrm hb
        refine wp_skip ?_
        refine then_k hK ?_; clear hK; clear K
        refine wp_seq_k ?_; intro K hK
        refine wp_seq_k ?_; intro K hK
        refine region_mix0 S (.ofL [(0, 0), (1, 0), (2, 0), (3, 0), (4, 0), (5, 0), (6, 0), (7, 0), (8, 0), (9, 0), (10, 0), (11, 0), (12, 0)]) (by kernel_rfl) (by kernel_rfl) ?_
        clear S; intro w S
        refine mix_pure E rfl rfl rfl (by decide) (fun w h => rn_move E rfl rfl) ?_; clear E a; intro a E
        refine mix_pure E rfl rfl rfl (by decide) (fun w h => rn_move E rfl rfl) ?_; clear E a; intro a E
        refine mix_pure E rfl rfl rfl (by decide) (fun w h => rn_nilCheck E rfl rfl) ?_; clear E a; intro a E
        refine mix_pure E rfl rfl rfl (by decide) (fun w h => by first | exact rn_fieldAddr0 (q := 0) E rfl rfl rfl | exact rn_fieldAddr (q := 0) E rfl rfl rfl) ?_; clear E a; intro a E
        refine mix_pure E rfl rfl rfl (by decide) (fun w h => by first | exact rn_load E rfl rfl rfl (h.one (by repeat (first | exact mm1 | apply List.Mem.tail))) rfl | exact rn_loadc E rfl rfl rfl (by assumption)) ?_; clear E a; intro a E
        refine mix_pure E rfl rfl rfl (by decide) (fun w h => by first | exact rn_len E rfl rfl rfl | exact rn_len_str E rfl rfl rfl | exact rn_len_string E rfl rfl rfl) ?_; clear E a; intro a E
        refine mix_pure E rfl rfl rfl (by decide) (fun w h => rn_move E rfl rfl) ?_; clear E a; intro a E
        refine mix_pure E rfl rfl rfl (by decide) (fun w h => rn_nilCheck E rfl rfl) ?_; clear E a; intro a E
        refine mix_pure E rfl rfl rfl (by decide) (fun w h => by first | exact rn_fieldAddr0 (q := 1) E rfl rfl rfl | exact rn_fieldAddr (q := 1) E rfl rfl rfl) ?_; clear E a; intro a E
        refine mix_pure E rfl rfl rfl (by decide) (fun w h => by first | exact rn_load E rfl rfl rfl (h.one (by repeat (first | exact mm1 | apply List.Mem.tail))) rfl | exact rn_loadc E rfl rfl rfl (by assumption)) ?_; clear E a; intro a E
        refine mix_pure E rfl rfl rfl (by decide) (fun w h => rn_sub E rfl rfl rfl (by first | exact ws1 (by omega) (by omega) | exact w_in (by omega) | exact w_inu (by omega) | exact rfl)) ?_; clear E a; intro a E
        refine mix_pure E rfl rfl rfl (by decide) (fun w h => rn_sub E rfl rfl rfl (by first | exact ws_lit (y := 2) (by omega) (by omega) | exact w_in (by omega) | exact w_inu (by omega) | exact rfl)) ?_; clear E a; intro a E
        refine mix_pure E rfl rfl rfl (by decide) (fun w h => rn_gtr E rfl rfl rfl) ?_; clear E a; intro a E
        refine mix_nil ?_
        refine then_k hK ?_; clear hK; clear K
        refine if_bool E rfl (fun hb => ?_) (fun hb => ?_)
        · replace hb := Nrm.nrm hb
          refine wp_seq_k ?_; intro K hK
          refine region_list ?_
          refine list_pure E rfl rfl (by decide) (rn_move E rfl rfl) ?_; clear E a; intro a E
          refine list_pure E rfl rfl (by decide) (rn_nilCheck E rfl rfl) ?_; clear E a; intro a E
          refine list_pure E rfl rfl (by decide) (by first | exact rn_fieldAddr0 (q := 2) E rfl rfl rfl | exact rn_fieldAddr (q := 2) E rfl rfl rfl) ?_; clear E a; intro a E
          refine list_wp rfl (wp_store1 E S rfl rfl rfl rfl rfl rfl (by repeat (first | exact pk1 | apply pick_tail)) (by first | exact Nat.le_of_ble_eq_true rfl | (simp; done) | (simp; omega)) ?_); clear E S a; intro a w E S; try dsimp only [List.set] at S
          refine wpList_nil ?_
          refine then_k hK ?_; clear hK; clear K
          refine wp_seq_k ?_; intro K hK
          refine region_list ?_
          refine list_pure E rfl rfl (by decide) (rn_assign E rfl rfl) ?_; clear E a; intro a E
          refine wpList_nil ?_
          refine then_k hK ?_; clear hK; clear K
          refine wp_ret ?_
          refine then_ret ?_; clear hK; clear K
          refine ret1 E rfl rfl ?_
          have hv : s.text most = ([], { s with e := 10 }) := by simp [Rdr.text, he, show ¬ s.bs.length < s.at_ + 2 by omega, show ¬ most < (numOf (s.cut 2 0) : Int) by omega, show s.bs.length < s.at_ + 2 + numOf (s.cut 2 0) by omega]
          exact ⟨_, rfl, _, by rw [hv], by rw [hv]; exact ⟨hat, hlen, ad, c, C, rfl, hc, hR⟩, S.join.tr⟩
        · replace hb := Nrm.nrm hb
          refine wp_skip ?_
          refine then_k hK ?_; clear hK; clear K
          refine wp_seq_k ?_; intro K hK
          have hcl2 := s.cut_length (numOf (s.cut 2 0)) 2 (by omega)
          refine region_mix0 S (.ofL [(0, 0), (1, 0), (2, 0), (3, 0), (4, 0), (5, 0), (6, 0), (7, 0), (8, 0), (9, 0), (10, 0), (11, 0), (12, 0), (13, 0), (14, 0), (15, 0), (16, 0), (17, 0), (18, 0)]) (by kernel_rfl) (by kernel_rfl) ?_
          clear S; intro w S
          refine mix_pure E rfl rfl rfl (by decide) (fun w h => rn_move E rfl rfl) ?_; clear E a; intro a E
          refine mix_pure E rfl rfl rfl (by decide) (fun w h => rn_nilCheck E rfl rfl) ?_; clear E a; intro a E
          refine mix_pure E rfl rfl rfl (by decide) (fun w h => by first | exact rn_fieldAddr0 (q := 0) E rfl rfl rfl | exact rn_fieldAddr (q := 0) E rfl rfl rfl) ?_; clear E a; intro a E
          refine mix_pure E rfl rfl rfl (by decide) (fun w h => by first | exact rn_load E rfl rfl rfl (h.one (by repeat (first | exact mm1 | apply List.Mem.tail))) rfl | exact rn_loadc E rfl rfl rfl (by assumption)) ?_; clear E a; intro a E
          refine mix_pure E rfl rfl rfl (by decide) (fun w h => rn_move E rfl rfl) ?_; clear E a; intro a E
          refine mix_pure E rfl rfl rfl (by decide) (fun w h => rn_nilCheck E rfl rfl) ?_; clear E a; intro a E
          refine mix_pure E rfl rfl rfl (by decide) (fun w h => by first | exact rn_fieldAddr0 (q := 1) E rfl rfl rfl | exact rn_fieldAddr (q := 1) E rfl rfl rfl) ?_; clear E a; intro a E
          refine mix_pure E rfl rfl rfl (by decide) (fun w h => by first | exact rn_load E rfl rfl rfl (h.one (by repeat (first | exact mm1 | apply List.Mem.tail))) rfl | exact rn_loadc E rfl rfl rfl (by assumption)) ?_; clear E a; intro a E
          refine mix_pure E rfl rfl rfl (by decide) (fun w h => rn_add E rfl rfl rfl (by first | exact wa_lit (y := 2) (by omega) | exact w_in (by omega) | exact w_inu (by omega) | exact rfl)) ?_; clear E a; intro a E
          refine mix_pure E rfl rfl rfl (by decide) (fun w h => rn_move E rfl rfl) ?_; clear E a; intro a E
          refine mix_pure E rfl rfl rfl (by decide) (fun w h => rn_nilCheck E rfl rfl) ?_; clear E a; intro a E
          refine mix_pure E rfl rfl rfl (by decide) (fun w h => by first | exact rn_fieldAddr0 (q := 1) E rfl rfl rfl | exact rn_fieldAddr (q := 1) E rfl rfl rfl) ?_; clear E a; intro a E
          refine mix_pure E rfl rfl rfl (by decide) (fun w h => by first | exact rn_load E rfl rfl rfl (h.one (by repeat (first | exact mm1 | apply List.Mem.tail))) rfl | exact rn_loadc E rfl rfl rfl (by assumption)) ?_; clear E a; intro a E
          refine mix_pure E rfl rfl rfl (by decide) (fun w h => rn_add E rfl rfl rfl (by first | exact wa_lit (y := 2) (by omega) | exact w_in (by omega) | exact w_inu (by omega) | exact rfl)) ?_; clear E a; intro a E
          refine mix_pure E rfl rfl rfl (by decide) (fun w h => rn_move E rfl rfl) ?_; clear E a; intro a E
          refine mix_pure E rfl rfl rfl (by decide) (fun w h => rn_add E rfl rfl rfl (by first | exact wa1 (by omega) | exact w_in (by omega) | exact w_inu (by omega) | exact rfl)) ?_; clear E a; intro a E
          refine mix_pure E rfl rfl rfl (by decide) (fun w h => rn_slice_lh (s := 1) E rfl rfl rfl rfl rfl rfl rfl rfl (by omega) (by omega)) ?_; clear E a; intro a E
          obtain ⟨ad3, c3, hs3, hR3⟩ := hR.cut (lo := s.at_ + 2) (hi := s.at_ + 2 + numOf (s.cut 2 0)) (by omega) (by omega) (by omega)
          rw [hs3] at E
          have hR3 : Rd C 1 (.slice ad3 (s.at_ + 2 + numOf (s.cut 2 0) - (s.at_ + 2)) c3) (s.cut (numOf (s.cut 2 0)) 2).length (byt (s.cut (numOf (s.cut 2 0)) 2)) := by { rw [hcl2]; generalize numOf (s.cut 2 0) = k at *; simpa [byt_take, byt_drop, Rdr.cut, Nat.add_sub_cancel_left] using hR3 }
          refine mix_pure E rfl rfl rfl (by decide) (fun w h => rn_string E rfl rfl rfl rfl rfl (bs := s.cut (numOf (s.cut 2 0)) 2) hR3 (h.at (by repeat (first | exact mm1 | apply List.Mem.tail)))) ?_; clear E a; intro a E
          refine mix_pure E rfl rfl rfl (by decide) (fun w h => rn_assign E rfl rfl) ?_; clear E a; intro a E
          refine mix_nil ?_
          refine then_k hK ?_; clear hK; clear K
          refine wp_seq_k ?_; intro K hK
          replace E := E.keep (e' := [(0, _), (4, _), (5, _), (6, _)]) (keep_cons rfl (keep_cons rfl (keep_cons rfl (keep_cons rfl (keep_nil)))))
          refine region_list ?_
          refine list_pure E rfl rfl (by decide) (rn_move E rfl rfl) ?_; clear E a; intro a E
          refine list_pure E rfl rfl (by decide) (rn_move E rfl rfl) ?_; clear E a; intro a E
          refine list_pure E rfl rfl (by decide) (rn_nilCheck E rfl rfl) ?_; clear E a; intro a E
          refine list_pure E rfl rfl (by decide) (by first | exact rn_fieldAddr0 (q := 1) E rfl rfl rfl | exact rn_fieldAddr (q := 1) E rfl rfl rfl) ?_; clear E a; intro a E
          refine list_pure E rfl rfl (by decide) (by first | exact rn_load E rfl rfl rfl (S.get (by repeat (first | exact pk1 | apply pick_tail))) rfl | exact rn_loadc E rfl rfl rfl (by assumption)) ?_; clear E a; intro a E
          refine list_pure E rfl rfl (by decide) (rn_add E rfl rfl rfl (by first | exact wa_lit (y := 2) (by omega) | exact w_in (by omega) | exact w_inu (by omega) | exact rfl)) ?_; clear E a; intro a E
          refine list_pure E rfl rfl (by decide) (rn_move E rfl rfl) ?_; clear E a; intro a E
          refine list_pure E rfl rfl (by decide) (rn_add E rfl rfl rfl (by first | exact wa1 (by omega) | exact w_in (by omega) | exact w_inu (by omega) | exact rfl)) ?_; clear E a; intro a E
          refine list_pure E rfl rfl (by decide) (rn_nilCheck E rfl rfl) ?_; clear E a; intro a E
          refine list_pure E rfl rfl (by decide) (by first | exact rn_fieldAddr0 (q := 1) E rfl rfl rfl | exact rn_fieldAddr (q := 1) E rfl rfl rfl) ?_; clear E a; intro a E
          refine list_wp rfl (wp_store1 E S rfl rfl rfl rfl rfl rfl (by repeat (first | exact pk1 | apply pick_tail)) (by first | exact Nat.le_of_ble_eq_true rfl | (simp; done) | (simp; omega)) ?_); clear E S a; intro a w E S; try dsimp only [List.set] at S
          refine wpList_nil ?_
          refine then_k hK ?_; clear hK; clear K
          refine wp_seq_k ?_; intro K hK
          refine region_list ?_
          refine list_pure E rfl rfl (by decide) (rn_move E rfl rfl) ?_; clear E a; intro a E
          refine list_pure E rfl rfl (by decide) (rn_assign E rfl rfl) ?_; clear E a; intro a E
          refine wpList_nil ?_
          refine then_k hK ?_; clear hK; clear K
          refine wp_ret ?_
          refine ret1 E rfl rfl ?_
          have hv : s.text most = (s.cut (numOf (s.cut 2 0)) 2, { s with at_ := s.at_ + (2 + numOf (s.cut 2 0)) }) := by simp [Rdr.text, he, show ¬ s.bs.length < s.at_ + 2 by omega, show ¬ most < (numOf (s.cut 2 0) : Int) by omega, show ¬ s.bs.length < s.at_ + 2 + numOf (s.cut 2 0) by omega]
          rw [Nat.add_assoc] at S
          exact ⟨_, rfl, _, by rw [hv], by rw [hv]; exact ⟨by simp only; omega, hlen, ad, c, C, rfl, hc, hR⟩, S.join.tr⟩

end Go.Proofs.YtjhmjdgdgpgcdaaDoor
