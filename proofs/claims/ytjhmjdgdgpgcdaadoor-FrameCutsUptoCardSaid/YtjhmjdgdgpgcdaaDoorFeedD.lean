/-
  The document's line; two lists of frames.
-/
import Derived.Test.YtjhmjdgdgpgcdaaDoorRepV
namespace Go.Sl
theorem cutN_small : ∀ (k : Nat) (b : List UInt8), b.length ≤ k → (cutN k b).2.1.length ≤ 65536
  | 0, b, h => by simp only [cutN]; omega
  | k + 1, b, h => by
    rw [cutN]
    split
    · simp only []; omega
    · split
      · simp
      · split
        · simp only []; omega
        · exact cutN_small k _ (by rw [List.length_drop]; omega)
theorem cutR_small (b : List UInt8) : (cutR b).2.1.length ≤ 65536 := cutN_small _ b (Nat.le_refl _)
end Go.Sl
namespace Go.Proofs.YtjhmjdgdgpgcdaaDoor
open Go.Sl
set_option maxRecDepth 10000
theorem Rds.snoc {As : List Chunk} {v : Value} {b : List UInt8} (h : ∃ D ∈ As, Rd D 1 v b.length (byt b)) : ∀ {vs : List Value} {bs : List (List UInt8)}, Rds As vs bs → Rds As (vs ++ [v]) (bs ++ [b])
  | [], [], _ => ⟨h, trivial⟩
  | _ :: _, _ :: _, k => ⟨k.1, k.2.snoc h⟩
  | [], _ :: _, k => k.elim
  | _ :: _, [], k => k.elim
theorem Rds.into {As Bs : List Chunk} (k : ∀ C ∈ As, ∃ D ∈ Bs, ∀ x ∈ C, x ∈ D) : ∀ {vs : List Value} {bs : List (List UInt8)}, Rds As vs bs → Rds Bs vs bs
  | [], [], _ => trivial
  | _ :: _, _ :: _, h => ⟨by obtain ⟨D, hD, hR⟩ := h.1; obtain ⟨D2, h1, h2⟩ := k D hD; exact ⟨D2, h1, hR.sub h2⟩, h.2.into k⟩
  | [], _ :: _, h => h.elim
  | _ :: _, [], h => h.elim
theorem Rds.mono {As Bs : List Chunk} (k : ∀ C ∈ As, C ∈ Bs) {vs : List Value} {bs : List (List UInt8)} (h : Rds As vs bs) : Rds Bs vs bs := h.into fun C hC => ⟨C, k C hC, fun _ hx => hx⟩
theorem inn_rds {T : TypeId} : ∀ {D : Chunk} {vs : List Value} {bs : List (List UInt8)}, Inn T 1 byt D vs bs → Rds [D] vs bs
  | _, [], [], _ => trivial
  | D, _ :: _, _ :: _, h => by
    obtain ⟨C, D', rfl, hC, h⟩ := h
    exact ⟨⟨_, List.Mem.head _, hC.rd.sub fun x hx => by simp [hx]⟩, (inn_rds h).into fun E hE => ⟨_, List.Mem.head _, fun x hx => by rw [List.mem_singleton.1 hE] at hx; simp [hx]⟩⟩
  | _, [], _ :: _, h => h.elim
  | _, _ :: _, [], h => h.elim

theorem dfeed_ret (p : Nat) (q : List UInt8) (A D : Chunk) (v : Value) (b : List UInt8) (hA : LnC 35 p q A) (hD : Rd D 1 v b.length (byt b)) (hl : q.length + b.length ≤ 70368744177664) (w0 : World) (H : Hp w0 [A, D]) :
    Ret Tryd.prog 14 #[ptr p, v] w0 fun u w' => ∃ x X Y A' vs, u = .tuple #[x, .int .i64 (cutR (q ++ b)).2.2] ∧ LnC 35 p (cutR (q ++ b)).2.1 A' ∧ Buf X 22 1 x (cutR (q ++ b)).1.length vs ∧ Rds [Y] vs (cutR (q ++ b)).1 ∧ Trs w0 w' [A, D] [X, Y, A', D] := by
  obtain ⟨ad0, c0, C0, rfl, hc0, hR0⟩ := hA
  have S := (St.begin H).split.addNil
  obtain ⟨ad, c, rfl⟩ := hD.slice
  obtain ⟨all, hall⟩ : ∃ all, all = q ++ b := ⟨_, rfl⟩
  have hlen : all.length = q.length + b.length := by rw [hall, List.length_append]
  rw [← hall]
  obtain ⟨cr, hcr⟩ : ∃ cr, cr = cutR all := ⟨_, rfl⟩
  rw [← hcr]
  refine enter2 96 Tryd.func14 rfl rfl (by decide) ?_; intro a E
  refine wp_seq_k ?_; intro K hK
  refine region_list ?_
  refine list_pure E rfl rfl (by decide) (rn_assign E rfl rfl) ?_; clear E a; intro a E
  refine list_pure E rfl rfl (by decide) (rn_assign E rfl rfl) ?_; clear E a; intro a E
  refine wpList_nil ?_
  refine then_k hK ?_; clear hK; clear K
  refine wp_seq_k ?_; intro K hK
  refine region_list ?_
  refine list_pure E rfl rfl (by decide) (rn_assign E rfl rfl) ?_; clear E a; intro a E
  refine wpList_nil ?_
  refine then_k hK ?_; clear hK; clear K
  refine wp_seq_k ?_; intro K hK
  refine region_list ?_
  refine list_pure E rfl rfl (by decide) (rn_move E rfl rfl) ?_; clear E a; intro a E
  refine list_pure E rfl rfl (by decide) (rn_move E rfl rfl) ?_; clear E a; intro a E
  refine list_pure E rfl rfl (by decide) (rn_nilCheck E rfl rfl) ?_; clear E a; intro a E
  refine list_pure E rfl rfl (by decide) (by first | exact rn_fieldAddr0 (q := 0) E rfl rfl rfl | exact rn_fieldAddr (q := 0) E rfl rfl rfl) ?_; clear E a; intro a E
  refine list_pure E rfl rfl (by decide) (by first | exact rn_load E rfl rfl rfl (S.get (by repeat (first | exact pk1 | apply pick_tail))) rfl | exact rn_loadc E rfl rfl rfl (by assumption)) ?_; clear E a; intro a E
  refine list_wp rfl (wp_append (by' := 1) E S rfl rfl (by decide) rfl rfl (Buf.nil 5 1) (by repeat (first | exact pk1 | apply pick_tail)) (hR0.src (S.stab.at (by repeat (first | exact mm1 | assumption | apply List.Mem.tail))) rfl) rfl rfl rfl rfl rfl rfl (by simp only [maxLen]; omega) (by omega) ?_); clear E S a; intro a w v15 C15 E S hB15
  rw [Nat.zero_add, List.nil_append] at hB15
  refine list_pure E rfl rfl (by decide) (rn_assign E rfl rfl) ?_; clear E a; intro a E
  refine wpList_nil ?_
  refine then_k hK ?_; clear hK; clear K
  refine wp_seq_k ?_; intro K hK
  refine region_list ?_
  refine list_pure E rfl rfl (by decide) (rn_move E rfl rfl) ?_; clear E a; intro a E
  refine list_pure E rfl rfl (by decide) (rn_move E rfl rfl) ?_; clear E a; intro a E
  refine list_wp rfl (wp_append (by' := 1) E S rfl rfl (by decide) rfl rfl hB15 (by repeat (first | exact pk1 | apply pick_tail)) (hD.src (S.stab.at (by repeat (first | exact mm1 | assumption | apply List.Mem.tail))) rfl) rfl rfl rfl rfl rfl rfl (by simp only [maxLen]; omega) (by omega) ?_); clear E S a; intro a w v18 C18 E S hB18
  rw [← byt_append, ← hall, ← hlen] at hB18
  obtain ⟨ad18, c18, rfl⟩ := hB18.slice
  have hc18 := hB18.cap_le
  refine list_pure E rfl rfl (by decide) (rn_assign E rfl rfl) ?_; clear E a; intro a E
  refine wpList_nil ?_
  refine then_k hK ?_; clear hK; clear K
  refine wp_seq_k ?_; intro K hK
  refine region_list ?_
  refine list_pure E rfl rfl (by decide) (rn_move E rfl rfl) ?_; clear E a; intro a E
  refine list_pure E rfl rfl (by decide) (rn_nilCheck E rfl rfl) ?_; clear E a; intro a E
  refine list_pure E rfl rfl (by decide) (by first | exact rn_fieldAddr0 (q := 0) E rfl rfl rfl | exact rn_fieldAddr (q := 0) E rfl rfl rfl) ?_; clear E a; intro a E
  refine list_wp rfl (wp_store1 E S rfl rfl rfl rfl rfl rfl (by repeat (first | exact pk1 | apply pick_tail)) (by first | exact Nat.le_of_ble_eq_true rfl | (simp; done) | (simp; omega)) ?_); clear E S a; intro a w E S; try dsimp only [List.set] at S
  refine wpList_nil ?_
  refine then_k hK ?_; clear hK; clear K
  refine wp_seq_k ?_; intro K hK
  refine region_list ?_
  refine list_pure E rfl rfl (by decide) (rn_assign E rfl rfl) ?_; clear E a; intro a E
  refine wpList_nil ?_
  refine then_k hK ?_; clear hK; clear K
  refine wp_seq_k ?_; intro K hK
  refine region_list ?_
  refine list_pure E rfl rfl (by decide) (rn_assign E rfl rfl) ?_; clear E a; intro a E
  refine wpList_nil ?_
  refine then_k hK ?_; clear hK; clear K
  refine wp_seq_k ?_; intro K hK
  refine wp_block ?_
  refine wp_loop_ghost (fun (m : Nat) (a : Act) (w' : World) => ∃ (k : Nat) (outs : List (List UInt8)) (vo : Value) (X : Chunk) (vs : List Value), m = all.length - k ∧ k ≤ all.length ∧ 13 * outs.length ≤ k ∧ cr = (outs ++ (cutR (all.drop k)).1, (cutR (all.drop k)).2) ∧ Buf X 22 1 vo outs.length vs ∧ Rds [C18] vs outs ∧ St w0 [[(p, cel [.slice ad0 q.length c0] 35)] ++ C0, D] w' ([(p, cel [.slice none 0 0] 35)] :: C18 :: X :: [D]) ∧ Fr a 96 [(0, ptr p), (6, .slice ad18 all.length c18), (7, vo), (8, .int .i64 k)]) (all.length - 0) ?_ ?_
  · exact ⟨0, [], _, [], [], rfl, Nat.zero_le _, by simp, by rw [hcr]; simp, Buf.nil _ _, trivial, (S.only (Bs := [[(p, _)], C18, D]) (sel_cons (by repeat (first | exact pk1 | apply pick_tail)) (sel_cons (by repeat (first | exact pk1 | apply pick_tail)) (sel_cons (by repeat (first | exact pk1 | apply pick_tail)) (sel_nil _))))).addNil.front3 (A := [(p, _)]) (by repeat (first | exact pk1 | apply pick_tail)) (B := C18) (by repeat (first | exact pk1 | apply pick_tail)) (C := []) (by repeat (first | exact pk1 | apply pick_tail)), E.keep (keep_cons rfl (keep_cons rfl (keep_cons rfl (keep_cons rfl keep_nil))))⟩
  clear E; clear a; (try clear S); rintro m a w ⟨k, outs, vo, X, vs, rfl, hk, hol, hcut, hX, hY, S, E⟩
  have hrl : (all.drop k).length = all.length - k := List.length_drop
  refine wp_seq_k ?_; intro K hK
  refine wp_seq_k ?_; intro K hK
  refine region_list ?_
  refine list_pure E rfl rfl (by decide) (rn_move E rfl rfl) ?_; clear E a; intro a E
  refine list_pure E rfl rfl (by decide) (rn_add E rfl rfl rfl (by first | exact wa_lit (y := 4) (by omega) | exact w_in (by omega) | exact w_inu (by omega) | exact rfl)) ?_; clear E a; intro a E
  refine list_pure E rfl rfl (by decide) (rn_move E rfl rfl) ?_; clear E a; intro a E
  refine list_pure E rfl rfl (by decide) (by first | exact rn_len E rfl rfl rfl | exact rn_len_str E rfl rfl rfl | exact rn_len_string E rfl rfl rfl) ?_; clear E a; intro a E
  refine list_pure E rfl rfl (by decide) (rn_leq E rfl rfl rfl) ?_; clear E a; intro a E
  refine wpList_nil ?_
  refine then_k hK ?_; clear hK; clear K
  refine if_bool E rfl (fun hb => ?_) (fun hb => ?_)
  · replace hb := Nrm.nrm hb
    skip
    refine wp_skip ?_
    refine then_k hK ?_; clear hK; clear K
    refine wp_block ?_
    refine wp_seq_k ?_; intro K hK
    obtain ⟨g, rfl⟩ := hB18.addr (by omega)
    have l0 := (all[k]'(by omega)).toNat_lt
    have l1 := (all[k + 1]'(by omega)).toNat_lt
    have l2 := (all[k + 2]'(by omega)).toNat_lt
    have l3 := (all[k + 3]'(by omega)).toNat_lt
    have hn4 := nm4 (all.drop k) (by omega)
    simp only [List.getElem_drop, Nat.add_zero] at hn4
    obtain ⟨n, hn⟩ : ∃ n, n = nm (all.drop k) 0 4 := ⟨_, rfl⟩
    rw [← hn] at hn4
    refine region_mix0 S (.ofL [(0, 0), (1, 0), (2, 0), (3, 0), (4, 0), (5, 0), (6, 0), (7, 0), (8, 0), (9, 0), (10, 0), (11, 0), (12, 0), (13, 0), (14, 0), (15, 0), (16, 0), (17, 0), (18, 0), (19, 0), (20, 0), (21, 0), (22, 0), (23, 0), (24, 0), (25, 0), (26, 0), (27, 0), (28, 0), (29, 0)]) (by kernel_rfl) (by kernel_rfl) ?_
    clear S; intro w S
    refine mix_pure E rfl rfl rfl (by decide) (fun w h => rn_move E rfl rfl) ?_; clear E a; intro a E
    refine mix_pure E rfl rfl rfl (by decide) (fun w h => rn_move E rfl rfl) ?_; clear E a; intro a E
    refine mix_pure E rfl rfl rfl (by decide) (fun w h => rn_indexAddr1 (i := k) E rfl rfl rfl rfl rfl rfl (by omega)) ?_; clear E a; intro a E
    refine mix_pure E rfl rfl rfl (by decide) (fun w h => rn_loadc E rfl rfl rfl (hB18.rd.byte (h.at (by repeat (first | exact mm1 | assumption | apply List.Mem.tail))) (show k < all.length by omega))) ?_; clear E a; intro a E
    refine mix_pure E rfl rfl rfl (by decide) (fun w h => by first | exact rn_convert E rfl rfl rfl rfl (by first | exact wu8 _ | exact w_nat (by omega) | exact w_natu (by omega) | exact w_in (by omega) | exact w_inu (by omega) | exact rfl) | exact rn_string E rfl rfl rfl rfl rfl (by assumption) (S.stab.at (by simp))) ?_; clear E a; intro a E
    refine mix_pure E rfl rfl rfl (by decide) (fun w h => rn_move E rfl rfl) ?_; clear E a; intro a E
    refine mix_pure E rfl rfl rfl (by decide) (fun w h => rn_move E rfl rfl) ?_; clear E a; intro a E
    refine mix_pure E rfl rfl rfl (by decide) (fun w h => rn_add E rfl rfl rfl (by first | exact wa_lit (y := 1) (by omega) | exact w_in (by omega) | exact w_inu (by omega) | exact rfl)) ?_; clear E a; intro a E
    refine mix_pure E rfl rfl rfl (by decide) (fun w h => rn_indexAddr1 (i := k + 1) E rfl rfl rfl rfl rfl rfl (by omega)) ?_; clear E a; intro a E
    refine mix_pure E rfl rfl rfl (by decide) (fun w h => rn_loadc E rfl rfl rfl (hB18.rd.byte (h.at (by repeat (first | exact mm1 | assumption | apply List.Mem.tail))) (show k + 1 < all.length by omega))) ?_; clear E a; intro a E
    refine mix_pure E rfl rfl rfl (by decide) (fun w h => by first | exact rn_convert E rfl rfl rfl rfl (by first | exact wu8 _ | exact w_nat (by omega) | exact w_natu (by omega) | exact w_in (by omega) | exact w_inu (by omega) | exact rfl) | exact rn_string E rfl rfl rfl rfl rfl (by assumption) (S.stab.at (by simp))) ?_; clear E a; intro a E
    refine mix_pure E rfl rfl rfl (by decide) (fun w h => rn_move E rfl rfl) ?_; clear E a; intro a E
    refine mix_pure E rfl rfl rfl (by decide) (fun w h => rn_move E rfl rfl) ?_; clear E a; intro a E
    refine mix_pure E rfl rfl rfl (by decide) (fun w h => rn_add E rfl rfl rfl (by first | exact wa_lit (y := 2) (by omega) | exact w_in (by omega) | exact w_inu (by omega) | exact rfl)) ?_; clear E a; intro a E
    refine mix_pure E rfl rfl rfl (by decide) (fun w h => rn_indexAddr1 (i := k + 2) E rfl rfl rfl rfl rfl rfl (by omega)) ?_; clear E a; intro a E
    refine mix_pure E rfl rfl rfl (by decide) (fun w h => rn_loadc E rfl rfl rfl (hB18.rd.byte (h.at (by repeat (first | exact mm1 | assumption | apply List.Mem.tail))) (show k + 2 < all.length by omega))) ?_; clear E a; intro a E
    refine mix_pure E rfl rfl rfl (by decide) (fun w h => by first | exact rn_convert E rfl rfl rfl rfl (by first | exact wu8 _ | exact w_nat (by omega) | exact w_natu (by omega) | exact w_in (by omega) | exact w_inu (by omega) | exact rfl) | exact rn_string E rfl rfl rfl rfl rfl (by assumption) (S.stab.at (by simp))) ?_; clear E a; intro a E
    refine mix_pure E rfl rfl rfl (by decide) (fun w h => rn_move E rfl rfl) ?_; clear E a; intro a E
    refine mix_pure E rfl rfl rfl (by decide) (fun w h => rn_move E rfl rfl) ?_; clear E a; intro a E
    refine mix_pure E rfl rfl rfl (by decide) (fun w h => rn_add E rfl rfl rfl (by first | exact wa_lit (y := 3) (by omega) | exact w_in (by omega) | exact w_inu (by omega) | exact rfl)) ?_; clear E a; intro a E
    refine mix_pure E rfl rfl rfl (by decide) (fun w h => rn_indexAddr1 (i := k + 3) E rfl rfl rfl rfl rfl rfl (by omega)) ?_; clear E a; intro a E
    refine mix_pure E rfl rfl rfl (by decide) (fun w h => rn_loadc E rfl rfl rfl (hB18.rd.byte (h.at (by repeat (first | exact mm1 | assumption | apply List.Mem.tail))) (show k + 3 < all.length by omega))) ?_; clear E a; intro a E
    refine mix_pure E rfl rfl rfl (by decide) (fun w h => by first | exact rn_convert E rfl rfl rfl rfl (by first | exact wu8 _ | exact w_nat (by omega) | exact w_natu (by omega) | exact w_in (by omega) | exact w_inu (by omega) | exact rfl) | exact rn_string E rfl rfl rfl rfl rfl (by assumption) (S.stab.at (by simp))) ?_; clear E a; intro a E
    refine mix_pure E rfl rfl rfl (by decide) (fun w h => rn_mul E rfl rfl rfl (by first | exact wm_lit (x := 256) (by omega) | exact wm_litu (x := 256) (by omega) | exact w_in (by omega) | exact rfl)) ?_; clear E a; intro a E
    refine mix_pure E rfl rfl rfl (by decide) (fun w h => rn_add E rfl rfl rfl (by first | exact wa1 (by omega) | exact w_in (by omega) | exact w_inu (by omega) | exact rfl)) ?_; clear E a; intro a E
    refine mix_pure E rfl rfl rfl (by decide) (fun w h => rn_mul E rfl rfl rfl (by first | exact wm_lit (x := 256) (by omega) | exact wm_litu (x := 256) (by omega) | exact w_in (by omega) | exact rfl)) ?_; clear E a; intro a E
    refine mix_pure E rfl rfl rfl (by decide) (fun w h => rn_add E rfl rfl rfl (by first | exact wa1 (by omega) | exact w_in (by omega) | exact w_inu (by omega) | exact rfl)) ?_; clear E a; intro a E
    refine mix_pure E rfl rfl rfl (by decide) (fun w h => rn_mul E rfl rfl rfl (by first | exact wm_lit (x := 256) (by omega) | exact wm_litu (x := 256) (by omega) | exact w_in (by omega) | exact rfl)) ?_; clear E a; intro a E
    refine mix_pure E rfl rfl rfl (by decide) (fun w h => rn_add E rfl rfl rfl (by first | exact wa1 (by omega) | exact w_in (by omega) | exact w_inu (by omega) | exact rfl)) ?_; clear E a; intro a E
    refine mix_pure E rfl rfl rfl (by decide) (fun w h => rn_assign E rfl rfl) ?_; clear E a; intro a E
    refine mix_nil ?_
    rw [← hn4] at E
    refine then_k hK ?_; clear hK; clear K
    refine wp_seq_k ?_; intro K hK
    refine wp_seq_k ?_; intro K hK
    refine region_list ?_
    refine list_pure E rfl rfl (by decide) (rn_move E rfl rfl) ?_; clear E a; intro a E
    refine list_pure E rfl rfl (by decide) (rn_lss E rfl rfl rfl) ?_; clear E a; intro a E
    refine list_pure E rfl rfl (by decide) (rn_move E rfl rfl) ?_; clear E a; intro a E
    refine guard_split E (t := 58) rfl (fun hb58 => ?_) (fun hb58 => ?_)
    · have hb58n := hb58; replace hb58n := Nrm.nrm hb58n
      refine list_guard_no E rfl rfl rfl rfl hb58 rfl (by decide) ?_; clear E a; intro a E
      refine list_guard_no E rfl rfl rfl rfl hb58 rfl (by decide) ?_; clear E a; intro a E
      refine list_pure E rfl rfl (by decide) (rn_pick_yes' E rfl rfl hb58 rfl) ?_; clear E a; intro a E
      refine wpList_nil ?_
      refine then_k hK ?_; clear hK; clear K
      refine if_true' E rfl rfl ?_
      refine wp_seq_k ?_; intro K hK
      refine region_list ?_
      refine list_pure E rfl rfl (by decide) (rn_move E rfl rfl) ?_; clear E a; intro a E
      refine list_pure E rfl rfl (by decide) (rn_assign E rfl rfl) ?_; clear E a; intro a E
      refine list_pure E rfl rfl (by decide) (rn_assign E rfl rfl) ?_; clear E a; intro a E
      refine wpList_nil ?_
      refine then_k hK ?_; clear hK; clear K
      refine wp_ret ?_
      refine then_ret ?_; clear hK; clear K
      refine in_ret ?_
      refine then_ret ?_
      refine in_ret ?_
      refine then_ret ?_; clear hK; clear K
      refine ret2 E rfl rfl rfl ?_
      have hfin : cr = (outs, [], 230) := (by rw [hcut, cutR_bad (by omega) (by omega), List.append_nil])
      exact ⟨_, rfl, _, X, C18, [(p, _)] ++ [], vs, by rw [hfin], by rw [hfin]; exact ⟨none, 0, [], rfl, Nat.le_refl _, (Buf.nil 5 1).rd⟩, by rw [hfin]; exact hX, by rw [hfin]; exact hY, by rw [List.append_nil]; exact (S.front4 (A := X) (by repeat (first | exact pk1 | apply pick_tail)) (B := C18) (by repeat (first | exact pk1 | apply pick_tail)) (C := [(p, _)]) (by repeat (first | exact pk1 | apply pick_tail)) (D := D) (by repeat (first | exact pk1 | apply pick_tail))).tr⟩
    · have hb58n := hb58; replace hb58n := Nrm.nrm hb58n
      refine list_guard_yes E rfl rfl rfl rfl hb58 rfl (by decide) (rn_move E rfl rfl) ?_; clear E a; intro a E
      refine list_guard_yes E rfl rfl rfl rfl hb58 rfl (by decide) (rn_gtr E rfl rfl rfl) ?_; clear E a; intro a E
      refine list_pure E rfl rfl (by decide) (rn_pick_no' E rfl rfl hb58 rfl) ?_; clear E a; intro a E
      refine wpList_nil ?_
      refine then_k hK ?_; clear hK; clear K
      refine if_bool E rfl (fun hb => ?_) (fun hb => ?_)
      · replace hb := Nrm.nrm hb
        refine wp_seq_k ?_; intro K hK
        refine region_list ?_
        refine list_pure E rfl rfl (by decide) (rn_move E rfl rfl) ?_; clear E a; intro a E
        refine list_pure E rfl rfl (by decide) (rn_assign E rfl rfl) ?_; clear E a; intro a E
        refine list_pure E rfl rfl (by decide) (rn_assign E rfl rfl) ?_; clear E a; intro a E
        refine wpList_nil ?_
        refine then_k hK ?_; clear hK; clear K
        refine wp_ret ?_
        refine then_ret ?_; clear hK; clear K
        refine in_ret ?_
        refine then_ret ?_
        refine in_ret ?_
        refine then_ret ?_; clear hK; clear K
        refine ret2 E rfl rfl rfl ?_
        have hfin : cr = (outs, [], 230) := (by rw [hcut, cutR_bad (by omega) (by omega), List.append_nil])
        exact ⟨_, rfl, _, X, C18, [(p, _)] ++ [], vs, by rw [hfin], by rw [hfin]; exact ⟨none, 0, [], rfl, Nat.le_refl _, (Buf.nil 5 1).rd⟩, by rw [hfin]; exact hX, by rw [hfin]; exact hY, by rw [List.append_nil]; exact (S.front4 (A := X) (by repeat (first | exact pk1 | apply pick_tail)) (B := C18) (by repeat (first | exact pk1 | apply pick_tail)) (C := [(p, _)]) (by repeat (first | exact pk1 | apply pick_tail)) (D := D) (by repeat (first | exact pk1 | apply pick_tail))).tr⟩
      · replace hb := Nrm.nrm hb
        refine wp_skip ?_
        refine then_k hK ?_; clear hK; clear K
        refine wp_seq_k ?_; intro K hK
        refine wp_seq_k ?_; intro K hK
        refine region_list ?_
        refine list_pure E rfl rfl (by decide) (rn_move E rfl rfl) ?_; clear E a; intro a E
        refine list_pure E rfl rfl (by decide) (rn_add E rfl rfl rfl (by first | exact wa_lit (y := 4) (by omega) | exact w_in (by omega) | exact w_inu (by omega) | exact rfl)) ?_; clear E a; intro a E
        refine list_pure E rfl rfl (by decide) (rn_move E rfl rfl) ?_; clear E a; intro a E
        refine list_pure E rfl rfl (by decide) (rn_add E rfl rfl rfl (by first | exact wa1 (by omega) | exact w_in (by omega) | exact w_inu (by omega) | exact rfl)) ?_; clear E a; intro a E
        refine list_pure E rfl rfl (by decide) (rn_move E rfl rfl) ?_; clear E a; intro a E
        refine list_pure E rfl rfl (by decide) (by first | exact rn_len E rfl rfl rfl | exact rn_len_str E rfl rfl rfl | exact rn_len_string E rfl rfl rfl) ?_; clear E a; intro a E
        refine list_pure E rfl rfl (by decide) (rn_gtr E rfl rfl rfl) ?_; clear E a; intro a E
        refine wpList_nil ?_
        refine then_k hK ?_; clear hK; clear K
        refine if_bool E rfl (fun hb => ?_) (fun hb => ?_)
        · replace hb := Nrm.nrm hb
          have hfin : cr = (outs, all.drop k, 0) := (by rw [hcut, cutR_wait (by omega) (by omega) (by omega), List.append_nil])
          refine wp_exit ?_
          refine then_exit ?_; clear hK; clear K
          refine in_exit_ne rfl ?_
          refine then_exit ?_
          refine in_exit ?_
          refine then_k hK ?_; clear hK; clear K
          refine wp_seq_k ?_; intro K hK
          replace E := E.keep (e' := [(0, _), (6, _), (7, _), (8, _)]) (keep_cons rfl (keep_cons rfl (keep_cons rfl (keep_cons rfl (keep_nil)))))
          obtain ⟨ad3, c3, he3, hc3, hR3⟩ := hB18.rd.tailc (n := k) hk hc18
          rw [Nat.mul_one, byt_drop, ← hrl] at hR3
          rw [← hrl] at he3
          have S := S.addNil
          refine region_mix S (.ofL [(0, 0), (1, 0), (2, 0), (3, 0), (4, 0), (5, 0), (6, 0), (7, 0), (8, 1), (9, 0), (10, 0), (11, 3)]) [[(p, cel [.slice none 0 0] 35)], C18] (fun h => h.sub (by first | (simp; done) | (simp +contextual; done))) (by kernel_rfl) (by kernel_rfl) ?_
          clear S; intro w S
          refine mix_pure E rfl rfl rfl (by decide) (fun w h => rn_move E rfl rfl) ?_; clear E a; intro a E
          refine mix_pure E rfl rfl rfl (by decide) (fun w h => rn_move E rfl rfl) ?_; clear E a; intro a E
          refine mix_pure E rfl rfl rfl (by decide) (fun w h => rn_nilCheck E rfl rfl) ?_; clear E a; intro a E
          refine mix_pure E rfl rfl rfl (by decide) (fun w h => by first | exact rn_fieldAddr0 (q := 0) E rfl rfl rfl | exact rn_fieldAddr (q := 0) E rfl rfl rfl) ?_; clear E a; intro a E
          refine mix_pure E rfl rfl rfl (by decide) (fun w h => by first | exact rn_load E rfl rfl rfl (h.one (by repeat (first | exact mm1 | assumption | apply List.Mem.tail))) rfl | exact rn_loadc E rfl rfl rfl (by assumption)) ?_; clear E a; intro a E
          refine mix_pure E rfl rfl rfl (by decide) (fun w h => rn_move E rfl rfl) ?_; clear E a; intro a E
          refine mix_pure E rfl rfl rfl (by decide) (fun w h => rn_move E rfl rfl) ?_; clear E a; intro a E
          refine mix_pure E rfl rfl rfl (by decide) (fun w h => rn_slice_l (lo := k) (s := 1) E rfl rfl rfl rfl rfl rfl (by omega)) ?_; clear E a; intro a E
          rw [he3] at E
          refine mix_act rfl rfl (wp_append (by' := 1) E S rfl rfl (by decide) rfl rfl (Buf.nil 5 1) (by repeat (first | exact pk1 | apply pick_tail)) (hR3.src (S.stab.at (by repeat (first | exact mm1 | assumption | apply List.Mem.tail))) rfl) rfl rfl rfl rfl rfl rfl (by simp only [maxLen]; omega) (by omega) ?_); clear E S a; intro a w v92 C92 E S hB92; refine ⟨S.stab.sub (by first | (simp; done) | (simp +contextual; done)), ?_⟩
          rw [Nat.zero_add, List.nil_append] at hB92; obtain ⟨ad92, c92, rfl⟩ := hB92.slice
          refine mix_pure E rfl rfl rfl (by decide) (fun w h => rn_nilCheck E rfl rfl) ?_; clear E a; intro a E
          refine mix_pure E rfl rfl rfl (by decide) (fun w h => by first | exact rn_fieldAddr0 (q := 0) E rfl rfl rfl | exact rn_fieldAddr (q := 0) E rfl rfl rfl) ?_; clear E a; intro a E
          refine mix_last rfl rfl (wp_store1 E S rfl rfl rfl rfl rfl rfl (by repeat (first | exact pk1 | apply pick_tail)) (by first | exact Nat.le_of_ble_eq_true rfl | (simp; done) | (simp; omega)) ?_); clear E S a; intro a w E S; try dsimp only [List.set] at S
          refine mix_nil ?_
          refine then_k hK ?_; clear hK; clear K
          refine wp_seq_k ?_; intro K hK
          refine region_list ?_
          refine list_pure E rfl rfl (by decide) (rn_move E rfl rfl) ?_; clear E a; intro a E
          refine list_pure E rfl rfl (by decide) (rn_assign E rfl rfl) ?_; clear E a; intro a E
          refine list_pure E rfl rfl (by decide) (rn_assign E rfl rfl) ?_; clear E a; intro a E
          refine wpList_nil ?_
          refine then_k hK ?_; clear hK; clear K
          refine wp_ret ?_
          refine ret2 E rfl rfl rfl ?_
          exact ⟨_, rfl, _, X, C18, [(p, _)] ++ C92, vs, by rw [hfin], by rw [hfin]; exact ⟨ad92, c92, C92, rfl, hB92.cap_le, hB92.rd⟩, by rw [hfin]; exact hX, by rw [hfin]; exact hY, ((S.front2 (A := [(p, _)]) (by repeat (first | exact pk1 | apply pick_tail)) (B := C92) (by repeat (first | exact pk1 | apply pick_tail))).join.front4 (A := X) (by repeat (first | exact pk1 | apply pick_tail)) (B := C18) (by repeat (first | exact pk1 | apply pick_tail)) (C := [(p, _)] ++ C92) (by repeat (first | exact pk1 | apply pick_tail)) (D := D) (by repeat (first | exact pk1 | apply pick_tail))).tr⟩
        · replace hb := Nrm.nrm hb
          skip
          refine wp_skip ?_
          refine then_k hK ?_; clear hK; clear K
          refine wp_seq_k ?_; intro K hK
          have hnr : k + (4 + n) ≤ all.length := by omega
          have htl : ((all.drop k).take (4 + n)).length = 4 + n := by rw [List.length_take]; omega
          obtain ⟨ad2, hs2, hR2⟩ := hB18.rd.cutc (lo := k) (hi := k + 4 + n) (by omega) (by omega) (by omega)
          rw [show ((byt all).drop (k * 1)).take ((k + 4 + n - k) * 1) = byt ((all.drop k).take (4 + n)) by rw [Nat.mul_one, Nat.mul_one, byt_drop, byt_take, show k + 4 + n - k = 4 + n by omega], show k + 4 + n - k = ((all.drop k).take (4 + n)).length by omega] at hR2
          rw [show k + 4 + n - k = ((all.drop k).take (4 + n)).length by omega] at hs2
          refine region_list ?_
          refine list_pure E rfl rfl (by decide) (rn_move E rfl rfl) ?_; clear E a; intro a E
          refine list_pure E rfl rfl (by decide) (rn_move E rfl rfl) ?_; clear E a; intro a E
          refine list_pure E rfl rfl (by decide) (rn_move E rfl rfl) ?_; clear E a; intro a E
          refine list_pure E rfl rfl (by decide) (rn_move E rfl rfl) ?_; clear E a; intro a E
          refine list_pure E rfl rfl (by decide) (rn_add E rfl rfl rfl (by first | exact wa_lit (y := 4) (by omega) | exact w_in (by omega) | exact w_inu (by omega) | exact rfl)) ?_; clear E a; intro a E
          refine list_pure E rfl rfl (by decide) (rn_move E rfl rfl) ?_; clear E a; intro a E
          refine list_pure E rfl rfl (by decide) (rn_add E rfl rfl rfl (by first | exact wa1 (by omega) | exact w_in (by omega) | exact w_inu (by omega) | exact rfl)) ?_; clear E a; intro a E
          refine list_pure E rfl rfl (by decide) (rn_slice_lh (s := 1) (lo := k) (hi := k + 4 + n) E rfl rfl rfl rfl rfl rfl rfl rfl (by omega) (by omega)) ?_; clear E a; intro a E
          rw [hs2] at E
          refine list_wp rfl (wp_bslice (cells := [_]) E S rfl rfl (by decide) rfl rfl rfl rfl rfl (by decide) rfl ?_); clear E S a; intro a w b78 E S
          refine list_wp rfl (wp_append (by' := 24) E S rfl rfl (by decide) rfl rfl hX (by repeat (first | exact pk1 | apply pick_tail)) ((rd_cells (g := b78) (T := 22) (xs := [.slice ad2 ((all.drop k).take (4 + n)).length (c18 - k)]) (s := 1) (m := 1) rfl (by simp [Value.oneCell']) (by omega) 1).src (S.stab.at (by repeat (first | exact mm1 | assumption | apply List.Mem.tail))) rfl) rfl rfl rfl rfl rfl rfl (by simp only [maxLen]; omega) (by omega) ?_); clear E S a; intro a w v79 C79 E S hB79
          refine list_pure E rfl rfl (by decide) (rn_assign E rfl rfl) ?_; clear E a; intro a E
          refine wpList_nil ?_
          refine then_k hK ?_; clear hK; clear K
          refine region_list ?_
          refine list_pure E rfl rfl (by decide) (rn_move E rfl rfl) ?_; clear E a; intro a E
          refine list_pure E rfl rfl (by decide) (rn_add E rfl rfl rfl (by first | exact wa_lit (y := 4) (by omega) | exact w_in (by omega) | exact w_inu (by omega) | exact rfl)) ?_; clear E a; intro a E
          refine list_pure E rfl rfl (by decide) (rn_move E rfl rfl) ?_; clear E a; intro a E
          refine list_pure E rfl rfl (by decide) (rn_add E rfl rfl rfl (by first | exact wa1 (by omega) | exact w_in (by omega) | exact w_inu (by omega) | exact rfl)) ?_; clear E a; intro a E
          refine list_pure E rfl rfl (by decide) (rn_assign E rfl rfl) ?_; clear E a; intro a E
          refine wpList_nil ?_
          refine in_normal ?_
          refine then_normal ?_
          exact ⟨_, by omega, k + 4 + n, outs ++ [(all.drop k).take (4 + n)], v79, C79, vs ++ [_], rfl, by omega, by rw [List.length_append, List.length_singleton]; omega, by rw [hcut, cutR_step (b := all.drop k) (by omega) (by omega) (by omega), ← hn, List.append_assoc, List.drop_drop, ← Nat.add_assoc]; rfl, by rw [List.length_append, List.length_singleton]; exact hB79, hY.snoc ⟨C18, List.Mem.head _, hR2⟩, S.only (Bs := [[(p, _)], C18, C79, D]) (sel_cons (by repeat (first | exact pk1 | apply pick_tail)) (sel_cons (by repeat (first | exact pk1 | apply pick_tail)) (sel_cons (by repeat (first | exact pk1 | apply pick_tail)) (sel_cons (by repeat (first | exact pk1 | apply pick_tail)) (sel_nil _))))), E.keep (keep_cons rfl (keep_cons rfl (keep_cons rfl (keep_cons rfl keep_nil))))⟩
  · replace hb := Nrm.nrm hb
    have hfin : cr = (outs, all.drop k, 0) := (by rw [hcut, cutR_short (by omega), List.append_nil])
    refine wp_exit ?_
    refine then_exit ?_; clear hK; clear K
    refine then_exit ?_
    refine in_exit ?_
    refine then_k hK ?_; clear hK; clear K
    refine wp_seq_k ?_; intro K hK
    obtain ⟨ad3, c3, he3, hc3, hR3⟩ := hB18.rd.tailc (n := k) hk hc18
    rw [Nat.mul_one, byt_drop, ← hrl] at hR3
    rw [← hrl] at he3
    have S := S.addNil
    refine region_mix S (.ofL [(0, 0), (1, 0), (2, 0), (3, 0), (4, 0), (5, 0), (6, 0), (7, 0), (8, 1), (9, 0), (10, 0), (11, 3)]) [[(p, cel [.slice none 0 0] 35)], C18] (fun h => h.sub (by first | (simp; done) | (simp +contextual; done))) (by kernel_rfl) (by kernel_rfl) ?_
    clear S; intro w S
    refine mix_pure E rfl rfl rfl (by decide) (fun w h => rn_move E rfl rfl) ?_; clear E a; intro a E
    refine mix_pure E rfl rfl rfl (by decide) (fun w h => rn_move E rfl rfl) ?_; clear E a; intro a E
    refine mix_pure E rfl rfl rfl (by decide) (fun w h => rn_nilCheck E rfl rfl) ?_; clear E a; intro a E
    refine mix_pure E rfl rfl rfl (by decide) (fun w h => by first | exact rn_fieldAddr0 (q := 0) E rfl rfl rfl | exact rn_fieldAddr (q := 0) E rfl rfl rfl) ?_; clear E a; intro a E
    refine mix_pure E rfl rfl rfl (by decide) (fun w h => by first | exact rn_load E rfl rfl rfl (h.one (by repeat (first | exact mm1 | assumption | apply List.Mem.tail))) rfl | exact rn_loadc E rfl rfl rfl (by assumption)) ?_; clear E a; intro a E
    refine mix_pure E rfl rfl rfl (by decide) (fun w h => rn_move E rfl rfl) ?_; clear E a; intro a E
    refine mix_pure E rfl rfl rfl (by decide) (fun w h => rn_move E rfl rfl) ?_; clear E a; intro a E
    refine mix_pure E rfl rfl rfl (by decide) (fun w h => rn_slice_l (lo := k) (s := 1) E rfl rfl rfl rfl rfl rfl (by omega)) ?_; clear E a; intro a E
    rw [he3] at E
    refine mix_act rfl rfl (wp_append (by' := 1) E S rfl rfl (by decide) rfl rfl (Buf.nil 5 1) (by repeat (first | exact pk1 | apply pick_tail)) (hR3.src (S.stab.at (by repeat (first | exact mm1 | assumption | apply List.Mem.tail))) rfl) rfl rfl rfl rfl rfl rfl (by simp only [maxLen]; omega) (by omega) ?_); clear E S a; intro a w v92 C92 E S hB92; refine ⟨S.stab.sub (by first | (simp; done) | (simp +contextual; done)), ?_⟩
    rw [Nat.zero_add, List.nil_append] at hB92; obtain ⟨ad92, c92, rfl⟩ := hB92.slice
    refine mix_pure E rfl rfl rfl (by decide) (fun w h => rn_nilCheck E rfl rfl) ?_; clear E a; intro a E
    refine mix_pure E rfl rfl rfl (by decide) (fun w h => by first | exact rn_fieldAddr0 (q := 0) E rfl rfl rfl | exact rn_fieldAddr (q := 0) E rfl rfl rfl) ?_; clear E a; intro a E
    refine mix_last rfl rfl (wp_store1 E S rfl rfl rfl rfl rfl rfl (by repeat (first | exact pk1 | apply pick_tail)) (by first | exact Nat.le_of_ble_eq_true rfl | (simp; done) | (simp; omega)) ?_); clear E S a; intro a w E S; try dsimp only [List.set] at S
    refine mix_nil ?_
    refine then_k hK ?_; clear hK; clear K
    refine wp_seq_k ?_; intro K hK
    refine region_list ?_
    refine list_pure E rfl rfl (by decide) (rn_move E rfl rfl) ?_; clear E a; intro a E
    refine list_pure E rfl rfl (by decide) (rn_assign E rfl rfl) ?_; clear E a; intro a E
    refine list_pure E rfl rfl (by decide) (rn_assign E rfl rfl) ?_; clear E a; intro a E
    refine wpList_nil ?_
    refine then_k hK ?_; clear hK; clear K
    refine wp_ret ?_
    refine ret2 E rfl rfl rfl ?_
    exact ⟨_, rfl, _, X, C18, [(p, _)] ++ C92, vs, by rw [hfin], by rw [hfin]; exact ⟨ad92, c92, C92, rfl, hB92.cap_le, hB92.rd⟩, by rw [hfin]; exact hX, by rw [hfin]; exact hY, ((S.front2 (A := [(p, _)]) (by repeat (first | exact pk1 | apply pick_tail)) (B := C92) (by repeat (first | exact pk1 | apply pick_tail))).join.front4 (A := X) (by repeat (first | exact pk1 | apply pick_tail)) (B := C18) (by repeat (first | exact pk1 | apply pick_tail)) (C := [(p, _)] ++ C92) (by repeat (first | exact pk1 | apply pick_tail)) (D := D) (by repeat (first | exact pk1 | apply pick_tail))).tr⟩

theorem lsame_ret (As : List Chunk) (X Z : Chunk) (x z : Value) (l : List (List UInt8)) (vs us : List Value) (hX : Rd X 1 x l.length vs) (hZ : Rd Z 1 z l.length us) (hV : Rds As vs l) (hU : Rds As us l) (hXA : X ∈ As) (hZA : Z ∈ As) (w0 : World) (H : Hp w0 As) :
    Ret Tryd.prog 15 #[x, z] w0 fun u w' => u = .bool true ∧ Trs w0 w' As As := by
  have S := St.begin H
  have hll := hX.2.2.1
  simp only [maxLen] at hll
  obtain ⟨adx, cx, rfl⟩ := hX.slice
  obtain ⟨adz, cz, rfl⟩ := hZ.slice
  refine enter2 28 Tryd.func15 rfl rfl (by decide) ?_; intro a E
  refine wp_seq_k ?_; intro K hK
  refine region_list ?_
  refine list_pure E rfl rfl (by decide) (rn_assign E rfl rfl) ?_; clear E a; intro a E
  refine wpList_nil ?_
  refine then_k hK ?_; clear hK; clear K
  refine wp_seq_k ?_; intro K hK
  refine wp_seq_k ?_; intro K hK
  refine region_list ?_
  refine list_pure E rfl rfl (by decide) (rn_move E rfl rfl) ?_; clear E a; intro a E
  refine list_pure E rfl rfl (by decide) (by first | exact rn_len E rfl rfl rfl | exact rn_len_str E rfl rfl rfl | exact rn_len_string E rfl rfl rfl) ?_; clear E a; intro a E
  refine list_pure E rfl rfl (by decide) (rn_move E rfl rfl) ?_; clear E a; intro a E
  refine list_pure E rfl rfl (by decide) (by first | exact rn_len E rfl rfl rfl | exact rn_len_str E rfl rfl rfl | exact rn_len_string E rfl rfl rfl) ?_; clear E a; intro a E
  refine list_pure E rfl rfl (by decide) (by first | exact rn_neq E rfl rfl rfl | exact rn_neq_ptr_nil E rfl rfl rfl rfl | exact rn_neq_bool E rfl rfl rfl rfl | exact rn_neq_string E rfl rfl rfl) ?_; clear E a; intro a E
  refine wpList_nil ?_
  refine then_k hK ?_; clear hK; clear K
  refine if_bool E rfl (fun hb => ?_) (fun hb => ?_)
  · replace hb := Nrm.nrm hb
    exfalso; omega
  · replace hb := Nrm.nrm hb
    refine wp_skip ?_
    refine then_k hK ?_; clear hK; clear K
    refine wp_seq_k ?_; intro K hK
    refine wp_seq_k ?_; intro K hK
    refine region_list ?_
    refine list_pure E rfl rfl (by decide) (rn_assign E rfl rfl) ?_; clear E a; intro a E
    refine wpList_nil ?_
    refine then_k hK ?_; clear hK; clear K
    refine wp_block ?_
    refine wp_loop_ghost (fun (m : Nat) (a : Act) (w' : World) => ∃ i : Nat, m = l.length - i ∧ i ≤ l.length ∧ St w0 As w' As ∧ Fr a 28 [(0, .slice adx l.length cx), (1, .slice adz l.length cz), (5, .int .i64 i)]) (l.length - 0) ?_ ?_
    · exact ⟨0, rfl, by omega, S, E.keep (keep_cons rfl (keep_cons rfl (keep_cons rfl keep_nil)))⟩
    clear E; clear a; (try clear S); rintro m a w ⟨i, rfl, hi, S, E⟩
    refine wp_seq_k ?_; intro K hK
    refine wp_seq_k ?_; intro K hK
    refine region_list ?_
    refine list_pure E rfl rfl (by decide) (rn_move E rfl rfl) ?_; clear E a; intro a E
    refine list_pure E rfl rfl (by decide) (rn_move E rfl rfl) ?_; clear E a; intro a E
    refine list_pure E rfl rfl (by decide) (by first | exact rn_len E rfl rfl rfl | exact rn_len_str E rfl rfl rfl | exact rn_len_string E rfl rfl rfl) ?_; clear E a; intro a E
    refine list_pure E rfl rfl (by decide) (rn_lss E rfl rfl rfl) ?_; clear E a; intro a E
    refine wpList_nil ?_
    refine then_k hK ?_; clear hK; clear K
    refine if_bool E rfl (fun hb => ?_) (fun hb => ?_)
    · replace hb := Nrm.nrm hb
      refine wp_skip ?_
      refine then_k hK ?_; clear hK; clear K
      refine wp_seq_k ?_; intro K hK
      refine wp_block ?_
      refine wp_seq_k ?_; intro K hK
      have hib : i < l.length := by omega
      obtain ⟨g, off, rfl⟩ := hX.addr (by omega)
      obtain ⟨g2, off2, rfl⟩ := hZ.addr (by omega)
      obtain ⟨v, hv, D, hD, hRd⟩ := hV.get hib
      obtain ⟨u, hu, D2, hD2, hRd2⟩ := hU.get hib
      obtain ⟨ad1, c1, rfl⟩ := hRd.slice
      obtain ⟨ad2, c2, rfl⟩ := hRd2.slice
      refine region_mix0 S (.ofL [(0, 0), (1, 0), (2, 0), (3, 0), (4, 0), (5, 0), (6, 0), (7, 0), (8, 0), (9, 0), (10, 0)]) (by kernel_rfl) (by kernel_rfl) ?_
      clear S; intro w S
      refine mix_pure E rfl rfl rfl (by decide) (fun w h => rn_move E rfl rfl) ?_; clear E a; intro a E
      refine mix_pure E rfl rfl rfl (by decide) (fun w h => rn_move E rfl rfl) ?_; clear E a; intro a E
      refine mix_pure E rfl rfl rfl (by decide) (fun w h => rn_indexAddr1 (i := i) E rfl rfl rfl rfl rfl rfl (by omega)) ?_; clear E a; intro a E
      refine mix_pure E rfl rfl rfl (by decide) (fun w h => rn_loadc E rfl rfl rfl (hX.cells (h.at (by repeat (first | exact mm1 | assumption | apply List.Mem.tail))) rfl i _ hv)) ?_; clear E a; intro a E
      refine mix_pure E rfl rfl rfl (by decide) (fun w h => rn_string E rfl rfl rfl rfl rfl (bs := l[i]) hRd (h.at (by repeat (first | exact mm1 | assumption | apply List.Mem.tail)))) ?_; clear E a; intro a E
      refine mix_pure E rfl rfl rfl (by decide) (fun w h => rn_move E rfl rfl) ?_; clear E a; intro a E
      refine mix_pure E rfl rfl rfl (by decide) (fun w h => rn_move E rfl rfl) ?_; clear E a; intro a E
      refine mix_pure E rfl rfl rfl (by decide) (fun w h => rn_indexAddr1 (i := i) E rfl rfl rfl rfl rfl rfl (by omega)) ?_; clear E a; intro a E
      refine mix_pure E rfl rfl rfl (by decide) (fun w h => rn_loadc E rfl rfl rfl (hZ.cells (h.at (by repeat (first | exact mm1 | assumption | apply List.Mem.tail))) rfl i _ hu)) ?_; clear E a; intro a E
      refine mix_pure E rfl rfl rfl (by decide) (fun w h => rn_string E rfl rfl rfl rfl rfl (bs := l[i]) hRd2 (h.at (by repeat (first | exact mm1 | assumption | apply List.Mem.tail)))) ?_; clear E a; intro a E
      refine mix_pure E rfl rfl rfl (by decide) (fun w h => by first | exact rn_neq E rfl rfl rfl | exact rn_neq_ptr_nil E rfl rfl rfl rfl | exact rn_neq_bool E rfl rfl rfl rfl | exact rn_neq_string E rfl rfl rfl) ?_; clear E a; intro a E
      refine mix_nil ?_
      refine then_k hK ?_; clear hK; clear K
      refine if_false' E rfl ((by simp)) ?_
      refine wp_skip ?_
      refine in_normal ?_
      refine then_k hK ?_; clear hK; clear K
      refine region_list ?_
      refine list_pure E rfl rfl (by decide) (rn_move E rfl rfl) ?_; clear E a; intro a E
      refine list_pure E rfl rfl (by decide) (rn_add E rfl rfl rfl (by first | exact wa_lit (y := 1) (by omega) | exact w_in (by omega) | exact w_inu (by omega) | exact rfl)) ?_; clear E a; intro a E
      refine list_pure E rfl rfl (by decide) (rn_assign E rfl rfl) ?_; clear E a; intro a E
      refine wpList_nil ?_
      refine then_normal ?_
      exact ⟨_, by omega, i + 1, rfl, by omega, S, E.keep (keep_cons rfl (keep_cons rfl (keep_cons rfl keep_nil)))⟩
    · replace hb := Nrm.nrm hb
      refine wp_exit ?_
      refine then_exit ?_; clear hK; clear K
      refine then_exit ?_
      refine in_exit ?_
      refine then_k hK ?_; clear hK; clear K
      refine wp_seq_k ?_; intro K hK
      refine region_list ?_
      refine list_pure E rfl rfl (by decide) (rn_assign E rfl rfl) ?_; clear E a; intro a E
      refine wpList_nil ?_
      refine then_k hK ?_; clear hK; clear K
      refine wp_ret ?_
      refine ret1 E rfl rfl ?_
      exact ⟨_, rfl, rfl, S.tr⟩
end Go.Proofs.YtjhmjdgdgpgcdaaDoor
