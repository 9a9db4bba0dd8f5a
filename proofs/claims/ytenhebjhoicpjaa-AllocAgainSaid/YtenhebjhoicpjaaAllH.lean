/-
  Allocators: the stable sort of a short list.
-/
import Derived.Test.YtenhebjhoicpjaaAllG
namespace Go.Sl
theorem srtR_snoc (lt : Nat → Nat → Bool) (l : List Nat) (x : Nat) : srtR lt (l ++ [x]) = insR lt x (srtR lt l) := by simp [srtR]
theorem srtR_len (lt : Nat → Nat → Bool) (l : List Nat) : (srtR lt l).length = l.length := (srtR_perm lt l).length_eq
theorem insR_stop {lt : Nat → Nat → Bool} {x : Nat} {r : List Nat} (h : r = [] ∨ ∃ z r', r = z :: r' ∧ lt x z = false) : insR lt x r = x :: r := by
  rcases h with rfl | ⟨z, r', rfl, h⟩
  · rfl
  · rw [insR, if_neg (by rw [h]; simp)]
theorem swap_set (P Q : List Nat) (z x : Nat) : (((P ++ z :: x :: Q).map jv).set (P.length + 1) (jv z)).set P.length (jv x) = (P ++ x :: z :: Q).map jv := by
  simp [List.set_append]
end Go.Sl
namespace Go.Proofs.Ytenhebjhoicpjaa
open Go.Sl
set_option maxRecDepth 10000
section
variable (p : Nat) (y : Al) (A : Chunk) (hA : AlC p y A) (bx : Nat)
abbrev bxc (p bx : Nat) : Chunk := [(bx, cel [ptr p] 24)]
abbrev cmpF (bx : Nat) : Value := .func (.func 27) #[] #[ptr bx]

include hA in
theorem isort_ret (o : List Nat) (hlt : ∀ i ∈ o, i < y.sizes.length) (hl : o.length ≤ 20) (v : Value) (D : Chunk) (hD : Buf D 3 1 v o.length (o.map jv)) (w0 : World) (H : Hp w0 [D, A, bxc p bx]) :
    Ret Try.prog 45 #[v, .int .i64 0, .int .i64 o.length, cmpF bx] w0 fun _ w' => ∃ D', Buf D' 3 1 v o.length ((srtR y.lt o).reverse.map jv) ∧ Trs w0 w' [D, A, bxc p bx] [D', A, bxc p bx] := by
  obtain ⟨ad, c, rfl⟩ := hD.slice
  have S := St.begin H
  refine enter4 53 Try.func45 rfl rfl (by decide) ?_; intro a E
  refine wp_seq_k ?_; intro K hK
  refine region_list ?_
  refine list_pure E rfl rfl (by decide) (rn_move E rfl rfl) ?_; clear E a; intro a E
  refine list_pure E rfl rfl (by decide) (rn_add E rfl rfl rfl (by first | exact wa_lit (y := 1) (by omega) | exact w_in (by omega) | exact w_inu (by omega) | exact rfl)) ?_; clear E a; intro a E
  refine list_pure E rfl rfl (by decide) (rn_assign E rfl rfl) ?_; clear E a; intro a E
  refine wpList_nil ?_
  refine then_k hK ?_; clear hK; clear K
  refine wp_block ?_
  refine wp_loop_ghost (fun (m : Nat) (a : Act) (w' : World) => ∃ (i : Nat) (D' : Chunk), m = o.length + 1 - i ∧ 1 ≤ i ∧ (i ≤ o.length ∨ i = 1) ∧ Buf D' 3 1 (.slice ad o.length c) o.length (((srtR y.lt (o.take i)).reverse ++ o.drop i).map jv) ∧ St w0 [D, A, bxc p bx] w' [D', A, bxc p bx] ∧ Fr a 53 [(0, .slice ad o.length c), (1, .int .i64 0), (2, .int .i64 o.length), (3, cmpF bx), (8, .int .i64 i)]) (o.length + 1 - 1) ?_ ?_
  · exact ⟨1, D, by omega, by omega, .inr rfl, by rw [show (srtR y.lt (o.take 1)).reverse ++ o.drop 1 = o by cases o with | nil => rfl | cons x r => simp [srtR, insR]]; exact hD, S, E.keep (keep_cons rfl (keep_cons rfl (keep_cons rfl (keep_cons rfl (keep_cons rfl keep_nil)))))⟩
  clear E; clear a; (try clear S); rintro m a w ⟨i, D', rfl, hi1, hi, hD', S, E⟩
  refine wp_seq_k ?_; intro K hK
  refine wp_seq_k ?_; intro K hK
  refine region_list ?_
  refine list_pure E rfl rfl (by decide) (rn_move E rfl rfl) ?_; clear E a; intro a E
  refine list_pure E rfl rfl (by decide) (rn_move E rfl rfl) ?_; clear E a; intro a E
  refine list_pure E rfl rfl (by decide) (rn_lss E rfl rfl rfl) ?_; clear E a; intro a E
  refine wpList_nil ?_
  refine then_k hK ?_; clear hK; clear K
  refine if_bool E rfl (fun hb => ?_) (fun hb => ?_)
  · replace hb := Nrm.nrm hb
    refine wp_skip ?_
    refine then_k hK ?_; clear hK; clear K
    refine wp_seq_k ?_; intro K hK
    refine wp_block ?_
    refine wp_seq_k ?_; intro K hK
    have hil : i < o.length := by omega
    obtain ⟨b, rfl⟩ := hD'.addr (by omega)
    obtain ⟨R, hR⟩ : ∃ R, R = srtR y.lt (o.take i) := ⟨_, rfl⟩
    have hRl : R.length = i := by rw [hR, srtR_len, List.length_take]; omega
    have hRm : ∀ z ∈ R, z < y.sizes.length := fun z hz => hlt z (List.mem_of_mem_take ((srtR_perm _ _).mem_iff.1 (hR ▸ hz)))
    rw [← hR, List.drop_eq_getElem_cons hil] at hD'
    obtain ⟨x, hx⟩ : ∃ x, x = o[i] := ⟨_, rfl⟩
    have hxl : x < y.sizes.length := hx ▸ hlt _ (List.getElem_mem hil)
    obtain ⟨T, hT0⟩ : ∃ T, T = o.drop (i + 1) := ⟨_, rfl⟩
    rw [← hx, ← hT0] at hD'
    have hTl : T.length = o.length - (i + 1) := by rw [hT0, List.length_drop]
    refine region_list ?_
    refine list_pure E rfl rfl (by decide) (rn_move E rfl rfl) ?_; clear E a; intro a E
    refine list_pure E rfl rfl (by decide) (rn_assign E rfl rfl) ?_; clear E a; intro a E
    refine wpList_nil ?_
    refine then_k hK ?_; clear hK; clear K
    refine wp_block ?_
    refine wp_loop_ghost (fun (m : Nat) (a : Act) (w' : World) => ∃ (q r : List Nat) (D' : Chunk), m = r.length + 0 ∧ q.length + r.length = i ∧ (∀ z ∈ r, z < y.sizes.length) ∧ insR y.lt x R = q ++ insR y.lt x r ∧ Buf D' 3 1 (.slice (some ⟨b, 0, none⟩) o.length c) o.length (((q ++ x :: r).reverse ++ T).map jv) ∧ St w0 [D, A, bxc p bx] w' [D', A, bxc p bx] ∧ Fr a 53 [(0, .slice (some ⟨b, 0, none⟩) o.length c), (1, .int .i64 0), (2, .int .i64 o.length), (3, cmpF bx), (8, .int .i64 i), (9, .int .i64 r.length)]) (R.length) ?_ ?_
    · exact ⟨[], R, D', rfl, by simpa using hRl, hRm, rfl, by simpa using hD', S, by rw [hRl]; exact E.keep (keep_cons rfl (keep_cons rfl (keep_cons rfl (keep_cons rfl (keep_cons rfl (keep_cons rfl keep_nil))))))⟩
    clear E; clear a; (try clear S); rintro m a w ⟨q, r, D', rfl, hqr, hrm, hins, hD', S, E⟩
    refine wp_seq_k ?_; intro K hK
    refine wp_seq_k ?_; intro K hK
    refine region_mix S (.ofL [(0, 0), (1, 0), (2, 0), (3, 0), (4, 0), (5, 0), (6, 0), (7, 0), (8, 0), (9, 0), (10, 0), (11, 0), (12, 0), (13, 0), (14, 3), (15, 2), (16, 2)]) [D'] (fun h => h.sub (by first | (simp; done) | (simp +contextual; done) | (simp [*]; done))) (by kernel_rfl) (by kernel_rfl) ?_
    clear S; intro w S
    refine mix_pure E rfl rfl rfl (by decide) (fun w h => rn_move E rfl rfl) ?_; clear E a; intro a E
    refine mix_pure E rfl rfl rfl (by decide) (fun w h => rn_move E rfl rfl) ?_; clear E a; intro a E
    refine mix_pure E rfl rfl rfl (by decide) (fun w h => rn_gtr E rfl rfl rfl) ?_; clear E a; intro a E
    refine mix_pure E rfl rfl rfl (by decide) (fun w h => rn_move E rfl rfl) ?_; clear E a; intro a E
    refine guard_split E (t := 21) rfl (fun hb21 => ?_) (fun hb21 => ?_)
    · have hb21n := hb21; replace hb21n := Nrm.nrm hb21n
      obtain ⟨z, r', rfl⟩ : ∃ z r', r = z :: r' := (by cases r with | nil => simp at hb21n | cons z r' => exact ⟨z, r', rfl⟩); have hzl := hrm z (List.mem_cons_self ..); have e1 : (q ++ x :: z :: r').reverse ++ T = (r'.reverse ++ [z]) ++ x :: (q.reverse ++ T) := (by simp); have e2 : (q ++ x :: z :: r').reverse ++ T = r'.reverse ++ z :: (x :: (q.reverse ++ T)) := (by simp); rw [List.length_cons] at E hqr
      refine mix_guard_yes E rfl rfl rfl rfl rfl hb21 rfl (by decide) (fun w h => rn_move E rfl rfl) ?_; clear E a; intro a E
      refine mix_guard_yes E rfl rfl rfl rfl rfl hb21 rfl (by decide) (fun w h => rn_move E rfl rfl) ?_; clear E a; intro a E
      refine mix_guard_yes E rfl rfl rfl rfl rfl hb21 rfl (by decide) (fun w h => rn_move E rfl rfl) ?_; clear E a; intro a E
      refine mix_guard_yes E rfl rfl rfl rfl rfl hb21 rfl (by decide) (fun w h => by first | exact rn_indexAddr1 E rfl rfl rfl rfl rfl rfl (by omega) | exact rn_indexAddr E rfl rfl rfl rfl rfl rfl (by omega) | exact rn_indexAddr_array E rfl rfl rfl rfl rfl rfl (by omega)) ?_; clear E a; intro a E
      refine mix_guard_yes E rfl rfl rfl rfl rfl hb21 rfl (by decide) (fun w h => rn_loadc E rfl rfl rfl ((by have h9 := hD'.rd; rw [e1] at h9; exact h9.midi (i := r'.length + 1) (by simp) (h.at (by repeat (first | exact mm1 | assumption | apply List.Mem.tail)))))) ?_; clear E a; intro a E
      refine mix_guard_yes E rfl rfl rfl rfl rfl hb21 rfl (by decide) (fun w h => rn_move E rfl rfl) ?_; clear E a; intro a E
      refine mix_guard_yes E rfl rfl rfl rfl rfl hb21 rfl (by decide) (fun w h => rn_move E rfl rfl) ?_; clear E a; intro a E
      refine mix_guard_yes E rfl rfl rfl rfl rfl hb21 rfl (by decide) (fun w h => rn_sub E rfl rfl rfl (by first | exact ws_lit (y := 1) (by omega) (by omega) | exact w_in (by omega) | exact w_inu (by omega) | exact rfl)) ?_; clear E a; intro a E
      refine mix_guard_yes E rfl rfl rfl rfl rfl hb21 rfl (by decide) (fun w h => by first | exact rn_indexAddr1 E rfl rfl rfl rfl rfl rfl (by omega) | exact rn_indexAddr E rfl rfl rfl rfl rfl rfl (by omega) | exact rn_indexAddr_array E rfl rfl rfl rfl rfl rfl (by omega)) ?_; clear E a; intro a E
      refine mix_guard_yes E rfl rfl rfl rfl rfl hb21 rfl (by decide) (fun w h => rn_loadc E rfl rfl rfl ((by have h9 := hD'.rd; rw [e2] at h9; exact h9.midi (i := r'.length) (by simp) (h.at (by repeat (first | exact mm1 | assumption | apply List.Mem.tail)))))) ?_; clear E a; intro a E
      refine mix_guard_last E rfl rfl rfl rfl rfl hb21 ?_; refine wp_callc' E rfl (by decide) rfl rfl Try.func27 rfl (by kernel_rfl) rfl (take1_ret p y A hA bx x z hxl hzl _ (S.hp.sel (sel_cons (by repeat (first | exact pk1 | apply pick_tail)) (sel_cons (by repeat (first | exact pk1 | apply pick_tail)) (sel_nil _))))) ?_
      rintro v32 w ⟨g, rfl, hg, hT⟩; clear E a; intro a E
      have S := S.call2 (sel_cons (by repeat (first | exact pk1 | apply pick_tail)) (sel_cons (by repeat (first | exact pk1 | apply pick_tail)) (sel_nil _))) hT
      refine mix_guard_free E rfl rfl rfl rfl rfl hb21 rfl (by decide) (fun w => rn_lss E rfl rfl rfl) ?_; clear E a; intro a E
      refine mix_free E rfl rfl rfl (by decide) (fun w => rn_pick_yes' E rfl rfl hb21 rfl) ?_; clear E a; intro a E
      refine mix_nil ?_
      refine then_k hK ?_; clear hK; clear K
      refine if_bool E rfl (fun hb => ?_) (fun hb => ?_)
      · replace hb := Nrm.nrm hb
        refine wp_skip ?_
        refine then_k hK ?_; clear hK; clear K
        refine wp_seq_k ?_; intro K hK
        refine wp_block ?_
        refine region_mix S (.ofL [(0, 0), (1, 0), (2, 2), (3, 2), (4, 2), (5, 0), (6, 0), (7, 0), (8, 0), (9, 0), (10, 0), (11, 0), (12, 0), (13, 0), (14, 0), (15, 3), (16, 2), (17, 3)]) [D'] (fun h => h.sub (by first | (simp; done) | (simp +contextual; done) | (simp [*]; done))) (by kernel_rfl) (by kernel_rfl) ?_
        clear S; intro w S
        refine mix_pure E rfl rfl rfl (by decide) (fun w h => rn_move E rfl rfl) ?_; clear E a; intro a E
        refine mix_pure E rfl rfl rfl (by decide) (fun w h => rn_move E rfl rfl) ?_; clear E a; intro a E
        refine mix_free E rfl rfl rfl (by decide) (fun w => rn_move E rfl rfl) ?_; clear E a; intro a E
        refine mix_free E rfl rfl rfl (by decide) (fun w => rn_move E rfl rfl) ?_; clear E a; intro a E
        refine mix_free E rfl rfl rfl (by decide) (fun w => rn_sub E rfl rfl rfl (by first | exact ws_lit (y := 1) (by omega) (by omega) | exact w_in (by omega) | exact w_inu (by omega) | exact rfl)) ?_; clear E a; intro a E
        refine mix_pure E rfl rfl rfl (by decide) (fun w h => rn_move E rfl rfl) ?_; clear E a; intro a E
        refine mix_pure E rfl rfl rfl (by decide) (fun w h => rn_move E rfl rfl) ?_; clear E a; intro a E
        refine mix_pure E rfl rfl rfl (by decide) (fun w h => rn_sub E rfl rfl rfl (by first | exact ws_lit (y := 1) (by omega) (by omega) | exact w_in (by omega) | exact w_inu (by omega) | exact rfl)) ?_; clear E a; intro a E
        refine mix_pure E rfl rfl rfl (by decide) (fun w h => by first | exact rn_indexAddr1 E rfl rfl rfl rfl rfl rfl (by omega) | exact rn_indexAddr E rfl rfl rfl rfl rfl rfl (by omega) | exact rn_indexAddr_array E rfl rfl rfl rfl rfl rfl (by omega)) ?_; clear E a; intro a E
        refine mix_pure E rfl rfl rfl (by decide) (fun w h => rn_loadc E rfl rfl rfl ((by have h9 := hD'.rd; rw [e2] at h9; exact h9.midi (i := r'.length) (by simp) (h.at (by repeat (first | exact mm1 | assumption | apply List.Mem.tail)))))) ?_; clear E a; intro a E
        refine mix_pure E rfl rfl rfl (by decide) (fun w h => rn_move E rfl rfl) ?_; clear E a; intro a E
        refine mix_pure E rfl rfl rfl (by decide) (fun w h => rn_move E rfl rfl) ?_; clear E a; intro a E
        refine mix_pure E rfl rfl rfl (by decide) (fun w h => by first | exact rn_indexAddr1 E rfl rfl rfl rfl rfl rfl (by omega) | exact rn_indexAddr E rfl rfl rfl rfl rfl rfl (by omega) | exact rn_indexAddr_array E rfl rfl rfl rfl rfl rfl (by omega)) ?_; clear E a; intro a E
        refine mix_pure E rfl rfl rfl (by decide) (fun w h => rn_loadc E rfl rfl rfl ((by have h9 := hD'.rd; rw [e1] at h9; exact h9.midi (i := r'.length + 1) (by simp) (h.at (by repeat (first | exact mm1 | assumption | apply List.Mem.tail)))))) ?_; clear E a; intro a E
        refine mix_pure E rfl rfl rfl (by decide) (fun w h => by first | exact rn_indexAddr1 E rfl rfl rfl rfl rfl rfl (by omega) | exact rn_indexAddr E rfl rfl rfl rfl rfl rfl (by omega) | exact rn_indexAddr_array E rfl rfl rfl rfl rfl rfl (by omega)) ?_; clear E a; intro a E
        refine mix_last rfl rfl (wp_elem1 E S rfl rfl rfl rfl rfl rfl hD' (by repeat (first | exact pk1 | apply pick_tail)) (i := r'.length + 1) (by simp) (by omega) ?_); clear E S a; intro a w Cs15 E hBs15 S
        refine mix_free E rfl rfl rfl (by decide) (fun w => by first | exact rn_indexAddr1 E rfl rfl rfl rfl rfl rfl (by omega) | exact rn_indexAddr E rfl rfl rfl rfl rfl rfl (by omega) | exact rn_indexAddr_array E rfl rfl rfl rfl rfl rfl (by omega)) ?_; clear E a; intro a E
        refine mix_last rfl rfl (wp_elem1 E S rfl rfl rfl rfl rfl rfl hBs15 (by repeat (first | exact pk1 | apply pick_tail)) (i := r'.length) (by simp) (by omega) ?_); clear E S a; intro a w Cs17 E hBs17 S
        refine mix_nil ?_
        refine in_normal ?_
        refine then_k hK ?_; clear hK; clear K
        refine region_list ?_
        refine list_pure E rfl rfl (by decide) (rn_move E rfl rfl) ?_; clear E a; intro a E
        refine list_pure E rfl rfl (by decide) (rn_sub E rfl rfl rfl (by first | exact ws_lit (y := 1) (by omega) (by omega) | exact w_in (by omega) | exact w_inu (by omega) | exact rfl)) ?_; clear E a; intro a E
        refine list_pure E rfl rfl (by decide) (rn_assign E rfl rfl) ?_; clear E a; intro a E
        refine wpList_nil ?_
        refine then_normal ?_
        exact ⟨_, by simp, q ++ [z], r', Cs17, rfl, by simp; omega, fun u hu => hrm u (List.mem_cons_of_mem _ hu), by rw [hins, insR, if_pos (hg.1 hb)]; simp, by
          have h9 := hBs17
          rw [e2, show r'.length = r'.reverse.length by simp, swap_set] at h9
          simpa using h9, S.front3 (by repeat (first | exact pk1 | apply pick_tail)) (by repeat (first | exact pk1 | apply pick_tail)) (by repeat (first | exact pk1 | apply pick_tail)), E.keep (keep_cons rfl (keep_cons rfl (keep_cons rfl (keep_cons rfl (keep_cons rfl (keep_cons rfl keep_nil))))))⟩
      · replace hb := Nrm.nrm hb
        refine wp_exit ?_
        refine then_exit ?_; clear hK; clear K
        refine then_exit ?_
        refine in_exit ?_
        refine in_normal ?_
        refine then_k hK ?_; clear hK; clear K
        refine region_list ?_
        refine list_pure E rfl rfl (by decide) (rn_move E rfl rfl) ?_; clear E a; intro a E
        refine list_pure E rfl rfl (by decide) (rn_add E rfl rfl rfl (by first | exact wa_lit (y := 1) (by omega) | exact w_in (by omega) | exact w_inu (by omega) | exact rfl)) ?_; clear E a; intro a E
        refine list_pure E rfl rfl (by decide) (rn_assign E rfl rfl) ?_; clear E a; intro a E
        refine wpList_nil ?_
        refine then_normal ?_
        have hs : srtR y.lt (o.take (i + 1)) = q ++ x :: z :: r' := by
          rw [take_succ_at o hil, srtR_snoc, ← hR, ← hx, hins, insR_stop (.inr ⟨z, r', rfl, by rw [← Bool.not_eq_true, ← hg]; exact hb⟩)]
        exact ⟨_, by omega, i + 1, D', rfl, by omega, .inl (by omega), by rw [hs, ← hT0]; exact hD', S.front3 (by repeat (first | exact pk1 | apply pick_tail)) (by repeat (first | exact pk1 | apply pick_tail)) (by repeat (first | exact pk1 | apply pick_tail)), E.keep (keep_cons rfl (keep_cons rfl (keep_cons rfl (keep_cons rfl (keep_cons rfl keep_nil)))))⟩
    · have hb21n := hb21; replace hb21n := Nrm.nrm hb21n
      obtain rfl : r = [] := (by cases r with | nil => rfl | cons z r' => simp at hb21n)
      refine mix_guard_no E rfl rfl rfl rfl rfl hb21 rfl (by decide) ?_; clear E a; intro a E
      refine mix_guard_no E rfl rfl rfl rfl rfl hb21 rfl (by decide) ?_; clear E a; intro a E
      refine mix_guard_no E rfl rfl rfl rfl rfl hb21 rfl (by decide) ?_; clear E a; intro a E
      refine mix_guard_no E rfl rfl rfl rfl rfl hb21 rfl (by decide) ?_; clear E a; intro a E
      refine mix_guard_no E rfl rfl rfl rfl rfl hb21 rfl (by decide) ?_; clear E a; intro a E
      refine mix_guard_no E rfl rfl rfl rfl rfl hb21 rfl (by decide) ?_; clear E a; intro a E
      refine mix_guard_no E rfl rfl rfl rfl rfl hb21 rfl (by decide) ?_; clear E a; intro a E
      refine mix_guard_no E rfl rfl rfl rfl rfl hb21 rfl (by decide) ?_; clear E a; intro a E
      refine mix_guard_no E rfl rfl rfl rfl rfl hb21 rfl (by decide) ?_; clear E a; intro a E
      refine mix_guard_no E rfl rfl rfl rfl rfl hb21 rfl (by decide) ?_; clear E a; intro a E
      refine mix_guard_no_last E rfl rfl rfl rfl rfl hb21 rfl (by decide) ?_; clear E a; intro a E
      refine mix_guard_no2 E rfl rfl rfl rfl rfl hb21 rfl (by decide) ?_; clear E a; intro a E
      refine mix_free E rfl rfl rfl (by decide) (fun w => rn_pick_no' E rfl rfl hb21 rfl) ?_; clear E a; intro a E
      refine mix_nil ?_
      refine then_k hK ?_; clear hK; clear K
      refine if_false' E rfl rfl ?_
      refine wp_exit ?_
      refine then_exit ?_; clear hK; clear K
      refine then_exit ?_
      refine in_exit ?_
      refine in_normal ?_
      refine then_k hK ?_; clear hK; clear K
      refine region_list ?_
      refine list_pure E rfl rfl (by decide) (rn_move E rfl rfl) ?_; clear E a; intro a E
      refine list_pure E rfl rfl (by decide) (rn_add E rfl rfl rfl (by first | exact wa_lit (y := 1) (by omega) | exact w_in (by omega) | exact w_inu (by omega) | exact rfl)) ?_; clear E a; intro a E
      refine list_pure E rfl rfl (by decide) (rn_assign E rfl rfl) ?_; clear E a; intro a E
      refine wpList_nil ?_
      refine then_normal ?_
      have hs : srtR y.lt (o.take (i + 1)) = q ++ x :: [] := by
        rw [take_succ_at o hil, srtR_snoc, ← hR, ← hx, hins]; rfl
      exact ⟨_, by omega, i + 1, D', rfl, by omega, .inl (by omega), by rw [hs, ← hT0]; exact hD', S, E.keep (keep_cons rfl (keep_cons rfl (keep_cons rfl (keep_cons rfl (keep_cons rfl keep_nil)))))⟩
  · replace hb := Nrm.nrm hb
    refine wp_exit ?_
    refine then_exit ?_; clear hK; clear K
    refine then_exit ?_
    refine in_exit ?_
    refine end0 E rfl ?_
    refine ⟨_, rfl, D', ?_, S.tr⟩
    rw [List.take_of_length_le (by omega), List.drop_eq_nil_of_le (by omega), List.append_nil] at hD'
    exact hD'

include hA in
theorem stable_ret (o : List Nat) (hlt : ∀ i ∈ o, i < y.sizes.length) (hl : o.length ≤ 19) (v : Value) (D : Chunk) (hD : Buf D 3 1 v o.length (o.map jv)) (w0 : World) (H : Hp w0 [D, A, bxc p bx]) :
    Ret Try.prog 39 #[v, .int .i64 o.length, cmpF bx] w0 fun _ w' => ∃ D', Buf D' 3 1 v o.length ((srtR y.lt o).reverse.map jv) ∧ Trs w0 w' [D, A, bxc p bx] [D', A, bxc p bx] := by
  have S := St.begin H
  refine enter3 63 Try.func39 rfl rfl (by decide) ?_; intro a E
  refine wp_seq_k ?_; intro K hK
  refine region_list ?_
  refine list_pure E rfl rfl (by decide) (rn_assign E rfl rfl) ?_; clear E a; intro a E
  refine wpList_nil ?_
  refine then_k hK ?_; clear hK; clear K
  refine wp_seq_k ?_; intro K hK
  refine region_list ?_
  refine list_pure E rfl rfl (by decide) (rn_move E rfl rfl) ?_; clear E a; intro a E
  refine list_pure E rfl rfl (by decide) (rn_assign E rfl rfl) ?_; clear E a; intro a E
  refine list_pure E rfl rfl (by decide) (rn_assign E rfl rfl) ?_; clear E a; intro a E
  refine wpList_nil ?_
  refine then_k hK ?_; clear hK; clear K
  refine wp_seq_k ?_; intro K hK
  refine wp_block ?_
  refine wp_loop_ghost (fun (m : Nat) (a : Act) (w' : World) => m = 0 ∧ St w0 [D, A, bxc p bx] w' [D, A, bxc p bx] ∧ Fr a 63 [(0, v), (1, .int .i64 o.length), (2, cmpF bx), (6, .int .i64 20), (7, .int .i64 0), (8, .int .i64 20)]) (0) ?_ ?_
  · exact ⟨rfl, S, E.keep (keep_cons rfl (keep_cons rfl (keep_cons rfl (keep_cons rfl (keep_cons rfl (keep_cons rfl keep_nil))))))⟩
  clear E; clear a; (try clear S); rintro m a w ⟨rfl, S, E⟩
  refine wp_seq_k ?_; intro K hK
  refine wp_seq_k ?_; intro K hK
  refine region_list ?_
  refine list_pure E rfl rfl (by decide) (rn_move E rfl rfl) ?_; clear E a; intro a E
  refine list_pure E rfl rfl (by decide) (rn_move E rfl rfl) ?_; clear E a; intro a E
  refine list_pure E rfl rfl (by decide) (rn_leq E rfl rfl rfl) ?_; clear E a; intro a E
  refine wpList_nil ?_
  refine then_k hK ?_; clear hK; clear K
  refine if_false' E rfl (decide_eq_false (by omega)) ?_
  refine wp_exit ?_
  refine then_exit ?_; clear hK; clear K
  refine then_exit ?_
  refine in_exit ?_
  refine then_k hK ?_; clear hK; clear K
  refine wp_seq_k ?_; intro K hK
  refine region_list ?_
  refine list_pure E rfl rfl (by decide) (rn_move E rfl rfl) ?_; clear E a; intro a E
  refine list_pure E rfl rfl (by decide) (rn_move E rfl rfl) ?_; clear E a; intro a E
  refine list_pure E rfl rfl (by decide) (rn_move E rfl rfl) ?_; clear E a; intro a E
  refine list_pure E rfl rfl (by decide) (rn_move E rfl rfl) ?_; clear E a; intro a E
  refine list_call E rfl rfl (by decide) rfl Try.func45 rfl (by kernel_rfl) rfl (isort_ret p y A hA bx o hlt (by omega) v D hD _ S.hp) ?_
  rintro v27 w ⟨D', hD', hT⟩; clear E a; intro a E
  have S := S.all hT
  refine wpList_nil ?_
  refine then_k hK ?_; clear hK; clear K
  refine wp_block ?_
  refine wp_loop_ghost (fun (m : Nat) (a : Act) (w' : World) => m = 0 ∧ St w0 [D, A, bxc p bx] w' [D', A, bxc p bx] ∧ Fr a 63 [(0, v), (1, .int .i64 o.length), (2, cmpF bx), (6, .int .i64 20)]) (0) ?_ ?_
  · exact ⟨rfl, S, E.keep (keep_cons rfl (keep_cons rfl (keep_cons rfl (keep_cons rfl keep_nil))))⟩
  clear E; clear a; (try clear S); rintro m a w ⟨rfl, S, E⟩
  refine wp_seq_k ?_; intro K hK
  refine wp_seq_k ?_; intro K hK
  refine region_list ?_
  refine list_pure E rfl rfl (by decide) (rn_move E rfl rfl) ?_; clear E a; intro a E
  refine list_pure E rfl rfl (by decide) (rn_move E rfl rfl) ?_; clear E a; intro a E
  refine list_pure E rfl rfl (by decide) (rn_lss E rfl rfl rfl) ?_; clear E a; intro a E
  refine wpList_nil ?_
  refine then_k hK ?_; clear hK; clear K
  refine if_false' E rfl (decide_eq_false (by omega)) ?_
  refine wp_exit ?_
  refine then_exit ?_; clear hK; clear K
  refine then_exit ?_
  refine in_exit ?_
  refine end0 E rfl ?_
  exact ⟨_, rfl, D', hD', S.tr⟩

include hA in
theorem sort_ret (o : List Nat) (hlt : ∀ i ∈ o, i < y.sizes.length) (hl : o.length ≤ 19) (v : Value) (D : Chunk) (hD : Buf D 3 1 v o.length (o.map jv)) (w0 : World) (H : Hp w0 [D, A, bxc p bx]) :
    Ret Try.prog 26 #[v, cmpF bx] w0 fun _ w' => ∃ D', Buf D' 3 1 v o.length ((srtR y.lt o).reverse.map jv) ∧ Trs w0 w' [D, A, bxc p bx] [D', A, bxc p bx] := by
  have S := St.begin H
  obtain ⟨ad, c, rfl⟩ := hD.slice
  refine enter2 9 Try.func26 rfl rfl (by decide) ?_; intro a E
  refine region_list ?_
  refine list_pure E rfl rfl (by decide) (rn_move E rfl rfl) ?_; clear E a; intro a E
  refine list_pure E rfl rfl (by decide) (rn_move E rfl rfl) ?_; clear E a; intro a E
  refine list_pure E rfl rfl (by decide) (by first | exact rn_len E rfl rfl rfl | exact rn_len_str E rfl rfl rfl | exact rn_len_string E rfl rfl rfl) ?_; clear E a; intro a E
  refine list_pure E rfl rfl (by decide) (rn_move E rfl rfl) ?_; clear E a; intro a E
  refine list_call E rfl rfl (by decide) rfl Try.func39 rfl (by kernel_rfl) rfl (stable_ret p y A hA bx o hlt hl _ D hD _ S.hp) ?_
  rintro v8 w ⟨D', hD', hT⟩; clear E a; intro a E
  have S := S.all hT
  refine wpList_nil ?_
  refine end0 E rfl ?_
  exact ⟨_, rfl, D', hD', S.tr⟩
end
end Go.Proofs.Ytenhebjhoicpjaa
