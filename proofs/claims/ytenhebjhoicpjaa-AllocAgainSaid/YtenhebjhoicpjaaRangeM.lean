/-
  The program's set of ranges: looking things up.
-/
import Derived.Test.YtenhebjhoicpjaaRangeS
namespace Go.Sl

/-- A set's list: spans that may be, one behind the other, none touching the next. -/
structure Okl (l : List Sp) : Prop where
  may : ∀ x ∈ l, x.may = true
  gap : l.Pairwise (fun a b => a.fin < b.at_)
  len : l.length ≤ 4096

theorem Sp.may_iff {x : Sp} : x.may = true ↔ 0 ≤ x.at_ ∧ 1 ≤ x.many ∧ x.at_ ≤ 1099511627776 ∧ x.many ≤ 1099511627776 - x.at_ := by simp [Sp.may]
theorem Okl.at {l : List Sp} (h : Okl l) {i : Nat} (hi : i < l.length) : 0 ≤ l[i].at_ ∧ 1 ≤ l[i].many ∧ l[i].at_ ≤ 1099511627776 ∧ l[i].many ≤ 1099511627776 - l[i].at_ := Sp.may_iff.1 (h.may _ (List.getElem_mem hi))
theorem Okl.lt {l : List Sp} (h : Okl l) {i j : Nat} (hij : i < j) (hj : j < l.length) : l[i].fin < l[j].at_ := List.pairwise_iff_getElem.1 h.gap i j (by omega) hj hij
theorem Okl.fin_le {l : List Sp} (h : Okl l) {i j : Nat} (hij : i ≤ j) (hj : j < l.length) : l[i].fin ≤ l[j].fin := by
  rcases Nat.eq_or_lt_of_le hij with rfl | hij
  · exact Int.le_refl _
  · have h1 := h.lt hij hj
    have h2 := h.at hj
    simp only [Sp.fin] at *; omega

/-- Where the spans that end behind a number begin. -/
def Cut (l : List Sp) (n : Int) (k : Nat) : Prop := k ≤ l.length ∧ (∀ i (h : i < l.length), i < k → l[i].fin ≤ n) ∧ ∀ i (h : i < l.length), k ≤ i → n < l[i].fin
end Go.Sl

namespace Go.Proofs.Ytenhebjhoicpjaa
open Go.Sl
set_option maxRecDepth 10000

/-- A set's block and its spans. -/
def SetC (p : Nat) (l : List Sp) (mn : Int) (A : Chunk) : Prop :=
  ∃ v C, A = [(p, cel [v, .int .i64 mn] 69)] ++ C ∧ Buf C 31 2 v l.length (l.flatMap Sp.lay)

theorem behind_ret (p : Nat) (l : List Sp) (mn n : Int) (A : Chunk) (w0 : World) (hA : SetC p l mn A) (hG : Okl l) (H : Hp w0 [A]) :
    Ret Try.prog 36 #[ptr p, .int .i64 n] w0 fun u w' => ∃ k : Nat, u = .int .i64 k ∧ Cut l n k ∧ Trs w0 w' [A] [A] := by
  obtain ⟨v, C, rfl, hB⟩ := hA
  obtain ⟨ad, c, rfl⟩ := hB.slice
  have S := (St.begin H).split
  have hlen := hG.len
  refine enter2 34 Try.func36 rfl rfl (by decide) ?_; intro a E
  refine wp_seq_k ?_; intro K hK
  refine region_list ?_
  refine list_pure E rfl rfl (by decide) (rn_assign E rfl rfl) ?_; clear E a; intro a E
  refine wpList_nil ?_
  refine then_k hK ?_; clear hK; clear K
  refine wp_seq_k ?_; intro K hK
  refine region_mix0 S (.ofL [(0, 0), (1, 0), (2, 0), (3, 0), (4, 0), (5, 0), (6, 0)]) (by kernel_rfl) (by kernel_rfl) ?_
  clear S; intro w S
  refine mix_pure E rfl rfl rfl (by decide) (fun w h => rn_move E rfl rfl) ?_; clear E a; intro a E
  refine mix_pure E rfl rfl rfl (by decide) (fun w h => rn_nilCheck E rfl rfl) ?_; clear E a; intro a E
  refine mix_pure E rfl rfl rfl (by decide) (fun w h => by first | exact rn_fieldAddr0 (q := 0) E rfl rfl rfl | exact rn_fieldAddr (q := 0) E rfl rfl rfl) ?_; clear E a; intro a E
  refine mix_pure E rfl rfl rfl (by decide) (fun w h => by first | exact rn_load E rfl rfl rfl (h.one (by repeat (first | exact mm1 | assumption | apply List.Mem.tail))) rfl | exact rn_loadc E rfl rfl rfl (by assumption)) ?_; clear E a; intro a E
  refine mix_pure E rfl rfl rfl (by decide) (fun w h => by first | exact rn_len E rfl rfl rfl | exact rn_len_str E rfl rfl rfl | exact rn_len_string E rfl rfl rfl) ?_; clear E a; intro a E
  refine mix_pure E rfl rfl rfl (by decide) (fun w h => rn_assign E rfl rfl) ?_; clear E a; intro a E
  refine mix_pure E rfl rfl rfl (by decide) (fun w h => rn_assign E rfl rfl) ?_; clear E a; intro a E
  refine mix_nil ?_
  refine then_k hK ?_; clear hK; clear K
  refine wp_seq_k ?_; intro K hK
  refine wp_block ?_
  refine wp_loop_ghost (fun (m : Nat) (a : Act) (w' : World) => ∃ lo hi : Nat, m = hi - lo ∧ lo ≤ hi ∧ hi ≤ l.length ∧ (∀ i (h : i < l.length), i < lo → l[i].fin ≤ n) ∧ (∀ i (h : i < l.length), hi ≤ i → n < l[i].fin) ∧ St w0 [[(p, cel [.slice ad l.length c, .int .i64 mn] 69)] ++ C] w' [[(p, cel [.slice ad l.length c, .int .i64 mn] 69)], C] ∧ Fr a 34 [(0, ptr p), (1, .int .i64 n), (5, .int .i64 lo), (6, .int .i64 hi)]) (l.length - 0) ?_ ?_
  · exact ⟨0, l.length, rfl, by omega, by omega, fun i _ h => by omega, fun i h h2 => by omega, S, E.keep (keep_cons rfl (keep_cons rfl (keep_cons rfl (keep_cons rfl keep_nil))))⟩
  clear E; clear a; (try clear S); rintro m a w ⟨lo, hi, rfl, hlh, hhl, h1, h2, S, E⟩
  refine wp_seq_k ?_; intro K hK
  refine wp_seq_k ?_; intro K hK
  refine region_list ?_
  refine list_pure E rfl rfl (by decide) (rn_move E rfl rfl) ?_; clear E a; intro a E
  refine list_pure E rfl rfl (by decide) (rn_move E rfl rfl) ?_; clear E a; intro a E
  refine list_pure E rfl rfl (by decide) (rn_lss E rfl rfl rfl) ?_; clear E a; intro a E
  refine wpList_nil ?_
  refine then_k hK ?_; clear hK; clear K
  refine if_bool E rfl (fun hb => ?_) (fun hb => ?_)
  · replace hb := Nrm.nrm hb
    refine wp_skip ?_
    refine then_k hK ?_; clear hK; clear K
    refine wp_block ?_
    refine wp_seq_k ?_; intro K hK
    refine region_list ?_
    refine list_pure E rfl rfl (by decide) (rn_move E rfl rfl) ?_; clear E a; intro a E
    refine list_pure E rfl rfl (by decide) (rn_move E rfl rfl) ?_; clear E a; intro a E
    refine list_pure E rfl rfl (by decide) (rn_add E rfl rfl rfl (by first | exact wa1 (by omega) | exact w_in (by omega) | exact w_inu (by omega) | exact rfl)) ?_; clear E a; intro a E
    refine list_pure E rfl rfl (by decide) (rn_quo E rfl rfl rfl (by decide) (by first | exact wq_lit (y := 2) (by omega) | exact wq_litu (y := 2) (by omega) | exact rfl)) ?_; clear E a; intro a E
    refine list_pure E rfl rfl (by decide) (rn_assign E rfl rfl) ?_; clear E a; intro a E
    refine wpList_nil ?_
    refine then_k hK ?_; clear hK; clear K
    refine wp_seq_k ?_; intro K hK
    obtain ⟨b, off, rfl⟩ := hB.rd.addr (by omega)
    have hmid : (lo + hi) / 2 < l.length := by omega
    have hcell := hB.rd.elem (lay := Sp.lay) Sp.lay_len (S.stab.at (by repeat (first | exact mm1 | assumption | apply List.Mem.tail))) (i := (lo + hi) / 2) hmid
    have hat := hG.at hmid
    refine region_list ?_
    refine list_pure E rfl rfl (by decide) (rn_move E rfl rfl) ?_; clear E a; intro a E
    refine list_pure E rfl rfl (by decide) (rn_nilCheck E rfl rfl) ?_; clear E a; intro a E
    refine list_pure E rfl rfl (by decide) (by first | exact rn_fieldAddr0 (q := 0) E rfl rfl rfl | exact rn_fieldAddr (q := 0) E rfl rfl rfl) ?_; clear E a; intro a E
    refine list_pure E rfl rfl (by decide) (by first | exact rn_load E rfl rfl rfl (S.get (by repeat (first | exact pk1 | apply pick_tail))) rfl | exact rn_loadc E rfl rfl rfl (by assumption)) ?_; clear E a; intro a E
    refine list_pure E rfl rfl (by decide) (rn_move E rfl rfl) ?_; clear E a; intro a E
    refine list_pure E rfl rfl (by decide) (by first | exact rn_indexAddr1 E rfl rfl rfl rfl rfl rfl (by omega) | exact rn_indexAddr E rfl rfl rfl rfl rfl rfl (by omega) | exact rn_indexAddr_array E rfl rfl rfl rfl rfl rfl (by omega)) ?_; clear E a; intro a E
    refine list_pure E rfl rfl (by decide) (rn_load_aggc (vs := [_, _]) E rfl rfl rfl rfl (hcell)) ?_; clear E a; intro a E
    refine list_call E rfl rfl (by decide) rfl Try.func37 rfl (by kernel_rfl) rfl (end_ret l[(lo + hi) / 2] (by omega) _) ?_
    rintro v27 w ⟨rfl, hT⟩; clear E a; intro a E
    have S := S.quiet hT
    refine list_pure E rfl rfl (by decide) (rn_move E rfl rfl) ?_; clear E a; intro a E
    refine list_pure E rfl rfl (by decide) (rn_gtr E rfl rfl rfl) ?_; clear E a; intro a E
    refine wpList_nil ?_
    refine then_k hK ?_; clear hK; clear K
    refine if_bool E rfl (fun hb => ?_) (fun hb => ?_)
    · replace hb := Nrm.nrm hb
      refine region_list ?_
      refine list_pure E rfl rfl (by decide) (rn_move E rfl rfl) ?_; clear E a; intro a E
      refine list_pure E rfl rfl (by decide) (rn_assign E rfl rfl) ?_; clear E a; intro a E
      refine wpList_nil ?_
      refine in_normal ?_
      refine then_normal ?_
      exact ⟨_, by omega, lo, (lo + hi) / 2, rfl, by omega, by omega, h1, fun i h hi2 => Int.lt_of_lt_of_le hb (hG.fin_le hi2 h), S, E.keep (keep_cons rfl (keep_cons rfl (keep_cons rfl (keep_cons rfl keep_nil))))⟩
    · replace hb := Nrm.nrm hb
      refine region_list ?_
      refine list_pure E rfl rfl (by decide) (rn_move E rfl rfl) ?_; clear E a; intro a E
      refine list_pure E rfl rfl (by decide) (rn_add E rfl rfl rfl (by first | exact wa_lit (y := 1) (by omega) | exact w_in (by omega) | exact w_inu (by omega) | exact rfl)) ?_; clear E a; intro a E
      refine list_pure E rfl rfl (by decide) (rn_assign E rfl rfl) ?_; clear E a; intro a E
      refine wpList_nil ?_
      refine in_normal ?_
      refine then_normal ?_
      exact ⟨_, by omega, (lo + hi) / 2 + 1, hi, rfl, by omega, by omega, fun i h hi2 => Int.le_trans (hG.fin_le (show i ≤ (lo + hi) / 2 by omega) hmid) (by omega), h2, S, E.keep (keep_cons rfl (keep_cons rfl (keep_cons rfl (keep_cons rfl keep_nil))))⟩
  · replace hb := Nrm.nrm hb
    refine wp_exit ?_
    refine then_exit ?_; clear hK; clear K
    refine then_exit ?_
    refine in_exit ?_
    refine then_k hK ?_; clear hK; clear K
    refine wp_seq_k ?_; intro K hK
    refine region_list ?_
    refine list_pure E rfl rfl (by decide) (rn_move E rfl rfl) ?_; clear E a; intro a E
    refine list_pure E rfl rfl (by decide) (rn_assign E rfl rfl) ?_; clear E a; intro a E
    refine wpList_nil ?_
    refine then_k hK ?_; clear hK; clear K
    refine wp_ret ?_
    refine ret1 E rfl rfl ?_
    obtain rfl : lo = hi := by omega
    exact ⟨_, rfl, lo, rfl, ⟨hhl, h1, h2⟩, S.join.tr⟩

theorem many_ret (p : Nat) (l : List Sp) (mn : Int) (A : Chunk) (w0 : World) (hA : SetC p l mn A) (H : Hp w0 [A]) :
    Ret Try.prog 29 #[ptr p] w0 fun u w' => u = .int .i64 mn ∧ Trs w0 w' [A] [A] := by
  obtain ⟨v, C, rfl, hB⟩ := hA
  have S := (St.begin H).split
  refine enter1 7 Try.func29 rfl rfl (by decide) ?_; intro a E
  refine wp_seq_k ?_; intro K hK
  refine region_list ?_
  refine list_pure E rfl rfl (by decide) (rn_assign E rfl rfl) ?_; clear E a; intro a E
  refine wpList_nil ?_
  refine then_k hK ?_; clear hK; clear K
  refine wp_seq_k ?_; intro K hK
  refine region_list ?_
  refine list_pure E rfl rfl (by decide) (rn_move E rfl rfl) ?_; clear E a; intro a E
  refine list_pure E rfl rfl (by decide) (rn_nilCheck E rfl rfl) ?_; clear E a; intro a E
  refine list_pure E rfl rfl (by decide) (by first | exact rn_fieldAddr0 (q := 1) E rfl rfl rfl | exact rn_fieldAddr (q := 1) E rfl rfl rfl) ?_; clear E a; intro a E
  refine list_pure E rfl rfl (by decide) (by first | exact rn_load E rfl rfl rfl (S.get (by repeat (first | exact pk1 | apply pick_tail))) rfl | exact rn_loadc E rfl rfl rfl (by assumption)) ?_; clear E a; intro a E
  refine list_pure E rfl rfl (by decide) (rn_assign E rfl rfl) ?_; clear E a; intro a E
  refine wpList_nil ?_
  refine then_k hK ?_; clear hK; clear K
  refine wp_ret ?_
  refine ret1 E rfl rfl ?_
  exact ⟨_, rfl, rfl, S.join.tr⟩

theorem new_ret (w0 : World) : Ret Try.prog 21 #[] w0 fun u w' => ∃ p A, u = ptr p ∧ SetC p [] 0 A ∧ Trs w0 w' [] [A] := by
  have S := St.begin (hp_nil w0)
  refine enter0 3 Try.func21 rfl rfl ?_; intro a E
  refine wp_seq_k ?_; intro K hK
  refine region_list ?_
  refine list_pure E rfl rfl (by decide) (rn_assign E rfl rfl) ?_; clear E a; intro a E
  refine wpList_nil ?_
  refine then_k hK ?_; clear hK; clear K
  refine wp_seq_k ?_; intro K hK
  refine region_list ?_
  refine list_pure E rfl rfl (by decide) (rn_build (cells := [_, _]) E rfl rfl rfl) ?_; clear E a; intro a E
  refine list_wp rfl (wp_box E S rfl rfl (by decide) rfl rfl ?_); clear E S a; intro a w b2 E S
  refine list_pure E rfl rfl (by decide) (rn_assign E rfl rfl) ?_; clear E a; intro a E
  refine wpList_nil ?_
  refine then_k hK ?_; clear hK; clear K
  refine wp_ret ?_
  refine ret1 E rfl rfl ?_
  exact ⟨_, rfl, b2, _, rfl, ⟨.slice none 0 0, [], by rw [List.append_nil], Buf.nil _ _⟩, S.tr⟩
end Go.Proofs.Ytenhebjhoicpjaa
