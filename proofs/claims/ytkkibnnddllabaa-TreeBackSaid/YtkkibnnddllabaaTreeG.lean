/-
  Objects as blocks: TreeGrows.
-/
import Derived.Test.YtkkibnnddllabaaTreeI
namespace Go.Sl
def covB (L : List Sp) (n : Int) : Bool := L.any fun x => decide (x.at_ ≤ n ∧ n < x.fin)
theorem covB_iff (L : List Sp) (n : Int) : covB L n = true ↔ ∃ x ∈ L, x.at_ ≤ n ∧ n < x.fin := by simp [covB]
theorem snAdd_cov {out : List Sp} {a m n : Int} (hm : 0 ≤ m) (ho : ∀ x ∈ out, 0 ≤ x.many) : (∃ x ∈ snAdd out a m, x.at_ ≤ n ∧ n < x.fin) ↔ (∃ x ∈ out, x.at_ ≤ n ∧ n < x.fin) ∨ (a ≤ n ∧ n < a + m) := by
  rcases last_or out with rfl | ⟨ys, y, rfl⟩
  · rw [snAdd_nil]; simp [Sp.fin]
  · by_cases c : y.fin = a
    · rw [snAdd_hit c]
      have hy := ho y (by simp)
      simp only [List.mem_append, List.mem_singleton]
      constructor
      · rintro ⟨x, hx | rfl, h1, h2⟩
        · exact .inl ⟨x, .inl hx, h1, h2⟩
        · simp only [Sp.fin] at *
          by_cases q : n < a
          · exact .inl ⟨y, .inr rfl, h1, by omega⟩
          · exact .inr ⟨by omega, by omega⟩
      · rintro (⟨x, hx | rfl, h1, h2⟩ | ⟨h1, h2⟩)
        · exact ⟨x, .inl hx, h1, h2⟩
        · exact ⟨_, .inr rfl, h1, by simp only [Sp.fin] at *; omega⟩
        · exact ⟨_, .inr rfl, by simp only [Sp.fin] at *; omega, by simp only [Sp.fin] at *; omega⟩
    · rw [snAdd_miss c]
      simp only [List.mem_append, List.mem_singleton]
      constructor
      · rintro ⟨x, hx | rfl, h1, h2⟩
        · exact .inl ⟨x, hx, h1, h2⟩
        · exact .inr ⟨h1, h2⟩
      · rintro (⟨x, hx, h1, h2⟩ | ⟨h1, h2⟩)
        · exact ⟨x, .inl hx, h1, h2⟩
        · exact ⟨_, .inr rfl, h1, h2⟩
theorem sincN_cov (size : Int) (l : List Pt) (txg : Nat) (n : Int) : ∀ k, (∃ x ∈ sincN size l txg k, x.at_ ≤ n ∧ n < x.fin) ↔ ∃ i : Nat, i < k ∧ 1024 * (i : Int) ≤ n ∧ n < 1024 * (i : Int) + min 1024 (size - 1024 * i) ∧ snSkip (l.getD i ptZero) txg = false
  | 0 => by simp [sincN]
  | k + 1 => by
    have ih := sincN_cov size l txg n k
    have hok := sincN_ok size l txg k
    have hlt : (∃ i : Nat, i < k + 1 ∧ 1024 * (i : Int) ≤ n ∧ n < 1024 * (i : Int) + min 1024 (size - 1024 * i) ∧ snSkip (l.getD i ptZero) txg = false) ↔
        (∃ i : Nat, i < k ∧ 1024 * (i : Int) ≤ n ∧ n < 1024 * (i : Int) + min 1024 (size - 1024 * i) ∧ snSkip (l.getD i ptZero) txg = false) ∨ (1024 * (k : Int) ≤ n ∧ n < 1024 * (k : Int) + min 1024 (size - 1024 * k) ∧ snSkip (l.getD k ptZero) txg = false) := by
      constructor
      · rintro ⟨i, hi, h⟩
        rcases Nat.lt_or_ge i k with c | c
        · exact .inl ⟨i, c, h⟩
        · obtain rfl : i = k := by omega
          exact .inr h
      · rintro (⟨i, hi, h⟩ | h)
        · exact ⟨i, by omega, h⟩
        · exact ⟨k, by omega, h⟩
    rw [hlt, ← ih, sincN, snStep]
    by_cases c1 : size ≤ 1024 * (k : Int)
    · rw [if_pos c1]
      constructor
      · exact .inl
      · rintro (h | ⟨h1, h2, -⟩)
        · exact h
        · omega
    · rw [if_neg c1]
      cases c2 : snSkip (l.getD k ptZero) txg with
      | true => simp
      | false =>
        simp only [Bool.false_eq_true, if_false]
        rw [snAdd_cov (by omega) (fun x hx => by have := (hok.each x hx).2.2.1; omega)]
        simp
theorem sinc_more {size : Int} {l : List Pt} {t u : Nat} (h : t ≤ u) {n : Int} (hc : covB (sinc size l u) n = true) : covB (sinc size l t) n = true := by
  rw [covB_iff, sinc, sincN_cov] at *
  obtain ⟨i, hi, h1, h2, h3⟩ := hc
  refine ⟨i, hi, h1, h2, ?_⟩
  simp only [snSkip, Bool.or_eq_false_iff, decide_eq_false_iff_not] at *
  exact ⟨h3.1, by omega⟩
theorem cov_self {size : Int} {l : List Pt} {t : Nat} {i : Nat} (h : i < (sinc size l t).length) {n : Int} (h1 : (sinc size l t)[i].at_ ≤ n) (h2 : n < (sinc size l t)[i].fin) : covB (sinc size l t) n = true :=
  (covB_iff _ _).2 ⟨_, List.getElem_mem h, h1, h2⟩
end Go.Sl
namespace Go.Proofs.Ytkkibnnddllabaa
open Go.Sl
set_option maxRecDepth 10000

theorem covers_ret (Q : Chunk) (v : Value) (L : List Sp) (n : Int) (hQ : Rd Q 2 v L.length (L.flatMap Sp.lay)) (hw : ∀ x ∈ L, -9223372036854775808 ≤ x.at_ + x.many ∧ x.at_ + x.many ≤ 9223372036854775807) (w0 : World) (H : Hp w0 [Q]) :
    Ret Try.prog 28 #[v, .int .i64 n] w0 fun u w' => u = .bool (covB L n) ∧ Trs w0 w' [Q] [Q] := by
  have S := St.begin H
  obtain ⟨ad, c, rfl⟩ := hQ.slice
  have hmx : L.length ≤ 9223372036854775807 := hQ.2.2.1
  refine enter2 34 Try.func28 rfl rfl (by decide) ?_; intro a E
  refine wp_seq_k ?_; intro K hK
  refine region_list ?_
  refine list_pure E rfl rfl (by decide) (rn_assign E rfl rfl) ?_; clear E a; intro a E
  refine wpList_nil ?_
  refine then_k hK ?_; clear hK; clear K
  refine wp_seq_k ?_; intro K hK
  refine wp_seq_k ?_; intro K hK
  refine region_list ?_
  refine list_pure E rfl rfl (by decide) (rn_assign E rfl rfl) ?_; clear E a; intro a E
  refine wpList_nil ?_
  refine then_k hK ?_; clear hK; clear K
  refine wp_block ?_
  refine wp_loop_ghost (fun (m : Nat) (a : Act) (w' : World) => ∃ i : Nat, m = L.length - i ∧ i ≤ L.length ∧ (∀ x ∈ L.take i, ¬ (x.at_ ≤ n ∧ n < x.fin)) ∧ St w0 [Q] w' [Q] ∧ Fr a 34 [(0, .slice ad L.length c), (1, .int .i64 n), (5, .int .i64 i)]) (L.length - 0) ?_ ?_
  · exact ⟨0, rfl, by omega, by simp, S, E.keep (keep_cons rfl (keep_cons rfl (keep_cons rfl keep_nil)))⟩
  clear E; clear a; rintro m a w ⟨i, rfl, hi, hno, S, E⟩
  refine wp_seq_k ?_; intro K hK
  refine wp_seq_k ?_; intro K hK
  refine region_list ?_
  refine list_pure E rfl rfl (by decide) (rn_move E rfl rfl) ?_; clear E a; intro a E
  refine list_pure E rfl rfl (by decide) (rn_move E rfl rfl) ?_; clear E a; intro a E
  refine list_pure E rfl rfl (by decide) (by first | exact rn_len E rfl rfl rfl | exact rn_len_str E rfl rfl rfl | exact rn_len_string E rfl rfl rfl) ?_; clear E a; intro a E
  refine list_pure E rfl rfl (by decide) (rn_lss E rfl rfl rfl) ?_; clear E a; intro a E
  refine wpList_nil ?_
  refine then_k hK ?_; clear hK; clear K
  refine if_bool E rfl (fun hb => ?_) (fun hb => ?_)
  · first | with_reducible replace hb := n1 hb | with_reducible replace hb := n2 hb | with_reducible replace hb := n3 hb | with_reducible replace hb := n4 hb | with_reducible replace hb := n5 hb | with_reducible replace hb := n6 hb | replace hb := n1 hb | replace hb := n2 hb | replace hb := n3 hb | replace hb := n4 hb | replace hb := n5 hb | replace hb := n6 hb | skip
    refine wp_skip ?_
    refine then_k hK ?_; clear hK; clear K
    refine wp_seq_k ?_; intro K hK
    refine wp_block ?_
    refine wp_seq_k ?_; intro K hK
    have hib : i < L.length := by omega
    have hwi := hw _ (List.getElem_mem hib)
    obtain ⟨g, off, rfl⟩ := hQ.addr (by omega)
    refine region_mix0 S (.ofL [(0, 0), (1, 0), (2, 0), (3, 0), (4, 0), (5, 0), (6, 0), (7, 0), (8, 0), (9, 0), (10, 0), (11, 0), (12, 0), (13, 0), (14, 0), (15, 0), (16, 0), (17, 0), (18, 0), (19, 0), (20, 0), (21, 0)]) (by kernel_rfl) (by kernel_rfl) ?_
    clear S; intro w S
    refine mix_pure E rfl rfl rfl (by decide) (fun w h => rn_move E rfl rfl) ?_; clear E a; intro a E
    refine mix_pure E rfl rfl rfl (by decide) (fun w h => rn_move E rfl rfl) ?_; clear E a; intro a E
    refine mix_pure E rfl rfl rfl (by decide) (fun w h => rn_move E rfl rfl) ?_; clear E a; intro a E
    refine mix_pure E rfl rfl rfl (by decide) (fun w h => by first | exact rn_indexAddr1 E rfl rfl rfl rfl rfl rfl (by omega) | exact rn_indexAddr E rfl rfl rfl rfl rfl rfl (by omega) | exact rn_indexAddr_array E rfl rfl rfl rfl rfl rfl (by omega)) ?_; clear E a; intro a E
    refine mix_pure E rfl rfl rfl (by decide) (fun w h => by first | exact rn_fieldAddr0 (q := 0) E rfl rfl rfl | exact rn_fieldAddr (q := 0) E rfl rfl rfl) ?_; clear E a; intro a E
    refine mix_pure E rfl rfl rfl (by decide) (fun w h => rn_loadc E rfl rfl rfl (hQ.elem (lay := Sp.lay) Sp.lay_len (h.at (by first | exact mm1 | exact mm2 | exact mm3 | exact mm4 | exact mm5 | exact mm6 | exact mm7 | exact mm8)) (i := i) hib 0 _ rfl)) ?_; clear E a; intro a E
    refine mix_pure E rfl rfl rfl (by decide) (fun w h => rn_geq E rfl rfl rfl) ?_; clear E a; intro a E
    refine mix_pure E rfl rfl rfl (by decide) (fun w h => rn_move E rfl rfl) ?_; clear E a; intro a E
    refine guard_split E (t := 19) rfl (fun hb19 => ?_) (fun hb19 => ?_)
    · have hb19n := hb19; first | with_reducible replace hb19n := n1 hb19n | with_reducible replace hb19n := n2 hb19n | with_reducible replace hb19n := n3 hb19n | with_reducible replace hb19n := n4 hb19n | with_reducible replace hb19n := n5 hb19n | with_reducible replace hb19n := n6 hb19n | replace hb19n := n1 hb19n | replace hb19n := n2 hb19n | replace hb19n := n3 hb19n | replace hb19n := n4 hb19n | replace hb19n := n5 hb19n | replace hb19n := n6 hb19n | skip
      refine mix_guard_yes E rfl rfl rfl rfl rfl hb19 rfl (by decide) (fun w h => rn_move E rfl rfl) ?_; clear E a; intro a E
      refine mix_guard_yes E rfl rfl rfl rfl rfl hb19 rfl (by decide) (fun w h => rn_move E rfl rfl) ?_; clear E a; intro a E
      refine mix_guard_yes E rfl rfl rfl rfl rfl hb19 rfl (by decide) (fun w h => rn_move E rfl rfl) ?_; clear E a; intro a E
      refine mix_guard_yes E rfl rfl rfl rfl rfl hb19 rfl (by decide) (fun w h => by first | exact rn_indexAddr1 E rfl rfl rfl rfl rfl rfl (by omega) | exact rn_indexAddr E rfl rfl rfl rfl rfl rfl (by omega) | exact rn_indexAddr_array E rfl rfl rfl rfl rfl rfl (by omega)) ?_; clear E a; intro a E
      refine mix_guard_yes E rfl rfl rfl rfl rfl hb19 rfl (by decide) (fun w h => by first | exact rn_fieldAddr0 (q := 0) E rfl rfl rfl | exact rn_fieldAddr (q := 0) E rfl rfl rfl) ?_; clear E a; intro a E
      refine mix_guard_yes E rfl rfl rfl rfl rfl hb19 rfl (by decide) (fun w h => rn_loadc E rfl rfl rfl (hQ.elem (lay := Sp.lay) Sp.lay_len (h.at (by first | exact mm1 | exact mm2 | exact mm3 | exact mm4 | exact mm5 | exact mm6 | exact mm7 | exact mm8)) (i := i) hib 0 _ rfl)) ?_; clear E a; intro a E
      refine mix_guard_yes E rfl rfl rfl rfl rfl hb19 rfl (by decide) (fun w h => rn_move E rfl rfl) ?_; clear E a; intro a E
      refine mix_guard_yes E rfl rfl rfl rfl rfl hb19 rfl (by decide) (fun w h => rn_move E rfl rfl) ?_; clear E a; intro a E
      refine mix_guard_yes E rfl rfl rfl rfl rfl hb19 rfl (by decide) (fun w h => by first | exact rn_indexAddr1 E rfl rfl rfl rfl rfl rfl (by omega) | exact rn_indexAddr E rfl rfl rfl rfl rfl rfl (by omega) | exact rn_indexAddr_array E rfl rfl rfl rfl rfl rfl (by omega)) ?_; clear E a; intro a E
      refine mix_guard_yes E rfl rfl rfl rfl rfl hb19 rfl (by decide) (fun w h => by first | exact rn_fieldAddr0 (q := 1) E rfl rfl rfl | exact rn_fieldAddr (q := 1) E rfl rfl rfl) ?_; clear E a; intro a E
      refine mix_guard_yes E rfl rfl rfl rfl rfl hb19 rfl (by decide) (fun w h => rn_loadc E rfl rfl rfl (hQ.elem (lay := Sp.lay) Sp.lay_len (h.at (by first | exact mm1 | exact mm2 | exact mm3 | exact mm4 | exact mm5 | exact mm6 | exact mm7 | exact mm8)) (i := i) hib 1 _ rfl)) ?_; clear E a; intro a E
      refine mix_guard_yes E rfl rfl rfl rfl rfl hb19 rfl (by decide) (fun w h => rn_add E rfl rfl rfl (by first | exact wa1 (by omega) | exact w_in (by omega) | exact w_inu (by omega) | exact rfl)) ?_; clear E a; intro a E
      refine mix_guard_yes E rfl rfl rfl rfl rfl hb19 rfl (by decide) (fun w h => rn_lss E rfl rfl rfl) ?_; clear E a; intro a E
      refine mix_pure E rfl rfl rfl (by decide) (fun w h => rn_pick_yes' E rfl rfl hb19 rfl) ?_; clear E a; intro a E
      refine mix_nil ?_
      refine then_k hK ?_; clear hK; clear K
      refine if_bool E rfl (fun hb => ?_) (fun hb => ?_)
      · first | with_reducible replace hb := n1 hb | with_reducible replace hb := n2 hb | with_reducible replace hb := n3 hb | with_reducible replace hb := n4 hb | with_reducible replace hb := n5 hb | with_reducible replace hb := n6 hb | replace hb := n1 hb | replace hb := n2 hb | replace hb := n3 hb | replace hb := n4 hb | replace hb := n5 hb | replace hb := n6 hb | skip
        refine wp_seq_k ?_; intro K hK
        refine region_list ?_
        refine list_pure E rfl rfl (by decide) (rn_assign E rfl rfl) ?_; clear E a; intro a E
        refine wpList_nil ?_
        refine then_k hK ?_; clear hK; clear K
        refine wp_ret ?_
        refine in_ret ?_
        refine then_ret ?_; clear hK; clear K
        refine then_ret ?_
        refine in_ret ?_
        refine then_ret ?_; clear hK; clear K
        refine ret1 E rfl rfl ?_
        exact ⟨_, rfl, by rw [(covB_iff L n).2 ⟨_, List.getElem_mem hib, by omega, by simp only [Sp.fin]; omega⟩], S.tr⟩
      · first | with_reducible replace hb := n1 hb | with_reducible replace hb := n2 hb | with_reducible replace hb := n3 hb | with_reducible replace hb := n4 hb | with_reducible replace hb := n5 hb | with_reducible replace hb := n6 hb | replace hb := n1 hb | replace hb := n2 hb | replace hb := n3 hb | replace hb := n4 hb | replace hb := n5 hb | replace hb := n6 hb | skip
        refine wp_skip ?_
        refine in_normal ?_
        refine then_k hK ?_; clear hK; clear K
        refine region_list ?_
        refine list_pure E rfl rfl (by decide) (rn_move E rfl rfl) ?_; clear E a; intro a E
        refine list_pure E rfl rfl (by decide) (rn_add E rfl rfl rfl (by first | exact wa_lit (y := 1) (by omega) | exact w_in (by omega) | exact w_inu (by omega) | exact rfl)) ?_; clear E a; intro a E
        refine list_pure E rfl rfl (by decide) (rn_assign E rfl rfl) ?_; clear E a; intro a E
        refine wpList_nil ?_
        refine then_normal ?_
        exact ⟨_, by omega, i + 1, rfl, by omega, mem_take_succ (q := fun x => ¬ (x.at_ ≤ n ∧ n < x.fin)) hib hno (by simp only [Sp.fin]; omega), S, E.keep (keep_cons rfl (keep_cons rfl (keep_cons rfl keep_nil)))⟩
    · have hb19n := hb19; first | with_reducible replace hb19n := n1 hb19n | with_reducible replace hb19n := n2 hb19n | with_reducible replace hb19n := n3 hb19n | with_reducible replace hb19n := n4 hb19n | with_reducible replace hb19n := n5 hb19n | with_reducible replace hb19n := n6 hb19n | replace hb19n := n1 hb19n | replace hb19n := n2 hb19n | replace hb19n := n3 hb19n | replace hb19n := n4 hb19n | replace hb19n := n5 hb19n | replace hb19n := n6 hb19n | skip
      refine mix_guard_no E rfl rfl rfl rfl rfl hb19 rfl (by decide) ?_; clear E a; intro a E
      refine mix_guard_no E rfl rfl rfl rfl rfl hb19 rfl (by decide) ?_; clear E a; intro a E
      refine mix_guard_no E rfl rfl rfl rfl rfl hb19 rfl (by decide) ?_; clear E a; intro a E
      refine mix_guard_no E rfl rfl rfl rfl rfl hb19 rfl (by decide) ?_; clear E a; intro a E
      refine mix_guard_no E rfl rfl rfl rfl rfl hb19 rfl (by decide) ?_; clear E a; intro a E
      refine mix_guard_no E rfl rfl rfl rfl rfl hb19 rfl (by decide) ?_; clear E a; intro a E
      refine mix_guard_no E rfl rfl rfl rfl rfl hb19 rfl (by decide) ?_; clear E a; intro a E
      refine mix_guard_no E rfl rfl rfl rfl rfl hb19 rfl (by decide) ?_; clear E a; intro a E
      refine mix_guard_no E rfl rfl rfl rfl rfl hb19 rfl (by decide) ?_; clear E a; intro a E
      refine mix_guard_no E rfl rfl rfl rfl rfl hb19 rfl (by decide) ?_; clear E a; intro a E
      refine mix_guard_no E rfl rfl rfl rfl rfl hb19 rfl (by decide) ?_; clear E a; intro a E
      refine mix_guard_no E rfl rfl rfl rfl rfl hb19 rfl (by decide) ?_; clear E a; intro a E
      refine mix_guard_no E rfl rfl rfl rfl rfl hb19 rfl (by decide) ?_; clear E a; intro a E
      refine mix_pure E rfl rfl rfl (by decide) (fun w h => rn_pick_no' E rfl rfl hb19 rfl) ?_; clear E a; intro a E
      refine mix_nil ?_
      refine then_k hK ?_; clear hK; clear K
      refine if_false' E rfl rfl ?_
      refine wp_skip ?_
      refine in_normal ?_
      refine then_k hK ?_; clear hK; clear K
      refine region_list ?_
      refine list_pure E rfl rfl (by decide) (rn_move E rfl rfl) ?_; clear E a; intro a E
      refine list_pure E rfl rfl (by decide) (rn_add E rfl rfl rfl (by first | exact wa_lit (y := 1) (by omega) | exact w_in (by omega) | exact w_inu (by omega) | exact rfl)) ?_; clear E a; intro a E
      refine list_pure E rfl rfl (by decide) (rn_assign E rfl rfl) ?_; clear E a; intro a E
      refine wpList_nil ?_
      refine then_normal ?_
      exact ⟨_, by omega, i + 1, rfl, by omega, mem_take_succ (q := fun x => ¬ (x.at_ ≤ n ∧ n < x.fin)) hib hno (by simp only [Sp.fin]; omega), S, E.keep (keep_cons rfl (keep_cons rfl (keep_cons rfl keep_nil)))⟩
  · first | with_reducible replace hb := n1 hb | with_reducible replace hb := n2 hb | with_reducible replace hb := n3 hb | with_reducible replace hb := n4 hb | with_reducible replace hb := n5 hb | with_reducible replace hb := n6 hb | replace hb := n1 hb | replace hb := n2 hb | replace hb := n3 hb | replace hb := n4 hb | replace hb := n5 hb | replace hb := n6 hb | skip
    refine wp_exit ?_
    refine then_exit ?_; clear hK; clear K
    refine then_exit ?_
    refine in_exit ?_
    refine then_k hK ?_; clear hK; clear K
    refine wp_seq_k ?_; intro K hK
    refine region_list ?_
    refine list_pure E rfl rfl (by decide) (rn_assign E rfl rfl) ?_; clear E a; intro a E
    refine wpList_nil ?_
    refine then_k hK ?_; clear hK; clear K
    refine wp_ret ?_
    refine ret1 E rfl rfl ?_
    obtain rfl : i = L.length := by omega
    rw [List.take_length] at hno
    exact ⟨_, rfl, by rw [show covB L n = false from Bool.eq_false_iff.2 (fun q => by obtain ⟨x, hx, h⟩ := (covB_iff L n).1 q; exact hno x hx h)], S.tr⟩

theorem grows_walk (O : Chunk) (size : Int) (hs : -9223372036854775808 ≤ size ∧ size ≤ 9223372036854775807) (v : Value) (l : List Pt) (hO : Rd O 9 v l.length (l.flatMap Pt.lay)) (_hg : ∀ p ∈ l, p.Ok) (hl : l.length ≤ 140737488351232 / 72) (txg : Nat) (_ht : txg < 18446744073709551616) (more : Nat) (_hm : more < 18446744073709551616) (w0 : World) (H : Hp w0 [O]) :
    Ret Try.prog 8 #[.int .i64 size, v, .int .u64 txg, .int .u64 more] w0 fun u w' => u = .bool true ∧ Trs w0 w' [O] [O] := by
  have S := St.begin H
  refine enter4 137 Try.func8 rfl rfl (by decide) ?_; intro a E
  refine wp_seq_k ?_; intro K hK
  refine region_list ?_
  refine list_pure E rfl rfl (by decide) (rn_assign E rfl rfl) ?_; clear E a; intro a E
  refine wpList_nil ?_
  refine then_k hK ?_; clear hK; clear K
  refine wp_seq_k ?_; intro K hK
  refine region_list ?_
  refine list_call E rfl rfl (by decide) rfl Try.func9 rfl (by kernel_rfl) rfl (awake_ret _) ?_
  rintro v16 w ⟨rfl, hT⟩; clear E a; intro a E
  have S := S.quiet hT
  refine list_pure E rfl rfl (by decide) (rn_assign E rfl rfl) ?_; clear E a; intro a E
  refine wpList_nil ?_
  refine then_k hK ?_; clear hK; clear K
  refine wp_seq_k ?_; intro K hK
  refine wp_seq_k ?_; intro K hK
  refine region_list ?_
  refine list_pure E rfl rfl (by decide) (rn_move E rfl rfl) ?_; clear E a; intro a E
  refine list_pure E rfl rfl (by decide) (rn_lss E rfl rfl rfl) ?_; clear E a; intro a E
  refine list_pure E rfl rfl (by decide) (rn_move E rfl rfl) ?_; clear E a; intro a E
  refine guard_split E (t := 19) rfl (fun hb19 => ?_) (fun hb19 => ?_)
  · have hb19n := hb19; first | with_reducible replace hb19n := n1 hb19n | with_reducible replace hb19n := n2 hb19n | with_reducible replace hb19n := n3 hb19n | with_reducible replace hb19n := n4 hb19n | with_reducible replace hb19n := n5 hb19n | with_reducible replace hb19n := n6 hb19n | replace hb19n := n1 hb19n | replace hb19n := n2 hb19n | replace hb19n := n3 hb19n | replace hb19n := n4 hb19n | replace hb19n := n5 hb19n | replace hb19n := n6 hb19n | skip
    refine list_guard_no E rfl rfl rfl rfl hb19 rfl (by decide) ?_; clear E a; intro a E
    refine list_guard_no E rfl rfl rfl rfl hb19 rfl (by decide) ?_; clear E a; intro a E
    refine list_pure E rfl rfl (by decide) (rn_pick_yes' E rfl rfl hb19 rfl) ?_; clear E a; intro a E
    refine list_pure E rfl rfl (by decide) (rn_move E rfl rfl) ?_; clear E a; intro a E
    refine list_guard_no E rfl rfl rfl rfl rfl rfl (by decide) ?_; clear E a; intro a E
    refine list_guard_no E rfl rfl rfl rfl rfl rfl (by decide) ?_; clear E a; intro a E
    refine list_pure E rfl rfl (by decide) (rn_pick_yes' E rfl rfl rfl rfl) ?_; clear E a; intro a E
    refine list_pure E rfl rfl (by decide) (rn_move E rfl rfl) ?_; clear E a; intro a E
    refine list_guard_no E rfl rfl rfl rfl rfl rfl (by decide) ?_; clear E a; intro a E
    refine list_guard_no E rfl rfl rfl rfl rfl rfl (by decide) ?_; clear E a; intro a E
    refine list_pure E rfl rfl (by decide) (rn_pick_yes' E rfl rfl rfl rfl) ?_; clear E a; intro a E
    refine wpList_nil ?_
    refine then_k hK ?_; clear hK; clear K
    refine if_true' E rfl rfl ?_
    refine wp_seq_k ?_; intro K hK
    refine region_list ?_
    refine list_pure E rfl rfl (by decide) (rn_move E rfl rfl) ?_; clear E a; intro a E
    refine list_pure E rfl rfl (by decide) (rn_assign E rfl rfl) ?_; clear E a; intro a E
    refine wpList_nil ?_
    refine then_k hK ?_; clear hK; clear K
    refine wp_ret ?_
    refine then_ret ?_; clear hK; clear K
    refine ret1 E rfl rfl ?_
    exact ⟨_, rfl, rfl, S.tr⟩
  · have hb19n := hb19; first | with_reducible replace hb19n := n1 hb19n | with_reducible replace hb19n := n2 hb19n | with_reducible replace hb19n := n3 hb19n | with_reducible replace hb19n := n4 hb19n | with_reducible replace hb19n := n5 hb19n | with_reducible replace hb19n := n6 hb19n | replace hb19n := n1 hb19n | replace hb19n := n2 hb19n | replace hb19n := n3 hb19n | replace hb19n := n4 hb19n | replace hb19n := n5 hb19n | replace hb19n := n6 hb19n | skip
    refine list_guard_yes E rfl rfl rfl rfl hb19 rfl (by decide) (rn_move E rfl rfl) ?_; clear E a; intro a E
    refine list_guard_yes E rfl rfl rfl rfl hb19 rfl (by decide) (rn_gtr E rfl rfl rfl) ?_; clear E a; intro a E
    refine list_pure E rfl rfl (by decide) (rn_pick_no' E rfl rfl hb19 rfl) ?_; clear E a; intro a E
    refine list_pure E rfl rfl (by decide) (rn_move E rfl rfl) ?_; clear E a; intro a E
    refine guard_split E (t := 23) rfl (fun hb23 => ?_) (fun hb23 => ?_)
    · have hb23n := hb23; first | with_reducible replace hb23n := n1 hb23n | with_reducible replace hb23n := n2 hb23n | with_reducible replace hb23n := n3 hb23n | with_reducible replace hb23n := n4 hb23n | with_reducible replace hb23n := n5 hb23n | with_reducible replace hb23n := n6 hb23n | replace hb23n := n1 hb23n | replace hb23n := n2 hb23n | replace hb23n := n3 hb23n | replace hb23n := n4 hb23n | replace hb23n := n5 hb23n | replace hb23n := n6 hb23n | skip
      refine list_guard_no E rfl rfl rfl rfl hb23 rfl (by decide) ?_; clear E a; intro a E
      refine list_guard_no E rfl rfl rfl rfl hb23 rfl (by decide) ?_; clear E a; intro a E
      refine list_pure E rfl rfl (by decide) (rn_pick_yes' E rfl rfl hb23 rfl) ?_; clear E a; intro a E
      refine list_pure E rfl rfl (by decide) (rn_move E rfl rfl) ?_; clear E a; intro a E
      refine list_guard_no E rfl rfl rfl rfl rfl rfl (by decide) ?_; clear E a; intro a E
      refine list_guard_no E rfl rfl rfl rfl rfl rfl (by decide) ?_; clear E a; intro a E
      refine list_pure E rfl rfl (by decide) (rn_pick_yes' E rfl rfl rfl rfl) ?_; clear E a; intro a E
      refine wpList_nil ?_
      refine then_k hK ?_; clear hK; clear K
      refine if_true' E rfl rfl ?_
      refine wp_seq_k ?_; intro K hK
      refine region_list ?_
      refine list_pure E rfl rfl (by decide) (rn_move E rfl rfl) ?_; clear E a; intro a E
      refine list_pure E rfl rfl (by decide) (rn_assign E rfl rfl) ?_; clear E a; intro a E
      refine wpList_nil ?_
      refine then_k hK ?_; clear hK; clear K
      refine wp_ret ?_
      refine then_ret ?_; clear hK; clear K
      refine ret1 E rfl rfl ?_
      exact ⟨_, rfl, rfl, S.tr⟩
    · have hb23n := hb23; first | with_reducible replace hb23n := n1 hb23n | with_reducible replace hb23n := n2 hb23n | with_reducible replace hb23n := n3 hb23n | with_reducible replace hb23n := n4 hb23n | with_reducible replace hb23n := n5 hb23n | with_reducible replace hb23n := n6 hb23n | replace hb23n := n1 hb23n | replace hb23n := n2 hb23n | replace hb23n := n3 hb23n | replace hb23n := n4 hb23n | replace hb23n := n5 hb23n | replace hb23n := n6 hb23n | skip
      refine list_guard_yes E rfl rfl rfl rfl hb23 rfl (by decide) (rn_move E rfl rfl) ?_; clear E a; intro a E
      refine list_guard_yes E rfl rfl rfl rfl hb23 rfl (by decide) (rn_gtr E rfl rfl rfl) ?_; clear E a; intro a E
      refine list_pure E rfl rfl (by decide) (rn_pick_no' E rfl rfl hb23 rfl) ?_; clear E a; intro a E
      refine list_pure E rfl rfl (by decide) (rn_move E rfl rfl) ?_; clear E a; intro a E
      refine guard_split E (t := 27) rfl (fun hb27 => ?_) (fun hb27 => ?_)
      · have hb27n := hb27; first | with_reducible replace hb27n := n1 hb27n | with_reducible replace hb27n := n2 hb27n | with_reducible replace hb27n := n3 hb27n | with_reducible replace hb27n := n4 hb27n | with_reducible replace hb27n := n5 hb27n | with_reducible replace hb27n := n6 hb27n | replace hb27n := n1 hb27n | replace hb27n := n2 hb27n | replace hb27n := n3 hb27n | replace hb27n := n4 hb27n | replace hb27n := n5 hb27n | replace hb27n := n6 hb27n | skip
        refine list_guard_no E rfl rfl rfl rfl hb27 rfl (by decide) ?_; clear E a; intro a E
        refine list_guard_no E rfl rfl rfl rfl hb27 rfl (by decide) ?_; clear E a; intro a E
        refine list_pure E rfl rfl (by decide) (rn_pick_yes' E rfl rfl hb27 rfl) ?_; clear E a; intro a E
        refine wpList_nil ?_
        refine then_k hK ?_; clear hK; clear K
        refine if_true' E rfl rfl ?_
        refine wp_seq_k ?_; intro K hK
        refine region_list ?_
        refine list_pure E rfl rfl (by decide) (rn_move E rfl rfl) ?_; clear E a; intro a E
        refine list_pure E rfl rfl (by decide) (rn_assign E rfl rfl) ?_; clear E a; intro a E
        refine wpList_nil ?_
        refine then_k hK ?_; clear hK; clear K
        refine wp_ret ?_
        refine then_ret ?_; clear hK; clear K
        refine ret1 E rfl rfl ?_
        exact ⟨_, rfl, rfl, S.tr⟩
      · have hb27n := hb27; first | with_reducible replace hb27n := n1 hb27n | with_reducible replace hb27n := n2 hb27n | with_reducible replace hb27n := n3 hb27n | with_reducible replace hb27n := n4 hb27n | with_reducible replace hb27n := n5 hb27n | with_reducible replace hb27n := n6 hb27n | replace hb27n := n1 hb27n | replace hb27n := n2 hb27n | replace hb27n := n3 hb27n | replace hb27n := n4 hb27n | replace hb27n := n5 hb27n | replace hb27n := n6 hb27n | skip
        refine list_guard_yes E rfl rfl rfl rfl hb27 rfl (by decide) (rn_move E rfl rfl) ?_; clear E a; intro a E
        refine list_guard_yes E rfl rfl rfl rfl hb27 rfl (by decide) (rn_gtr E rfl rfl rfl) ?_; clear E a; intro a E
        refine list_pure E rfl rfl (by decide) (rn_pick_no' E rfl rfl hb27 rfl) ?_; clear E a; intro a E
        refine wpList_nil ?_
        refine then_k hK ?_; clear hK; clear K
        refine if_bool E rfl (fun hb => ?_) (fun hb => ?_)
        · first | with_reducible replace hb := n1 hb | with_reducible replace hb := n2 hb | with_reducible replace hb := n3 hb | with_reducible replace hb := n4 hb | with_reducible replace hb := n5 hb | with_reducible replace hb := n6 hb | replace hb := n1 hb | replace hb := n2 hb | replace hb := n3 hb | replace hb := n4 hb | replace hb := n5 hb | replace hb := n6 hb | skip
          refine wp_seq_k ?_; intro K hK
          refine region_list ?_
          refine list_pure E rfl rfl (by decide) (rn_move E rfl rfl) ?_; clear E a; intro a E
          refine list_pure E rfl rfl (by decide) (rn_assign E rfl rfl) ?_; clear E a; intro a E
          refine wpList_nil ?_
          refine then_k hK ?_; clear hK; clear K
          refine wp_ret ?_
          refine then_ret ?_; clear hK; clear K
          refine ret1 E rfl rfl ?_
          exact ⟨_, rfl, rfl, S.tr⟩
        · first | with_reducible replace hb := n1 hb | with_reducible replace hb := n2 hb | with_reducible replace hb := n3 hb | with_reducible replace hb := n4 hb | with_reducible replace hb := n5 hb | with_reducible replace hb := n6 hb | replace hb := n1 hb | replace hb := n2 hb | replace hb := n3 hb | replace hb := n4 hb | replace hb := n5 hb | replace hb := n6 hb | skip
          refine wp_skip ?_
          refine then_k hK ?_; clear hK; clear K
          refine wp_seq_k ?_; intro K hK
          refine region_list ?_
          refine list_pure E rfl rfl (by decide) (rn_move E rfl rfl) ?_; clear E a; intro a E
          refine list_pure E rfl rfl (by decide) (rn_move E rfl rfl) ?_; clear E a; intro a E
          refine list_pure E rfl rfl (by decide) (rn_move E rfl rfl) ?_; clear E a; intro a E
          refine list_call E rfl rfl (by decide) rfl Try.func25 rfl (by kernel_rfl) rfl (since_ret O v size hs l txg hO (by omega) _ (S.hp.sel (sel_cons (by first | exact pk1 | exact pk2 | exact pk3 | exact pk4 | exact pk5 | exact pk6 | exact pk7 | exact pk8 | exact pk9) (sel_nil _)))) ?_
          rintro v35 w ⟨A, hA, hT⟩; clear E a; intro a E
          have S := S.call2 (sel_cons (by first | exact pk1 | exact pk2 | exact pk3 | exact pk4 | exact pk5 | exact pk6 | exact pk7 | exact pk8 | exact pk9) (sel_nil _)) hT
          refine list_pure E rfl rfl (by decide) (rn_assign E rfl rfl) ?_; clear E a; intro a E
          refine wpList_nil ?_
          refine then_k hK ?_; clear hK; clear K
          refine wp_seq_k ?_; intro K hK
          replace E := E.keep (e' := [(0, _), (1, _), (2, _), (3, _), (8, _), (9, _), (10, _)]) (keep_cons rfl (keep_cons rfl (keep_cons rfl (keep_cons rfl (keep_cons rfl (keep_cons rfl (keep_cons rfl (keep_nil))))))))
          refine region_list ?_
          refine list_pure E rfl rfl (by decide) (rn_move E rfl rfl) ?_; clear E a; intro a E
          refine list_pure E rfl rfl (by decide) (rn_move E rfl rfl) ?_; clear E a; intro a E
          refine list_pure E rfl rfl (by decide) (rn_move E rfl rfl) ?_; clear E a; intro a E
          refine list_pure E rfl rfl (by decide) (rn_move E rfl rfl) ?_; clear E a; intro a E
          refine list_pure E rfl rfl (by decide) (rn_add E rfl rfl rfl (show IntKind.u64.wrap ((txg : Int) + (more : Int)) = ((txg + more : Nat) : Int) by rw [← Int.natCast_add]; exact w_natu (by omega))) ?_; clear E a; intro a E
          refine list_call E rfl rfl (by decide) rfl Try.func25 rfl (by kernel_rfl) rfl (since_ret O v size hs l (txg + more) hO (by omega) _ (S.hp.sel (sel_cons (by first | exact pk1 | exact pk2 | exact pk3 | exact pk4 | exact pk5 | exact pk6 | exact pk7 | exact pk8 | exact pk9) (sel_nil _)))) ?_
          rintro v41 w ⟨B, hB, hT⟩; clear E a; intro a E
          have S := S.call2 (sel_cons (by first | exact pk1 | exact pk2 | exact pk3 | exact pk4 | exact pk5 | exact pk6 | exact pk7 | exact pk8 | exact pk9) (sel_nil _)) hT
          refine list_pure E rfl rfl (by decide) (rn_assign E rfl rfl) ?_; clear E a; intro a E
          refine wpList_nil ?_
          refine then_k hK ?_; clear hK; clear K
          refine wp_seq_k ?_; intro K hK
          refine wp_seq_k ?_; intro K hK
          obtain ⟨ada, ca, rfl⟩ := hA.slice
          obtain ⟨adb, cb, rfl⟩ := hB.slice
          have hoka := sincN_ok size l txg l.length
          have hokb := sincN_ok size l (txg + more) l.length
          have hsub : ∀ n, covB (sinc size l (txg + more)) n = true → covB (sinc size l txg) n = true := fun n h => sinc_more (by omega) h
          have hself : ∀ (i : Nat) (h : i < (sinc size l (txg + more)).length) (n : Int), (sinc size l (txg + more))[i].at_ ≤ n → n < (sinc size l (txg + more))[i].fin → covB (sinc size l (txg + more)) n = true := fun i h n h1 h2 => cov_self h h1 h2
          rw [show sincN size l txg l.length = sinc size l txg from rfl] at hoka
          rw [show sincN size l (txg + more) l.length = sinc size l (txg + more) from rfl] at hokb
          generalize hLa : sinc size l txg = La at *
          generalize hLb : sinc size l (txg + more) = Lb at *
          have hma : La.length ≤ 9223372036854775807 := hA.rd.2.2.1
          have hmb : Lb.length ≤ 9223372036854775807 := hB.rd.2.2.1
          have hwa : ∀ x ∈ La, -9223372036854775808 ≤ x.at_ + x.many ∧ x.at_ + x.many ≤ 9223372036854775807 := fun x hx => by have := hoka.each x hx; simp only [Sp.fin] at this; omega
          refine region_list ?_
          refine list_pure E rfl rfl (by decide) (rn_assign E rfl rfl) ?_; clear E a; intro a E
          refine wpList_nil ?_
          refine then_k hK ?_; clear hK; clear K
          refine wp_block ?_
          refine wp_loop_ghost (fun (m : Nat) (a : Act) (w' : World) => ∃ (i : Nat), m = Lb.length - i ∧ i ≤ Lb.length ∧ St w0 [O] w' [A, B, O] ∧ Fr a 137 [(0, .int .i64 size), (9, .bool true), (10, .slice ada La.length ca), (11, .slice adb Lb.length cb), (12, .int .i64 i)]) (Lb.length - 0) ?_ ?_
          · exact ⟨0, rfl, by omega, S.only (Bs := [A, B, O]) (sel_cons (by first | exact pk1 | exact pk2 | exact pk3 | exact pk4 | exact pk5 | exact pk6 | exact pk7 | exact pk8 | exact pk9) (sel_cons (by first | exact pk1 | exact pk2 | exact pk3 | exact pk4 | exact pk5 | exact pk6 | exact pk7 | exact pk8 | exact pk9) (sel_cons (by first | exact pk1 | exact pk2 | exact pk3 | exact pk4 | exact pk5 | exact pk6 | exact pk7 | exact pk8 | exact pk9) (sel_nil _)))), E.keep (keep_cons rfl (keep_cons rfl (keep_cons rfl (keep_cons rfl (keep_cons rfl keep_nil)))))⟩
          clear E; clear a; rintro m a w ⟨i, rfl, hi, S, E⟩
          refine wp_seq_k ?_; intro K hK
          refine wp_seq_k ?_; intro K hK
          refine region_list ?_
          refine list_pure E rfl rfl (by decide) (rn_move E rfl rfl) ?_; clear E a; intro a E
          refine list_pure E rfl rfl (by decide) (rn_move E rfl rfl) ?_; clear E a; intro a E
          refine list_pure E rfl rfl (by decide) (by first | exact rn_len E rfl rfl rfl | exact rn_len_str E rfl rfl rfl | exact rn_len_string E rfl rfl rfl) ?_; clear E a; intro a E
          refine list_pure E rfl rfl (by decide) (rn_lss E rfl rfl rfl) ?_; clear E a; intro a E
          refine wpList_nil ?_
          refine then_k hK ?_; clear hK; clear K
          refine if_bool E rfl (fun hb => ?_) (fun hb => ?_)
          · first | with_reducible replace hb := n1 hb | with_reducible replace hb := n2 hb | with_reducible replace hb := n3 hb | with_reducible replace hb := n4 hb | with_reducible replace hb := n5 hb | with_reducible replace hb := n6 hb | replace hb := n1 hb | replace hb := n2 hb | replace hb := n3 hb | replace hb := n4 hb | replace hb := n5 hb | replace hb := n6 hb | skip
            refine wp_skip ?_
            refine then_k hK ?_; clear hK; clear K
            refine wp_seq_k ?_; intro K hK
            refine wp_block ?_
            refine wp_seq_k ?_; intro K hK
            have hib : i < Lb.length := by omega
            obtain ⟨gb, rfl⟩ := hB.addr (by omega)
            have hx := hokb.each _ (List.getElem_mem hib)
            simp only [Sp.fin] at hx
            have hc1 : covB La Lb[i].at_ = true := hsub _ (hself i hib _ (Int.le_refl _) (by simp only [Sp.fin]; omega))
            have hc2 : covB La (Lb[i].at_ + Lb[i].many - 1) = true := hsub _ (hself i hib _ (by omega) (by simp only [Sp.fin]; omega))
            refine region_list ?_
            refine list_pure E rfl rfl (by decide) (rn_move E rfl rfl) ?_; clear E a; intro a E
            refine list_pure E rfl rfl (by decide) (rn_move E rfl rfl) ?_; clear E a; intro a E
            refine list_pure E rfl rfl (by decide) (rn_move E rfl rfl) ?_; clear E a; intro a E
            refine list_pure E rfl rfl (by decide) (by first | exact rn_indexAddr1 E rfl rfl rfl rfl rfl rfl (by omega) | exact rn_indexAddr E rfl rfl rfl rfl rfl rfl (by omega) | exact rn_indexAddr_array E rfl rfl rfl rfl rfl rfl (by omega)) ?_; clear E a; intro a E
            refine list_pure E rfl rfl (by decide) (by first | exact rn_fieldAddr0 (q := 0) E rfl rfl rfl | exact rn_fieldAddr (q := 0) E rfl rfl rfl) ?_; clear E a; intro a E
            refine list_pure E rfl rfl (by decide) (rn_loadc E rfl rfl rfl (hB.rd.elem (lay := Sp.lay) Sp.lay_len (S.stab.at (by first | exact mm1 | exact mm2 | exact mm3 | exact mm4 | exact mm5 | exact mm6 | exact mm7 | exact mm8)) (i := i) hib 0 _ rfl)) ?_; clear E a; intro a E
            refine list_call E rfl rfl (by decide) rfl Try.func28 rfl (by kernel_rfl) rfl (covers_ret A _ La Lb[i].at_ hA.rd hwa _ (S.hp.sel (sel_cons (by first | exact pk1 | exact pk2 | exact pk3 | exact pk4 | exact pk5 | exact pk6 | exact pk7 | exact pk8 | exact pk9) (sel_nil _)))) ?_
            rintro v54 w ⟨rfl, hT⟩; clear E a; intro a E
            have S := S.call1 (sel_cons (by first | exact pk1 | exact pk2 | exact pk3 | exact pk4 | exact pk5 | exact pk6 | exact pk7 | exact pk8 | exact pk9) (sel_nil _)) hT; rw [hc1] at E
            refine list_pure E rfl rfl (by decide) (rn_assign E rfl rfl) ?_; clear E a; intro a E
            refine wpList_nil ?_
            refine then_k hK ?_; clear hK; clear K
            refine wp_seq_k ?_; intro K hK
            refine region_mix0 S (.ofL [(0, 0), (1, 0), (2, 0), (3, 0), (4, 0), (5, 0), (6, 0), (7, 0), (8, 0), (9, 0), (10, 0), (11, 0), (12, 0), (13, 3), (14, 2)]) (by kernel_rfl) (by kernel_rfl) ?_
            clear S; intro w S
            refine mix_pure E rfl rfl rfl (by decide) (fun w h => rn_move E rfl rfl) ?_; clear E a; intro a E
            refine mix_pure E rfl rfl rfl (by decide) (fun w h => rn_move E rfl rfl) ?_; clear E a; intro a E
            refine mix_pure E rfl rfl rfl (by decide) (fun w h => rn_move E rfl rfl) ?_; clear E a; intro a E
            refine mix_pure E rfl rfl rfl (by decide) (fun w h => by first | exact rn_indexAddr1 E rfl rfl rfl rfl rfl rfl (by omega) | exact rn_indexAddr E rfl rfl rfl rfl rfl rfl (by omega) | exact rn_indexAddr_array E rfl rfl rfl rfl rfl rfl (by omega)) ?_; clear E a; intro a E
            refine mix_pure E rfl rfl rfl (by decide) (fun w h => by first | exact rn_fieldAddr0 (q := 0) E rfl rfl rfl | exact rn_fieldAddr (q := 0) E rfl rfl rfl) ?_; clear E a; intro a E
            refine mix_pure E rfl rfl rfl (by decide) (fun w h => rn_loadc E rfl rfl rfl (hB.rd.elem (lay := Sp.lay) Sp.lay_len (h.at (by first | exact mm1 | exact mm2 | exact mm3 | exact mm4 | exact mm5 | exact mm6 | exact mm7 | exact mm8)) (i := i) hib 0 _ rfl)) ?_; clear E a; intro a E
            refine mix_pure E rfl rfl rfl (by decide) (fun w h => rn_move E rfl rfl) ?_; clear E a; intro a E
            refine mix_pure E rfl rfl rfl (by decide) (fun w h => rn_move E rfl rfl) ?_; clear E a; intro a E
            refine mix_pure E rfl rfl rfl (by decide) (fun w h => by first | exact rn_indexAddr1 E rfl rfl rfl rfl rfl rfl (by omega) | exact rn_indexAddr E rfl rfl rfl rfl rfl rfl (by omega) | exact rn_indexAddr_array E rfl rfl rfl rfl rfl rfl (by omega)) ?_; clear E a; intro a E
            refine mix_pure E rfl rfl rfl (by decide) (fun w h => by first | exact rn_fieldAddr0 (q := 1) E rfl rfl rfl | exact rn_fieldAddr (q := 1) E rfl rfl rfl) ?_; clear E a; intro a E
            refine mix_pure E rfl rfl rfl (by decide) (fun w h => rn_loadc E rfl rfl rfl (hB.rd.elem (lay := Sp.lay) Sp.lay_len (h.at (by first | exact mm1 | exact mm2 | exact mm3 | exact mm4 | exact mm5 | exact mm6 | exact mm7 | exact mm8)) (i := i) hib 1 _ rfl)) ?_; clear E a; intro a E
            refine mix_pure E rfl rfl rfl (by decide) (fun w h => rn_add E rfl rfl rfl (by first | exact wa1 (by omega) | exact w_in (by omega) | exact w_inu (by omega) | exact rfl)) ?_; clear E a; intro a E
            refine mix_pure E rfl rfl rfl (by decide) (fun w h => rn_sub E rfl rfl rfl (by first | exact ws_lit (y := 1) (by omega) (by omega) | exact w_in (by omega) | exact w_inu (by omega) | exact rfl)) ?_; clear E a; intro a E
            refine mix_call3 E rfl rfl rfl (by decide) rfl Try.func28 rfl (by kernel_rfl) rfl (covers_ret A _ La (Lb[i].at_ + Lb[i].many - 1) hA.rd hwa _ (S.hp.sel (sel_cons (by first | exact pk1 | exact pk2 | exact pk3 | exact pk4 | exact pk5 | exact pk6 | exact pk7 | exact pk8 | exact pk9) (sel_nil _)))) ?_
            rintro v68 w ⟨rfl, hT⟩; clear E a; intro a E
            have S := S.call1 (sel_cons (by first | exact pk1 | exact pk2 | exact pk3 | exact pk4 | exact pk5 | exact pk6 | exact pk7 | exact pk8 | exact pk9) (sel_nil _)) hT; rw [hc2] at E
            refine mix_free E rfl rfl rfl (by decide) (fun w => rn_assign E rfl rfl) ?_; clear E a; intro a E
            refine mix_nil ?_
            refine then_k hK ?_; clear hK; clear K
            refine wp_seq_k ?_; intro K hK
            refine region_list ?_
            refine list_pure E rfl rfl (by decide) (rn_move E rfl rfl) ?_; clear E a; intro a E
            refine list_pure E rfl rfl (by decide) (rn_not E rfl rfl) ?_; clear E a; intro a E
            refine list_pure E rfl rfl (by decide) (rn_move E rfl rfl) ?_; clear E a; intro a E
            refine guard_false E (t := 71) rfl (rfl) (fun hb71 => ?_)
            refine list_guard_yes E rfl rfl rfl rfl hb71 rfl (by decide) (rn_move E rfl rfl) ?_; clear E a; intro a E
            refine list_guard_yes E rfl rfl rfl rfl hb71 rfl (by decide) (rn_not E rfl rfl) ?_; clear E a; intro a E
            refine list_pure E rfl rfl (by decide) (rn_pick_no' E rfl rfl hb71 rfl) ?_; clear E a; intro a E
            refine wpList_nil ?_
            refine then_k hK ?_; clear hK; clear K
            refine if_false' E rfl (rfl) ?_
            refine wp_skip ?_
            refine in_normal ?_
            refine then_k hK ?_; clear hK; clear K
            refine region_list ?_
            refine list_pure E rfl rfl (by decide) (rn_move E rfl rfl) ?_; clear E a; intro a E
            refine list_pure E rfl rfl (by decide) (rn_add E rfl rfl rfl (by first | exact wa_lit (y := 1) (by omega) | exact w_in (by omega) | exact w_inu (by omega) | exact rfl)) ?_; clear E a; intro a E
            refine list_pure E rfl rfl (by decide) (rn_assign E rfl rfl) ?_; clear E a; intro a E
            refine wpList_nil ?_
            refine then_normal ?_
            exact ⟨_, by omega, i + 1, rfl, by omega, S.only (Bs := [A, B, O]) (sel_cons (by first | exact pk1 | exact pk2 | exact pk3 | exact pk4 | exact pk5 | exact pk6 | exact pk7 | exact pk8 | exact pk9) (sel_cons (by first | exact pk1 | exact pk2 | exact pk3 | exact pk4 | exact pk5 | exact pk6 | exact pk7 | exact pk8 | exact pk9) (sel_cons (by first | exact pk1 | exact pk2 | exact pk3 | exact pk4 | exact pk5 | exact pk6 | exact pk7 | exact pk8 | exact pk9) (sel_nil _)))), E.keep (keep_cons rfl (keep_cons rfl (keep_cons rfl (keep_cons rfl (keep_cons rfl keep_nil)))))⟩
          · first | with_reducible replace hb := n1 hb | with_reducible replace hb := n2 hb | with_reducible replace hb := n3 hb | with_reducible replace hb := n4 hb | with_reducible replace hb := n5 hb | with_reducible replace hb := n6 hb | replace hb := n1 hb | replace hb := n2 hb | replace hb := n3 hb | replace hb := n4 hb | replace hb := n5 hb | replace hb := n6 hb | skip
            refine wp_exit ?_
            refine then_exit ?_; clear hK; clear K
            refine then_exit ?_
            refine in_exit ?_
            refine then_k hK ?_; clear hK; clear K
            refine wp_seq_k ?_; intro K hK
            refine wp_seq_k ?_; intro K hK
            refine region_list ?_
            refine list_pure E rfl rfl (by decide) (rn_assign E rfl rfl) ?_; clear E a; intro a E
            refine wpList_nil ?_
            refine then_k hK ?_; clear hK; clear K
            refine wp_block ?_
            refine wp_loop_ghost (fun (m : Nat) (a : Act) (w' : World) => ∃ (i : Nat), m = La.length - i ∧ i ≤ La.length ∧ St w0 [O] w' [A, B, O] ∧ Fr a 137 [(0, .int .i64 size), (9, .bool true), (10, .slice ada La.length ca), (15, .int .i64 i)]) (La.length - 0) ?_ ?_
            · exact ⟨0, rfl, by omega, S, E.keep (keep_cons rfl (keep_cons rfl (keep_cons rfl (keep_cons rfl keep_nil))))⟩
            clear E; clear a; rintro m a w ⟨i, rfl, hi, S, E⟩
            refine wp_seq_k ?_; intro K hK
            refine wp_seq_k ?_; intro K hK
            refine region_list ?_
            refine list_pure E rfl rfl (by decide) (rn_move E rfl rfl) ?_; clear E a; intro a E
            refine list_pure E rfl rfl (by decide) (rn_move E rfl rfl) ?_; clear E a; intro a E
            refine list_pure E rfl rfl (by decide) (by first | exact rn_len E rfl rfl rfl | exact rn_len_str E rfl rfl rfl | exact rn_len_string E rfl rfl rfl) ?_; clear E a; intro a E
            refine list_pure E rfl rfl (by decide) (rn_lss E rfl rfl rfl) ?_; clear E a; intro a E
            refine wpList_nil ?_
            refine then_k hK ?_; clear hK; clear K
            refine if_bool E rfl (fun hb => ?_) (fun hb => ?_)
            · first | with_reducible replace hb := n1 hb | with_reducible replace hb := n2 hb | with_reducible replace hb := n3 hb | with_reducible replace hb := n4 hb | with_reducible replace hb := n5 hb | with_reducible replace hb := n6 hb | replace hb := n1 hb | replace hb := n2 hb | replace hb := n3 hb | replace hb := n4 hb | replace hb := n5 hb | replace hb := n6 hb | skip
              refine wp_skip ?_
              refine then_k hK ?_; clear hK; clear K
              refine wp_seq_k ?_; intro K hK
              refine wp_block ?_
              refine wp_seq_k ?_; intro K hK
              have hib : i < La.length := by omega
              obtain ⟨ga, rfl⟩ := hA.addr (by omega)
              have hx := hoka.each _ (List.getElem_mem hib)
              simp only [Sp.fin] at hx
              have hrem : Int.tmod La[i].at_ 1024 = 0 := by rw [Int.tmod_eq_emod_of_nonneg (by omega)]; omega
              have hgap : ∀ (h0 : 0 < i), La[i - 1].at_ + La[i - 1].many < La[i].at_ := fun h0 => List.pairwise_iff_getElem.1 hoka.gap (i - 1) i (by omega) hib (by omega)
              have hx0 : ∀ (h0 : 0 < i), 0 ≤ La[i - 1].at_ ∧ 1 ≤ La[i - 1].many := fun h0 => by have := hoka.each _ (List.getElem_mem (show i - 1 < La.length by omega)); omega
              refine region_mix0 S (.ofL [(0, 0), (1, 0), (2, 0), (3, 0), (4, 0), (5, 0), (6, 0), (7, 0), (8, 0), (9, 0), (10, 0), (11, 0), (12, 0), (13, 0), (14, 0), (15, 0), (16, 0), (17, 0), (18, 0), (19, 0), (20, 0), (21, 0), (22, 0), (23, 0), (24, 0), (25, 0), (26, 0), (27, 0), (28, 0), (29, 0), (30, 0), (31, 0), (32, 0), (33, 0), (34, 0), (35, 0), (36, 0), (37, 0), (38, 0), (39, 0), (40, 0), (41, 0), (42, 0), (43, 0), (44, 0), (45, 0), (46, 0), (47, 0), (48, 0), (49, 0), (50, 0), (51, 0), (52, 0), (53, 0), (54, 0)]) (by kernel_rfl) (by kernel_rfl) ?_
              clear S; intro w S
              refine mix_pure E rfl rfl rfl (by decide) (fun w h => rn_move E rfl rfl) ?_; clear E a; intro a E
              refine mix_pure E rfl rfl rfl (by decide) (fun w h => rn_move E rfl rfl) ?_; clear E a; intro a E
              refine mix_pure E rfl rfl rfl (by decide) (fun w h => by first | exact rn_indexAddr1 E rfl rfl rfl rfl rfl rfl (by omega) | exact rn_indexAddr E rfl rfl rfl rfl rfl rfl (by omega) | exact rn_indexAddr_array E rfl rfl rfl rfl rfl rfl (by omega)) ?_; clear E a; intro a E
              refine mix_pure E rfl rfl rfl (by decide) (fun w h => by first | exact rn_fieldAddr0 (q := 0) E rfl rfl rfl | exact rn_fieldAddr (q := 0) E rfl rfl rfl) ?_; clear E a; intro a E
              refine mix_pure E rfl rfl rfl (by decide) (fun w h => rn_loadc E rfl rfl rfl (hA.rd.elem (lay := Sp.lay) Sp.lay_len (h.at (by first | exact mm1 | exact mm2 | exact mm3 | exact mm4 | exact mm5 | exact mm6 | exact mm7 | exact mm8)) (i := i) hib 0 _ rfl)) ?_; clear E a; intro a E
              refine mix_pure E rfl rfl rfl (by decide) (fun w h => rn_rem E rfl rfl rfl (by first | decide | omega) hrem) ?_; clear E a; intro a E
              refine mix_pure E rfl rfl rfl (by decide) (fun w h => by first | exact rn_neq E rfl rfl rfl | exact rn_neq_ptr_nil E rfl rfl rfl rfl | exact rn_neq_bool E rfl rfl rfl rfl | exact rn_neq_string E rfl rfl rfl) ?_; clear E a; intro a E
              refine mix_pure E rfl rfl rfl (by decide) (fun w h => rn_move E rfl rfl) ?_; clear E a; intro a E
              refine guard_false E (t := 88) rfl (rfl) (fun hb88 => ?_)
              refine mix_guard_yes E rfl rfl rfl rfl rfl hb88 rfl (by decide) (fun w h => rn_move E rfl rfl) ?_; clear E a; intro a E
              refine mix_guard_yes E rfl rfl rfl rfl rfl hb88 rfl (by decide) (fun w h => rn_move E rfl rfl) ?_; clear E a; intro a E
              refine mix_guard_yes E rfl rfl rfl rfl rfl hb88 rfl (by decide) (fun w h => by first | exact rn_indexAddr1 E rfl rfl rfl rfl rfl rfl (by omega) | exact rn_indexAddr E rfl rfl rfl rfl rfl rfl (by omega) | exact rn_indexAddr_array E rfl rfl rfl rfl rfl rfl (by omega)) ?_; clear E a; intro a E
              refine mix_guard_yes E rfl rfl rfl rfl rfl hb88 rfl (by decide) (fun w h => by first | exact rn_fieldAddr0 (q := 1) E rfl rfl rfl | exact rn_fieldAddr (q := 1) E rfl rfl rfl) ?_; clear E a; intro a E
              refine mix_guard_yes E rfl rfl rfl rfl rfl hb88 rfl (by decide) (fun w h => rn_loadc E rfl rfl rfl (hA.rd.elem (lay := Sp.lay) Sp.lay_len (h.at (by first | exact mm1 | exact mm2 | exact mm3 | exact mm4 | exact mm5 | exact mm6 | exact mm7 | exact mm8)) (i := i) hib 1 _ rfl)) ?_; clear E a; intro a E
              refine mix_guard_yes E rfl rfl rfl rfl rfl hb88 rfl (by decide) (fun w h => rn_lss E rfl rfl rfl) ?_; clear E a; intro a E
              refine mix_pure E rfl rfl rfl (by decide) (fun w h => rn_pick_no' E rfl rfl hb88 rfl) ?_; clear E a; intro a E
              refine mix_pure E rfl rfl rfl (by decide) (fun w h => rn_move E rfl rfl) ?_; clear E a; intro a E
              refine guard_false E (t := 96) rfl ((by simp; omega)) (fun hb96 => ?_)
              refine mix_guard_yes E rfl rfl rfl rfl rfl hb96 rfl (by decide) (fun w h => rn_move E rfl rfl) ?_; clear E a; intro a E
              refine mix_guard_yes E rfl rfl rfl rfl rfl hb96 rfl (by decide) (fun w h => rn_move E rfl rfl) ?_; clear E a; intro a E
              refine mix_guard_yes E rfl rfl rfl rfl rfl hb96 rfl (by decide) (fun w h => by first | exact rn_indexAddr1 E rfl rfl rfl rfl rfl rfl (by omega) | exact rn_indexAddr E rfl rfl rfl rfl rfl rfl (by omega) | exact rn_indexAddr_array E rfl rfl rfl rfl rfl rfl (by omega)) ?_; clear E a; intro a E
              refine mix_guard_yes E rfl rfl rfl rfl rfl hb96 rfl (by decide) (fun w h => by first | exact rn_fieldAddr0 (q := 0) E rfl rfl rfl | exact rn_fieldAddr (q := 0) E rfl rfl rfl) ?_; clear E a; intro a E
              refine mix_guard_yes E rfl rfl rfl rfl rfl hb96 rfl (by decide) (fun w h => rn_loadc E rfl rfl rfl (hA.rd.elem (lay := Sp.lay) Sp.lay_len (h.at (by first | exact mm1 | exact mm2 | exact mm3 | exact mm4 | exact mm5 | exact mm6 | exact mm7 | exact mm8)) (i := i) hib 0 _ rfl)) ?_; clear E a; intro a E
              refine mix_guard_yes E rfl rfl rfl rfl rfl hb96 rfl (by decide) (fun w h => rn_move E rfl rfl) ?_; clear E a; intro a E
              refine mix_guard_yes E rfl rfl rfl rfl rfl hb96 rfl (by decide) (fun w h => rn_move E rfl rfl) ?_; clear E a; intro a E
              refine mix_guard_yes E rfl rfl rfl rfl rfl hb96 rfl (by decide) (fun w h => by first | exact rn_indexAddr1 E rfl rfl rfl rfl rfl rfl (by omega) | exact rn_indexAddr E rfl rfl rfl rfl rfl rfl (by omega) | exact rn_indexAddr_array E rfl rfl rfl rfl rfl rfl (by omega)) ?_; clear E a; intro a E
              refine mix_guard_yes E rfl rfl rfl rfl rfl hb96 rfl (by decide) (fun w h => by first | exact rn_fieldAddr0 (q := 1) E rfl rfl rfl | exact rn_fieldAddr (q := 1) E rfl rfl rfl) ?_; clear E a; intro a E
              refine mix_guard_yes E rfl rfl rfl rfl rfl hb96 rfl (by decide) (fun w h => rn_loadc E rfl rfl rfl (hA.rd.elem (lay := Sp.lay) Sp.lay_len (h.at (by first | exact mm1 | exact mm2 | exact mm3 | exact mm4 | exact mm5 | exact mm6 | exact mm7 | exact mm8)) (i := i) hib 1 _ rfl)) ?_; clear E a; intro a E
              refine mix_guard_yes E rfl rfl rfl rfl rfl hb96 rfl (by decide) (fun w h => rn_add E rfl rfl rfl (by first | exact wa1 (by omega) | exact w_in (by omega) | exact w_inu (by omega) | exact rfl)) ?_; clear E a; intro a E
              refine mix_guard_yes E rfl rfl rfl rfl rfl hb96 rfl (by decide) (fun w h => rn_move E rfl rfl) ?_; clear E a; intro a E
              refine mix_guard_yes E rfl rfl rfl rfl rfl hb96 rfl (by decide) (fun w h => rn_gtr E rfl rfl rfl) ?_; clear E a; intro a E
              refine mix_pure E rfl rfl rfl (by decide) (fun w h => rn_pick_no' E rfl rfl hb96 rfl) ?_; clear E a; intro a E
              refine mix_pure E rfl rfl rfl (by decide) (fun w h => rn_move E rfl rfl) ?_; clear E a; intro a E
              refine guard_false E (t := 111) rfl ((by simp; omega)) (fun hb111 => ?_)
              refine mix_guard_yes E rfl rfl rfl rfl rfl hb111 rfl (by decide) (fun w h => rn_move E rfl rfl) ?_; clear E a; intro a E
              refine mix_guard_yes E rfl rfl rfl rfl rfl hb111 rfl (by decide) (fun w h => rn_gtr E rfl rfl rfl) ?_; clear E a; intro a E
              refine mix_guard_yes E rfl rfl rfl rfl rfl hb111 rfl (by decide) (fun w h => rn_move E rfl rfl) ?_; clear E a; intro a E
              refine guard_split E (t := 114) rfl (fun hb114 => ?_) (fun hb114 => ?_)
              · have hb114n := hb114; first | with_reducible replace hb114n := n1 hb114n | with_reducible replace hb114n := n2 hb114n | with_reducible replace hb114n := n3 hb114n | with_reducible replace hb114n := n4 hb114n | with_reducible replace hb114n := n5 hb114n | with_reducible replace hb114n := n6 hb114n | replace hb114n := n1 hb114n | replace hb114n := n2 hb114n | replace hb114n := n3 hb114n | replace hb114n := n4 hb114n | replace hb114n := n5 hb114n | replace hb114n := n6 hb114n | skip
                refine mix_guard_yes E rfl rfl rfl rfl rfl hb114 rfl (by decide) (fun w h => rn_move E rfl rfl) ?_; clear E a; intro a E
                refine mix_guard_yes E rfl rfl rfl rfl rfl hb114 rfl (by decide) (fun w h => rn_move E rfl rfl) ?_; clear E a; intro a E
                refine mix_guard_yes E rfl rfl rfl rfl rfl hb114 rfl (by decide) (fun w h => by first | exact rn_indexAddr1 E rfl rfl rfl rfl rfl rfl (by omega) | exact rn_indexAddr E rfl rfl rfl rfl rfl rfl (by omega) | exact rn_indexAddr_array E rfl rfl rfl rfl rfl rfl (by omega)) ?_; clear E a; intro a E
                refine mix_guard_yes E rfl rfl rfl rfl rfl hb114 rfl (by decide) (fun w h => by first | exact rn_fieldAddr0 (q := 0) E rfl rfl rfl | exact rn_fieldAddr (q := 0) E rfl rfl rfl) ?_; clear E a; intro a E
                refine mix_guard_yes E rfl rfl rfl rfl rfl hb114 rfl (by decide) (fun w h => rn_loadc E rfl rfl rfl (hA.rd.elem (lay := Sp.lay) Sp.lay_len (h.at (by first | exact mm1 | exact mm2 | exact mm3 | exact mm4 | exact mm5 | exact mm6 | exact mm7 | exact mm8)) (i := i) hib 0 _ rfl)) ?_; clear E a; intro a E
                refine mix_guard_yes E rfl rfl rfl rfl rfl hb114 rfl (by decide) (fun w h => rn_move E rfl rfl) ?_; clear E a; intro a E
                refine mix_guard_yes E rfl rfl rfl rfl rfl hb114 rfl (by decide) (fun w h => rn_move E rfl rfl) ?_; clear E a; intro a E
                refine mix_guard_yes E rfl rfl rfl rfl rfl hb114 rfl (by decide) (fun w h => rn_sub E rfl rfl rfl (by first | exact ws_lit (y := 1) (by omega) (by omega) | exact w_in (by omega) | exact w_inu (by omega) | exact rfl)) ?_; clear E a; intro a E
                refine mix_guard_yes E rfl rfl rfl rfl rfl hb114 rfl (by decide) (fun w h => (by exact rn_indexAddr (i := i - 1) E rfl rfl rfl rfl rfl (by omega) (by omega))) ?_; clear E a; intro a E
                refine mix_guard_yes E rfl rfl rfl rfl rfl hb114 rfl (by decide) (fun w h => by first | exact rn_fieldAddr0 (q := 0) E rfl rfl rfl | exact rn_fieldAddr (q := 0) E rfl rfl rfl) ?_; clear E a; intro a E
                refine mix_guard_yes E rfl rfl rfl rfl rfl hb114 rfl (by decide) (fun w h => rn_loadc E rfl rfl rfl (hA.rd.elem (lay := Sp.lay) Sp.lay_len (h.at (by first | exact mm1 | exact mm2 | exact mm3 | exact mm4 | exact mm5 | exact mm6 | exact mm7 | exact mm8)) (i := i - 1) (by omega) 0 _ rfl)) ?_; clear E a; intro a E
                refine mix_guard_yes E rfl rfl rfl rfl rfl hb114 rfl (by decide) (fun w h => rn_move E rfl rfl) ?_; clear E a; intro a E
                refine mix_guard_yes E rfl rfl rfl rfl rfl hb114 rfl (by decide) (fun w h => rn_move E rfl rfl) ?_; clear E a; intro a E
                refine mix_guard_yes E rfl rfl rfl rfl rfl hb114 rfl (by decide) (fun w h => rn_sub E rfl rfl rfl (by first | exact ws_lit (y := 1) (by omega) (by omega) | exact w_in (by omega) | exact w_inu (by omega) | exact rfl)) ?_; clear E a; intro a E
                refine mix_guard_yes E rfl rfl rfl rfl rfl hb114 rfl (by decide) (fun w h => (by exact rn_indexAddr (i := i - 1) E rfl rfl rfl rfl rfl (by omega) (by omega))) ?_; clear E a; intro a E
                refine mix_guard_yes E rfl rfl rfl rfl rfl hb114 rfl (by decide) (fun w h => by first | exact rn_fieldAddr0 (q := 1) E rfl rfl rfl | exact rn_fieldAddr (q := 1) E rfl rfl rfl) ?_; clear E a; intro a E
                refine mix_guard_yes E rfl rfl rfl rfl rfl hb114 rfl (by decide) (fun w h => rn_loadc E rfl rfl rfl (hA.rd.elem (lay := Sp.lay) Sp.lay_len (h.at (by first | exact mm1 | exact mm2 | exact mm3 | exact mm4 | exact mm5 | exact mm6 | exact mm7 | exact mm8)) (i := i - 1) (by omega) 1 _ rfl)) ?_; clear E a; intro a E
                refine mix_guard_yes E rfl rfl rfl rfl rfl hb114 rfl (by decide) (fun w h => rn_add E rfl rfl rfl (w_in (by have := hgap (by omega); have := hx0 (by omega); omega))) ?_; clear E a; intro a E
                refine mix_guard_yes E rfl rfl rfl rfl rfl hb114 rfl (by decide) (fun w h => rn_leq E rfl rfl rfl) ?_; clear E a; intro a E
                refine mix_guard_yes E rfl rfl rfl rfl rfl hb111 rfl (by decide) (fun w h => rn_pick_yes' E rfl rfl hb114 rfl) ?_; clear E a; intro a E
                refine mix_pure E rfl rfl rfl (by decide) (fun w h => rn_pick_no' E rfl rfl hb111 rfl) ?_; clear E a; intro a E
                refine mix_nil ?_
                refine then_k hK ?_; clear hK; clear K
                refine if_false' E rfl ((by first | rfl | (have := hgap (by omega); simp; omega))) ?_
                refine wp_skip ?_
                refine in_normal ?_
                refine then_k hK ?_; clear hK; clear K
                refine region_list ?_
                refine list_pure E rfl rfl (by decide) (rn_move E rfl rfl) ?_; clear E a; intro a E
                refine list_pure E rfl rfl (by decide) (rn_add E rfl rfl rfl (by first | exact wa_lit (y := 1) (by omega) | exact w_in (by omega) | exact w_inu (by omega) | exact rfl)) ?_; clear E a; intro a E
                refine list_pure E rfl rfl (by decide) (rn_assign E rfl rfl) ?_; clear E a; intro a E
                refine wpList_nil ?_
                refine then_normal ?_
                exact ⟨_, by omega, i + 1, rfl, by omega, S, E.keep (keep_cons rfl (keep_cons rfl (keep_cons rfl (keep_cons rfl keep_nil))))⟩
              · have hb114n := hb114; first | with_reducible replace hb114n := n1 hb114n | with_reducible replace hb114n := n2 hb114n | with_reducible replace hb114n := n3 hb114n | with_reducible replace hb114n := n4 hb114n | with_reducible replace hb114n := n5 hb114n | with_reducible replace hb114n := n6 hb114n | replace hb114n := n1 hb114n | replace hb114n := n2 hb114n | replace hb114n := n3 hb114n | replace hb114n := n4 hb114n | replace hb114n := n5 hb114n | replace hb114n := n6 hb114n | skip
                refine mix_guard_no E rfl rfl rfl rfl rfl hb114 rfl (by decide) ?_; clear E a; intro a E
                refine mix_guard_no E rfl rfl rfl rfl rfl hb114 rfl (by decide) ?_; clear E a; intro a E
                refine mix_guard_no E rfl rfl rfl rfl rfl hb114 rfl (by decide) ?_; clear E a; intro a E
                refine mix_guard_no E rfl rfl rfl rfl rfl hb114 rfl (by decide) ?_; clear E a; intro a E
                refine mix_guard_no E rfl rfl rfl rfl rfl hb114 rfl (by decide) ?_; clear E a; intro a E
                refine mix_guard_no E rfl rfl rfl rfl rfl hb114 rfl (by decide) ?_; clear E a; intro a E
                refine mix_guard_no E rfl rfl rfl rfl rfl hb114 rfl (by decide) ?_; clear E a; intro a E
                refine mix_guard_no E rfl rfl rfl rfl rfl hb114 rfl (by decide) ?_; clear E a; intro a E
                refine mix_guard_no E rfl rfl rfl rfl rfl hb114 rfl (by decide) ?_; clear E a; intro a E
                refine mix_guard_no E rfl rfl rfl rfl rfl hb114 rfl (by decide) ?_; clear E a; intro a E
                refine mix_guard_no E rfl rfl rfl rfl rfl hb114 rfl (by decide) ?_; clear E a; intro a E
                refine mix_guard_no E rfl rfl rfl rfl rfl hb114 rfl (by decide) ?_; clear E a; intro a E
                refine mix_guard_no E rfl rfl rfl rfl rfl hb114 rfl (by decide) ?_; clear E a; intro a E
                refine mix_guard_no E rfl rfl rfl rfl rfl hb114 rfl (by decide) ?_; clear E a; intro a E
                refine mix_guard_no E rfl rfl rfl rfl rfl hb114 rfl (by decide) ?_; clear E a; intro a E
                refine mix_guard_no E rfl rfl rfl rfl rfl hb114 rfl (by decide) ?_; clear E a; intro a E
                refine mix_guard_no E rfl rfl rfl rfl rfl hb114 rfl (by decide) ?_; clear E a; intro a E
                refine mix_guard_no E rfl rfl rfl rfl rfl hb114 rfl (by decide) ?_; clear E a; intro a E
                refine mix_guard_no E rfl rfl rfl rfl rfl hb114 rfl (by decide) ?_; clear E a; intro a E
                refine mix_guard_yes E rfl rfl rfl rfl rfl hb111 rfl (by decide) (fun w h => rn_pick_no' E rfl rfl hb114 rfl) ?_; clear E a; intro a E
                refine mix_pure E rfl rfl rfl (by decide) (fun w h => rn_pick_no' E rfl rfl hb111 rfl) ?_; clear E a; intro a E
                refine mix_nil ?_
                refine then_k hK ?_; clear hK; clear K
                refine if_false' E rfl rfl ?_
                refine wp_skip ?_
                refine in_normal ?_
                refine then_k hK ?_; clear hK; clear K
                refine region_list ?_
                refine list_pure E rfl rfl (by decide) (rn_move E rfl rfl) ?_; clear E a; intro a E
                refine list_pure E rfl rfl (by decide) (rn_add E rfl rfl rfl (by first | exact wa_lit (y := 1) (by omega) | exact w_in (by omega) | exact w_inu (by omega) | exact rfl)) ?_; clear E a; intro a E
                refine list_pure E rfl rfl (by decide) (rn_assign E rfl rfl) ?_; clear E a; intro a E
                refine wpList_nil ?_
                refine then_normal ?_
                exact ⟨_, by omega, i + 1, rfl, by omega, S, E.keep (keep_cons rfl (keep_cons rfl (keep_cons rfl (keep_cons rfl keep_nil))))⟩
            · first | with_reducible replace hb := n1 hb | with_reducible replace hb := n2 hb | with_reducible replace hb := n3 hb | with_reducible replace hb := n4 hb | with_reducible replace hb := n5 hb | with_reducible replace hb := n6 hb | replace hb := n1 hb | replace hb := n2 hb | replace hb := n3 hb | replace hb := n4 hb | replace hb := n5 hb | replace hb := n6 hb | skip
              refine wp_exit ?_
              refine then_exit ?_; clear hK; clear K
              refine then_exit ?_
              refine in_exit ?_
              refine then_k hK ?_; clear hK; clear K
              refine wp_seq_k ?_; intro K hK
              refine region_list ?_
              refine list_pure E rfl rfl (by decide) (rn_move E rfl rfl) ?_; clear E a; intro a E
              refine list_pure E rfl rfl (by decide) (rn_assign E rfl rfl) ?_; clear E a; intro a E
              refine wpList_nil ?_
              refine then_k hK ?_; clear hK; clear K
              refine wp_ret ?_
              refine ret1 E rfl rfl ?_
              exact ⟨_, rfl, rfl, (S.only (Bs := [O]) (sel_cons (by first | exact pk1 | exact pk2 | exact pk3 | exact pk4 | exact pk5 | exact pk6 | exact pk7 | exact pk8 | exact pk9) (sel_nil _))).tr⟩
end Go.Proofs.Ytkkibnnddllabaa
