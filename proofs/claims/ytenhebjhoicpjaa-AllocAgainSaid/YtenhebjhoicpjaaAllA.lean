/-
  Allocators, plain: what was only given out (AllocAgain).
-/
import Derived.Test.YtenhebjhoicpjaaAllR
namespace Go.Sl
/-- Nothing waits; of each top the first k are taken. -/
structure Sf (a : Al) (ks : List Int) : Prop where
  ok : a.Ok
  by_ : a.by_ = []
  wt : ∀ t, a.wt t = []
  len : ks.length = a.sizes.length
  le : ∀ t, t < a.sizes.length → 0 ≤ ks.getD t 0 ∧ ks.getD t 0 ≤ a.size t
  fr : ∀ t, t < a.sizes.length → a.fr t = sfx (ks.getD t 0) (a.size t)
theorem size_le {a : Al} (h : a.Ok) (t : Nat) : 0 ≤ a.size t ∧ a.size t ≤ 40960 := by
  unfold Al.size
  rw [List.getD_eq_getElem?_getD]
  cases hc : a.sizes[t]? with
  | none => simp
  | some l => exact h.sz l (List.mem_of_getElem? hc)
theorem sfx_len (k n : Int) : (sfx k n).length ≤ 4000 := by unfold sfx; split <;> simp
theorem sfx_find {k n m c : Int} (hk : 0 ≤ k) (hf : findL (sfx k n) m 0 = (c, true)) : c = k ∧ 1 ≤ m ∧ k + m ≤ n := by
  unfold findL at hf
  split at hf
  · cases hf
  unfold sfx at hf
  split at hf
  · simp only [findA] at hf
    split at hf
    · cases hf
      rename_i c
      simp only [Sp.fin] at c
      omega
    · cases hf
  · simp [findA] at hf
theorem sfx_rem {k n m : Int} (hk : 0 ≤ k) (hm : 1 ≤ m) (hn : k + m ≤ n) (h0 : n ≤ 40960) : remE (sfx k n) ⟨k, m⟩ = 0 ∧ remS (sfx k n) ⟨k, m⟩ = sfx (k + m) n := by
  have R := rp_sfx hk (show n ≤ 1099511627776 by omega)
  obtain ⟨h1, h2, -⟩ := R.rem' (x := ⟨k, m⟩) (by rw [Sp.may_iff]; simp only; omega) (fun i hi => by simp only [Sp.has, Sp.fin] at hi; omega) (.inr (sfx_len ..))
  exact ⟨h1, h2.eq (rp_sfx (show 0 ≤ k + m by omega) (show n ≤ 1099511627776 by omega)) fun i => by simp only [Sp.has, Sp.fin]; omega⟩
theorem sfx_add {k n m : Int} (hk : 0 ≤ k) (hm : 1 ≤ m) (hn : k + m ≤ n) (h0 : n ≤ 40960) : addE (sfx (k + m) n) ⟨k, m⟩ = 0 ∧ addS (sfx (k + m) n) ⟨k, m⟩ = sfx k n := by
  have R := rp_sfx (show 0 ≤ k + m by omega) (show n ≤ 1099511627776 by omega)
  obtain ⟨h1, h2, -⟩ := R.add' (x := ⟨k, m⟩) (by rw [Sp.may_iff]; simp only; omega) (by simp only [Sp.fin]; omega) (fun i hi => by simp only [Sp.has, Sp.fin] at hi; omega) (.inr (sfx_len ..))
  exact ⟨h1, h2.eq (rp_sfx hk (show n ≤ 1099511627776 by omega)) fun i => by simp only [Sp.has, Sp.fin]; omega⟩
theorem left_sfx {k n : Int} (hk : 0 ≤ k) (hn : k ≤ n) (h0 : n ≤ 40960) : leftOf' n (sfx k n) = whole k := by
  unfold leftOf'
  by_cases c : k < n
  · rw [show sfx k n = [⟨k, n - k⟩] by simp [sfx, c], List.foldl_cons, List.foldl_nil]
    have R := rp_whole (show n ≤ 1099511627776 by omega)
    obtain ⟨h1, h2, -⟩ := R.rem' (x := ⟨k, n - k⟩) (by rw [Sp.may_iff]; simp only; omega) (fun i hi => by simp only [Sp.has, Sp.fin] at hi; omega) (.inr (by rw [whole_sfx]; exact sfx_len ..))
    exact h2.eq (rp_whole (show k ≤ 1099511627776 by omega)) fun i => by simp only [Sp.has, Sp.fin]; omega
  · rw [show sfx k n = [] by simp [sfx, c], List.foldl_nil]
    rw [show n = k by omega]

section
variable {a : Al} {ks : List Int}
theorem Sf.new {sizes : List Int} (h : Al.badSizes sizes = false) : Sf (Al.new sizes) (sizes.map fun _ => 0) := by
  have hz : ∀ t : Nat, (sizes.map fun _ => (0 : Int)).getD t 0 = 0 := fun t => by
    rw [List.getD_eq_getElem?_getD, List.getElem?_map]
    cases sizes[t]? <;> rfl
  have ho := Al.new_ok h
  refine ⟨ho, rfl, fun t => ?_, by simp [Al.new], fun t _ => ?_, fun t ht => ?_⟩
  · simp only [Al.wt, Al.new, List.getD_eq_getElem?_getD, List.getElem?_map]
    cases sizes[t]? <;> rfl
  · rw [hz]; exact ⟨Int.le_refl _, (size_le ho t).1⟩
  · rw [hz, ← whole_sfx]
    simp only [Al.new] at ht
    simp only [Al.fr, Al.new, Al.size, List.getD_eq_getElem?_getD, List.getElem?_map, List.getElem?_eq_getElem ht]
    rfl
theorem Sf.take (h : Sf a ks) (need : List Int) : (∃ ks', Sf (a.take need).1 ks') ∧ ((a.take need).2.2 = 0 → (a.take need).1.undo (a.take need).2.1 = (a, 0)) := by
  rcases take_cases h.ok need with ⟨-, e⟩ | ⟨-, -, e⟩ | ⟨hb, t, c, h1, h2, h3, e⟩
  · rw [e]; exact ⟨⟨ks, h⟩, fun q => by cases q⟩
  · rw [e]; exact ⟨⟨ks, h⟩, fun q => by cases q⟩
  rw [badNeed_len hb] at h1
  generalize need.getD t 0 = m at *
  rw [h.fr t h1] at h3
  have hk := h.le t h1
  have hs := size_le h.ok t
  obtain ⟨rfl, hm, hkn⟩ := sfx_find hk.1 h3
  obtain ⟨r1, r2⟩ := sfx_rem hk.1 hm hkn hs.2
  obtain ⟨s1, s2⟩ := sfx_add hk.1 hm hkn hs.2
  rw [← h.fr t h1] at r1 r2
  have ho : (a.setF t (remS (a.fr t) ⟨ks.getD t 0, m⟩)).Ok := h.ok.setF (remS_gd (h.ok.frAt t) _)
  have hff := fun i => Al.fr_setF a t i (remS (a.fr t) ⟨ks.getD t 0, m⟩) (by rw [h.ok.nf]; exact h1)
  rw [e]
  refine ⟨⟨ks.set t (ks.getD t 0 + m), ho, h.by_, h.wt, by rw [List.length_set]; exact h.len, fun i hi => ?_, fun i hi => ?_⟩, fun _ => ?_⟩
  · rw [getD_set]
    split
    · rename_i q
      obtain ⟨rfl, -⟩ := q
      exact ⟨by omega, hkn⟩
    · exact h.le i hi
  · rw [getD_set, hff]
    by_cases q : t = i
    · subst q
      rw [if_pos rfl, if_pos ⟨rfl, by rw [h.len]; exact h1⟩]; exact r2
    · rw [if_neg q, if_neg (fun z => q z.1)]; exact h.fr i hi
  · simp only
    have hheld : (a.setF t (remS (a.fr t) ⟨ks.getD t 0, m⟩)).held ⟨(t : Int), ⟨ks.getD t 0, m⟩⟩ = true := by
      have hmay : (⟨ks.getD t 0, m⟩ : Sp).may = true := by rw [Sp.may_iff]; simp only; omega
      refine (held_iff ho _).2 ⟨⟨by simp only; omega, by simp only [Al.setF]; omega⟩, hmay, ?_, ?_, ?_⟩
      · simp only [Int.toNat_natCast, Sp.fin]; exact hkn
      · simp only [Int.toNat_natCast]
        rw [hff, if_pos rfl, r2]
        exact ((rp_sfx (show 0 ≤ ks.getD t 0 + m by omega) (show a.size t ≤ 1099511627776 by omega)).meets_not hmay).2 fun i hi => by simp only [Sp.has, Sp.fin] at hi; omega
      · simp only [Int.toNat_natCast]
        have : (a.setF t (remS (a.fr t) ⟨ks.getD t 0, m⟩)).wt t = [] := h.wt t
        rw [this]
        exact ((rp_nil 0).meets_not hmay).2 fun i _ q => q
    unfold Al.undo
    rw [if_pos hheld]
    simp only [Int.toNat_natCast]
    rw [hff, if_pos rfl, r2, s1, s2]
    refine Prod.ext ?_ rfl
    simp only [Al.setF, List.set_set]
    rw [← h.fr t h1]
    have ht : t < a.free.length := by rw [h.ok.nf]; exact h1
    have : a.free.set t (a.fr t) = a.free := by
      simp only [Al.fr, List.getD_eq_getElem?_getD, List.getElem?_eq_getElem ht, Option.getD_some]
      exact List.set_getElem_self ht
    rw [this]
theorem Al.cuts_append : ∀ (l m : List Pl) (a : Al), a.cuts (l ++ m) = (a.cuts l).bind fun b => b.cuts m
  | [], m, a => rfl
  | p :: r, m, a => by
    simp only [List.cons_append, Al.cuts]
    cases a.cut1 p with
    | none => rfl
    | some b => exact Al.cuts_append r m b
/-- What is made of what another one has taken is as that one. -/
theorem Sf.again (h : Sf a ks) : Al.start a.sizes a.taken = some a := by
  have hbad : Al.badSizes a.sizes = false := by
    have h1 := h.ok.n1
    have h4 := h.ok.n4
    simp only [Al.badSizes, Bool.or_eq_false_iff, decide_eq_false_iff_not, List.any_eq_false, decide_eq_true_eq]
    exact ⟨⟨by omega, by omega⟩, fun n hn => by have := h.ok.sz n hn; omega⟩
  have h0 := Sf.new hbad
  unfold Al.start
  rw [if_neg (by rw [hbad]; simp)]
  have key : ∀ j, j ≤ a.sizes.length → ∃ b, (Al.new a.sizes).cuts ((List.range j).flatMap fun t => (leftOf' (a.size t) (a.fr t)).map fun x => ⟨t, x⟩) = some b ∧ b.Ok ∧ b.sizes = a.sizes ∧ b.by_ = [] ∧ b.waits = (Al.new a.sizes).waits ∧ (∀ t, t < a.sizes.length → b.fr t = if t < j then a.fr t else whole (a.size t)) := by
    intro j
    induction j with
    | zero =>
      intro _
      refine ⟨_, rfl, h0.ok, rfl, rfl, rfl, fun t ht => ?_⟩
      rw [if_neg (by omega), whole_sfx]
      refine (h0.fr t ht).trans ?_
      rw [show (a.sizes.map fun _ => (0 : Int)).getD t 0 = 0 by
        rw [List.getD_eq_getElem?_getD, List.getElem?_map]
        cases a.sizes[t]? <;> rfl]
      rfl
    | succ j ih =>
      intro hj
      obtain ⟨b, e1, hb, hs, hby, hw, hf⟩ := ih (by omega)
      have hk := h.le j (by omega)
      have hsz := size_le h.ok j
      rw [List.range_succ, List.flatMap_append, Al.cuts_append, e1]
      simp only [Option.bind_some, List.flatMap_cons, List.flatMap_nil, List.append_nil]
      rw [h.fr j (by omega), left_sfx hk.1 hk.2 hsz.2]
      by_cases c : 0 < ks.getD j 0
      · rw [show whole (ks.getD j 0) = [⟨0, ks.getD j 0⟩] by unfold whole; rw [if_pos c]]
        simp only [List.map_cons, List.map_nil, Al.cuts]
        have hfj := hf j (by omega)
        rw [if_neg (by omega), whole_sfx] at hfj
        obtain ⟨r1, r2⟩ := sfx_rem (k := 0) (n := a.size j) (m := ks.getD j 0) (by omega) (by omega) (by omega) hsz.2
        have hc1 : b.cut1 ⟨(j : Int), ⟨0, ks.getD j 0⟩⟩ = some (b.setF j (sfx (ks.getD j 0) (a.size j))) := by
          rw [← hfj] at r1 r2
          unfold Al.cut1
          rw [if_pos]
          · simp only [Int.toNat_natCast]; rw [r2, Int.zero_add]
          · rw [Bool.and_eq_true, decide_eq_true_eq]
            exact ⟨by simp only [Al.has, hs, decide_eq_true_eq]; omega, r1⟩
        rw [hc1]
        refine ⟨_, rfl, hb.setF ((rp_sfx hk.1 (show a.size j ≤ 1099511627776 by omega)).gd.okl (by have := sfx_len (ks.getD j 0) (a.size j); omega)), hs, hby, hw, fun t ht => ?_⟩
        rw [Al.fr_setF _ _ _ _ (by rw [hb.nf, hs]; omega)]
        by_cases q : j = t
        · subst q; rw [if_pos rfl, if_pos (by omega), h.fr j (by omega)]
        · rw [if_neg q, hf t ht]
          by_cases z : t < j
          · rw [if_pos z, if_pos (by omega)]
          · rw [if_neg z, if_neg (by omega)]
      · rw [show whole (ks.getD j 0) = [] by unfold whole; rw [if_neg c]]
        refine ⟨b, rfl, hb, hs, hby, hw, fun t ht => ?_⟩
        rw [hf t ht]
        by_cases q : t = j
        · subst q
          rw [if_neg (by omega), if_pos (by omega), h.fr t ht, whole_sfx, show ks.getD t 0 = 0 by omega]
        · by_cases z : t < j
          · rw [if_pos z, if_pos (by omega)]
          · rw [if_neg z, if_neg (by omega)]
  obtain ⟨b, e1, hb, hs, hby, hw, hf⟩ := key a.sizes.length (Nat.le_refl _)
  refine e1.trans (congrArg some ?_)
  refine Al.ext' hs (by rw [hb.nf, h.ok.nf, hs]) (by rw [hb.nw, h.ok.nw, hs]) (fun t ht => ?_) (fun t ht => ?_) (by rw [hby, h.by_])
  · rw [hb.nf, hs] at ht
    rw [hf t ht, if_pos ht]
  · rw [h.wt t]
    have := h0.wt t
    simp only [Al.wt] at this ⊢
    rw [hw]; exact this
end
end Go.Sl
