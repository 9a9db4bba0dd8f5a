/-
  Allocators, plain: what is given out.
-/
import Derived.Test.YtenhebjhoicpjaaAllQ
namespace Go.Sl
theorem insR_perm (lt : Nat → Nat → Bool) (x : Nat) : ∀ l, (insR lt x l).Perm (x :: l)
  | [] => List.Perm.refl _
  | y :: r => by
    unfold insR
    split
    · exact ((insR_perm lt x r).cons y).trans (List.Perm.swap x y r)
    · exact List.Perm.refl _
theorem srtR_perm_aux (lt : Nat → Nat → Bool) : ∀ (l acc : List Nat), (l.foldl (fun acc x => insR lt x acc) acc).Perm (l ++ acc)
  | [], acc => List.Perm.refl _
  | x :: r, acc => by
    rw [List.foldl_cons]
    refine (srtR_perm_aux lt r _).trans ?_
    refine ((insR_perm lt x acc).append_left r).trans ?_
    exact List.perm_middle
theorem srtR_perm (lt : Nat → Nat → Bool) (l : List Nat) : (srtR lt l).Perm l := by
  have := srtR_perm_aux lt l []
  rwa [List.append_nil] at this
section
variable {a : Al} {need : List Int} {t : Nat} {at_ : Int} {l : List Sp}
theorem mem_wants : t ∈ wants need ↔ t < need.length ∧ 0 < need.getD t 0 := by
  simp only [wants, List.mem_filter, List.mem_range, decide_eq_true_eq]
theorem order_perm : (a.order need).Perm (wants need) := (List.reverse_perm _).trans (srtR_perm _ _)
theorem mem_order : t ∈ a.order need ↔ t < need.length ∧ 0 < need.getD t 0 := by
  rw [order_perm.mem_iff]; exact mem_wants
theorem pick_some : ∀ {o : List Nat}, a.pick need o = some (t, at_) → t ∈ o ∧ findL (a.fr t) (need.getD t 0) 0 = (at_, true)
  | [], h => by simp [Al.pick] at h
  | x :: r, h => by
    unfold Al.pick at h
    split at h
    · rename_i c
      cases h
      exact ⟨List.mem_cons_self .., Prod.ext rfl c⟩
    · obtain ⟨h1, h2⟩ := pick_some h
      exact ⟨List.mem_cons_of_mem _ h1, h2⟩
theorem pick_none : ∀ {o : List Nat}, a.pick need o = none → ∀ t ∈ o, (findL (a.fr t) (need.getD t 0) 0).2 = false
  | [], _, t, ht => by cases ht
  | x :: r, h, t, ht => by
    unfold Al.pick at h
    split at h
    · cases h
    · rename_i c
      rcases List.mem_cons.1 ht with rfl | ht
      · simpa using c
      · exact pick_none h t ht
theorem remL_le {l : List Sp} {x : Sp} (h : ∀ z ∈ l, (pieces x z).length ≤ 1) : (remL l x).length ≤ l.length := by
  induction l with
  | nil => simp [remL]
  | cons y r ih =>
    have h1 := h y (List.mem_cons_self ..)
    have h2 := ih fun z hz => h z (List.mem_cons_of_mem _ hz)
    simp only [remL, List.flatMap_cons, List.length_append, List.length_cons] at *
    omega
/-- What is found from the front can be taken out. -/
theorem rem_front (h : Okl l) {k : Int} (hf : findL l k 0 = (at_, true)) : remE l ⟨at_, k⟩ = 0 := by
  obtain ⟨-, hh, -⟩ := find_spec h.gd hf
  have hx := Sp.may_iff.1 (has_may hh)
  unfold findL at hf
  split at hf
  · cases hf
  obtain ⟨y, hy, h1, h2, h3⟩ := findA_spec hf
  have my := Sp.may_iff.1 (h.gd.may y hy)
  have hle : (remL l ⟨at_, k⟩).length ≤ l.length := remL_le fun z hz => by
    have mz := Sp.may_iff.1 (h.gd.may z hz)
    unfold pieces
    by_cases c : z.at_ < at_
    · have : z.fin ≤ at_ := by
        obtain ⟨i, hi, rfl⟩ := List.getElem_of_mem hy
        obtain ⟨j, hj, rfl⟩ := List.getElem_of_mem hz
        rcases Nat.lt_trichotomy i j with q | rfl | q
        · have := List.pairwise_iff_getElem.1 h.gap i j hi hj q
          simp only [Sp.fin] at *; omega
        · omega
        · have := List.pairwise_iff_getElem.1 h.gap j i hj hi q
          omega
      rw [if_pos (by rw [common_eq]; simp only [Sp.fin] at *; omega)]; simp
    · rw [if_neg (c := z.at_ < (⟨at_, k⟩ : Sp).at_) c]
      split
      · simp
      · split <;> simp
  unfold remE
  rw [if_pos hh, if_neg (by have := h.len; omega)]
/-- What a Take answers, in the end. -/
theorem take_cases (h : a.Ok) (need : List Int) :
    (a.badNeed need = true ∧ a.take need = (a, plZero, 1)) ∨
    (a.badNeed need = false ∧ (∀ t, t < need.length → 0 < need.getD t 0 → (findL (a.fr t) (need.getD t 0) 0).2 = false) ∧ a.take need = (a, plZero, 3)) ∨
    (a.badNeed need = false ∧ ∃ (t : Nat) (at_ : Int), t < need.length ∧ 0 < need.getD t 0 ∧ findL (a.fr t) (need.getD t 0) 0 = (at_, true) ∧ a.take need = (a.setF t (remS (a.fr t) ⟨at_, need.getD t 0⟩), ⟨t, ⟨at_, need.getD t 0⟩⟩, 0)) := by
  cases hb : a.badNeed need with
  | true => exact .inl ⟨rfl, by simp [Al.take, hb]⟩
  | false =>
    right
    cases hp : a.pick need (a.order need) with
    | none => exact .inl ⟨rfl, fun t h1 h2 => pick_none hp t (mem_order.2 ⟨h1, h2⟩), by simp [Al.take, hb, hp]⟩
    | some q =>
      obtain ⟨t, at_⟩ := q
      obtain ⟨h1, h2⟩ := pick_some hp
      obtain ⟨h3, h4⟩ := mem_order.1 h1
      exact .inr ⟨rfl, t, at_, h3, h4, h2, by simp only [Al.take, hb, hp]; rw [rem_front (h.frAt t) h2]; rfl⟩
theorem badNeed_len (h : a.badNeed need = false) : need.length = a.sizes.length := by
  simp only [Al.badNeed, Bool.or_eq_false_iff, decide_eq_false_iff_not, Decidable.not_not] at h
  exact h.1.1
theorem held_iff (h : a.Ok) (p : Pl) : a.held p = true ↔ (0 ≤ p.top ∧ p.top < a.sizes.length) ∧ p.sp.may = true ∧ p.sp.fin ≤ a.size p.top.toNat ∧ meetsL (a.fr p.top.toNat) p.sp = false ∧ meetsL (a.wt p.top.toNat) p.sp = false := by
  simp only [Al.held, Al.has, Bool.and_eq_true, decide_eq_true_eq, Bool.not_eq_true']
  constructor
  · rintro ⟨⟨⟨⟨h1, h2⟩, h3⟩, h4⟩, h5⟩
    have hm := has_may h3
    have m1 := Sp.may_iff.1 hm
    have hs : 0 ≤ a.size p.top.toNat ∧ a.size p.top.toNat ≤ 40960 := by
      unfold Al.size
      have hl : p.top.toNat < a.sizes.length := by omega
      rw [List.getD_eq_getElem?_getD, List.getElem?_eq_getElem hl]
      exact h.sz _ (List.getElem_mem hl)
    have h6 := ((rp_whole (by omega)).has hm).1 h3 (p.sp.fin - 1) (by simp only [Sp.has, Sp.fin]; omega)
    exact ⟨h1, hm, by omega, h4, h5⟩
  · rintro ⟨h1, hm, h3, h4, h5⟩
    have m1 := Sp.may_iff.1 hm
    have hs : 0 ≤ a.size p.top.toNat ∧ a.size p.top.toNat ≤ 40960 := by
      unfold Al.size
      have hl : p.top.toNat < a.sizes.length := by omega
      rw [List.getD_eq_getElem?_getD, List.getElem?_eq_getElem hl]
      exact h.sz _ (List.getElem_mem hl)
    exact ⟨⟨⟨⟨h1, m1.2.1⟩, ((rp_whole (by omega)).has hm).2 fun n hn => by simp only [Sp.has, Sp.fin] at *; omega⟩, h4⟩, h5⟩
end
end Go.Sl
