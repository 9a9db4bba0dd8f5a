/-
  Ranges, plain: the laws about order, about finding, about very many ranges.
-/
import Derived.Test.YtenhebjhoicpjaaRangeP
namespace Go.Sl

theorem addE_ok {l : List Sp} {x : Sp} (h : addE l x = 0) : x.may = true ∧ meetsL l x = false ∧ (withL l x false).length ≤ 4096 := by
  unfold addE at h
  split at h
  · rename_i c
    simp only [Bool.and_eq_true, Bool.not_eq_true'] at c
    split at h
    · cases h
    · exact ⟨c.1, c.2, by omega⟩
  · cases h
theorem addS_ok {l : List Sp} {x : Sp} (h : addE l x = 0) : addS l x = withL l x false := by simp [addS, h]
theorem addS_no {l : List Sp} {x : Sp} (h : addE l x ≠ 0) : addS l x = l := by simp [addS, h]
theorem remE_ok {l : List Sp} {x : Sp} (h : remE l x = 0) : hasL l x = true ∧ (remL l x).length ≤ 4096 := by
  unfold remE at h
  split at h
  · rename_i c
    split at h
    · cases h
    · exact ⟨c, by omega⟩
  · cases h
theorem has_may {l : List Sp} {x : Sp} (h : hasL l x = true) : x.may = true := by simp only [hasL, Bool.and_eq_true] at h; exact h.1
theorem has_in {l : List Sp} (hl : Gd l) {x : Sp} (h : hasL l x = true) : ∃ y ∈ l, y.at_ ≤ x.at_ ∧ x.fin ≤ y.fin := by
  have hx := has_may h
  simp only [hasL, hx, Bool.true_and, decide_eq_true_eq] at h
  exact (has_iff hl hx).1 h
theorem has_of {l : List Sp} (hl : Gd l) {x : Sp} (hx : x.may = true) (h : ∃ y ∈ l, y.at_ ≤ x.at_ ∧ x.fin ≤ y.fin) : hasL l x = true := by
  simp only [hasL, hx, Bool.true_and, decide_eq_true_eq]
  exact (has_iff hl hx).2 h
theorem remS_ok {l : List Sp} {x : Sp} (h : remE l x = 0) : remS l x = remL l x := by simp [remS, h]
theorem addS_gd {l : List Sp} (h : Okl l) (x : Sp) : Okl (addS l x) := by
  by_cases c : addE l x = 0
  · obtain ⟨h1, h2, h3⟩ := addE_ok c
    rw [addS_ok c]
    exact (withL_spec h.gd h1 (apart_of_meets h.gd h1 h2)).gd.okl h3
  · rw [addS_no c]; exact h
theorem remS_gd {l : List Sp} (h : Okl l) (x : Sp) : Okl (remS l x) := by
  by_cases c : remE l x = 0
  · obtain ⟨h1, h3⟩ := remE_ok c
    rw [remS_ok c]
    exact (remL_spec h.gd (has_may h1) (has_in h.gd h1)).gd.okl h3
  · simp only [remS, c, if_false]; exact h
theorem addS_many {l : List Sp} (h : Gd l) {x : Sp} (c : addE l x = 0) : manyL (addS l x) = manyL l + x.many := by
  obtain ⟨h1, h2, h3⟩ := addE_ok c
  rw [addS_ok c]
  exact (withL_spec h h1 (apart_of_meets h h1 h2)).many
theorem remS_many {l : List Sp} (h : Gd l) {x : Sp} (c : remE l x = 0) : manyL (remS l x) = manyL l - x.many := by
  obtain ⟨h1, h3⟩ := remE_ok c
  rw [remS_ok c]
  exact (remL_spec h (has_may h1) (has_in h h1)).many

theorem not_meets {l : List Sp} (h : Gd l) {x : Sp} (hl : ∀ y ∈ l, y.fin ≤ x.at_ ∨ x.fin ≤ y.at_) : meetsL l x = false := by
  cases hx : x.may with
  | false => simp [meetsL, hx]
  | true =>
    cases hm : meetsL l x with
    | false => rfl
    | true =>
      simp only [meetsL, hx, Bool.true_and, decide_eq_true_eq, meets_iff h hx] at hm
      obtain ⟨y, hy, h1, h2⟩ := hm
      have := hl y hy
      omega
theorem apart_of_mem {l : List Sp} {x : Sp} (h : Gd l) (hx : x.may = true) (hd : ∀ n, mem l n → ¬ x.has n) : ∀ y ∈ l, y.fin ≤ x.at_ ∨ x.fin ≤ y.at_ := by
  intro y hy
  have h1 := Sp.may_iff.1 hx
  have h2 := Sp.may_iff.1 (h.may y hy)
  have h3 := hd (max x.at_ y.at_)
  by_cases c : y.has (max x.at_ y.at_)
  · have := h3 ⟨y, hy, c⟩
    simp only [Sp.has, Sp.fin] at *; omega
  · simp only [Sp.has, Sp.fin] at *; omega
/-- Adding what is not there, where there is room. -/
theorem add_fits {l : List Sp} {x : Sp} (h : Gd l) (hx : x.may = true) (hd : ∀ y ∈ l, y.fin ≤ x.at_ ∨ x.fin ≤ y.at_) (hl : (withL l x false).length ≤ 4096) : addE l x = 0 := by
  unfold addE
  rw [if_pos (by simp [hx, not_meets h hd]), if_neg (by omega)]
theorem add_full {l : List Sp} {x : Sp} (h : Gd l) (hx : x.may = true) (hd : ∀ y ∈ l, y.fin ≤ x.at_ ∨ x.fin ≤ y.at_) (hl : 4096 < (withL l x false).length) : addE l x = 2 := by
  unfold addE
  rw [if_pos (by simp [hx, not_meets h hd]), if_pos hl]

/-! ### Order -/
structure Kept (K s : List Sp) : Prop where
  gd : Gd s
  mem : ∀ n, Sl.mem s n ↔ Sl.mem K n
  len : s.length ≤ K.length
structure Apart (K : List Sp) : Prop where
  may : ∀ x ∈ K, x.may = true
  gap : K.Pairwise (fun a b => a.fin ≤ b.at_ ∨ b.fin ≤ a.at_)
theorem kept_nil : Kept [] [] := ⟨gd_nil, fun _ => Iff.rfl, Nat.le_refl _⟩
theorem apart_nil : Apart [] := ⟨by simp, by simp⟩
theorem mem_single {x : Sp} {n : Int} : mem [x] n ↔ x.has n := by simp [mem]
theorem kept_add {K s : List Sp} {x : Sp} (h : Kept K s) (a : Apart K) (c : addE s x = 0) : Kept (K ++ [x]) (addS s x) ∧ Apart (K ++ [x]) := by
  obtain ⟨h1, h2, h3⟩ := addE_ok c
  have hap := apart_of_meets h.gd h1 h2
  have I := withL_spec h.gd h1 hap
  rw [addS_ok c]
  refine ⟨⟨I.gd, fun n => by rw [I.mem, h.mem, mem_append, mem_single], by have := I.len; have := h.len; simp only [List.length_append, List.length_singleton]; omega⟩, ?_, ?_⟩
  · intro y hy
    rcases List.mem_append.1 hy with hy | hy
    · exact a.may y hy
    · rw [List.mem_singleton.1 hy]; exact h1
  · refine List.pairwise_append.2 ⟨a.gap, by simp, fun y hy z hz => ?_⟩
    rw [List.mem_singleton.1 hz]
    have m1 := Sp.may_iff.1 h1
    have m2 := Sp.may_iff.1 (a.may y hy)
    by_cases q : y.has (max x.at_ y.at_)
    · obtain ⟨z, hz, hzn⟩ := (h.mem (max x.at_ y.at_)).2 ⟨y, hy, q⟩
      have := hap z hz
      simp only [Sp.has, Sp.fin] at *; omega
    · simp only [Sp.has, Sp.fin] at *; omega
theorem kept_back {K t : List Sp} {i : Nat} (hi : i < K.length) (h : Kept (K.drop (i + 1)) t) (a : Apart K) (hl : K.length ≤ 2000) : addE t K[i] = 0 ∧ Kept (K.drop i) (addS t K[i]) := by
  have hx := a.may _ (List.getElem_mem hi)
  have m1 := Sp.may_iff.1 hx
  have hap : ∀ y ∈ t, y.fin ≤ K[i].at_ ∨ K[i].fin ≤ y.at_ := apart_of_mem h.gd hx fun n hn hxn => by
    obtain ⟨z, hz, hzn⟩ := (h.mem n).1 hn
    obtain ⟨j, hj, rfl⟩ := List.getElem_of_mem hz
    rw [List.length_drop] at hj
    rw [List.getElem_drop] at hzn
    have := List.pairwise_iff_getElem.1 a.gap i (i + 1 + j) hi (by omega) (by omega)
    simp only [Sp.has, Sp.fin] at *; omega
  have I := withL_spec h.gd hx hap
  have h1 := h.len
  have h2 := I.len
  rw [List.length_drop] at h1
  have c := add_fits h.gd hx hap (by omega)
  refine ⟨c, ?_⟩
  rw [addS_ok c]
  refine ⟨I.gd, fun n => ?_, by rw [List.length_drop]; omega⟩
  rw [I.mem, h.mem, List.drop_eq_getElem_cons hi, mem_cons, Or.comm]
theorem kept_same {K s t : List Sp} (h : Kept K s) (k : Kept K t) : s = t := canon h.gd k.gd fun n => (h.mem n).trans (k.mem n).symm

theorem cover {l : List Sp} (h : Gd l) {x : Sp} (hx : x.may = true) (hc : ∀ n, x.has n → mem l n) : ∃ y ∈ l, y.at_ ≤ x.at_ ∧ x.fin ≤ y.fin := by
  have m1 := Sp.may_iff.1 hx
  obtain ⟨y, hy, hyn⟩ := hc x.at_ (by simp only [Sp.has, Sp.fin]; omega)
  refine ⟨y, hy, hyn.1, ?_⟩
  by_cases c : x.fin ≤ y.fin
  · exact c
  · exfalso
    obtain ⟨z, hz, hzn⟩ := hc y.fin (by simp only [Sp.has] at *; omega)
    obtain ⟨i, hi, rfl⟩ := List.getElem_of_mem hy
    obtain ⟨j, hj, rfl⟩ := List.getElem_of_mem hz
    have mi := Sp.may_iff.1 (h.may _ hy)
    rcases Nat.lt_trichotomy i j with q | rfl | q
    · have := List.pairwise_iff_getElem.1 h.gap i j hi hj q
      simp only [Sp.has, Sp.fin] at *; omega
    · simp only [Sp.has] at hzn; omega
    · have := List.pairwise_iff_getElem.1 h.gap j i hj hi q
      simp only [Sp.has, Sp.fin] at *; omega
/-- What is added and taken out again leaves all as it was. -/
theorem add_rem {l : List Sp} (h : Gd l) {x : Sp} (hl : l.length ≤ 2000) (c : addE l x = 0) : remE (addS l x) x = 0 ∧ remS (addS l x) x = l := by
  obtain ⟨h1, h2, h3⟩ := addE_ok c
  have hap := apart_of_meets h h1 h2
  have I := withL_spec h h1 hap
  have m1 := Sp.may_iff.1 h1
  rw [addS_ok c]
  have hin := cover I.gd h1 (fun n hn => (I.mem n).2 (.inr hn))
  have J := remL_spec I.gd h1 hin
  have hh := has_of I.gd h1 hin
  have c2 : remE (withL l x false) x = 0 := by
    unfold remE
    rw [if_pos hh, if_neg (by have := J.len; have := I.len; omega)]
  refine ⟨c2, ?_⟩
  rw [remS_ok c2]
  refine canon J.gd h fun n => ?_
  rw [J.mem, I.mem]
  constructor
  · rintro ⟨q | q, r⟩
    · exact q
    · exact absurd q r
  · rintro ⟨y, hy, hyn⟩
    refine ⟨.inl ⟨y, hy, hyn⟩, fun q => ?_⟩
    have := hap y hy
    simp only [Sp.has] at *; omega

/-! ### Finding -/
theorem findA_spec {l : List Sp} {n f at' : Int} (h : findA l n f = (at', true)) : ∃ y ∈ l, at' = max y.at_ f ∧ at' ≤ y.fin ∧ n ≤ y.fin - at' := by
  induction l with
  | nil => simp [findA] at h
  | cons y r ih =>
    unfold findA at h
    split at h
    · rename_i c
      cases h
      exact ⟨y, List.mem_cons_self .., rfl, c⟩
    · obtain ⟨z, hz, q⟩ := ih h
      exact ⟨z, List.mem_cons_of_mem _ hz, q⟩
theorem find_spec {l : List Sp} (h : Gd l) {n f at' : Int} (hf : findL l n f = (at', true)) : f ≤ at' ∧ hasL l ⟨at', n⟩ = true ∧ (at' = f ∨ hasL l ⟨at' - 1, n⟩ = false) := by
  unfold findL at hf
  split at hf
  · cases hf
  rename_i c
  obtain ⟨y, hy, h1, h2, h3⟩ := findA_spec hf
  have my := Sp.may_iff.1 (h.may y hy)
  refine ⟨by omega, has_of h (by rw [Sp.may_iff]; simp only [Sp.fin] at *; omega) ⟨y, hy, by simp only; omega, by simp only [Sp.fin] at *; omega⟩, ?_⟩
  by_cases e : at' = f
  · exact .inl e
  · right
    cases hh : hasL l ⟨at' - 1, n⟩ with
    | false => rfl
    | true =>
      exfalso
      obtain ⟨z, hz, h4, h5⟩ := has_in h hh
      obtain ⟨i, hi, rfl⟩ := List.getElem_of_mem hy
      obtain ⟨j, hj, rfl⟩ := List.getElem_of_mem hz
      have mz := Sp.may_iff.1 (h.may _ hz)
      rcases Nat.lt_trichotomy i j with q | rfl | q
      · have := List.pairwise_iff_getElem.1 h.gap i j hi hj q
        simp only [Sp.fin] at *; omega
      · simp only [Sp.fin] at *; omega
      · have := List.pairwise_iff_getElem.1 h.gap j i hj hi q
        simp only [Sp.fin] at *; omega
theorem findA_first {l : List Sp} (h : Gd l) {n f : Int} {y : Sp} (hy : y ∈ l) (h1 : max y.at_ f ≤ y.fin) (h2 : n ≤ y.fin - max y.at_ f) : ∃ at', findA l n f = (at', true) ∧ at' ≤ max y.at_ f := by
  induction l with
  | nil => cases hy
  | cons z r ih =>
    obtain ⟨g1, g2, g3⟩ := gd_cons.1 h
    have mz := Sp.may_iff.1 g1
    unfold findA
    by_cases c : max z.at_ f ≤ z.fin ∧ n ≤ z.fin - max z.at_ f
    · rw [if_pos c]
      refine ⟨_, rfl, ?_⟩
      rcases List.mem_cons.1 hy with rfl | hy
      · exact Int.le_refl _
      · have := g2 y hy; simp only [Sp.fin] at *; omega
    · rw [if_neg c]
      rcases List.mem_cons.1 hy with rfl | hy
      · exact absurd ⟨h1, h2⟩ c
      · exact ih g3 hy
theorem find_first {l : List Sp} (h : Gd l) {n f : Int} (hn : 1 ≤ n) (hf : 0 ≤ f) {y : Sp} (hy : y ∈ l) (h1 : max y.at_ f ≤ y.fin) (h2 : n ≤ y.fin - max y.at_ f) : ∃ at', findL l n f = (at', true) ∧ at' ≤ max y.at_ f := by
  unfold findL
  rw [if_neg (by omega)]
  exact findA_first h hy h1 h2
/-- Behind the ranges that end too early nothing is missed. -/
theorem findA_cut {l : List Sp} {n f : Int} (hn : 1 ≤ n) {k : Nat} (hk : Cut l f k) : findA l n f = findA (l.drop k) n f := by
  have : ∀ (m : Nat), m ≤ k → findA l n f = findA (l.drop m) n f := by
    intro m
    induction m with
    | zero => intro _; rfl
    | succ m ih =>
      intro hm
      have hml : m < l.length := by have := hk.1; omega
      rw [ih (by omega), List.drop_eq_getElem_cons hml, findA, if_neg]
      have := hk.2.1 m hml (by omega)
      omega
  exact this k (Nat.le_refl _)

/-! ### Where a span goes -/
theorem drop_at {l : List Sp} (h : Gd l) {k : Nat} {b : Int} (hl : ∀ h : k < l.length, b ≤ l[k].at_) : ∀ y ∈ l.drop k, b ≤ y.at_ := by
  intro y hy
  obtain ⟨j, hj, rfl⟩ := List.getElem_of_mem hy
  rw [List.length_drop] at hj
  rw [List.getElem_drop]
  have h0 := hl (by omega)
  rcases Nat.eq_zero_or_pos j with rfl | hj0
  · simpa using h0
  · have := List.pairwise_iff_getElem.1 h.gap k (k + j) (by omega) (by omega) (by omega)
    have h2 := Sp.may_iff.1 (h.may _ (List.getElem_mem (show k < l.length by omega)))
    simp only [Sp.fin] at *; omega
theorem with_left {l : List Sp} (h : Gd l) {x : Sp} (hx : x.may = true) {k : Nat} (hk : Cut l x.at_ k) (hn : ¬ ∃ h : 0 < k, (l[k - 1]'(by have := hk.1; omega)).fin = x.at_) : withL l x false = l.take k ++ withL (l.drop k) x false := by
  conv => lhs; rw [← List.take_append_drop k l]
  refine withL_past hx fun y hy => ⟨h.may y (List.mem_of_mem_take hy), ?_⟩
  obtain ⟨j, hj, rfl⟩ := List.getElem_of_mem hy
  rw [List.length_take] at hj
  rw [List.getElem_take]
  have hkl := hk.1
  have h1 := hk.2.1 j (by omega) (by omega)
  have h2 : ¬ (l[k - 1]'(by omega)).fin = x.at_ := fun q => hn ⟨by omega, q⟩
  by_cases c : j = k - 1
  · subst c; omega
  · have := List.pairwise_iff_getElem.1 h.gap j (k - 1) (by omega) (by omega) (by omega)
    have h3 := hk.2.1 (k - 1) (by omega) (by omega)
    have h4 := Sp.may_iff.1 (h.may _ (List.getElem_mem (show k - 1 < l.length by omega)))
    have h5 : (l[k - 1]'(by omega)).at_ < (l[k - 1]'(by omega)).fin := by simp only [Sp.fin]; omega
    omega
theorem with_left' {l : List Sp} (h : Gd l) {x : Sp} (hx : x.may = true) {k : Nat} (hk : k + 1 ≤ l.length) (hn : (l[k]'(by omega)).fin = x.at_) :
    withL l x false = l.take k ++ withL (l.drop (k + 1)) ⟨(l[k]'(by omega)).at_, (l[k]'(by omega)).many + x.many⟩ false := by
  conv => lhs; rw [← List.take_append_drop k l, List.drop_eq_getElem_cons (show k < l.length by omega)]
  rw [withL_past hx fun y hy => ⟨h.may y (List.mem_of_mem_take hy), by
    obtain ⟨j, hj, rfl⟩ := List.getElem_of_mem hy
    rw [List.length_take] at hj
    rw [List.getElem_take]
    have := List.pairwise_iff_getElem.1 h.gap j k (by omega) (by omega) (by omega)
    have h4 := Sp.may_iff.1 (h.may _ (List.getElem_mem (show k < l.length by omega)))
    simp only [Sp.fin] at *; omega⟩, withL, if_pos hn]
theorem with_right {l : List Sp} (h : Gd l) {x : Sp} (hx : x.may = true) {k : Nat} (hl : ∀ h : k < l.length, x.fin < l[k].at_) : withL (l.drop k) x false = x :: l.drop k :=
  withL_front (h.drop k) hx fun y hy => by have := drop_at h (k := k) (b := x.fin + 1) (fun h => by have := hl h; omega) y hy; omega
theorem with_right' {l : List Sp} (h : Gd l) {x : Sp} (hx : x.may = true) {k : Nat} (hk : k < l.length) (hl : l[k].at_ = x.fin) : withL (l.drop k) x false = ⟨x.at_, x.many + l[k].many⟩ :: l.drop (k + 1) := by
  have hx' := Sp.may_iff.1 hx
  have hm := Sp.may_iff.1 (h.may _ (List.getElem_mem hk))
  rw [List.drop_eq_getElem_cons hk, withL, if_neg (by simp only [Sp.fin] at *; omega), if_pos hl.symm]
  refine with_right h (by rw [Sp.may_iff]; simp only [Sp.fin] at *; omega) fun h2 => ?_
  have := List.pairwise_iff_getElem.1 h.gap k (k + 1) hk h2 (by omega)
  simp only [Sp.fin] at *; omega

section
variable {l : List Sp} {x : Sp} {k : Nat}
theorem x1_may (h : Gd l) (hx : x.may = true) (hk : k ≤ l.length) (h0 : 0 < k) (h1 : (l[k - 1]'(by omega)).fin = x.at_) : (⟨(l[k - 1]'(by omega)).at_, (l[k - 1]'(by omega)).many + x.many⟩ : Sp).may = true := by
  have hx' := Sp.may_iff.1 hx
  have hm := Sp.may_iff.1 (h.may _ (List.getElem_mem (show k - 1 < l.length by omega)))
  rw [Sp.may_iff]; simp only [Sp.fin] at *; omega
theorem wLR (h : Gd l) (hx : x.may = true) (hk : k < l.length) (h0 : 0 < k) (h1 : (l[k - 1]'(by omega)).fin = x.at_) (h2 : l[k].at_ = (⟨(l[k - 1]'(by omega)).at_, (l[k - 1]'(by omega)).many + x.many⟩ : Sp).fin) :
    l.take (k - 1) ++ [⟨(l[k - 1]'(by omega)).at_, (l[k - 1]'(by omega)).many + x.many + l[k].many⟩] ++ l.drop (k + 1) = withL l x false := by
  rw [with_left' h hx (k := k - 1) (by omega) h1]
  have e : k - 1 + 1 = k := by omega
  simp only [e]
  rw [with_right' h (x1_may h hx (by omega) h0 h1) hk h2]
  simp
theorem wL (h : Gd l) (hx : x.may = true) (hk : k ≤ l.length) (h0 : 0 < k) (h1 : (l[k - 1]'(by omega)).fin = x.at_) (hn : ∀ h : k < l.length, x.fin ≤ l[k].at_) (h2 : ¬ ∃ h : k < l.length, l[k].at_ = (⟨(l[k - 1]'(by omega)).at_, (l[k - 1]'(by omega)).many + x.many⟩ : Sp).fin) :
    l.take (k - 1) ++ [⟨(l[k - 1]'(by omega)).at_, (l[k - 1]'(by omega)).many + x.many⟩] ++ l.drop k = withL l x false := by
  rw [with_left' h hx (k := k - 1) (by omega) h1]
  have e : k - 1 + 1 = k := by omega
  simp only [e]
  rw [with_right h (x1_may h hx (by omega) h0 h1) fun h3 => ?_]
  · simp
  · have h4 := hn h3
    have h5 : ¬ l[k].at_ = _ := fun q => h2 ⟨h3, q⟩
    simp only [Sp.fin] at *; omega
theorem wR (h : Gd l) (hx : x.may = true) (hk : Cut l x.at_ k) (h0 : ¬ ∃ h : 0 < k, (l[k - 1]'(by have := hk.1; omega)).fin = x.at_) (h1 : k < l.length) (h2 : l[k].at_ = x.fin) :
    l.take k ++ [⟨x.at_, x.many + l[k].many⟩] ++ l.drop (k + 1) = withL l x false := by
  rw [with_left h hx hk h0, with_right' h hx h1 h2]; simp
theorem wN (h : Gd l) (hx : x.may = true) (hk : Cut l x.at_ k) (h0 : ¬ ∃ h : 0 < k, (l[k - 1]'(by have := hk.1; omega)).fin = x.at_) (hn : ∀ h : k < l.length, x.fin ≤ l[k].at_) (h2 : ¬ ∃ h : k < l.length, l[k].at_ = x.fin) :
    l.take k ++ [x] ++ l.drop k = withL l x false := by
  rw [with_left h hx hk h0, with_right h hx fun q => by
    have h3 := hn q
    have h4 : ¬ l[k].at_ = x.fin := fun r => h2 ⟨q, r⟩
    omega]; simp
end

theorem pieces_in {x y : Sp} (hx : x.may = true) (h1 : y.at_ ≤ x.at_) (h2 : x.fin ≤ y.fin) : pieces x y = (if y.at_ < x.at_ then [⟨y.at_, x.at_ - y.at_⟩] else []) ++ (if x.fin < y.fin then [⟨x.fin, y.fin - x.fin⟩] else []) := by
  have hx := Sp.may_iff.1 hx
  unfold pieces
  rw [if_neg (by rw [common_eq]; simp only [Sp.fin] at *; omega)]

/-! ### Very many -/
def evn (f : Int) (n : Nat) : List Sp := (List.range n).map fun j : Nat => (⟨f + 2 * (j : Int), 1⟩ : Sp)
theorem evn_length (f : Int) (n : Nat) : (evn f n).length = n := by simp [evn]
theorem evn_succ (f : Int) (n : Nat) : evn f (n + 1) = evn f n ++ [⟨f + 2 * (n : Int), 1⟩] := by simp [evn, List.range_succ]
theorem evn_mem {f : Int} {n : Nat} {y : Sp} (h : y ∈ evn f n) : ∃ j : Nat, j < n ∧ y = ⟨f + 2 * (j : Int), 1⟩ := by
  simp only [evn, List.mem_map, List.mem_range] at h
  obtain ⟨j, hj, rfl⟩ := h
  exact ⟨j, hj, rfl⟩
theorem evn_gd {f : Int} {n : Nat} (h0 : 0 ≤ f) (h1 : f ≤ 1000) (hn : n ≤ 5000) : Gd (evn f n) := by
  refine ⟨fun x hx => ?_, ?_⟩
  · obtain ⟨j, hj, rfl⟩ := evn_mem hx
    rw [Sp.may_iff]; simp only; omega
  · rw [List.pairwise_iff_getElem]
    intro i j hi hj hij
    simp only [evn, List.getElem_map, List.getElem_range, Sp.fin]
    omega
theorem evn_add {f : Int} {n : Nat} (h0 : 0 ≤ f) (h1 : f ≤ 1000) (hn : n ≤ 4999) : withL (evn f n) ⟨f + 2 * (n : Int), 1⟩ false = evn f (n + 1) := by
  have hx : (⟨f + 2 * (n : Int), 1⟩ : Sp).may = true := by rw [Sp.may_iff]; simp only; omega
  have := withL_past (p := evn f n) (l := []) hx (fun y hy => ⟨(evn_gd h0 h1 (by omega)).may y hy, by
    obtain ⟨j, hj, rfl⟩ := evn_mem hy
    simp only [Sp.fin]; omega⟩)
  rw [List.append_nil] at this
  rw [this, evn_succ]; rfl
theorem evn_addE {f : Int} {n : Nat} (h0 : 0 ≤ f) (h1 : f ≤ 1000) (hn : n ≤ 4096) : addE (evn f n) ⟨f + 2 * (n : Int), 1⟩ = if n = 4096 then 2 else 0 := by
  have hx : (⟨f + 2 * (n : Int), 1⟩ : Sp).may = true := by rw [Sp.may_iff]; simp only; omega
  have hg := evn_gd (n := n) h0 h1 (by omega)
  have hd : ∀ y ∈ evn f n, y.fin ≤ (⟨f + 2 * (n : Int), 1⟩ : Sp).at_ ∨ (⟨f + 2 * (n : Int), 1⟩ : Sp).fin ≤ y.at_ := fun y hy => by
    obtain ⟨j, hj, rfl⟩ := evn_mem hy
    simp only [Sp.fin]; omega
  have hlen : (withL (evn f n) ⟨f + 2 * (n : Int), 1⟩ false).length = n + 1 := by rw [evn_add h0 h1 (by omega), evn_length]
  by_cases c : n = 4096
  · rw [if_pos c]; exact add_full hg hx hd (by omega)
  · rw [if_neg c]; exact add_fits hg hx hd (by omega)
/-- One between two, touching both. -/
theorem withL_between {p r : List Sp} {y z x : Sp} (hg : Gd (p ++ y :: z :: r)) (hx : x.may = true) (h1 : y.fin = x.at_) (h2 : x.fin = z.at_) :
    withL (p ++ y :: z :: r) x false = p ++ ⟨y.at_, y.many + x.many + z.many⟩ :: r := by
  have hx' := Sp.may_iff.1 hx
  have hpw := List.pairwise_append.1 hg.gap
  have hgr : Gd (y :: z :: r) := ⟨fun u hu => hg.may u (List.mem_append_right _ hu), hpw.2.1⟩
  obtain ⟨my, gy, hgz⟩ := gd_cons.1 hgr
  obtain ⟨mz, gz, hg3⟩ := gd_cons.1 hgz
  have my' := Sp.may_iff.1 my
  have mz' := Sp.may_iff.1 mz
  rw [withL_past hx (fun u hu => ⟨hg.may u (List.mem_append_left _ hu), by have := hpw.2.2 u hu y (List.mem_cons_self ..); simp only [Sp.fin] at *; omega⟩)]
  rw [withL, if_pos h1, withL, if_neg (by simp only [Sp.fin] at *; omega), if_pos (by simp only [Sp.fin] at *; omega)]
  rw [withL_front hg3 (by rw [Sp.may_iff]; simp only [Sp.fin] at *; omega) (fun u hu => by have := gz u hu; simp only [Sp.fin] at *; omega)]
end Go.Sl
