/-
  Ranges, plain: what the document does with lists of spans, and that a place found by halving answers the same.
-/
import Derived.Test.YtenhebjhoicpjaaRangeM
namespace Go.Sl

/-- Spans that may be, one behind the other, none touching the next. -/
structure Gd (l : List Sp) : Prop where
  may : ∀ x ∈ l, x.may = true
  gap : l.Pairwise (fun a b => a.fin < b.at_)

theorem Okl.gd {l : List Sp} (h : Okl l) : Gd l := ⟨h.may, h.gap⟩
theorem Gd.okl {l : List Sp} (h : Gd l) (hl : l.length ≤ 4096) : Okl l := ⟨h.may, h.gap, hl⟩
theorem gd_nil : Gd [] := ⟨by simp, by simp⟩
theorem gd_cons {y : Sp} {r : List Sp} : Gd (y :: r) ↔ y.may = true ∧ (∀ z ∈ r, y.fin < z.at_) ∧ Gd r := by
  constructor
  · intro h
    have h2 := List.pairwise_cons.1 h.gap
    exact ⟨h.may _ (List.mem_cons_self ..), h2.1, fun x hx => h.may x (List.mem_cons_of_mem _ hx), h2.2⟩
  · rintro ⟨h1, h2, h3⟩
    refine ⟨fun x hx => ?_, List.pairwise_cons.2 ⟨h2, h3.gap⟩⟩
    rcases List.mem_cons.1 hx with rfl | hx
    · exact h1
    · exact h3.may x hx

def sumc : List Sp → Sp → Int
  | [], _ => 0
  | y :: r, x => y.common x + sumc r x
theorem sumc_append (l m : List Sp) (x : Sp) : sumc (l ++ m) x = sumc l x + sumc m x := by
  induction l with
  | nil => simp [sumc]
  | cons y r ih => simp [sumc, ih, Int.add_assoc]
theorem common_eq (y x : Sp) : y.common x = max 0 (min y.fin x.fin - max y.at_ x.at_) := by unfold Sp.common; split <;> omega
theorem common_nonneg (y x : Sp) : 0 ≤ y.common x := by rw [common_eq]; omega
theorem sumc_nonneg (l : List Sp) (x : Sp) : 0 ≤ sumc l x := by
  induction l with
  | nil => exact Int.le_refl _
  | cons y r ih => have := common_nonneg y x; simp only [sumc]; omega
theorem sumc_take_le (l : List Sp) (x : Sp) (i : Nat) : sumc (l.take i) x ≤ sumc l x := by
  have h := sumc_append (l.take i) (l.drop i) x
  rw [List.take_append_drop] at h
  have := sumc_nonneg (l.drop i) x
  omega
theorem take_succ_at {α : Type} (l : List α) {i : Nat} (hi : i < l.length) : l.take (i + 1) = l.take i ++ [l[i]] := by rw [List.take_append_getElem hi]
theorem sumc_take_succ (l : List Sp) (x : Sp) {i : Nat} (hi : i < l.length) : sumc (l.take (i + 1)) x = sumc (l.take i) x + l[i].common x := by
  rw [take_succ_at l hi, sumc_append]; simp [sumc]

theorem sumc_le {l : List Sp} (h : Gd l) (x : Sp) : ∀ (b : Int), (∀ y ∈ l, b ≤ y.at_) → sumc l x ≤ max 0 (x.fin - b) := by
  induction l with
  | nil => intro b _; simp only [sumc]; omega
  | cons y r ih =>
    intro b hb
    obtain ⟨h1, h2, h3⟩ := gd_cons.1 h
    have h4 := ih h3 y.fin (fun z hz => Int.le_of_lt (h2 z hz))
    have h5 := hb y (List.mem_cons_self ..)
    have h6 := Sp.may_iff.1 h1
    simp only [sumc, common_eq]
    simp only [Sp.fin] at *
    omega
theorem sumc_most {l : List Sp} (h : Gd l) {x : Sp} (hx : x.may = true) : sumc l x ≤ 1099511627776 := by
  have h1 := sumc_le h x 0 (fun y hy => (Sp.may_iff.1 (h.may y hy)).1)
  have h2 := Sp.may_iff.1 hx
  simp only [Sp.fin] at *
  omega

theorem sumc_le_many {l : List Sp} (h : Gd l) {x : Sp} (hx : x.may = true) : sumc l x ≤ x.many := by
  have hx' := Sp.may_iff.1 hx
  induction l with
  | nil => simp only [sumc]; omega
  | cons y r ih =>
    obtain ⟨h1, h2, h3⟩ := gd_cons.1 h
    have h4 := sumc_le h3 x y.fin (fun z hz => Int.le_of_lt (h2 z hz))
    have h5 := ih h3
    have h6 := Sp.may_iff.1 h1
    clear ih
    simp only [sumc, common_eq]
    simp only [Sp.fin] at *
    omega

theorem has_iff {l : List Sp} (h : Gd l) {x : Sp} (hx : x.may = true) : sumc l x = x.many ↔ ∃ y ∈ l, y.at_ ≤ x.at_ ∧ x.fin ≤ y.fin := by
  have hx' := Sp.may_iff.1 hx
  induction l with
  | nil => simp only [sumc]; constructor
           · intro h; omega
           · rintro ⟨y, hy, _⟩; cases hy
  | cons y r ih =>
    obtain ⟨h1, h2, h3⟩ := gd_cons.1 h
    have h6 := Sp.may_iff.1 h1
    have hb := sumc_le h3 x (y.fin + 1) (fun z hz => by have := h2 z hz; omega)
    have hn := sumc_nonneg r x
    have ih : sumc r x = x.many ↔ ∃ y ∈ r, y.at_ ≤ x.at_ ∧ x.fin ≤ y.fin := ih h3
    simp only [List.mem_cons, exists_eq_or_imp, sumc]
    by_cases c1 : y.fin ≤ x.at_
    · have e1 : y.common x = 0 := by rw [common_eq]; simp only [Sp.fin] at *; omega
      rw [e1, Int.zero_add]; rw [ih]
      constructor
      · exact .inr
      · rintro (⟨_, h⟩ | h)
        · simp only [Sp.fin] at *; omega
        · exact h
    · have e2 : ∀ z ∈ r, ¬ (z.at_ ≤ x.at_ ∧ x.fin ≤ z.fin) := fun z hz => by have := h2 z hz; omega
      by_cases c2 : y.at_ ≤ x.at_ ∧ x.fin ≤ y.fin
      · have e1 : y.common x = x.many := by rw [common_eq]; simp only [Sp.fin] at *; omega
        have e3 : sumc r x = 0 := by clear ih e1; simp only [Sp.fin] at *; omega
        rw [e1, e3, Int.add_zero]
        exact ⟨fun _ => .inl c2, fun _ => rfl⟩
      · have e1 : y.common x + sumc r x < x.many := by
          clear ih; rw [common_eq]; simp only [Sp.fin] at *; omega
        constructor
        · intro h; omega
        · rintro (h | ⟨z, hz, h⟩)
          · exact absurd h c2
          · exact absurd h (e2 z hz)

theorem meets_iff {l : List Sp} (h : Gd l) {x : Sp} (hx : x.may = true) : 0 < sumc l x ↔ ∃ y ∈ l, y.at_ < x.fin ∧ x.at_ < y.fin := by
  have hx' := Sp.may_iff.1 hx
  induction l with
  | nil => simp [sumc]
  | cons y r ih =>
    obtain ⟨h1, h2, h3⟩ := gd_cons.1 h
    have h6 := Sp.may_iff.1 h1
    have hn := sumc_nonneg r x
    have hc := common_nonneg y x
    have ih : 0 < sumc r x ↔ ∃ y ∈ r, y.at_ < x.fin ∧ x.at_ < y.fin := ih h3
    simp only [List.mem_cons, exists_eq_or_imp, sumc]
    have e1 : 0 < y.common x ↔ y.at_ < x.fin ∧ x.at_ < y.fin := by
      rw [common_eq]; simp only [Sp.fin] at *; omega
    rw [← ih, ← e1]
    clear ih e1
    omega

def meetsL (l : List Sp) (x : Sp) : Bool := x.may && decide (0 < sumc l x)
def hasL (l : List Sp) (x : Sp) : Bool := x.may && decide (sumc l x = x.many)

theorem cut_has {l : List Sp} (h : Gd l) {x : Sp} (hx : x.may = true) {k : Nat} (hk : Cut l x.at_ k) : hasL l x = true ↔ ∃ h : k < l.length, l[k].at_ ≤ x.at_ ∧ x.fin ≤ l[k].fin := by
  simp only [hasL, hx, Bool.true_and, decide_eq_true_eq, has_iff h hx]
  have hx' := Sp.may_iff.1 hx
  constructor
  · rintro ⟨y, hy, h1, h2⟩
    obtain ⟨j, hj, rfl⟩ := List.getElem_of_mem hy
    rcases Nat.lt_trichotomy j k with c | rfl | c
    · have := hk.2.1 j hj c
      simp only [Sp.fin] at *; omega
    · exact ⟨hj, h1, h2⟩
    · have h3 := List.pairwise_iff_getElem.1 h.gap k j (by omega) hj c
      have h4 := hk.2.2 k (by omega) (Nat.le_refl _)
      simp only [Sp.fin] at *; omega
  · rintro ⟨hk, h1, h2⟩
    exact ⟨_, List.getElem_mem hk, h1, h2⟩
theorem cut_meets {l : List Sp} (h : Gd l) {x : Sp} (hx : x.may = true) {k : Nat} (hk : Cut l x.at_ k) : meetsL l x = true ↔ ∃ h : k < l.length, l[k].at_ < x.fin := by
  simp only [meetsL, hx, Bool.true_and, decide_eq_true_eq, meets_iff h hx]
  have hx' := Sp.may_iff.1 hx
  constructor
  · rintro ⟨y, hy, h1, h2⟩
    obtain ⟨j, hj, rfl⟩ := List.getElem_of_mem hy
    rcases Nat.lt_trichotomy j k with c | rfl | c
    · have := hk.2.1 j hj c
      simp only [Sp.fin] at *; omega
    · exact ⟨hj, h1⟩
    · have h3 := List.pairwise_iff_getElem.1 h.gap k j (by omega) hj c
      have h4 := Sp.may_iff.1 (h.may _ (List.getElem_mem (show k < l.length by omega)))
      refine ⟨by omega, ?_⟩
      simp only [Sp.fin] at *; omega
  · rintro ⟨hj, h1⟩
    exact ⟨_, List.getElem_mem hj, h1, hk.2.2 k hj (Nat.le_refl _)⟩

/-! ### One span more -/

def withL : List Sp → Sp → Bool → List Sp
  | [], x, d => if d then [] else [x]
  | y :: r, x, d =>
    if y.fin = x.at_ then withL r ⟨y.at_, y.many + x.many⟩ d
    else if x.fin = y.at_ then withL r ⟨x.at_, x.many + y.many⟩ d
    else if x.at_ < y.at_ ∧ d = false then x :: y :: withL r x true
    else y :: withL r x d

theorem withL_done {l : List Sp} (h : Gd l) {x : Sp} (hx : x.may = true) (hl : ∀ y ∈ l, x.fin < y.at_) : withL l x true = l := by
  have hx' := Sp.may_iff.1 hx
  induction l with
  | nil => rfl
  | cons y r ih =>
    obtain ⟨h1, h2, h3⟩ := gd_cons.1 h
    have h4 := hl y (List.mem_cons_self ..)
    have h6 := Sp.may_iff.1 h1
    unfold withL
    rw [if_neg (by simp only [Sp.fin] at *; omega), if_neg (by omega), if_neg (by simp), ih h3 (fun z hz => hl z (List.mem_cons_of_mem _ hz))]
theorem withL_front {l : List Sp} (h : Gd l) {x : Sp} (hx : x.may = true) (hl : ∀ y ∈ l, x.fin < y.at_) : withL l x false = x :: l := by
  have hx' := Sp.may_iff.1 hx
  cases l with
  | nil => rfl
  | cons y r =>
    obtain ⟨h1, h2, h3⟩ := gd_cons.1 h
    have h4 := hl y (List.mem_cons_self ..)
    have h6 := Sp.may_iff.1 h1
    unfold withL
    rw [if_neg (by simp only [Sp.fin] at *; omega), if_neg (by omega), if_pos ⟨by simp only [Sp.fin] at *; omega, rfl⟩, withL_done h3 hx (fun z hz => hl z (List.mem_cons_of_mem _ hz))]
theorem withL_past {p l : List Sp} {x : Sp} (hx : x.may = true) (hp : ∀ y ∈ p, y.may = true ∧ y.fin < x.at_) : withL (p ++ l) x false = p ++ withL l x false := by
  have hx' := Sp.may_iff.1 hx
  induction p with
  | nil => rfl
  | cons y r ih =>
    obtain ⟨h1, h2⟩ := hp y (List.mem_cons_self ..)
    have h6 := Sp.may_iff.1 h1
    rw [List.cons_append, List.cons_append, withL]
    rw [if_neg (by omega), if_neg (by simp only [Sp.fin] at *; omega), if_neg (by simp only [Sp.fin] at *; omega), ih (fun z hz => hp z (List.mem_cons_of_mem _ hz))]

def Sp.has (x : Sp) (n : Int) : Prop := x.at_ ≤ n ∧ n < x.fin
def mem (l : List Sp) (n : Int) : Prop := ∃ y ∈ l, y.has n
theorem mem_cons {y : Sp} {r : List Sp} {n : Int} : mem (y :: r) n ↔ y.has n ∨ mem r n := by simp [mem]
theorem mem_append {l m : List Sp} {n : Int} : mem (l ++ m) n ↔ mem l n ∨ mem m n := by
  simp only [mem, List.mem_append]
  constructor
  · rintro ⟨y, hy | hy, h⟩
    · exact .inl ⟨y, hy, h⟩
    · exact .inr ⟨y, hy, h⟩
  · rintro (⟨y, hy, h⟩ | ⟨y, hy, h⟩)
    · exact ⟨y, .inl hy, h⟩
    · exact ⟨y, .inr hy, h⟩
def manyL : List Sp → Int
  | [] => 0
  | y :: r => y.many + manyL r
theorem manyL_append (l m : List Sp) : manyL (l ++ m) = manyL l + manyL m := by
  induction l with
  | nil => simp [manyL]
  | cons y r ih => simp [manyL, ih, Int.add_assoc]
theorem manyL_take_succ (l : List Sp) {i : Nat} (hi : i < l.length) : manyL (l.take (i + 1)) = manyL (l.take i) + l[i].many := by
  rw [take_succ_at l hi, manyL_append]; simp [manyL]
theorem manyL_le {l : List Sp} (h : Gd l) : ∀ (b : Int), (∀ y ∈ l, b ≤ y.at_) → 0 ≤ manyL l ∧ manyL l ≤ max 0 (1099511627776 - b) := by
  induction l with
  | nil => intro b _; simp only [manyL]; omega
  | cons y r ih =>
    intro b hb
    obtain ⟨h1, h2, h3⟩ := gd_cons.1 h
    have h4 := ih h3 y.fin (fun z hz => Int.le_of_lt (h2 z hz))
    have h5 := hb y (List.mem_cons_self ..)
    have h6 := Sp.may_iff.1 h1
    simp only [manyL]
    simp only [Sp.fin] at *
    omega
theorem Gd.take {l : List Sp} (h : Gd l) (i : Nat) : Gd (l.take i) := ⟨fun x hx => h.may x (List.mem_of_mem_take hx), h.gap.sublist (List.take_sublist ..)⟩
theorem Gd.drop {l : List Sp} (h : Gd l) (i : Nat) : Gd (l.drop i) := ⟨fun x hx => h.may x (List.mem_of_mem_drop hx), h.gap.sublist (List.drop_sublist ..)⟩
theorem many_bd {l : List Sp} (h : Gd l) : 0 ≤ manyL l ∧ manyL l ≤ 1099511627776 := by
  have := manyL_le h 0 (fun y hy => (Sp.may_iff.1 (h.may y hy)).1)
  omega

/-- What adding a span that is not there makes. -/
structure WithL (l : List Sp) (x : Sp) (m : List Sp) : Prop where
  gd : Gd m
  mem : ∀ n, Sl.mem m n ↔ Sl.mem l n ∨ x.has n
  many : manyL m = manyL l + x.many
  low : ∀ b, b < x.at_ → (∀ y ∈ l, b < y.at_) → ∀ z ∈ m, b < z.at_
  len : m.length ≤ l.length + 1
theorem withL_spec {l : List Sp} (h : Gd l) : ∀ {x : Sp}, x.may = true → (∀ y ∈ l, y.fin ≤ x.at_ ∨ x.fin ≤ y.at_) → WithL l x (withL l x false) := by
  induction l with
  | nil => intro x hx _; exact ⟨gd_cons.2 ⟨hx, by simp, gd_nil⟩, fun n => by simp [withL, mem_cons, mem], by simp [withL, manyL], fun b h1 _ z hz => by simp [withL] at hz; subst hz; exact h1, by simp [withL]⟩
  | cons y r ih =>
    intro x hx hd
    obtain ⟨h1, h2, h3⟩ := gd_cons.1 h
    have h6 := Sp.may_iff.1 h1
    have hx' := Sp.may_iff.1 hx
    have hdy := hd y (List.mem_cons_self ..)
    have hdr : ∀ z ∈ r, z.fin ≤ x.at_ ∨ x.fin ≤ z.at_ := fun z hz => hd z (List.mem_cons_of_mem _ hz)
    have hzm : ∀ z ∈ r, z.at_ < z.fin := fun z hz => by have := Sp.may_iff.1 (h3.may z hz); simp only [Sp.fin]; omega
    unfold withL
    by_cases c1 : y.fin = x.at_
    · rw [if_pos c1]
      have I := ih h3 (x := ⟨y.at_, y.many + x.many⟩) (by rw [Sp.may_iff]; simp only [Sp.fin] at *; omega) (fun z hz => by
        have := hdr z hz; have := hzm z hz; have := h2 z hz; simp only [Sp.fin] at *; omega)
      refine ⟨I.gd, fun n => ?_, ?_, fun b hb hl => I.low b (hl y (List.mem_cons_self ..)) (fun z hz => hl z (List.mem_cons_of_mem _ hz)), ?_⟩
      · rw [I.mem, mem_cons]; clear I; simp only [Sp.has, Sp.fin] at *; by_cases q : mem r n <;> simp only [q, or_true, or_false, true_or] <;> grind
      · rw [I.many]; simp only [manyL]; omega
      · have := I.len; simp only [List.length_cons]; omega
    rw [if_neg c1]
    by_cases c2 : x.fin = y.at_
    · rw [if_pos c2]
      have I := ih h3 (x := ⟨x.at_, x.many + y.many⟩) (by rw [Sp.may_iff]; simp only [Sp.fin] at *; omega) (fun z hz => by
        have := hdr z hz; have := hzm z hz; have := h2 z hz; simp only [Sp.fin] at *; omega)
      refine ⟨I.gd, fun n => ?_, ?_, fun b hb hl => I.low b hb (fun z hz => hl z (List.mem_cons_of_mem _ hz)), ?_⟩
      · rw [I.mem, mem_cons]; clear I; simp only [Sp.has, Sp.fin] at *; by_cases q : mem r n <;> simp only [q, or_true, or_false, true_or] <;> grind
      · rw [I.many]; simp only [manyL]; omega
      · have := I.len; simp only [List.length_cons]; omega
    rw [if_neg c2]
    by_cases c3 : x.at_ < y.at_
    · have hg : x.fin < y.at_ := by simp only [Sp.fin] at *; omega
      rw [if_pos ⟨c3, rfl⟩, withL_done h3 hx (fun z hz => by have := h2 z hz; simp only [Sp.fin] at *; omega)]
      refine ⟨gd_cons.2 ⟨hx, fun z hz => ?_, h⟩, fun n => by rw [mem_cons, Or.comm], by simp only [manyL]; omega, fun b hb hl z hz => ?_, by simp⟩
      · rcases List.mem_cons.1 hz with rfl | hz
        · exact hg
        · have := h2 z hz; simp only [Sp.fin] at *; omega
      · rcases List.mem_cons.1 hz with rfl | hz
        · exact hb
        · exact hl z hz
    · rw [if_neg (by simp [c3])]
      have I := ih h3 hx hdr
      have hyx : y.fin < x.at_ := by simp only [Sp.fin] at *; omega
      refine ⟨gd_cons.2 ⟨h1, I.low y.fin hyx h2, I.gd⟩, fun n => ?_, by simp only [manyL, I.many]; omega, fun b hb hl z hz => ?_, by simp [I.len]⟩
      · rw [mem_cons, I.mem, mem_cons, or_assoc]
      · rcases List.mem_cons.1 hz with rfl | hz
        · exact hl _ (List.mem_cons_self ..)
        · exact I.low b hb (fun z hz => hl z (List.mem_cons_of_mem _ hz)) z hz

/-- What there is to add: nothing of it is there. -/
theorem apart_of_meets {l : List Sp} (h : Gd l) {x : Sp} (hx : x.may = true) (hm : meetsL l x = false) : ∀ y ∈ l, y.fin ≤ x.at_ ∨ x.fin ≤ y.at_ := by
  intro y hy
  have h1 : ¬ (0 < sumc l x) := by simpa [meetsL, hx] using hm
  rw [meets_iff h hx] at h1
  by_cases c : y.fin ≤ x.at_ ∨ x.fin ≤ y.at_
  · exact c
  · exact absurd ⟨y, hy, by omega, by omega⟩ h1

/-! ### Some taken out -/
def pieces (x y : Sp) : List Sp :=
  if x.common y = 0 then [y] else (if y.at_ < x.at_ then [⟨y.at_, x.at_ - y.at_⟩] else []) ++ (if x.fin < y.fin then [⟨x.fin, y.fin - x.fin⟩] else [])
def remL (l : List Sp) (x : Sp) : List Sp := l.flatMap (pieces x)

theorem pieces_far {x y : Sp} (hx : x.may = true) (hy : y.may = true) (h : y.fin ≤ x.at_ ∨ x.fin ≤ y.at_) : pieces x y = [y] := by
  have hx := Sp.may_iff.1 hx
  have hy := Sp.may_iff.1 hy
  unfold pieces
  rw [if_pos (by rw [common_eq]; simp only [Sp.fin] at *; omega)]
theorem remL_far {l : List Sp} (h : Gd l) {x : Sp} (hx : x.may = true) (hl : ∀ y ∈ l, y.fin ≤ x.at_ ∨ x.fin ≤ y.at_) : remL l x = l := by
  induction l with
  | nil => rfl
  | cons y r ih =>
    obtain ⟨h1, h2, h3⟩ := gd_cons.1 h
    have := ih h3 (fun z hz => hl z (List.mem_cons_of_mem _ hz))
    unfold remL at *
    rw [List.flatMap_cons, this, pieces_far hx h1 (hl y (List.mem_cons_self ..))]; rfl
theorem pieces_len (x y : Sp) : (pieces x y).length ≤ 2 := by unfold pieces; repeat' split <;> simp
theorem remL_len (l : List Sp) (x : Sp) : (remL l x).length ≤ 2 * l.length := by
  induction l with
  | nil => simp [remL]
  | cons y r ih => have := pieces_len x y; simp only [remL, List.flatMap_cons, List.length_append, List.length_cons] at *; omega
theorem remL_append (l m : List Sp) (x : Sp) : remL (l ++ m) x = remL l x ++ remL m x := by simp [remL]
theorem remL_take_succ (l : List Sp) (x : Sp) {i : Nat} (hi : i < l.length) : remL (l.take (i + 1)) x = remL (l.take i) x ++ pieces x l[i] := by
  rw [take_succ_at l hi, remL_append]; simp [remL]
theorem cut_rem {l : List Sp} (h : Gd l) {x : Sp} (hx : x.may = true) {k : Nat} (hk : Cut l x.at_ k) (hl : k < l.length) (h1 : l[k].at_ ≤ x.at_) (h2 : x.fin ≤ l[k].fin) : remL l x = l.take k ++ pieces x l[k] ++ l.drop (k + 1) := by
  have hx' := Sp.may_iff.1 hx
  have e : l = l.take k ++ ([l[k]] ++ l.drop (k + 1)) := by rw [List.singleton_append, ← List.drop_eq_getElem_cons hl, List.take_append_drop]
  conv => lhs; rw [e]
  rw [remL_append, remL_append, remL_far (h.take k) hx, remL_far (h.drop _) hx]
  · simp [remL]
  · intro y hy
    obtain ⟨j, hj, rfl⟩ := List.getElem_of_mem hy
    rw [List.length_drop] at hj
    rw [List.getElem_drop]
    have := List.pairwise_iff_getElem.1 h.gap k (k + 1 + j) hl (by omega) (by omega)
    omega
  · intro y hy
    obtain ⟨j, hj, rfl⟩ := List.getElem_of_mem hy
    rw [List.length_take] at hj
    rw [List.getElem_take]
    exact .inl (hk.2.1 j (by omega) (by omega))

/-- What taking a span out makes. -/
structure RemL (l : List Sp) (x : Sp) (m : List Sp) : Prop where
  gd : Gd m
  mem : ∀ n, Sl.mem m n ↔ Sl.mem l n ∧ ¬ x.has n
  many : manyL m = manyL l - x.many
  low : ∀ b, (∀ y ∈ l, b < y.at_) → ∀ z ∈ m, b < z.at_
  len : m.length ≤ l.length + 1
theorem remL_spec {l : List Sp} (h : Gd l) {x : Sp} (hx : x.may = true) (hh : ∃ y ∈ l, y.at_ ≤ x.at_ ∧ x.fin ≤ y.fin) : RemL l x (remL l x) := by
  have hx' := Sp.may_iff.1 hx
  induction l with
  | nil => obtain ⟨y, hy, _⟩ := hh; cases hy
  | cons y r ih =>
    obtain ⟨h1, h2, h3⟩ := gd_cons.1 h
    have h6 := Sp.may_iff.1 h1
    have hu : remL (y :: r) x = pieces x y ++ remL r x := by simp [remL]
    rw [hu]
    by_cases c : y.at_ ≤ x.at_ ∧ x.fin ≤ y.fin
    · clear hh ih
      have hfar : ∀ z ∈ r, z.fin ≤ x.at_ ∨ x.fin ≤ z.at_ := fun z hz => by have := h2 z hz; omega
      have hmr : ∀ n, mem r n → y.fin < n := fun n ⟨z, hz, hzn⟩ => by have := h2 z hz; simp only [Sp.has] at hzn; omega
      rw [remL_far h3 hx hfar]
      unfold pieces
      rw [if_neg (by rw [common_eq]; simp only [Sp.fin] at *; omega)]
      by_cases d1 : y.at_ < x.at_ <;> by_cases d2 : x.fin < y.fin <;> simp only [d1, d2, if_true, if_false, List.nil_append, List.append_nil, List.cons_append]
      · refine ⟨gd_cons.2 ⟨by rw [Sp.may_iff]; simp only [Sp.fin] at *; omega, ?_, gd_cons.2 ⟨by rw [Sp.may_iff]; simp only [Sp.fin] at *; omega, ?_, h3⟩⟩, fun n => ?_, ?_, ?_, by simp⟩
        · intro z hz
          rcases List.mem_cons.1 hz with rfl | hz
          · simp only [Sp.fin] at *; omega
          · have := h2 z hz; simp only [Sp.fin] at *; omega
        · intro z hz; have := h2 z hz; simp only [Sp.fin] at *; omega
        · have := hmr n
          rw [mem_cons, mem_cons, mem_cons]; simp only [Sp.has, Sp.fin] at *; grind
        · simp only [manyL, Sp.fin]; omega
        · intro b hb z hz
          have hby := hb y (List.mem_cons_self ..)
          rcases List.mem_cons.1 hz with rfl | hz
          · exact hby
          rcases List.mem_cons.1 hz with rfl | hz
          · simp only [Sp.fin] at *; omega
          · exact hb z (List.mem_cons_of_mem _ hz)
      · refine ⟨gd_cons.2 ⟨by rw [Sp.may_iff]; simp only [Sp.fin] at *; omega, ?_, h3⟩, fun n => ?_, ?_, ?_, by simp⟩
        · intro z hz; have := h2 z hz; simp only [Sp.fin] at *; omega
        · have := hmr n
          rw [mem_cons, mem_cons]; simp only [Sp.has, Sp.fin] at *; grind
        · simp only [manyL, Sp.fin] at *; omega
        · intro b hb z hz
          have hby := hb y (List.mem_cons_self ..)
          rcases List.mem_cons.1 hz with rfl | hz
          · exact hby
          · exact hb z (List.mem_cons_of_mem _ hz)
      · refine ⟨gd_cons.2 ⟨by rw [Sp.may_iff]; simp only [Sp.fin] at *; omega, ?_, h3⟩, fun n => ?_, ?_, ?_, by simp⟩
        · intro z hz; have := h2 z hz; simp only [Sp.fin] at *; omega
        · have := hmr n
          rw [mem_cons, mem_cons]; simp only [Sp.has, Sp.fin] at *; grind
        · simp only [manyL, Sp.fin] at *; omega
        · intro b hb z hz
          have hby := hb y (List.mem_cons_self ..)
          rcases List.mem_cons.1 hz with rfl | hz
          · simp only [Sp.fin] at *; omega
          · exact hb z (List.mem_cons_of_mem _ hz)
      · refine ⟨h3, fun n => ?_, ?_, fun b hb z hz => hb z (List.mem_cons_of_mem _ hz), by simp; omega⟩
        · have := hmr n
          rw [mem_cons]; simp only [Sp.has, Sp.fin] at *; grind
        · simp only [manyL, Sp.fin] at *; omega
    · have hr : ∃ z ∈ r, z.at_ ≤ x.at_ ∧ x.fin ≤ z.fin := by
        obtain ⟨z, hz, hq⟩ := hh
        rcases List.mem_cons.1 hz with rfl | hz
        · exact absurd hq c
        · exact ⟨z, hz, hq⟩
      have I := ih h3 hr
      have hyx : y.fin < x.at_ := by obtain ⟨z, hz, h, _⟩ := hr; have := h2 z hz; omega
      rw [pieces_far hx h1 (.inl (by omega)), List.singleton_append]
      refine ⟨gd_cons.2 ⟨h1, I.low y.fin h2, I.gd⟩, fun n => ?_, by simp only [manyL, I.many]; omega, fun b hb z hz => ?_, by simp [I.len]⟩
      · rw [mem_cons, I.mem, mem_cons]; simp only [Sp.has, Sp.fin] at *; grind
      · rcases List.mem_cons.1 hz with rfl | hz
        · exact hb _ (List.mem_cons_self ..)
        · exact I.low b (fun z hz => hb z (List.mem_cons_of_mem _ hz)) z hz

/-! ### One form of a set -/
theorem canon : ∀ {l m : List Sp}, Gd l → Gd m → (∀ n, mem l n ↔ mem m n) → l = m
  | [], [], _, _, _ => rfl
  | [], y :: r, _, h, e => by
    have h6 := Sp.may_iff.1 (gd_cons.1 h).1
    have := (e y.at_).2 ⟨y, List.mem_cons_self .., by simp only [Sp.has, Sp.fin]; omega⟩
    obtain ⟨z, hz, _⟩ := this
    cases hz
  | y :: r, [], h, _, e => by
    have h6 := Sp.may_iff.1 (gd_cons.1 h).1
    have := (e y.at_).1 ⟨y, List.mem_cons_self .., by simp only [Sp.has, Sp.fin]; omega⟩
    obtain ⟨z, hz, _⟩ := this
    cases hz
  | y :: r, z :: s, h, k, e => by
    obtain ⟨h1, h2, h3⟩ := gd_cons.1 h
    obtain ⟨k1, k2, k3⟩ := gd_cons.1 k
    have hy := Sp.may_iff.1 h1
    have hz := Sp.may_iff.1 k1
    have mr : ∀ n, mem r n → y.fin < n := fun n ⟨z, hz, hzn⟩ => by have := h2 z hz; simp only [Sp.has] at hzn; omega
    have ms : ∀ n, mem s n → z.fin < n := fun n ⟨y, hy, hyn⟩ => by have := k2 y hy; simp only [Sp.has] at hyn; omega
    have e' : ∀ n, (y.has n ∨ mem r n) ↔ (z.has n ∨ mem s n) := fun n => by rw [← mem_cons, ← mem_cons]; exact e n
    have a1 : z.at_ ≤ y.at_ := by
      rcases (e' y.at_).1 (.inl (by simp only [Sp.has, Sp.fin]; omega)) with q | q
      · exact q.1
      · have := ms _ q; simp only [Sp.fin] at *; omega
    have a2 : y.at_ ≤ z.at_ := by
      rcases (e' z.at_).2 (.inl (by simp only [Sp.has, Sp.fin]; omega)) with q | q
      · exact q.1
      · have := mr _ q; simp only [Sp.fin] at *; omega
    have a3 : y.fin = z.fin := by
      rcases Int.lt_trichotomy y.fin z.fin with c | c | c
      · exfalso
        rcases (e' y.fin).2 (.inl (by simp only [Sp.has, Sp.fin] at *; omega)) with q | q
        · simp only [Sp.has] at q; omega
        · have := mr _ q; omega
      · exact c
      · exfalso
        rcases (e' z.fin).1 (.inl (by simp only [Sp.has, Sp.fin] at *; omega)) with q | q
        · simp only [Sp.has] at q; omega
        · have := ms _ q; omega
    have hyz : y = z := by
      cases y; cases z; simp only [Sp.fin, Sp.mk.injEq] at *; omega
    subst hyz
    congr 1
    refine canon h3 k3 fun n => ?_
    have := e' n
    have m1 := mr n
    have m2 := ms n
    constructor
    · intro q
      rcases this.1 (.inr q) with q' | q'
      · have := m1 q; simp only [Sp.has] at q'; omega
      · exact q'
    · intro q
      rcases this.2 (.inr q) with q' | q'
      · have := m2 q; simp only [Sp.has] at q'; omega
      · exact q'

/-! ### The calls -/
abbrev eRange : Int := 90
abbrev eLong : Int := 2
def addE (l : List Sp) (x : Sp) : Int := if x.may && !meetsL l x then (if 4096 < (withL l x false).length then eLong else 0) else eRange
def addS (l : List Sp) (x : Sp) : List Sp := if addE l x = 0 then withL l x false else l
def remE (l : List Sp) (x : Sp) : Int := if hasL l x then (if 4096 < (remL l x).length then eLong else 0) else eRange
def remS (l : List Sp) (x : Sp) : List Sp := if remE l x = 0 then remL l x else l
def findA : List Sp → Int → Int → Int × Bool
  | [], _, _ => (0, false)
  | y :: r, n, f => if max y.at_ f ≤ y.fin ∧ n ≤ y.fin - max y.at_ f then (max y.at_ f, true) else findA r n f
def findL (l : List Sp) (n f : Int) : Int × Bool := if n < 1 ∨ f < 0 then (0, false) else findA l n f
end Go.Sl
