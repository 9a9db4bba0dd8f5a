/-
  Allocators, plain: lists of spans that stand for just some numbers; what the calls make of a state.
-/
import Derived.Test.YtenhebjhoicpjaaRangeQ
namespace Go.Sl

/-- A list of spans that stands for just these numbers of a top. -/
structure Rp (s : Int) (P : Int → Prop) (l : List Sp) : Prop where
  gd : Gd l
  mem : ∀ n, Sl.mem l n ↔ P n
  lim : ∀ n, P n → 0 ≤ n ∧ n < s

theorem gd_len {s : Int} {l : List Sp} (h : Gd l) : ∀ b : Int, (∀ y ∈ l, b ≤ y.at_ ∧ y.fin ≤ s) → 2 * (l.length : Int) ≤ max 0 (s - b + 1) := by
  induction l with
  | nil => intro b _; simp only [List.length_nil]; omega
  | cons y r ih =>
    intro b hb
    obtain ⟨h1, h2, h3⟩ := gd_cons.1 h
    have h6 := Sp.may_iff.1 h1
    have h4 := hb y (List.mem_cons_self ..)
    have h5 := ih h3 (y.fin + 1) (fun z hz => ⟨by have := h2 z hz; omega, (hb z (List.mem_cons_of_mem _ hz)).2⟩)
    simp only [List.length_cons, Sp.fin] at *
    omega
section
variable {s : Int} {P Q : Int → Prop} {l m : List Sp} {x : Sp}
theorem Rp.in (h : Rp s P l) {y : Sp} (hy : y ∈ l) : 0 ≤ y.at_ ∧ y.fin ≤ s := by
  have m1 := Sp.may_iff.1 (h.gd.may y hy)
  have h1 := h.lim _ ((h.mem y.at_).1 ⟨y, hy, by simp only [Sp.has, Sp.fin]; omega⟩)
  have h2 := h.lim _ ((h.mem (y.fin - 1)).1 ⟨y, hy, by simp only [Sp.has, Sp.fin]; omega⟩)
  simp only [Sp.fin] at *; omega
theorem Rp.len (h : Rp s P l) (hs : s ≤ 8191) : l.length ≤ 4096 := by
  have := gd_len h.gd 0 (fun y hy => h.in hy)
  omega
theorem Rp.okl (h : Rp s P l) (hs : s ≤ 8191) : Okl l := h.gd.okl (h.len hs)
theorem Rp.congr (h : Rp s P l) (hpq : ∀ n, P n ↔ Q n) : Rp s Q l := ⟨h.gd, fun n => (h.mem n).trans (hpq n), fun n hn => h.lim n ((hpq n).2 hn)⟩
theorem Rp.eq {t : Int} (h : Rp s P l) (k : Rp t Q m) (hpq : ∀ n, P n ↔ Q n) : l = m := canon h.gd k.gd fun n => (h.mem n).trans ((hpq n).trans (k.mem n).symm)
theorem rp_nil (s : Int) : Rp s (fun _ => False) [] := ⟨gd_nil, fun n => by simp [mem], fun _ h => h.elim⟩
def whole (n : Int) : List Sp := if 0 < n then [⟨0, n⟩] else []
/-- The numbers from k on. -/
def sfx (k n : Int) : List Sp := if k < n then [⟨k, n - k⟩] else []
theorem whole_sfx (n : Int) : whole n = sfx 0 n := by simp [whole, sfx]
theorem rp_sfx {k n : Int} (hk : 0 ≤ k) (hn : n ≤ 1099511627776) : Rp n (fun i => k ≤ i ∧ i < n) (sfx k n) := by
  unfold sfx
  split
  · refine ⟨gd_cons.2 ⟨by rw [Sp.may_iff]; simp only; omega, by simp, gd_nil⟩, fun i => ?_, fun i hi => ⟨by omega, hi.2⟩⟩
    simp only [mem_single, Sp.has, Sp.fin]; omega
  · refine ⟨gd_nil, fun i => ?_, fun i hi => ⟨by omega, hi.2⟩⟩
    simp only [mem, List.not_mem_nil, false_and, exists_false, false_iff]; omega
theorem rp_whole {n : Int} (hn : n ≤ 1099511627776) : Rp n (fun i => 0 ≤ i ∧ i < n) (whole n) := by rw [whole_sfx]; exact rp_sfx (by omega) hn
theorem Rp.has (h : Rp s P l) (hx : x.may = true) : hasL l x = true ↔ ∀ n, x.has n → P n := by
  constructor
  · intro hh n hn
    obtain ⟨y, hy, h1, h2⟩ := has_in h.gd hh
    exact (h.mem n).1 ⟨y, hy, by simp only [Sp.has] at *; omega⟩
  · intro hp
    exact has_of h.gd hx (cover h.gd hx fun n hn => (h.mem n).2 (hp n hn))
theorem Rp.meets (h : Rp s P l) (hx : x.may = true) : meetsL l x = true ↔ ∃ n, x.has n ∧ P n := by
  have m1 := Sp.may_iff.1 hx
  simp only [meetsL, hx, Bool.true_and, decide_eq_true_eq, meets_iff h.gd hx]
  constructor
  · rintro ⟨y, hy, h1, h2⟩
    have m2 := Sp.may_iff.1 (h.gd.may y hy)
    refine ⟨max x.at_ y.at_, by simp only [Sp.has, Sp.fin] at *; omega, (h.mem _).1 ⟨y, hy, by simp only [Sp.has, Sp.fin] at *; omega⟩⟩
  · rintro ⟨n, hn, hp⟩
    obtain ⟨y, hy, hyn⟩ := (h.mem n).2 hp
    exact ⟨y, hy, by simp only [Sp.has] at *; omega, by simp only [Sp.has] at *; omega⟩
theorem Rp.meets_not (h : Rp s P l) (hx : x.may = true) : meetsL l x = false ↔ ∀ n, x.has n → ¬ P n := by
  rw [← Bool.not_eq_true, h.meets hx]
  constructor
  · intro q n hn hp; exact q ⟨n, hn, hp⟩
  · rintro q ⟨n, hn, hp⟩; exact q n hn hp
/-- Adding what is not there. -/
theorem Rp.add' (h : Rp s P l) (hx : x.may = true) (h2 : x.fin ≤ s) (hd : ∀ n, x.has n → ¬ P n) (hl : s ≤ 8191 ∨ l.length ≤ 4000) : addE l x = 0 ∧ Rp s (fun n => P n ∨ x.has n) (addS l x) ∧ manyL (addS l x) = manyL l + x.many := by
  have m1 := Sp.may_iff.1 hx
  have hap := apart_of_mem h.gd hx (fun n hn hxn => hd n hxn ((h.mem n).1 hn))
  have I := withL_spec h.gd hx hap
  have R : Rp s (fun n => P n ∨ x.has n) (withL l x false) := ⟨I.gd, fun n => by rw [I.mem, h.mem], fun n hn => by
    rcases hn with hn | hn
    · exact h.lim n hn
    · simp only [Sp.has] at hn; omega⟩
  have c : addE l x = 0 := add_fits h.gd hx hap (by
    rcases hl with hl | hl
    · exact R.len hl
    · have := I.len; omega)
  refine ⟨c, by rw [addS_ok c]; exact R, addS_many h.gd c⟩
theorem Rp.add (h : Rp s P l) (hs : s ≤ 8191) (hx : x.may = true) (h2 : x.fin ≤ s) (hd : ∀ n, x.has n → ¬ P n) : addE l x = 0 ∧ Rp s (fun n => P n ∨ x.has n) (addS l x) ∧ manyL (addS l x) = manyL l + x.many := h.add' hx h2 hd (.inl hs)
/-- Taking out what is there. -/
theorem Rp.rem' (h : Rp s P l) (hx : x.may = true) (hd : ∀ n, x.has n → P n) (hl : s ≤ 8191 ∨ l.length ≤ 4000) : remE l x = 0 ∧ Rp s (fun n => P n ∧ ¬ x.has n) (remS l x) ∧ manyL (remS l x) = manyL l - x.many := by
  have hh := (h.has hx).2 hd
  have J := remL_spec h.gd hx (has_in h.gd hh)
  have R : Rp s (fun n => P n ∧ ¬ x.has n) (remL l x) := ⟨J.gd, fun n => by rw [J.mem, h.mem], fun n hn => h.lim n hn.1⟩
  have c : remE l x = 0 := by
    unfold remE
    rw [if_pos hh, if_neg]
    rcases hl with hl | hl
    · have := R.len hl; omega
    · have := J.len; omega
  exact ⟨c, by rw [remS_ok c]; exact R, remS_many h.gd c⟩
theorem Rp.rem (h : Rp s P l) (hs : s ≤ 8191) (hx : x.may = true) (hd : ∀ n, x.has n → P n) : remE l x = 0 ∧ Rp s (fun n => P n ∧ ¬ x.has n) (remS l x) ∧ manyL (remS l x) = manyL l - x.many := h.rem' hx hd (.inl hs)
/-- What is found is there. -/
theorem Rp.find (h : Rp s P l) {k a : Int} (hf : findL l k 0 = (a, true)) : (⟨a, k⟩ : Sp).may = true ∧ 0 ≤ a ∧ 1 ≤ k ∧ a + k ≤ s ∧ ∀ n, (⟨a, k⟩ : Sp).has n → P n := by
  obtain ⟨h1, h2, -⟩ := find_spec h.gd hf
  have hm := has_may h2
  have m1 := Sp.may_iff.1 hm
  have h3 := (h.has hm).1 h2
  have h4 := h.lim _ (h3 (a + k - 1) (by simp only [Sp.has, Sp.fin] at *; omega))
  simp only at m1
  exact ⟨hm, h1, by omega, by omega, h3⟩
/-- Nothing is found where there is not so much. -/
theorem Rp.nofind (h : Rp s P l) {k a b : Int} (hk : 1 ≤ k) (hf : findL l k 0 = (a, false)) (hb : 0 ≤ b) (hbm : b + k ≤ 1099511627776) (hp : ∀ n, (⟨b, k⟩ : Sp).has n → P n) : False := by
  obtain ⟨y, hy, h1, h2⟩ := has_in h.gd ((h.has (by rw [Sp.may_iff]; simp only; omega)).2 hp)
  simp only [Sp.fin] at h2
  obtain ⟨c, hc, -⟩ := find_first h.gd hk (Int.le_refl 0) hy (by have := h.in hy; simp only [Sp.fin] at *; omega) (by have := h.in hy; simp only [Sp.fin] at *; omega)
  rw [hf] at hc
  cases hc
end
end Go.Sl
