/-
  Objects as blocks, plain: what was born behind a group.
-/
import Derived.Test.YtkkibnnddllabaaTreeZ
import Derived.Test.YtkkibnnddllabaaRangeS
namespace Go.Sl
theorem Sp.lay_one (x : Sp) : ∀ u ∈ x.lay, u.oneCell' = true := fun u hu => by
  simp only [Sp.lay, List.mem_cons, List.not_mem_nil, or_false] at hu
  rcases hu with rfl | rfl <;> rfl
def snSkip (p : Pt) (txg : Nat) : Bool := p.eqB ptZero || decide (p.birth ≤ txg)
def snAdd (out : List Sp) (at_ many : Int) : List Sp :=
  match out.getLast? with
  | some y => if y.fin = at_ then out.dropLast ++ [⟨y.at_, y.many + many⟩] else out ++ [⟨at_, many⟩]
  | none => [⟨at_, many⟩]
def snStep (size : Int) (txg : Nat) (out : List Sp) (i : Nat) (p : Pt) : List Sp :=
  if size ≤ 1024 * (i : Int) then out else if snSkip p txg then out else snAdd out (1024 * (i : Int)) (min 1024 (size - 1024 * i))
def sincN (size : Int) (l : List Pt) (txg : Nat) : Nat → List Sp
  | 0 => []
  | i + 1 => snStep size txg (sincN size l txg i) i (l.getD i ptZero)
def sinc (size : Int) (l : List Pt) (txg : Nat) : List Sp := sincN size l txg l.length
theorem snAdd_nil (at_ many : Int) : snAdd [] at_ many = [⟨at_, many⟩] := rfl
theorem snAdd_hit {ys : List Sp} {y : Sp} {at_ many : Int} (h : y.fin = at_) : snAdd (ys ++ [y]) at_ many = ys ++ [⟨y.at_, y.many + many⟩] := by simp [snAdd, h]
theorem snAdd_miss {ys : List Sp} {y : Sp} {at_ many : Int} (h : y.fin ≠ at_) : snAdd (ys ++ [y]) at_ many = (ys ++ [y]) ++ [⟨at_, many⟩] := by simp [snAdd, h]
theorem last_or {α : Type} (l : List α) : l = [] ∨ ∃ ys y, l = ys ++ [y] := by
  rcases List.eq_nil_or_concat l with h | ⟨ys, y, h⟩
  · exact .inl h
  · exact .inr ⟨ys, y, by simpa using h⟩

/-- What is true of the spans found so far. -/
structure SnOk (size : Int) (i : Nat) (out : List Sp) : Prop where
  len : out.length ≤ i
  each : ∀ x ∈ out, 0 ≤ x.at_ ∧ x.at_ % 1024 = 0 ∧ 1 ≤ x.many ∧ x.fin ≤ size ∧ x.fin ≤ 1024 * (i : Int)
  gap : out.Pairwise fun a b => a.fin < b.at_
theorem SnOk.more {size : Int} {i : Nat} {out : List Sp} (h : SnOk size i out) : SnOk size (i + 1) out :=
  ⟨by have := h.len; omega, fun x hx => by obtain ⟨h1, h2, h3, h4, h5⟩ := h.each x hx; exact ⟨h1, h2, h3, h4, by omega⟩, h.gap⟩
theorem SnOk.add {size : Int} {i : Nat} {out : List Sp} (h : SnOk size i out) (hs : 1024 * (i : Int) < size) : SnOk size (i + 1) (snAdd out (1024 * (i : Int)) (min 1024 (size - 1024 * i))) := by
  rcases last_or out with rfl | ⟨ys, y, rfl⟩
  · rw [snAdd_nil]
    refine ⟨by simp, fun x hx => ?_, by simp⟩
    rw [List.mem_singleton.1 hx]; simp only [Sp.fin]
    refine ⟨by omega, by omega, by omega, by omega, by omega⟩
  · have hy := h.each y (by simp)
    have hg := List.pairwise_append.1 h.gap
    have hl := h.len
    by_cases c : y.fin = 1024 * (i : Int)
    · rw [snAdd_hit c]
      refine ⟨by simp only [List.length_append, List.length_singleton] at hl ⊢; omega, fun x hx => ?_, ?_⟩
      · rcases List.mem_append.1 hx with hx | hx
        · obtain ⟨h1, h2, h3, h4, h5⟩ := h.each x (by simp [hx]); exact ⟨h1, h2, h3, h4, by omega⟩
        · rw [List.mem_singleton.1 hx]; simp only [Sp.fin] at *
          refine ⟨by omega, by omega, by omega, by omega, by omega⟩
      · rw [List.pairwise_append]
        refine ⟨hg.1, by simp, fun a ha b hb => ?_⟩
        rw [List.mem_singleton.1 hb]; exact hg.2.2 a ha y (by simp)
    · rw [snAdd_miss c]
      refine ⟨by simp only [List.length_append, List.length_singleton] at hl ⊢; omega, fun x hx => ?_, ?_⟩
      · rcases List.mem_append.1 hx with hx | hx
        · obtain ⟨h1, h2, h3, h4, h5⟩ := h.each x hx; exact ⟨h1, h2, h3, h4, by omega⟩
        · rw [List.mem_singleton.1 hx]; simp only [Sp.fin] at *
          refine ⟨by omega, by omega, by omega, by omega, by omega⟩
      · rw [List.pairwise_append]
        refine ⟨h.gap, by simp, fun a ha b hb => ?_⟩
        rw [List.mem_singleton.1 hb]
        show a.fin < 1024 * (i : Int)
        rcases List.mem_append.1 ha with ha | ha
        · have := hg.2.2 a ha y (by simp)
          simp only [Sp.fin] at *; omega
        · rw [List.mem_singleton.1 ha]; omega
theorem sincN_ok (size : Int) (l : List Pt) (txg : Nat) : ∀ i, SnOk size i (sincN size l txg i)
  | 0 => ⟨by simp [sincN], by simp [sincN], by simp [sincN]⟩
  | i + 1 => by
    have ih := sincN_ok size l txg i
    simp only [sincN, snStep]
    split
    · exact ih.more
    · split
      · exact ih.more
      · exact ih.add (by omega)
theorem sincN_stop {size : Int} {l : List Pt} {txg i : Nat} (h : size ≤ 1024 * (i : Int)) : ∀ k, sincN size l txg (i + k) = sincN size l txg i
  | 0 => rfl
  | k + 1 => by
    rw [← Nat.add_assoc, sincN, snStep, if_pos (by omega)]
    exact sincN_stop h k
theorem sinc_done {size : Int} {l : List Pt} {txg i : Nat} (hi : i ≤ l.length) (h : l.length ≤ i ∨ size ≤ 1024 * (i : Int)) : sincN size l txg i = sinc size l txg := by
  rcases h with h | h
  · rw [sinc, Nat.le_antisymm hi h]
  · rw [sinc, ← sincN_stop h (l.length - i), Nat.add_sub_cancel' hi]
theorem sincN_skip {size : Int} {l : List Pt} {txg i : Nat} (hi : i < l.length) (h : snSkip l[i] txg = true) : sincN size l txg (i + 1) = sincN size l txg i := by
  have e : l.getD i ptZero = l[i] := by simp [List.getD, hi]
  rw [sincN, snStep, e, h]; simp
theorem sincN_add {size : Int} {l : List Pt} {txg i : Nat} (hi : i < l.length) (hs : ¬ size ≤ 1024 * (i : Int)) (h : snSkip l[i] txg = false) : sincN size l txg (i + 1) = snAdd (sincN size l txg i) (1024 * (i : Int)) (min 1024 (size - 1024 * i)) := by
  have e : l.getD i ptZero = l[i] := by simp [List.getD, hi]
  rw [sincN, snStep, e, h, if_neg hs]; simp
theorem snSkip_zero {p : Pt} {txg : Nat} (h : p.eqB ptZero = true) : snSkip p txg = true := by simp [snSkip, h]
theorem snSkip_birth {p : Pt} {txg : Nat} (h : p.birth ≤ txg) : snSkip p txg = true := by simp [snSkip, h]
theorem snSkip_no {p : Pt} {txg : Nat} (h : p.eqB ptZero = false) (h2 : ¬ p.birth ≤ txg) : snSkip p txg = false := by simp [snSkip, h, h2]
theorem sp_set (ys : List Sp) (y : Sp) (v : Value) : ((ys ++ [y]).flatMap Sp.lay).set (ys.length * 2 + 1) v = ys.flatMap Sp.lay ++ [.int .i64 y.at_, v] := by
  have hl : (ys.flatMap Sp.lay).length = ys.length * 2 := flat_len Sp.lay_len
  rw [List.flatMap_append, List.set_append, if_neg (by omega), hl, Nat.add_sub_cancel_left]
  simp [Sp.lay]
end Go.Sl
