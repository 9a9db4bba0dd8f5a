/-
  Sums of four, plain: a word by its bytes, what or and shift and add say.
-/
import Derived.Test.YtjhmjdgdgpgcdaaDoorSumP
namespace Go.Sl
abbrev gb (b : List UInt8) (j : Nat) : UInt8 := b.getD j 0
theorem nm_four (b : List UInt8) (q : Nat) : nm b q 4 = (gb b q).toNat + (gb b (q + 1)).toNat * 2 ^ 8 + (gb b (q + 2)).toNat * 2 ^ 16 + (gb b (q + 3)).toNat * 2 ^ 24 := by
  have key : ∀ c : List UInt8, numOf (c.take 4) = (c.getD 0 0).toNat + (c.getD 1 0).toNat * 2 ^ 8 + (c.getD 2 0).toNat * 2 ^ 16 + (c.getD 3 0).toNat * 2 ^ 24 := by
    intro c
    match c with
    | [] => rfl
    | [x] => simp [numOf]
    | [x, y] => simp [numOf]; omega
    | [x, y, z] => simp [numOf]; omega
    | x :: y :: z :: t :: r => simp [numOf]; omega
  have g : ∀ j, (b.drop q).getD j 0 = gb b (q + j) := fun j => by simp [gb, List.getD, List.getElem?_drop]
  unfold nm
  rw [key, g, g, g, g, Nat.add_zero]
theorem gb_in (b : List UInt8) {j : Nat} (h : j < b.length) : gb b j = b[j] := by simp [gb, List.getD, h]
theorem gb_out (b : List UInt8) {j : Nat} (h : b.length ≤ j) : gb b j = 0 := by simp [gb, List.getD, List.getElem?_eq_none h]
theorem wa_m (x y : Nat) : IntKind.u64.wrap ((x : Int) + (y : Int)) = (((x + y) % m64 : Nat) : Int) := by
  rw [IntKind.wrap_u64]; unfold m64; omega
/-- Behind so many bytes: the sum of the whole words, and those of the word that is not whole. -/
structure Run (b : List UInt8) (i : Nat) (s : Fs) (x0 x1 x2 x3 : UInt8) (k : Nat) : Prop where
  le : i ≤ b.length
  hk : k = i % 4
  hs : s = fsN b (i / 4)
  h0 : x0 = if 0 < k then gb b (4 * (i / 4)) else 0
  h1 : x1 = if 1 < k then gb b (4 * (i / 4) + 1) else 0
  h2 : x2 = if 2 < k then gb b (4 * (i / 4) + 2) else 0
  h3 : x3 = 0
theorem Run.start (b : List UInt8) : Run b 0 fsZero 0 0 0 0 0 := ⟨by omega, rfl, rfl, rfl, rfl, rfl, rfl⟩
theorem Run.ok {b : List UInt8} {i : Nat} {s : Fs} {x0 x1 x2 x3 : UInt8} {k : Nat} (h : Run b i s x0 x1 x2 x3 k) : s.Ok := by rw [h.hs]; exact fsN_ok _ _
def word4 (x0 x1 x2 x3 : UInt8) : Nat := x0.toNat + x1.toNat * 2 ^ 8 + x2.toNat * 2 ^ 16 + x3.toNat * 2 ^ 24
theorem Run.s0 {b : List UInt8} {i : Nat} {s : Fs} {x0 x1 x2 x3 : UInt8} (h : Run b i s x0 x1 x2 x3 0) (hi : i < b.length) : Run b (i + 1) s b[i] x1 x2 x3 1 := by
  obtain ⟨h1, h2, h3, h4, h5, h6, h7⟩ := h
  have e : (i + 1) / 4 = i / 4 := by omega
  exact ⟨by omega, by omega, by rw [e, h3], by rw [if_pos (by omega), e, show 4 * (i / 4) = i by omega, gb_in b hi], by rw [h5]; simp, by rw [h6]; simp, h7⟩
theorem Run.s1 {b : List UInt8} {i : Nat} {s : Fs} {x0 x1 x2 x3 : UInt8} (h : Run b i s x0 x1 x2 x3 1) (hi : i < b.length) : Run b (i + 1) s x0 b[i] x2 x3 2 := by
  obtain ⟨h1, h2, h3, h4, h5, h6, h7⟩ := h
  have e : (i + 1) / 4 = i / 4 := by omega
  exact ⟨by omega, by omega, by rw [e, h3], by rw [h4, e]; simp, by rw [if_pos (by omega), e, show 4 * (i / 4) + 1 = i by omega, gb_in b hi], by rw [h6]; simp, h7⟩
theorem Run.s2 {b : List UInt8} {i : Nat} {s : Fs} {x0 x1 x2 x3 : UInt8} (h : Run b i s x0 x1 x2 x3 2) (hi : i < b.length) : Run b (i + 1) s x0 x1 b[i] x3 3 := by
  obtain ⟨h1, h2, h3, h4, h5, h6, h7⟩ := h
  have e : (i + 1) / 4 = i / 4 := by omega
  exact ⟨by omega, by omega, by rw [e, h3], by rw [h4, e]; simp, by rw [h5, e]; simp, by rw [if_pos (by omega), e, show 4 * (i / 4) + 2 = i by omega, gb_in b hi], h7⟩
theorem Run.s3 {b : List UInt8} {i : Nat} {s : Fs} {x0 x1 x2 x3 : UInt8} (h : Run b i s x0 x1 x2 x3 3) (hi : i < b.length) : Run b (i + 1) (fstep s (word4 x0 x1 x2 b[i])) 0 0 0 0 0 := by
  obtain ⟨h1, h2, h3, h4, h5, h6, h7⟩ := h
  have e : (i + 1) / 4 = i / 4 + 1 := by omega
  refine ⟨by omega, by omega, ?_, rfl, rfl, rfl, rfl⟩
  rw [e, fsN, h3, nm_four, word4, h4, h5, h6, if_pos (by omega), if_pos (by omega), if_pos (by omega), ← gb_in b hi, show 4 * (i / 4) + 3 = i by omega]
theorem Run.done0 {b : List UInt8} {s : Fs} {x0 x1 x2 x3 : UInt8} (h : Run b b.length s x0 x1 x2 x3 0) : s = fletch b := by
  rw [h.hs, fletch]; have := h.hk; rw [show (b.length + 3) / 4 = b.length / 4 by omega]
theorem Run.done {b : List UInt8} {s : Fs} {x0 x1 x2 x3 : UInt8} {k : Nat} (h : Run b b.length s x0 x1 x2 x3 k) (hk : k ≠ 0) : fstep s (word4 x0 x1 x2 x3) = fletch b := by
  obtain ⟨h1, h2, h3, h4, h5, h6, h7⟩ := h
  have e : (b.length + 3) / 4 = b.length / 4 + 1 := by omega
  have o : ∀ j, (if j < k then gb b (4 * (b.length / 4) + j) else 0) = gb b (4 * (b.length / 4) + j) := fun j => by
    split
    · rfl
    · rw [gb_out b (by omega)]
  have o0 := o 0; have o1 := o 1; have o2 := o 2; have o3 := o 3
  rw [Nat.add_zero] at o0
  rw [fletch, e, fsN, h3, nm_four, word4, h4, h5, h6, h7, o0, o1, o2, ← o3, if_neg (by omega)]
theorem num_down (b : List UInt8) (q : Nat) {j : Nat} (hj : j < 4) : numOf ((b.drop (q + j)).take (4 - j)) = (gb b (q + j)).toNat + 256 * numOf ((b.drop (q + (j + 1))).take (4 - (j + 1))) := by
  by_cases h : q + j < b.length
  · rw [gb_in b h, List.drop_eq_getElem_cons h, show 4 - j = (4 - (j + 1)) + 1 by omega, List.take_succ_cons, numOf]; rfl
  · rw [gb_out b (by omega), List.drop_eq_nil_of_le (by omega), List.drop_eq_nil_of_le (by omega), List.take_nil, List.take_nil]; rfl
/-- What '==' says of two sums. -/
def Fs.eqB (p q : Fs) : Bool := ((p.a : Int) == (q.a : Int)) && (((p.b : Int) == (q.b : Int)) && (((p.c : Int) == (q.c : Int)) && ((p.d : Int) == (q.d : Int))))
theorem Fs.eqB_eq (p q : Fs) : p.eqB q = decide (p = q) := by
  cases p; cases q
  rw [Bool.eq_iff_iff]
  simp only [Fs.eqB, Bool.and_eq_true, beq_iff_eq, decide_eq_true_eq, Fs.mk.injEq]
  omega
/-- The code's word. -/
theorem word_or1 (x0 x1 : UInt8) : bits .or .u64 (x0.toNat : Int) ((x1.toNat * 2 ^ 8 : Nat) : Int) = ((x0.toNat + x1.toNat * 2 ^ 8 : Nat) : Int) := oru (by have := x0.toNat_lt; omega) (by have := x0.toNat_lt; have := x1.toNat_lt; omega)
theorem word_or2 (x0 x1 x2 : UInt8) : bits .or .u64 ((x0.toNat + x1.toNat * 2 ^ 8 : Nat) : Int) ((x2.toNat * 2 ^ 16 : Nat) : Int) = ((x0.toNat + x1.toNat * 2 ^ 8 + x2.toNat * 2 ^ 16 : Nat) : Int) := oru (by have := x0.toNat_lt; have := x1.toNat_lt; omega) (by have := x0.toNat_lt; have := x1.toNat_lt; have := x2.toNat_lt; omega)
theorem word_or3 (x0 x1 x2 x3 : UInt8) : bits .or .u64 ((x0.toNat + x1.toNat * 2 ^ 8 + x2.toNat * 2 ^ 16 : Nat) : Int) ((x3.toNat * 2 ^ 24 : Nat) : Int) = ((word4 x0 x1 x2 x3 : Nat) : Int) := oru (by have := x0.toNat_lt; have := x1.toNat_lt; have := x2.toNat_lt; omega) (by have := x0.toNat_lt; have := x1.toNat_lt; have := x2.toNat_lt; have := x3.toNat_lt; omega)
theorem word_sh {x : UInt8} (j : Nat) (h : j ≤ 24) : IntKind.u64.wrap ((x.toNat : Int) * 2 ^ ((j : Nat) : Int).toNat) = ((x.toNat * 2 ^ j : Nat) : Int) := shlu (by
  have := x.toNat_lt
  have : 2 ^ j ≤ 2 ^ 24 := Nat.pow_le_pow_right (by omega) h
  calc x.toNat * 2 ^ j ≤ 256 * 2 ^ 24 := Nat.mul_le_mul (by omega) this
    _ < _ := by decide)
end Go.Sl
