/-
  Plain: numbers as bytes; what a writer and a reader of bytes do, as functions on lists.
-/
import Derived.Test.YtjhmjdgdgpgcdaaDoorWalk
namespace Go.Sl

/-- The number of such bytes, the lowest first. -/
def numOf : List UInt8 → Nat
  | [] => 0
  | b :: r => b.toNat + 256 * numOf r

theorem numOf_append (xs ys : List UInt8) : numOf (xs ++ ys) = numOf xs + 256 ^ xs.length * numOf ys := by
  induction xs with
  | nil => simp [numOf]
  | cons b r ih => simp only [List.cons_append, numOf, ih, List.length_cons, Nat.pow_succ]; rw [Nat.mul_add, Nat.add_assoc]; congr 2; rw [← Nat.mul_assoc, Nat.mul_comm 256]
theorem numOf_lt (xs : List UInt8) : numOf xs < 256 ^ xs.length := by
  induction xs with
  | nil => simp [numOf]
  | cons b r ih =>
    have := b.toNat_lt
    simp only [numOf, List.length_cons, Nat.pow_succ]
    omega
theorem numOf_take_succ (bs : List UInt8) (k : Nat) (h : k < bs.length) : numOf (bs.take (k + 1)) = numOf (bs.take k) + bs[k].toNat * 2 ^ (8 * k) := by
  rw [List.take_succ_eq_append_getElem h, numOf_append, List.length_take, Nat.min_eq_left (by omega), Nat.pow_mul]
  simp [numOf, Nat.mul_comm]

/-- A number in so many bytes. -/
def formOf (n : Nat) : Nat → List UInt8
  | 0 => []
  | k + 1 => formOf n k ++ [UInt8.ofNat (n / 2 ^ (8 * k))]
theorem formOf_length (n k : Nat) : (formOf n k).length = k := by induction k <;> simp [formOf, *]

theorem numOf_form (n k : Nat) : numOf (formOf n k) = n % 256 ^ k := by
  induction k with
  | zero => simp [formOf, numOf, Nat.mod_one]
  | succ k ih =>
    rw [formOf, numOf_append, ih, formOf_length, Nat.pow_succ, Nat.mod_mul]
    simp [numOf, Nat.pow_mul]

theorem set_zeros (xs : List Value) (k : Nat) (z v : Value) (j : Nat) (hj : xs.length = j) (hk : j < k) :
    (xs ++ List.replicate (k - j) z).set j v = (xs ++ [v]) ++ List.replicate (k - (j + 1)) z := by
  subst hj
  rw [List.set_append_right _ _ (Nat.le_refl _), Nat.sub_self, show k - xs.length = (k - (xs.length + 1)) + 1 by omega, List.replicate_succ, List.set_cons_zero, List.append_assoc]
  rfl

/-- A writer: its room, what it holds, its error (0: none). -/
structure Wr where
  room : Nat
  bs : List UInt8
  e : Nat

/-- What a call wants laid down: an error's number, or bytes. -/
abbrev Laid := Nat ⊕ List UInt8

def Wr.fits (s : Wr) (b : List UInt8) : Bool := s.bs.length + b.length ≤ s.room
def Wr.putE (s : Wr) (b : List UInt8) : Nat := if s.fits b then 0 else 12
def Wr.putS (s : Wr) (b : List UInt8) : Wr := if s.fits b then { s with bs := s.bs ++ b } else s
/-- What becomes of a writer: its first error stays. -/
def Wr.lay (s : Wr) (x : Laid) : Wr :=
  if s.e ≠ 0 then s else match x with
    | .inl e => { s with e := e }
    | .inr b => { s.putS b with e := s.putE b }

def numE (n : Nat) (k : Int) : Laid := if k < 1 ∨ 8 < k then .inl 1 else if n ≥ 256 ^ k.toNat then .inl 11 else .inr (formOf n k.toNat)
def textE (t : List UInt8) : Laid := if t.length > 65535 then .inl 11 else .inr (formOf t.length 2 ++ t)
def padE (s : Wr) (to : Int) : Laid := if to < s.bs.length then .inl 11 else if to > s.room then .inl 12 else .inr (List.replicate (to.toNat - s.bs.length) 0)

def Wr.num (s : Wr) (n : Nat) (k : Int) : Wr := s.lay (numE n k)
def Wr.text (s : Wr) (t : List UInt8) : Wr := s.lay (textE t)
def Wr.bytes (s : Wr) (b : List UInt8) : Wr := s.lay (.inr b)
def Wr.pad (s : Wr) (to : Int) : Wr := s.lay (padE s to)

theorem Wr.putS_room (s : Wr) (b : List UInt8) : (s.putS b).room = s.room := by unfold Wr.putS; split <;> rfl
theorem Wr.putS_e (s : Wr) (b : List UInt8) : (s.putS b).e = s.e := by unfold Wr.putS; split <;> rfl
theorem Wr.putS_eq (s : Wr) (b : List UInt8) : s.putS b = { s with bs := (s.putS b).bs } := by unfold Wr.putS; split <;> rfl
theorem Wr.lay_room (s : Wr) (x : Laid) : (s.lay x).room = s.room := by
  unfold Wr.lay; split
  · rfl
  · split
    · rfl
    · exact s.putS_room _

/-- A reader: its bytes, how far it is, its error. -/
structure Rdr where
  bs : List UInt8
  at_ : Nat
  e : Nat

/-- What is cut out. -/
def Rdr.cut (s : Rdr) (k behind : Nat) : List UInt8 := (s.bs.drop (s.at_ + behind)).take k

def Rdr.num (s : Rdr) (k : Int) : Nat × Rdr :=
  if s.e ≠ 0 then (0, s) else if k < 1 ∨ 8 < k then (0, { s with e := 1 }) else if s.bs.length < s.at_ + k.toNat then (0, { s with e := 10 })
  else (numOf (s.cut k.toNat 0), { s with at_ := s.at_ + k.toNat })
def Rdr.bytes (s : Rdr) (k : Int) : List UInt8 × Rdr :=
  if s.e ≠ 0 then ([], s) else if k < 0 then ([], { s with e := 1 }) else if s.bs.length < s.at_ + k.toNat then ([], { s with e := 10 })
  else (s.cut k.toNat 0, { s with at_ := s.at_ + k.toNat })
def Rdr.text (s : Rdr) (most : Int) : List UInt8 × Rdr :=
  if s.e ≠ 0 then ([], s) else if s.bs.length < s.at_ + 2 then ([], { s with e := 10 }) else if most < numOf (s.cut 2 0) then ([], { s with e := 11 })
  else if s.bs.length < s.at_ + 2 + numOf (s.cut 2 0) then ([], { s with e := 10 })
  else (s.cut (numOf (s.cut 2 0)) 2, { s with at_ := s.at_ + (2 + numOf (s.cut 2 0)) })
def Rdr.pad (s : Rdr) (to : Int) : Rdr :=
  if s.e ≠ 0 then s else if to < s.at_ then { s with e := 11 } else if to > s.bs.length then { s with e := 10 }
  else if s.cut (to.toNat - s.at_) 0 = List.replicate (to.toNat - s.at_) 0 then { s with at_ := to.toNat } else { s with e := 14 }
def Rdr.left (s : Rdr) : Int := s.bs.length - s.at_
def Rdr.done (s : Rdr) : Nat := if s.e = 0 ∧ s.at_ < s.bs.length then 13 else s.e

theorem Rdr.cut_length (s : Rdr) (k b : Nat) (h : s.at_ + b + k ≤ s.bs.length) : (s.cut k b).length = k := by simp [Rdr.cut]; omega

/-- The three ways of laying a number down. -/
theorem num_cases (s : Wr) (he : s.e = 0) (hr : s.bs.length + 8 ≤ s.room) (n : Nat) (hn : n < 18446744073709551616) (k : Int) :
    ((k < 1 ∨ 8 < k) ∧ s.num n k = { s with e := 1 }) ∨ (∃ kn : Nat, k = kn ∧ 1 ≤ kn ∧ kn < 8 ∧ 256 ^ kn ≤ n ∧ s.num n k = { s with e := 11 }) ∨
    (∃ kn : Nat, k = kn ∧ 1 ≤ kn ∧ kn ≤ 8 ∧ n < 256 ^ kn ∧ s.num n k = { s with bs := s.bs ++ formOf n kn }) := by
  by_cases hb : k < 1 ∨ 8 < k
  · exact .inl ⟨hb, by simp [Wr.num, Wr.lay, numE, he, hb]⟩
  · obtain ⟨kn, rfl⟩ : ∃ kn : Nat, k = kn := ⟨k.toNat, by omega⟩
    by_cases hg : 256 ^ kn ≤ n
    · have h8 : kn ≠ 8 := by
        rintro rfl
        have : (256 : Nat) ^ 8 = 18446744073709551616 := by decide
        omega
      exact .inr (.inl ⟨kn, rfl, by omega, by omega, hg, by simp [Wr.num, Wr.lay, numE, he, hb, hg]⟩)
    · have hf : s.fits (formOf n kn) = true := by simp only [Wr.fits, formOf_length, decide_eq_true_eq]; omega
      exact .inr (.inr ⟨kn, rfl, by omega, by omega, by omega, by simp [Wr.num, Wr.lay, numE, he, hb, hg, Wr.putE, Wr.putS, hf]⟩)

theorem rnum_form (n kn : Nat) (h1 : 1 ≤ kn) (h8 : kn ≤ 8) (hn : n < 256 ^ kn) : (Rdr.mk (formOf n kn) 0 0).num kn = (n, ⟨formOf n kn, kn, 0⟩) := by
  have hc : (Rdr.mk (formOf n kn) 0 0).cut kn 0 = formOf n kn := by simp [Rdr.cut]; rw [List.take_of_length_le (by rw [formOf_length]; omega)]
  simp [Rdr.num, show ¬ ((kn : Int) < 1 ∨ 8 < (kn : Int)) by omega, formOf_length, hc, numOf_form, Nat.mod_eq_of_lt hn]

theorem num_one (n kn : Nat) (h8 : kn ≤ 8) : (Wr.mk 20 (formOf n kn) 0).num 1 1 = ⟨20, formOf n kn ++ [1], 0⟩ := by
  have hf : (Wr.mk 20 (formOf n kn) 0).fits (formOf 1 1) = true := by simp only [Wr.fits, formOf_length, decide_eq_true_eq]; omega
  simp [Wr.num, Wr.lay, numE, Wr.putE, Wr.putS, hf]
  rfl
theorem num_one_len (n kn : Nat) (h8 : kn ≤ 8) : ((Wr.mk 20 (formOf n kn) 0).num 1 1).bs.length ≤ 140737488355328 := by
  rw [num_one n kn h8]; simp [formOf_length]; omega
theorem num_one_ok (n kn : Nat) (h8 : kn ≤ 8) : ((Wr.mk 20 (formOf n kn) 0).num 1 1).e = 0 := by rw [num_one n kn h8]

end Go.Sl
