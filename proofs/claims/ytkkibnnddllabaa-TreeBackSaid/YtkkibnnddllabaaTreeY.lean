/-
  Objects as blocks, plain: tables read.
-/
import Derived.Test.YtkkibnnddllabaaTreeX
namespace Go.Sl
theorem sub_take (b : List UInt8) {q m j k : Nat} (h : j + k ≤ m) : (((b.drop q).take m).drop j).take k = (b.drop (q + j)).take k := by
  rw [List.drop_take, List.drop_drop, List.take_take, Nat.min_eq_left (by omega)]
theorem nm_sub (b : List UInt8) {q m j k : Nat} (h : j + k ≤ m) : nm ((b.drop q).take m) j k = nm b (q + j) k := by rw [nm, sub_take b h]
theorem nm_zero (b : List UInt8) {q : Nat} (h : q < b.length) : nm b q 1 = 0 ↔ b[q] = 0 := by
  rw [nm_one b h]
  constructor
  · intro e; apply UInt8.toNat_inj.1; simpa using e
  · intro e; rw [e]; rfl
theorem three_zero (b : List UInt8) (h : 4 ≤ b.length) : (b.drop 1).take 3 = List.replicate 3 0 ↔ nm b 1 1 = 0 ∧ nm b 2 1 = 0 ∧ nm b 3 1 = 0 := by
  rw [nm_zero b (by omega), nm_zero b (by omega), nm_zero b (by omega)]
  obtain ⟨x0, x1, x2, x3, r, rfl⟩ : ∃ x0 x1 x2 x3 r, b = x0 :: x1 :: x2 :: x3 :: r := by
    match b, h with
    | x0 :: x1 :: x2 :: x3 :: r, _ => exact ⟨x0, x1, x2, x3, r, rfl⟩
  simp [List.replicate]

def sltAt (x : List UInt8) : Slt := ⟨((nm x 0 1 : Nat) : Int) == 1, nm x 4 4, ptdec ((x.drop 8).take 64)⟩
def slotOk (x : List UInt8) : Bool := decide (ptdecE ((x.drop 8).take 64) = 0 ∧ maySB (sltAt x) = true ∧ nm x 0 1 ≤ 1 ∧ nm x 1 1 = 0 ∧ nm x 2 1 = 0 ∧ nm x 3 1 = 0)
def sltsE (b : List UInt8) : Int := if b.length % 72 ≠ 0 ∨ 8064 < b.length then 120 else if ∀ x ∈ chop 72 b, slotOk x = true then 0 else 120
def sltsL (b : List UInt8) : List Slt := if sltsE b = 0 then (chop 72 b).map sltAt else []
theorem slts_form {b : List UInt8} (h : b.length % 72 ≠ 0 ∨ 8064 < b.length) : sltsE b = 120 ∧ sltsL b = [] := by
  have : sltsE b = 120 := by simp only [sltsE]; rw [if_pos h]
  exact ⟨this, by simp [sltsL, this]⟩
theorem slts_bad {b : List UInt8} {x : List UInt8} (hx : x ∈ chop 72 b) (h : slotOk x = false) : sltsE b = 120 ∧ sltsL b = [] := by
  have : sltsE b = 120 := by
    simp only [sltsE]; split
    · rfl
    · rw [if_neg (fun q => by have := q x hx; rw [h] at this; cases this)]
  exact ⟨this, by simp [sltsL, this]⟩
theorem slts_good {b : List UInt8} (h : ¬ (b.length % 72 ≠ 0 ∨ 8064 < b.length)) (hg : ∀ x ∈ chop 72 b, slotOk x = true) : sltsE b = 0 ∧ sltsL b = (chop 72 b).map sltAt := by
  have : sltsE b = 0 := by simp only [sltsE]; rw [if_neg h, if_pos hg]
  exact ⟨this, by rw [sltsL, if_pos this]⟩

/-- What the program's reader reads. -/
def sR (x : List UInt8) : Rdr := (Rdr.mk x 1 0).pad 4
def sN (x : List UInt8) : Nat × Rdr := (sR x).num 4
def sB (x : List UInt8) : List UInt8 × Rdr := (sN x).2.bytes 64
def sltRd (x : List UInt8) : Slt := ⟨((nm x 0 1 : Nat) : Int) == 1, (sN x).1, ptdec (sB x).1⟩
theorem s_good {x : List UInt8} (h : x.length = 72) (hz : (x.drop 1).take 3 = List.replicate 3 0) : sN x = (nm x 4 4, ⟨x, 8, 0⟩) ∧ sB x = ((x.drop 8).take 64, ⟨x, 72, 0⟩) := by
  have h1 : sR x = ⟨x, 4, 0⟩ := by rw [sR]; exact (rpad_at x (q := 1) (to := 4) (by omega) (by omega)).trans (if_pos hz)
  have h2 : sN x = (nm x 4 4, ⟨x, 8, 0⟩) := by rw [sN, h1]; exact rnum_at x (q := 4) (k := 4) (by omega) (by omega) (by omega)
  refine ⟨h2, ?_⟩
  rw [sB, h2]; exact rbytes_at x (q := 8) (k := 64) (by omega)
theorem s_err {x : List UInt8} (h : x.length = 72) (hz : (x.drop 1).take 3 ≠ List.replicate 3 0) : sN x = (0, ⟨x, 1, 14⟩) ∧ sB x = ([], ⟨x, 1, 14⟩) := by
  have h1 : sR x = ⟨x, 1, 14⟩ := by rw [sR]; exact (rpad_at x (q := 1) (to := 4) (by omega) (by omega)).trans (if_neg hz)
  have h2 : sN x = (0, ⟨x, 1, 14⟩) := by rw [sN, h1]; exact rnum_err (s := ⟨x, 1, 14⟩) (by simp) 4
  refine ⟨h2, ?_⟩
  rw [sB, h2]; simp [Rdr.bytes]
theorem sN_lt {x : List UInt8} (h : x.length = 72) : (sN x).1 < 4294967296 := by
  by_cases hz : (x.drop 1).take 3 = List.replicate 3 0
  · rw [(s_good h hz).1]; have := nm_lt x 4 4; rw [p4] at this; exact this
  · rw [(s_err h hz).1]; simp
theorem s_bad {x : List UInt8} (h : x.length = 72) (hb : ptdecE (sB x).1 ≠ 0 ∨ ((sB x).2.done : Int) ≠ 0 ∨ 1 < ((nm x 0 1 : Nat) : Int) ∨ maySB (sltRd x) = false) : slotOk x = false := by
  have h3 := three_zero x (by omega)
  by_cases hz : (x.drop 1).take 3 = List.replicate 3 0
  · obtain ⟨e1, e2⟩ := s_good h hz
    have hd : (sB x).2.done = 0 := by rw [e2]; simp [Rdr.done, h]
    have hr : sltRd x = sltAt x := by rw [sltRd, e1, e2]; rfl
    rw [hd, hr, e2] at hb
    simp only [slotOk, decide_eq_false_iff_not]
    rintro ⟨q1, q2, q3, q4⟩
    rcases hb with hb | hb | hb | hb
    · exact hb q1
    · exact hb rfl
    · omega
    · rw [q2] at hb; cases hb
  · simp only [slotOk, decide_eq_false_iff_not]
    rintro ⟨q1, q2, q3, q4⟩
    exact hz (h3.2 q4)
theorem s_ok {x : List UInt8} (h : x.length = 72) (h1 : ptdecE (sB x).1 = 0) (h3 : ¬ 1 < ((nm x 0 1 : Nat) : Int)) (h4 : maySB (sltRd x) = true) : slotOk x = true ∧ sltRd x = sltAt x := by
  by_cases hz : (x.drop 1).take 3 = List.replicate 3 0
  · obtain ⟨e1, e2⟩ := s_good h hz
    have hr : sltRd x = sltAt x := by rw [sltRd, e1, e2]; rfl
    refine ⟨?_, hr⟩
    rw [e2] at h1; rw [hr] at h4
    simp only [slotOk, decide_eq_true_eq]
    exact ⟨h1, h4, by omega, (three_zero x (by omega)).1 hz⟩
  · rw [(s_err h hz).2] at h1
    simp [ptdecE] at h1
end Go.Sl
