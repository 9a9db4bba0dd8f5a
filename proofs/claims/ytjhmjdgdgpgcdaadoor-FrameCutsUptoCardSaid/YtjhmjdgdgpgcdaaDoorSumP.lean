/-
  Sums of four, plain.
-/
import Derived.Test.YtjhmjdgdgpgcdaaDoorPtrP
namespace Go.Sl

/-- A sum's four numbers. -/
structure Fs where
  a : Nat
  b : Nat
  c : Nat
  d : Nat
deriving DecidableEq
def Fs.lay (s : Fs) : List Value := [.int .u64 s.a, .int .u64 s.b, .int .u64 s.c, .int .u64 s.d]
abbrev Fs.agg (s : Fs) : Value := .agg #[.int .u64 s.a, .int .u64 s.b, .int .u64 s.c, .int .u64 s.d]
def fsZero : Fs := ⟨0, 0, 0, 0⟩
def m64 : Nat := 18446744073709551616
/-- One word more. -/
def fstep (s : Fs) (w : Nat) : Fs :=
  let a := (s.a + w) % m64
  let b := (s.b + a) % m64
  let c := (s.c + b) % m64
  ⟨a, b, c, (s.d + c) % m64⟩
structure Fs.Ok (s : Fs) : Prop where
  a : s.a < 18446744073709551616
  b : s.b < 18446744073709551616
  c : s.c < 18446744073709551616
  d : s.d < 18446744073709551616
theorem fstep_ok (s : Fs) (w : Nat) : (fstep s w).Ok := ⟨Nat.mod_lt _ (by decide), Nat.mod_lt _ (by decide), Nat.mod_lt _ (by decide), Nat.mod_lt _ (by decide)⟩
/-- Behind so many words. -/
def fsN (b : List UInt8) : Nat → Fs
  | 0 => fsZero
  | i + 1 => fstep (fsN b i) (nm b (4 * i) 4)
def fletch (b : List UInt8) : Fs := fsN b ((b.length + 3) / 4)
theorem fsN_ok (b : List UInt8) : ∀ i, (fsN b i).Ok
  | 0 => by constructor <;> (show 0 < _; decide)
  | i + 1 => fstep_ok _ _
theorem fletch_ok (b : List UInt8) : (fletch b).Ok := fsN_ok b _

/-! ### One byte turned is told -/
/-- The first number is the sum of the words. -/
def wsum (b : List UInt8) : Nat → Nat
  | 0 => 0
  | i + 1 => wsum b i + nm b (4 * i) 4
theorem fsN_a (b : List UInt8) : ∀ i, (fsN b i).a = wsum b i % m64
  | 0 => rfl
  | i + 1 => by
    show ((fsN b i).a + nm b (4 * i) 4) % m64 = (wsum b i + nm b (4 * i) 4) % m64
    rw [fsN_a b i, Nat.mod_add_mod]
theorem nm_other {b c : List UInt8} {q k : Nat} (h : ∀ j, q ≤ j → j < q + k → b[j]? = c[j]?) : nm b q k = nm c q k := by
  unfold nm
  congr 1
  apply List.ext_getElem?
  intro i
  by_cases hi : i < k
  · rw [List.getElem?_take_of_lt hi, List.getElem?_take_of_lt hi, List.getElem?_drop, List.getElem?_drop]
    exact h _ (by omega) (by omega)
  · rw [List.getElem?_eq_none (by rw [List.length_take]; omega), List.getElem?_eq_none (by rw [List.length_take]; omega)]
theorem nm_inj {b c : List UInt8} {q k : Nat} (hl : b.length = c.length) (h : nm b q k = nm c q k) : (b.drop q).take k = (c.drop q).take k := by
  have e1 := form_num ((b.drop q).take k)
  have e2 := form_num ((c.drop q).take k)
  have hll : ((b.drop q).take k).length = ((c.drop q).take k).length := by simp [hl]
  unfold nm at h
  rw [← e1, h, hll, e2]
theorem wsum_one {b c : List UInt8} {w : Nat} (h : ∀ i, i ≠ w → nm b (4 * i) 4 = nm c (4 * i) 4) : ∀ n, (n ≤ w → wsum b n = wsum c n) ∧ (w < n → wsum b n + nm c (4 * w) 4 = wsum c n + nm b (4 * w) 4)
  | 0 => ⟨fun _ => rfl, fun q => by omega⟩
  | n + 1 => by
    obtain ⟨h1, h2⟩ := wsum_one h n
    simp only [wsum]
    refine ⟨fun q => ?_, fun q => ?_⟩
    · rw [h1 (by omega), h n (by omega)]
    · rcases Nat.lt_or_ge w n with c1 | c1
      · have := h2 c1; have := h n (by omega); omega
      · obtain rfl : n = w := by omega
        have := h1 (Nat.le_refl _); omega
theorem fletch_flip {b : List UInt8} {p : Nat} (hp : p < b.length) {y : UInt8} (hy : y ≠ b[p]) : fletch (b.set p y) ≠ fletch b := by
  intro he
  have hn : (b.set p y).length = b.length := List.length_set
  have ho : ∀ i, i ≠ p / 4 → nm (b.set p y) (4 * i) 4 = nm b (4 * i) 4 := fun i hi => nm_other fun j h1 h2 => by
    rw [List.getElem?_set_ne (by omega)]
  have h2 := (wsum_one ho ((b.length + 3) / 4)).2 (by omega)
  have ha : (fletch (b.set p y)).a = (fletch b).a := by rw [he]
  unfold fletch at ha
  rw [hn, fsN_a, fsN_a] at ha
  have hb1 := nm_lt b (4 * (p / 4)) 4
  have hb2 := nm_lt (b.set p y) (4 * (p / 4)) 4
  rw [p4] at hb1 hb2
  have hw : nm (b.set p y) (4 * (p / 4)) 4 = nm b (4 * (p / 4)) 4 := by
    unfold m64 at ha
    omega
  have hl := nm_inj hn hw
  have hg : (((b.set p y).drop (4 * (p / 4))).take 4)[p % 4]? = ((b.drop (4 * (p / 4))).take 4)[p % 4]? := by rw [hl]
  rw [List.getElem?_take_of_lt (by omega), List.getElem?_take_of_lt (by omega), List.getElem?_drop, List.getElem?_drop, show 4 * (p / 4) + p % 4 = p by omega, List.getElem?_set_self hp, List.getElem?_eq_getElem hp] at hg
  exact hy (Option.some.inj hg)
end Go.Sl
