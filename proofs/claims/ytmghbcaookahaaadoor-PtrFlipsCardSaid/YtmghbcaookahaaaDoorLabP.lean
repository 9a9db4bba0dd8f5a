/-
  Labels and uberblocks, plain.
-/
import Derived.Test.YtmghbcaookahaaaDoorSumP
namespace Go.Sl

/-! ### 96 bytes and their sum -/
def fsB (s : Fs) : List UInt8 := formOf s.a 8 ++ formOf s.b 8 ++ formOf s.c 8 ++ formOf s.d 8
theorem fsB_length (s : Fs) : (fsB s).length = 32 := by simp [fsB, formOf_length]
def fsAt (b : List UInt8) (q : Nat) : Fs := ⟨nm b q 8, nm b (q + 8) 8, nm b (q + 16) 8, nm b (q + 24) 8⟩
theorem fsAt_ok (b : List UInt8) (q : Nat) : (fsAt b q).Ok := by
  have h1 := nm_lt b q 8
  have h2 := nm_lt b (q + 8) 8
  have h3 := nm_lt b (q + 16) 8
  have h4 := nm_lt b (q + 24) 8
  rw [p8] at h1 h2 h3 h4
  exact ⟨h1, h2, h3, h4⟩
theorem fsAt_enc {s : Fs} (h : s.Ok) (x y : List UInt8) {q : Nat} (hx : x.length = q) : fsAt (x ++ (fsB s ++ y)) q = s := by
  have e8 := p8
  have ha := h.a; have hb := h.b; have hc := h.c; have hd := h.d
  have f1 := nm_form x (formOf s.b 8 ++ (formOf s.c 8 ++ (formOf s.d 8 ++ y))) s.a (q := q) (k := 8) hx (by omega)
  have f2 := nm_form (x ++ formOf s.a 8) (formOf s.c 8 ++ (formOf s.d 8 ++ y)) s.b (q := q + 8) (k := 8) (by simp [formOf_length, hx]) (by omega)
  have f3 := nm_form (x ++ (formOf s.a 8 ++ formOf s.b 8)) (formOf s.d 8 ++ y) s.c (q := q + 16) (k := 8) (by simp [formOf_length, hx]) (by omega)
  have f4 := nm_form (x ++ (formOf s.a 8 ++ (formOf s.b 8 ++ formOf s.c 8))) y s.d (q := q + 24) (k := 8) (by simp [formOf_length, hx]) (by omega)
  simp only [List.append_assoc] at f1 f2 f3 f4
  simp only [fsAt, fsB, List.append_assoc, f1, f2, f3, f4]
theorem fsB_at (b : List UInt8) {q : Nat} (h : q + 32 ≤ b.length) : fsB (fsAt b q) = (b.drop q).take 32 := by
  have f (j k : Nat) (hj : q + j + k ≤ b.length) := form_cut b (q := q + j) (k := k) hj
  simp only [fsB, fsAt, nm]
  rw [show q = q + 0 from rfl, f 0 8 (by omega)]
  simp only [Nat.add_zero]
  rw [f 8 8 (by omega), f 16 8 (by omega), f 24 8 (by omega)]
  have g (j k m : Nat) : (b.drop (q + j)).take (k + m) = (b.drop (q + j)).take k ++ (b.drop (q + (j + k))).take m := by rw [List.take_add, List.drop_drop, Nat.add_assoc]
  have g0 := g 0 8 24
  have g8 := g 8 8 16
  have g16 := g 16 8 8
  simp only [Nat.add_zero, Nat.reduceAdd] at g0 g8 g16
  rw [g0, g8, g16]
  simp only [List.append_assoc]
def pad96 (x : List UInt8) : List UInt8 := x ++ List.replicate (96 - x.length) 0
theorem pad96_length {x : List UInt8} (h : x.length ≤ 96) : (pad96 x).length = 96 := by simp [pad96]; omega
def whole (x : List UInt8) : List UInt8 := pad96 x ++ fsB (fletch (pad96 x))
theorem whole_length {x : List UInt8} (h : x.length ≤ 96) : (whole x).length = 128 := by rw [whole, List.length_append, pad96_length h, fsB_length]
/-- Are there such letters and the right sum? -/
def openB (b letters : List UInt8) : Bool := decide (b.length = 128 ∧ b.take 4 = letters ∧ fsAt b 96 = fletch (b.take 96))
theorem open_whole {x letters : List UInt8} (h : x.length ≤ 96) (hl : letters.length = 4) (hp : ∃ r, x = letters ++ r) : openB (whole x) letters = true ∧ (whole x).take 96 = pad96 x := by
  have h1 : (whole x).take 96 = pad96 x := List.take_left' (pad96_length h)
  refine ⟨?_, h1⟩
  simp only [openB, decide_eq_true_eq]
  refine ⟨whole_length h, ?_, ?_⟩
  · obtain ⟨r, rfl⟩ := hp
    rw [whole, pad96, List.append_assoc, List.append_assoc, List.take_left' hl]
  · rw [h1]
    have := fsAt_enc (fletch_ok (pad96 x)) (pad96 x) [] (pad96_length h)
    rw [List.append_nil] at this
    exact this
/-- What is open and has noughts behind a place is whole. -/
theorem whole_open {b letters : List UInt8} (h : openB b letters = true) {k : Nat} (hk : k ≤ 96) (hz : (b.take 96).drop k = List.replicate (96 - k) 0) : whole (b.take k) = b := by
  simp only [openB, decide_eq_true_eq] at h
  obtain ⟨h1, -, h3⟩ := h
  have hp : pad96 (b.take k) = b.take 96 := by
    rw [pad96, List.length_take, show min k b.length = k by omega, ← hz, show b.take k = (b.take 96).take k by rw [List.take_take, Nat.min_eq_left hk], List.take_append_drop]
  rw [whole, hp, ← h3, fsB_at b (by omega), show (b.drop 96).take 32 = b.drop 96 from List.take_of_length_le (by rw [List.length_drop]; omega), List.take_append_drop]
/-- One byte turned shuts it. -/
theorem open_flip {b letters : List UInt8} (h : openB b letters = true) {p : Nat} (hp : p < 128) {y : UInt8} (hy : ∀ h : p < b.length, y ≠ b[p]) : openB (b.set p y) letters = false := by
  simp only [openB, decide_eq_true_eq] at h
  obtain ⟨h1, -, h3⟩ := h
  simp only [openB, decide_eq_false_iff_not]
  rintro ⟨-, -, q3⟩
  have hpb : p < b.length := by omega
  rcases Nat.lt_or_ge p 96 with c | c
  · have e1 : fsAt (b.set p y) 96 = fsAt b 96 := by
      have f (q k : Nat) (hq : 96 ≤ q) : nm (b.set p y) q k = nm b q k := nm_other fun j h1 h2 => by rw [List.getElem?_set_ne (by omega)]
      simp only [fsAt, f 96 8 (by omega), f (96 + 8) 8 (by omega), f (96 + 16) 8 (by omega), f (96 + 24) 8 (by omega)]
    have e2 : (b.set p y).take 96 = (b.take 96).set p y := List.take_set
    rw [e1, h3, e2] at q3
    have := fletch_flip (b := b.take 96) (p := p) (by rw [List.length_take]; omega) (y := y) (by rw [List.getElem_take]; exact hy hpb)
    exact this q3.symm
  · have e2 : (b.set p y).take 96 = b.take 96 := List.take_set_of_le (by omega)
    rw [e2, ← h3] at q3
    have hB := congrArg fsB q3
    rw [fsB_at _ (by rw [List.length_set]; omega), fsB_at _ (by omega)] at hB
    have hg : (((b.set p y).drop 96).take 32)[p - 96]? = ((b.drop 96).take 32)[p - 96]? := by rw [hB]
    rw [List.getElem?_take_of_lt (by omega), List.getElem?_take_of_lt (by omega), List.getElem?_drop, List.getElem?_drop, show 96 + (p - 96) = p by omega, List.getElem?_set_self hpb, List.getElem?_eq_getElem hpb] at hg
    exact hy hpb (Option.some.inj hg)
end Go.Sl
