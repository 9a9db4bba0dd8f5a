/-
  Pointers, plain: when one may be, its bytes, what bytes are read as.
-/
import Derived.Test.YtjhmjdgdgpgcdaaDoorCodeX
namespace Go.Sl

structure Pt where
  top : Int
  at_ : Int
  bytes : Int
  birth : Nat
  kind : Int
  a : Nat
  b : Nat
  c : Nat
  d : Nat
deriving DecidableEq
def Pt.lay (p : Pt) : List Value := [.int .i64 p.top, .int .i64 p.at_, .int .i64 p.bytes, .int .u64 p.birth, .int .i64 p.kind, .int .u64 p.a, .int .u64 p.b, .int .u64 p.c, .int .u64 p.d]
abbrev Pt.agg (p : Pt) : Value := .agg #[.int .i64 p.top, .int .i64 p.at_, .int .i64 p.bytes, .int .u64 p.birth, .int .i64 p.kind, .int .u64 p.a, .int .u64 p.b, .int .u64 p.c, .int .u64 p.d]
theorem Pt.lay_len (p : Pt) : p.lay.length = 9 := rfl
theorem Pt.lay_one (p : Pt) : ∀ u ∈ p.lay, u.oneCell' = true := fun u hu => by
  simp only [Pt.lay, List.mem_cons, List.not_mem_nil, or_false] at hu
  rcases hu with rfl | rfl | rfl | rfl | rfl | rfl | rfl | rfl | rfl <;> rfl
/-- Numbers that such fields may be. -/
structure Pt.Ok (p : Pt) : Prop where
  top : -9223372036854775808 ≤ p.top ∧ p.top ≤ 9223372036854775807
  at_ : -9223372036854775808 ≤ p.at_ ∧ p.at_ ≤ 9223372036854775807
  bytes : -9223372036854775808 ≤ p.bytes ∧ p.bytes ≤ 9223372036854775807
  birth : p.birth < 18446744073709551616
  kind : -9223372036854775808 ≤ p.kind ∧ p.kind ≤ 9223372036854775807
  a : p.a < 18446744073709551616
  b : p.b < 18446744073709551616
  c : p.c < 18446744073709551616
  d : p.d < 18446744073709551616
def ptZero : Pt := ⟨0, 0, 0, 0, 0, 0, 0, 0, 0⟩
theorem ptZero_ok : ptZero.Ok := by constructor <;> simp [ptZero]
/-- What '==' says of two. -/
def Pt.eqB (p q : Pt) : Bool := p.top == q.top && (p.at_ == q.at_ && (p.bytes == q.bytes && (((p.birth : Int) == (q.birth : Int)) && (p.kind == q.kind && (((p.a : Int) == (q.a : Int)) && (((p.b : Int) == (q.b : Int)) && (((p.c : Int) == (q.c : Int)) && ((p.d : Int) == (q.d : Int)))))))))
theorem Pt.ext_iff (p q : Pt) : p = q ↔ p.top = q.top ∧ p.at_ = q.at_ ∧ p.bytes = q.bytes ∧ p.birth = q.birth ∧ p.kind = q.kind ∧ p.a = q.a ∧ p.b = q.b ∧ p.c = q.c ∧ p.d = q.d := by
  cases p; cases q; simp

/-- A pointer that is not zero and may be. -/
def Pt.good (p : Pt) : Prop := 0 ≤ p.top ∧ p.top < 4 ∧ 0 ≤ p.at_ ∧ p.at_ ≤ 40959 ∧ 1 ≤ p.bytes ∧ p.bytes ≤ 1024 ∧ 1 ≤ p.birth ∧ p.birth ≤ 281474976710656 ∧ (p.kind = 1 ∨ p.kind = 2)
instance (p : Pt) : Decidable p.good := by unfold Pt.good; infer_instance
def ptE (p : Pt) : Int := if p = ptZero then 0 else if p.good then 0 else 40
theorem ptE_cases {p : Pt} (h : ptE p = 0) : p = ptZero ∨ p.good := by
  unfold ptE at h
  split at h
  · rename_i c; exact .inl c
  · split at h
    · rename_i c; exact .inr c
    · cases h
/-- What all pointers are that may be. -/
structure Pt.May (p : Pt) : Prop where
  top : 0 ≤ p.top ∧ p.top < 4
  at_ : 0 ≤ p.at_ ∧ p.at_ ≤ 40959
  bytes : 0 ≤ p.bytes ∧ p.bytes ≤ 1024
  birth : p.birth ≤ 281474976710656
  kind : 0 ≤ p.kind ∧ p.kind ≤ 2
theorem ptE_may {p : Pt} (h : ptE p = 0) : p.May := by
  rcases ptE_cases h with rfl | h
  · constructor <;> simp [ptZero]
  · obtain ⟨h1, h2, h3, h4, h5, h6, h7, h8, h9⟩ := h
    constructor <;> omega

def sumB (p : Pt) : List UInt8 := formOf p.a 8 ++ formOf p.b 8 ++ formOf p.c 8 ++ formOf p.d 8
def ptB (p : Pt) : List UInt8 := formOf p.top.toNat 1 ++ formOf p.kind.toNat 1 ++ formOf p.bytes.toNat 2 ++ formOf p.at_.toNat 4 ++ formOf p.birth 8 ++ sumB p
theorem sumB_length (p : Pt) : (sumB p).length = 32 := by simp [sumB, formOf_length]
theorem ptB_length (p : Pt) : (ptB p).length = 48 := by simp [ptB, sumB, formOf_length]
/-- A pointer's 64 bytes. -/
def ptenc (p : Pt) : List UInt8 := ptB p ++ List.replicate 16 0
theorem ptenc_length (p : Pt) : (ptenc p).length = 64 := by simp [ptenc, ptB_length]

abbrev nm (b : List UInt8) (q k : Nat) : Nat := numOf ((b.drop q).take k)
theorem nm_lt (b : List UInt8) (q k : Nat) : nm b q k < 256 ^ k := numOf_cut b q k
/-- What stands from a place on, read as a pointer. -/
def ptAt (b : List UInt8) (q : Nat) : Pt := ⟨nm b q 1, nm b (q + 4) 4, nm b (q + 2) 2, nm b (q + 8) 8, nm b (q + 1) 1, nm b (q + 16) 8, nm b (q + 24) 8, nm b (q + 32) 8, nm b (q + 40) 8⟩
theorem p1 : (256 : Nat) ^ 1 = 256 := by decide
theorem p2 : (256 : Nat) ^ 2 = 65536 := by decide
theorem p4 : (256 : Nat) ^ 4 = 4294967296 := by decide
theorem p8 : (256 : Nat) ^ 8 = 18446744073709551616 := by decide
theorem ptAt_ok (b : List UInt8) (q : Nat) : (ptAt b q).Ok := by
  have h1 := nm_lt b q 1
  have h2 := nm_lt b (q + 4) 4
  have h3 := nm_lt b (q + 2) 2
  have h4 := nm_lt b (q + 8) 8
  have h5 := nm_lt b (q + 1) 1
  have h6 := nm_lt b (q + 16) 8
  have h7 := nm_lt b (q + 24) 8
  have h8 := nm_lt b (q + 32) 8
  have h9 := nm_lt b (q + 40) 8
  rw [p1] at h1 h5
  rw [p2] at h3
  rw [p4] at h2
  rw [p8] at h4 h6 h7 h8 h9
  constructor <;> simp only [ptAt] <;> omega
/-- What a Decode answers. -/
def ptdecE (b : List UInt8) : Int := if b.length ≠ 64 then 41 else if b.drop 48 ≠ List.replicate 16 0 then 41 else ptE (ptAt b 0)
def ptdec (b : List UInt8) : Pt := if ptdecE b = 0 then ptAt b 0 else ptZero

/-! ### There and back -/
theorem drop_form (x y : List UInt8) {k : Nat} (h : x.length = k) : (x ++ y).drop k = y := List.drop_left' h
theorem nm_form (x y : List UInt8) (n : Nat) {q k : Nat} (h : x.length = q) (hn : n < 256 ^ k) : nm (x ++ (formOf n k ++ y)) q k = n := by
  unfold nm
  rw [List.drop_left' h, List.take_left' (formOf_length _ _), numOf_small hn]
theorem ptAt_enc {p : Pt} (h : p.May) (ho : p.Ok) (x y : List UInt8) {q : Nat} (hx : x.length = q) : ptAt (x ++ (ptB p ++ y)) q = p := by
  obtain ⟨h1, h2, h3, h4, h5⟩ := h
  have e1 := p1; have e2 := p2; have e4 := p4; have e8 := p8
  have ha := ho.a; have hb := ho.b; have hc := ho.c; have hd := ho.d
  rw [Pt.ext_iff]
  simp only [ptAt, ptB, sumB, List.append_assoc]
  refine ⟨?_, ?_, ?_, ?_, ?_, ?_, ?_, ?_, ?_⟩
  · rw [nm_form _ _ _ hx (by omega)]; omega
  · have := nm_form (x ++ (formOf p.top.toNat 1 ++ (formOf p.kind.toNat 1 ++ formOf p.bytes.toNat 2))) (formOf p.birth 8 ++ (formOf p.a 8 ++ (formOf p.b 8 ++ (formOf p.c 8 ++ (formOf p.d 8 ++ y))))) p.at_.toNat (q := q + 4) (k := 4) (by simp [formOf_length, hx]) (by omega)
    simp only [List.append_assoc] at this; rw [this]; omega
  · have := nm_form (x ++ (formOf p.top.toNat 1 ++ formOf p.kind.toNat 1)) (formOf p.at_.toNat 4 ++ (formOf p.birth 8 ++ (formOf p.a 8 ++ (formOf p.b 8 ++ (formOf p.c 8 ++ (formOf p.d 8 ++ y)))))) p.bytes.toNat (q := q + 2) (k := 2) (by simp [formOf_length, hx]) (by omega)
    simp only [List.append_assoc] at this; rw [this]; omega
  · have := nm_form (x ++ (formOf p.top.toNat 1 ++ (formOf p.kind.toNat 1 ++ (formOf p.bytes.toNat 2 ++ formOf p.at_.toNat 4)))) (formOf p.a 8 ++ (formOf p.b 8 ++ (formOf p.c 8 ++ (formOf p.d 8 ++ y)))) p.birth (q := q + 8) (k := 8) (by simp [formOf_length, hx]) (by omega)
    simp only [List.append_assoc] at this; rw [this]
  · have := nm_form (x ++ formOf p.top.toNat 1) (formOf p.bytes.toNat 2 ++ (formOf p.at_.toNat 4 ++ (formOf p.birth 8 ++ (formOf p.a 8 ++ (formOf p.b 8 ++ (formOf p.c 8 ++ (formOf p.d 8 ++ y))))))) p.kind.toNat (q := q + 1) (k := 1) (by simp [formOf_length, hx]) (by omega)
    simp only [List.append_assoc] at this; rw [this]; omega
  · have := nm_form (x ++ (formOf p.top.toNat 1 ++ (formOf p.kind.toNat 1 ++ (formOf p.bytes.toNat 2 ++ (formOf p.at_.toNat 4 ++ formOf p.birth 8))))) (formOf p.b 8 ++ (formOf p.c 8 ++ (formOf p.d 8 ++ y))) p.a (q := q + 16) (k := 8) (by simp [formOf_length, hx]) (by omega)
    simp only [List.append_assoc] at this; rw [this]
  · have := nm_form (x ++ (formOf p.top.toNat 1 ++ (formOf p.kind.toNat 1 ++ (formOf p.bytes.toNat 2 ++ (formOf p.at_.toNat 4 ++ (formOf p.birth 8 ++ formOf p.a 8)))))) (formOf p.c 8 ++ (formOf p.d 8 ++ y)) p.b (q := q + 24) (k := 8) (by simp [formOf_length, hx]) (by omega)
    simp only [List.append_assoc] at this; rw [this]
  · have := nm_form (x ++ (formOf p.top.toNat 1 ++ (formOf p.kind.toNat 1 ++ (formOf p.bytes.toNat 2 ++ (formOf p.at_.toNat 4 ++ (formOf p.birth 8 ++ (formOf p.a 8 ++ formOf p.b 8))))))) (formOf p.d 8 ++ y) p.c (q := q + 32) (k := 8) (by simp [formOf_length, hx]) (by omega)
    simp only [List.append_assoc] at this; rw [this]
  · have := nm_form (x ++ (formOf p.top.toNat 1 ++ (formOf p.kind.toNat 1 ++ (formOf p.bytes.toNat 2 ++ (formOf p.at_.toNat 4 ++ (formOf p.birth 8 ++ (formOf p.a 8 ++ (formOf p.b 8 ++ formOf p.c 8)))))))) y p.d (q := q + 40) (k := 8) (by simp [formOf_length, hx]) (by omega)
    simp only [List.append_assoc] at this; rw [this]
theorem ptdec_enc {p : Pt} (h : ptE p = 0) (ho : p.Ok) : ptdecE (ptenc p) = 0 ∧ ptdec (ptenc p) = p := by
  have e1 : ptAt (ptenc p) 0 = p := ptAt_enc (ptE_may h) ho [] _ rfl
  have e2 : (ptenc p).drop 48 = List.replicate 16 0 := List.drop_left' (ptB_length p)
  have e3 : ptdecE (ptenc p) = 0 := by simp [ptdecE, ptenc_length, e2, e1, h]
  exact ⟨e3, by simp [ptdec, e3, e1]⟩
/-- The bytes of what stands there. -/
theorem ptB_at (b : List UInt8) {q : Nat} (h : q + 48 ≤ b.length) : ptB (ptAt b q) = (b.drop q).take 48 := by
  have f (j k : Nat) (hj : q + j + k ≤ b.length) := form_cut b (q := q + j) (k := k) hj
  simp only [ptB, sumB, ptAt, Int.toNat_natCast, nm]
  rw [show q = q + 0 from rfl, f 0 1 (by omega)]
  simp only [Nat.add_zero]
  rw [f 1 1 (by omega), f 2 2 (by omega), f 4 4 (by omega), f 8 8 (by omega), f 16 8 (by omega), f 24 8 (by omega), f 32 8 (by omega), f 40 8 (by omega)]
  have g (j k m : Nat) : (b.drop (q + j)).take (k + m) = (b.drop (q + j)).take k ++ (b.drop (q + (j + k))).take m := by rw [List.take_add, List.drop_drop, Nat.add_assoc]
  have g0 := g 0 1 47
  have g1 := g 1 1 46
  have g2 := g 2 2 44
  have g4 := g 4 4 40
  have g8 := g 8 8 32
  have g16 := g 16 8 24
  have g24 := g 24 8 16
  have g32 := g 32 8 8
  simp only [Nat.add_zero, Nat.reduceAdd] at g0 g1 g2 g4 g8 g16 g24 g32
  rw [g0, g1, g2, g4, g8, g16, g24, g32]
  simp only [List.append_assoc]
theorem ptenc_dec {b : List UInt8} (h : ptdecE b = 0) : ptE (ptdec b) = 0 ∧ ptenc (ptdec b) = b := by
  have h0 := h
  unfold ptdecE at h
  split at h
  · cases h
  rename_i c1
  split at h
  · cases h
  rename_i c2
  have hl : b.length = 64 := by omega
  have e : ptdec b = ptAt b 0 := by simp [ptdec, h0]
  rw [e]
  refine ⟨h, ?_⟩
  have c2 : b.drop 48 = List.replicate 16 0 := by simpa using c2
  rw [ptenc, ptB_at b (by omega), ← c2, List.drop_zero, List.take_append_drop]
theorem ptdec_ok (b : List UInt8) : (ptdec b).Ok := by
  unfold ptdec; split
  · exact ptAt_ok b 0
  · exact ptZero_ok
theorem ptdec_may (b : List UInt8) : ptE (ptdec b) = 0 := by
  unfold ptdec; split
  · rename_i h
    have h0 := h
    unfold ptdecE at h
    split at h
    · cases h
    split at h
    · cases h
    exact h
  · simp [ptE]
end Go.Sl
