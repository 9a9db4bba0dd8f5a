/-
  What the printed walks name: places in a list of chunks, sums that do not go round, guards, calls by contract, slices of slices, texts of bytes.
-/
import Derived.Test.YtenhebjhoicpjaaMem
import Derived.IntWalk
namespace Go.Sl

section
variable {A B1 B2 B3 B4 B5 B6 B7 B8 B9 B10 B11 B12 B13 B14 B15 : Chunk} {L : List Chunk}
theorem pk1 : (A :: L).Perm (A :: L) := pick_head _ _
theorem pk2 : (B1 :: A :: L).Perm (A :: B1 :: L) := pick_tail pk1
theorem pk3 : (B1 :: B2 :: A :: L).Perm (A :: B1 :: B2 :: L) := pick_tail pk2
theorem pk4 : (B1 :: B2 :: B3 :: A :: L).Perm (A :: B1 :: B2 :: B3 :: L) := pick_tail pk3
theorem pk5 : (B1 :: B2 :: B3 :: B4 :: A :: L).Perm (A :: B1 :: B2 :: B3 :: B4 :: L) := pick_tail pk4
theorem pk6 : (B1 :: B2 :: B3 :: B4 :: B5 :: A :: L).Perm (A :: B1 :: B2 :: B3 :: B4 :: B5 :: L) := pick_tail pk5
theorem pk7 : (B1 :: B2 :: B3 :: B4 :: B5 :: B6 :: A :: L).Perm (A :: B1 :: B2 :: B3 :: B4 :: B5 :: B6 :: L) := pick_tail pk6
theorem pk8 : (B1 :: B2 :: B3 :: B4 :: B5 :: B6 :: B7 :: A :: L).Perm (A :: B1 :: B2 :: B3 :: B4 :: B5 :: B6 :: B7 :: L) := pick_tail pk7
theorem pk9 : (B1 :: B2 :: B3 :: B4 :: B5 :: B6 :: B7 :: B8 :: A :: L).Perm (A :: B1 :: B2 :: B3 :: B4 :: B5 :: B6 :: B7 :: B8 :: L) := pick_tail pk8
theorem pk10 : (B1 :: B2 :: B3 :: B4 :: B5 :: B6 :: B7 :: B8 :: B9 :: A :: L).Perm (A :: B1 :: B2 :: B3 :: B4 :: B5 :: B6 :: B7 :: B8 :: B9 :: L) := pick_tail pk9
theorem pk11 : (B1 :: B2 :: B3 :: B4 :: B5 :: B6 :: B7 :: B8 :: B9 :: B10 :: A :: L).Perm (A :: B1 :: B2 :: B3 :: B4 :: B5 :: B6 :: B7 :: B8 :: B9 :: B10 :: L) := pick_tail pk10
theorem pk12 : (B1 :: B2 :: B3 :: B4 :: B5 :: B6 :: B7 :: B8 :: B9 :: B10 :: B11 :: A :: L).Perm (A :: B1 :: B2 :: B3 :: B4 :: B5 :: B6 :: B7 :: B8 :: B9 :: B10 :: B11 :: L) := pick_tail pk11
theorem pk13 : (B1 :: B2 :: B3 :: B4 :: B5 :: B6 :: B7 :: B8 :: B9 :: B10 :: B11 :: B12 :: A :: L).Perm (A :: B1 :: B2 :: B3 :: B4 :: B5 :: B6 :: B7 :: B8 :: B9 :: B10 :: B11 :: B12 :: L) := pick_tail pk12
theorem pk14 : (B1 :: B2 :: B3 :: B4 :: B5 :: B6 :: B7 :: B8 :: B9 :: B10 :: B11 :: B12 :: B13 :: A :: L).Perm (A :: B1 :: B2 :: B3 :: B4 :: B5 :: B6 :: B7 :: B8 :: B9 :: B10 :: B11 :: B12 :: B13 :: L) := pick_tail pk13
theorem pk15 : (B1 :: B2 :: B3 :: B4 :: B5 :: B6 :: B7 :: B8 :: B9 :: B10 :: B11 :: B12 :: B13 :: B14 :: A :: L).Perm (A :: B1 :: B2 :: B3 :: B4 :: B5 :: B6 :: B7 :: B8 :: B9 :: B10 :: B11 :: B12 :: B13 :: B14 :: L) := pick_tail pk14
theorem pk16 : (B1 :: B2 :: B3 :: B4 :: B5 :: B6 :: B7 :: B8 :: B9 :: B10 :: B11 :: B12 :: B13 :: B14 :: B15 :: A :: L).Perm (A :: B1 :: B2 :: B3 :: B4 :: B5 :: B6 :: B7 :: B8 :: B9 :: B10 :: B11 :: B12 :: B13 :: B14 :: B15 :: L) := pick_tail pk15
theorem mm1 : A ∈ A :: L := List.Mem.head _
theorem mm2 : A ∈ B1 :: A :: L := .tail _ mm1
theorem mm3 : A ∈ B1 :: B2 :: A :: L := .tail _ mm2
theorem mm4 : A ∈ B1 :: B2 :: B3 :: A :: L := .tail _ mm3
theorem mm5 : A ∈ B1 :: B2 :: B3 :: B4 :: A :: L := .tail _ mm4
theorem mm6 : A ∈ B1 :: B2 :: B3 :: B4 :: B5 :: A :: L := .tail _ mm5
theorem mm7 : A ∈ B1 :: B2 :: B3 :: B4 :: B5 :: B6 :: A :: L := .tail _ mm6
theorem mm8 : A ∈ B1 :: B2 :: B3 :: B4 :: B5 :: B6 :: B7 :: A :: L := .tail _ mm7
theorem mm9 : A ∈ B1 :: B2 :: B3 :: B4 :: B5 :: B6 :: B7 :: B8 :: A :: L := .tail _ mm8
theorem mm10 : A ∈ B1 :: B2 :: B3 :: B4 :: B5 :: B6 :: B7 :: B8 :: B9 :: A :: L := .tail _ mm9
theorem mm11 : A ∈ B1 :: B2 :: B3 :: B4 :: B5 :: B6 :: B7 :: B8 :: B9 :: B10 :: A :: L := .tail _ mm10
theorem mm12 : A ∈ B1 :: B2 :: B3 :: B4 :: B5 :: B6 :: B7 :: B8 :: B9 :: B10 :: B11 :: A :: L := .tail _ mm11
theorem mm13 : A ∈ B1 :: B2 :: B3 :: B4 :: B5 :: B6 :: B7 :: B8 :: B9 :: B10 :: B11 :: B12 :: A :: L := .tail _ mm12
theorem mm14 : A ∈ B1 :: B2 :: B3 :: B4 :: B5 :: B6 :: B7 :: B8 :: B9 :: B10 :: B11 :: B12 :: B13 :: A :: L := .tail _ mm13
end

abbrev ptr (p : Nat) : Value := .pointer (some ⟨p, 0, none⟩)
theorem hp_nil (w : World) : Hp w [] := ⟨by simp, by simp⟩

/-! ### Sums that do not go round -/
section
variable {x y : Nat} {z : Int}
theorem wa1 (h : x + y < 9223372036854775808) : IntKind.i64.wrap ((x : Int) + (y : Int)) = ((x + y : Nat) : Int) := by rw [IntWalk.i64_in _ (by omega)]; omega
theorem wa_lit (h : x + y < 9223372036854775808) : IntKind.i64.wrap ((x : Int) + (OfNat.ofNat y : Int)) = ((x + y : Nat) : Int) := wa1 h
theorem wa_lit2 (h : x + y < 9223372036854775808) : IntKind.i64.wrap ((OfNat.ofNat x : Int) + (y : Int)) = ((x + y : Nat) : Int) := wa1 h
theorem ws1 (h : y ≤ x) (h' : x < 9223372036854775808) : IntKind.i64.wrap ((x : Int) - (y : Int)) = ((x - y : Nat) : Int) := by rw [IntWalk.i64_in _ (by omega)]; omega
theorem ws_lit (h : y ≤ x) (h' : x < 9223372036854775808) : IntKind.i64.wrap ((x : Int) - (OfNat.ofNat y : Int)) = ((x - y : Nat) : Int) := ws1 h h'
theorem wm1 (h : x * y < 9223372036854775808) : IntKind.i64.wrap ((x : Int) * (y : Int)) = ((x * y : Nat) : Int) := by
  have h2 : ((x * y : Nat) : Int) < 9223372036854775808 := by omega
  rw [Int.natCast_mul] at h2
  rw [IntWalk.i64_in _ ⟨by have : (0 : Int) ≤ (x : Int) * (y : Int) := by rw [← Int.natCast_mul]; omega
                           omega, by omega⟩, Int.natCast_mul]
theorem wm_lit (h : x * y < 9223372036854775808) : IntKind.i64.wrap ((OfNat.ofNat x : Int) * (y : Int)) = ((x * y : Nat) : Int) := wm1 h
theorem wm_litu (h : x * y < 18446744073709551616) : IntKind.u64.wrap ((OfNat.ofNat x : Int) * (y : Int)) = ((x * y : Nat) : Int) := by
  rw [show ((OfNat.ofNat x : Int) * (y : Int)) = ((x * y : Nat) : Int) from (Int.natCast_mul x y).symm]
  exact IntWalk.u64_in _ (by omega)
theorem wm_lit2 (h : x * y < 9223372036854775808) : IntKind.i64.wrap ((x : Int) * (OfNat.ofNat y : Int)) = ((x * y : Nat) : Int) := wm1 h
theorem wq_litu (h' : x < 18446744073709551616) : IntKind.u64.wrap (((x : Int)).tdiv (OfNat.ofNat y : Int)) = ((x / y : Nat) : Int) := by
  have e : ((x : Int)).tdiv (OfNat.ofNat y : Int) = ((x / y : Nat) : Int) := by
    show ((x : Int)).tdiv (y : Int) = _
    rw [Int.tdiv_eq_ediv_of_nonneg (by omega)]; rfl
  have h2 := Nat.div_le_self x y
  rw [e]
  generalize x / y = q at *
  exact IntWalk.u64_in _ (by omega)
theorem wq_lit (h' : x < 9223372036854775808) : IntKind.i64.wrap (((x : Int)).tdiv (OfNat.ofNat y : Int)) = ((x / y : Nat) : Int) := by
  have e : ((x : Int)).tdiv (OfNat.ofNat y : Int) = ((x / y : Nat) : Int) := by
    show ((x : Int)).tdiv (y : Int) = _
    rw [Int.tdiv_eq_ediv_of_nonneg (by omega)]; rfl
  have h2 := Nat.div_le_self x y
  rw [e]
  generalize x / y = q at *
  exact IntWalk.i64_in _ (by omega)
theorem wr_lit : ((x : Int)).tmod (OfNat.ofNat y : Int) = ((x % y : Nat) : Int) := by
  show ((x : Int)).tmod (y : Int) = _
  rw [Int.tmod_eq_emod_of_nonneg (by omega)]; rfl
theorem w_nat (h : x < 9223372036854775808) : IntKind.i64.wrap (x : Int) = (x : Int) := IntWalk.i64_in _ (by omega)
theorem w_natu (h : x < 18446744073709551616) : IntKind.u64.wrap (x : Int) = (x : Int) := IntWalk.u64_in _ (by omega)
theorem w_in (h : -9223372036854775808 ≤ z ∧ z ≤ 9223372036854775807) : IntKind.i64.wrap z = z := IntWalk.i64_in _ h
theorem w_inu (h : 0 ≤ z ∧ z ≤ 18446744073709551615) : IntKind.u64.wrap z = z := IntWalk.u64_in _ h
theorem wn_in (h : -9223372036854775807 ≤ z ∧ z ≤ 9223372036854775807) : IntKind.i64.wrap (-z) = -z := IntWalk.i64_in _ (by omega)
theorem wu8 (b : UInt8) : IntKind.u64.wrap (b.toNat : Int) = (b.toNat : Int) := IntWalk.u64_in _ (by have := b.toNat_lt; omega)
theorem wi8 (b : UInt8) : IntKind.i64.wrap (b.toNat : Int) = (b.toNat : Int) := IntWalk.i64_in _ (by have := b.toNat_lt; omega)
theorem w8 (n : Nat) : IntKind.u8.wrap (n : Int) = ((UInt8.ofNat n).toNat : Int) := by rw [IntKind.wrap_u8]; simp
end

section
theorem shlu {x j : Nat} (h : x * 2 ^ j < 18446744073709551616) : IntKind.u64.wrap ((x : Int) * 2 ^ ((j : Nat) : Int).toNat) = ((x * 2 ^ j : Nat) : Int) := by
  have e : ((x : Int) * 2 ^ ((j : Nat) : Int).toNat) = ((x * 2 ^ j : Nat) : Int) := by simp
  rw [e]; exact w_natu h
theorem shru {x j : Nat} : ((x : Int) / 2 ^ ((j : Nat) : Int).toNat) = ((x / 2 ^ j : Nat) : Int) := by simp
/-- An or of what does not meet is a sum. -/
theorem oru {p q j : Nat} (hp : p < 2 ^ j) (h : p + q * 2 ^ j < 18446744073709551616) : bits .or .u64 (p : Int) ((q * 2 ^ j : Nat) : Int) = ((p + q * 2 ^ j : Nat) : Int) := by
  have h1 : p ||| q * 2 ^ j = p + q * 2 ^ j := by
    rw [Nat.or_comm, Nat.mul_comm, ← Nat.two_pow_add_eq_or_of_lt hp, Nat.add_comm]
  have h2 : ∀ z : Nat, z < 18446744073709551616 → (BitVec.ofInt 64 (z : Int)).toNat = z := fun z hz => by
    rw [BitVec.ofInt_natCast, BitVec.toNat_ofNat]; exact Nat.mod_eq_of_lt hz
  show IntKind.u64.wrap (((BitVec.ofInt 64 (p : Int) ||| BitVec.ofInt 64 ((q * 2 ^ j : Nat) : Int)).toNat : Nat) : Int) = _
  rw [BitVec.toNat_or, h2 p (by omega), h2 _ (by omega), h1]
  exact w_natu h
end

theorem mkb {k : Nat} (h : k ≤ 281474976710656) : 1 * k ≤ 281474976710656 := by omega
theorem mkb8 {k : Nat} (h : k ≤ 35184372088832) : 8 * k ≤ 281474976710656 := by omega
theorem mkbn {b s k : Nat} (hb : b = s) (h : s * k ≤ 281474976710656) : b * k ≤ 281474976710656 := by subst hb; exact h

/-! ### What a test has shown -/
theorem n1 {p : Prop} [Decidable p] (h : decide p = true) : p := of_decide_eq_true h
theorem n2 {p : Prop} [Decidable p] (h : decide p = false) : ¬ p := of_decide_eq_false h
theorem n3 {p q : Int} (h : (p == q) = true) : p = q := by simpa using h
theorem n4 {p q : Int} (h : (p == q) = false) : p ≠ q := by simpa using h
theorem n5 {p q : Int} (h : (p != q) = true) : p ≠ q := by simpa using h
theorem n6 {p q : Int} (h : (p != q) = false) : p = q := by simpa using h
/-- What a test has shown, found by its shape. -/
class Nrm (p : Prop) (q : outParam Prop) : Prop where
  nrm : p → q
instance (priority := 10) nrm0 {p : Prop} : Nrm p p := ⟨id⟩
instance nrm1 {p : Prop} [Decidable p] : Nrm (decide p = true) p := ⟨n1⟩
instance nrm2 {p : Prop} [Decidable p] : Nrm (decide p = false) (¬ p) := ⟨n2⟩
instance nrm3 {p q : Int} : Nrm ((p == q) = true) (p = q) := ⟨n3⟩
instance nrm4 {p q : Int} : Nrm ((p == q) = false) (p ≠ q) := ⟨n4⟩
instance nrm5 {p q : Int} : Nrm ((p != q) = true) (p ≠ q) := ⟨n5⟩
instance nrm6 {p q : Int} : Nrm ((p != q) = false) (p = q) := ⟨n6⟩

/-! ### Guards -/
section
variable {a : Act} {n : Nat} {e : List (Nat × Value)} {t : Nat} {b : Bool} {G : Prop}
theorem guard_split (_ : Fr a n e) (_ : lk e t = some (.bool b)) (h1 : b = true → G) (h2 : b = false → G) : G := by
  cases b
  · exact h2 rfl
  · exact h1 rfl
theorem guard_true (_ : Fr a n e) (_ : lk e t = some (.bool b)) (hb : b = true) (h : b = true → G) : G := h hb
theorem guard_false (_ : Fr a n e) (_ : lk e t = some (.bool b)) (hb : b = false) (h : b = false → G) : G := h hb
end

section
variable {P : Program} {id : Nat} {l : List Oper} {ops : Array Oper} {Q : Exit → Act → World → Prop} {a : Act} {w w0 : World} {As Ls : List Chunk}
theorem region_mix (S : St w0 As w Ls) (ord : Ordr) (Ms : List Chunk) (hM : ∀ {w' : World}, Stab Ls w' → Stab Ms w') (hm : P.follows .mixedOrders = true) (hB : mixAll l.toArray ord = true)
    (k : ∀ w', St w0 As w' Ls → wpMix P l.toArray (Stab Ms) (Straight Q) ord a w') : (Code.region id l.toArray true).wp P Q a w := region_mix' ord (Stab Ms) hm hB (hM S.drew.stab) (k _ S.drew)
theorem region_mix0 (S : St w0 As w Ls) (ord : Ordr) (hm : P.follows .mixedOrders = true) (hB : mixAll l.toArray ord = true)
    (k : ∀ w', St w0 As w' Ls → wpMix P l.toArray (Stab Ls) (Straight Q) ord a w') : (Code.region id l.toArray true).wp P Q a w := region_mix' ord (Stab Ls) hm hB S.drew.stab (k _ S.drew)
theorem mix_nil {S : World → Prop} (h : Q .normal a w) : wpMix P ops S (Straight Q) .nil a w := h
end

/-! ### Calls -/

/-- The call returns. -/
def Ret (P : Program) (f : FuncId) (args : Array Value) (w : World) (R : Value → World → Prop) : Prop := Calls P f args w fun e w' => ∃ v, e = .returned v ∧ R v w'

theorem Ret.mono {P : Program} {f : FuncId} {args : Array Value} {w : World} {R R' : Value → World → Prop} (h : Ret P f args w R) (k : ∀ v w', R v w' → R' v w') : Ret P f args w R' :=
  Calls.mono h fun _ _ ⟨v, he, hr⟩ => ⟨v, he, k v _ hr⟩

section
variable {P : Program} {ops : Array Oper} {Q : Exit → Act → World → Prop} {a : Act} {w w' : World} {rest : List Oper} {o : Oper} {n d i : Nat} {e : List (Nat × Value)} {Ms : List Chunk} {r : Ordr}
  {g : Operand} {xs : List Operand} {ts : Array TypeId} {f : FuncId} {fn : Func} {vs cap : List Value} {R : Value → World → Prop} {K : Act → World → Prop}

theorem wp_call' (E : Fr a n e) (hd : o.dst = some d) (hn : d < n) (ho : o.op = .call { callee := .value (.func f), args := xs.toArray, argTypes := ts })
    (hf : P.funcs[f]? = some fn) (hb : fn.body.isSome = true) (hnm : (fn.name == "runtime.NumGoroutine") = false) (hx : evs e xs = some vs)
    (hc : Ret P f vs.toArray w R) (k : ∀ v w', R v w' → ∀ a', Fr a' n ((d, v) :: e) → K a' w') : o.wp P a w K Q := by
  refine wp_call E ho (g := .func f) (cap := #[]) rfl hf hb hnm hx ?_
  rw [Array.append_empty]
  exact Calls.mono hc fun _ _ ⟨v, he, hr⟩ => ⟨v, he, by rw [hd]; exact k v _ hr _ (E.put hn v)⟩

/-- A call of a closure. -/
theorem wp_callc' (E : Fr a n e) (hd : o.dst = some d) (hn : d < n) (ho : o.op = .call { callee := .value g, args := xs.toArray, argTypes := ts }) (hgv : ev e g = some (.func (.func f) #[] cap.toArray))
    (hf : P.funcs[f]? = some fn) (hb : fn.body.isSome = true) (hnm : (fn.name == "runtime.NumGoroutine") = false) (hx : evs e xs = some vs)
    (hc : Ret P f (vs ++ cap).toArray w R) (k : ∀ v w', R v w' → ∀ a', Fr a' n ((d, v) :: e) → K a' w') : o.wp P a w K Q := by
  refine wp_call E ho hgv hf hb hnm hx ?_
  rw [List.append_toArray]
  exact Calls.mono hc fun _ _ ⟨v, he, hr⟩ => ⟨v, he, by rw [hd]; exact k v _ hr _ (E.put hn v)⟩

theorem list_call (E : Fr a n e) (hg : o.guard = none) (hd : o.dst = some d) (hn : d < n) (ho : o.op = .call { callee := .value (.func f), args := xs.toArray, argTypes := ts })
    (hf : P.funcs[f]? = some fn) (hb : fn.body.isSome = true) (hnm : (fn.name == "runtime.NumGoroutine") = false) (hx : evs e xs = some vs)
    (hc : Ret P f vs.toArray w R) (k : ∀ v w', R v w' → ∀ a', Fr a' n ((d, v) :: e) → wpList P ops Q rest a' w') : wpList P ops Q (o :: rest) a w :=
  list_wp hg (wp_call' E hd hn ho hf hb hnm hx hc k)
theorem list_callc (E : Fr a n e) (hg : o.guard = none) (hd : o.dst = some d) (hn : d < n) (ho : o.op = .call { callee := .value g, args := xs.toArray, argTypes := ts }) (hgv : ev e g = some (.func (.func f) #[] cap.toArray))
    (hf : P.funcs[f]? = some fn) (hb : fn.body.isSome = true) (hnm : (fn.name == "runtime.NumGoroutine") = false) (hx : evs e xs = some vs)
    (hc : Ret P f (vs ++ cap).toArray w R) (k : ∀ v w', R v w' → ∀ a', Fr a' n ((d, v) :: e) → wpList P ops Q rest a' w') : wpList P ops Q (o :: rest) a w :=
  list_wp hg (wp_callc' E hd hn ho hgv hf hb hnm hx hc k)
theorem mix_call (E : Fr a n e) (hi : ops[i]? = some o) (hg : o.guard = none) (hd : o.dst = some d) (hn : d < n) (ho : o.op = .call { callee := .value (.func f), args := xs.toArray, argTypes := ts })
    (hf : P.funcs[f]? = some fn) (hb : fn.body.isSome = true) (hnm : (fn.name == "runtime.NumGoroutine") = false) (hx : evs e xs = some vs)
    (hc : Ret P f vs.toArray w R) (k : ∀ v w', R v w' → ∀ a', Fr a' n ((d, v) :: e) → Stab Ms w' ∧ wpMix P ops (Stab Ms) (Straight Q) r a' w') : wpMix P ops (Stab Ms) (Straight Q) (.cons (i, 1) r) a w :=
  mix_act hi hg (wp_call' E hd hn ho hf hb hnm hx hc k)
theorem mix_callc (E : Fr a n e) (hi : ops[i]? = some o) (hg : o.guard = none) (hd : o.dst = some d) (hn : d < n) (ho : o.op = .call { callee := .value g, args := xs.toArray, argTypes := ts }) (hgv : ev e g = some (.func (.func f) #[] cap.toArray))
    (hf : P.funcs[f]? = some fn) (hb : fn.body.isSome = true) (hnm : (fn.name == "runtime.NumGoroutine") = false) (hx : evs e xs = some vs)
    (hc : Ret P f (vs ++ cap).toArray w R) (k : ∀ v w', R v w' → ∀ a', Fr a' n ((d, v) :: e) → Stab Ms w' ∧ wpMix P ops (Stab Ms) (Straight Q) r a' w') : wpMix P ops (Stab Ms) (Straight Q) (.cons (i, 1) r) a w :=
  mix_act hi hg (wp_callc' E hd hn ho hgv hf hb hnm hx hc k)
theorem mix_call3 (E : Fr a n e) (hi : ops[i]? = some o) (hg : o.guard = none) (hd : o.dst = some d) (hn : d < n) (ho : o.op = .call { callee := .value (.func f), args := xs.toArray, argTypes := ts })
    (hf : P.funcs[f]? = some fn) (hb : fn.body.isSome = true) (hnm : (fn.name == "runtime.NumGoroutine") = false) (hx : evs e xs = some vs)
    (hc : Ret P f vs.toArray w R) (k : ∀ v w', R v w' → ∀ a', Fr a' n ((d, v) :: e) → wpMix P ops (Stab Ms) (Straight Q) r a' w') : wpMix P ops (Stab Ms) (Straight Q) (.cons (i, 3) r) a w :=
  mix_last hi hg (wp_call' E hd hn ho hf hb hnm hx hc k)
theorem mix_callc3 (E : Fr a n e) (hi : ops[i]? = some o) (hg : o.guard = none) (hd : o.dst = some d) (hn : d < n) (ho : o.op = .call { callee := .value g, args := xs.toArray, argTypes := ts }) (hgv : ev e g = some (.func (.func f) #[] cap.toArray))
    (hf : P.funcs[f]? = some fn) (hb : fn.body.isSome = true) (hnm : (fn.name == "runtime.NumGoroutine") = false) (hx : evs e xs = some vs)
    (hc : Ret P f (vs ++ cap).toArray w R) (k : ∀ v w', R v w' → ∀ a', Fr a' n ((d, v) :: e) → wpMix P ops (Stab Ms) (Straight Q) r a' w') : wpMix P ops (Stab Ms) (Straight Q) (.cons (i, 3) r) a w :=
  mix_last hi hg (wp_callc' E hd hn ho hgv hf hb hnm hx hc k)
end

/-! ### Reading more -/

/-- Bytes as cells. -/
def byt (bs : List UInt8) : List Value := bs.map fun b => .int .u8 b.toNat
theorem byt_length (bs : List UInt8) : (byt bs).length = bs.length := by simp [byt]
theorem byt_one (bs : List UInt8) : ∀ u ∈ byt bs, u.oneCell' = true := by intro u hu; obtain ⟨b, _, rfl⟩ := List.mem_map.1 hu; rfl
theorem byt_get (bs : List UInt8) {i : Nat} (h : i < bs.length) : (byt bs)[i]? = some (.int .u8 (bs[i].toNat)) := by simp [byt, h]
theorem byt_append (xs ys : List UInt8) : byt (xs ++ ys) = byt xs ++ byt ys := by simp [byt]
theorem byt_take (k : Nat) (xs : List UInt8) : (byt xs).take k = byt (xs.take k) := by simp [byt, List.map_take]
theorem byt_drop (k : Nat) (xs : List UInt8) : (byt xs).drop k = byt (xs.drop k) := by simp [byt, List.map_drop]
theorem byt_inj {xs ys : List UInt8} (h : byt xs = byt ys) : xs = ys := by
  have hf : ∀ a b : UInt8, (Value.int .u8 (a.toNat : Int)) = .int .u8 (b.toNat : Int) → a = b := by
    intro a b h
    simp only [Value.int.injEq, true_and] at h
    exact UInt8.toNat_inj.1 (by omega)
  exact List.map_inj_right hf |>.1 h

section
variable {P : Program} {a : Act} {w : World} {o : Oper} {n : Nat} {e : List (Nat × Value)} {x y z : Operand} {v u : Value} {C : Chunk}

theorem rn_len_str (E : Fr a n e) {t : TypeId} {bs : List UInt8} (ho : o.op = .call { callee := .builtin .len, args := #[x], argTypes := #[t] }) (hx : ev e x = some (str bs))
    (ht : P.underlying t = some .string) : RunsTo P o a w (.int .i64 bs.length) w := by
  have h := rn_len_string (w := w) E ho hx ht
  simpa [ByteArray.size] using h
theorem src_str {tx : TypeId} (hk : P.underlying tx = some .string) (bs : List UInt8) (w : World) : Src P 1 tx (str bs) bs.length (byt bs) w := by
  have h := Src.ofString w hk (⟨bs.toArray⟩ : ByteArray)
  have e1 : byteCells ⟨bs.toArray⟩ = byt bs := by simp [byteCells, byt]
  have e2 : (⟨bs.toArray⟩ : ByteArray).size = bs.length := by simp [ByteArray.size]
  rwa [e1, e2] at h

theorem rn_loadc (E : Fr a n e) {t : TypeId} {b j : Nat} (ho : o.op = .load t x) (hx : ev e x = some (.pointer (some ⟨b, j, none⟩))) (ht : scalar P t = true)
    (hc : w.cell? ⟨b, j, none⟩ = some v) : RunsTo P o a w v w := by
  simp [RunsTo, execOp, ho, E.eval hx, Instr.loadAt, Instr.sureAddr, loadVar, run_isAgg_scalar ht, hc]

theorem rn_indexAddr1 (E : Fr a n e) {t el : TypeId} {b off l c i : Nat} {k : IntKind} {q : Int} (ho : o.op = .indexAddr t x y) (hx : ev e x = some (.slice (some ⟨b, off, none⟩) l c)) (hy : ev e y = some (.int k q))
    (ht : P.underlying t = some (.slice el)) (hs : (P.info? el).map (·.size) = some 1) (hq : q = (i : Int)) (hi : i < l) : RunsTo P o a w (.pointer (some ⟨b, off + i, none⟩)) w := by
  have h := rn_indexAddr (w := w) E ho hx hy ht hs hq hi
  rwa [Nat.mul_one] at h

theorem rn_string (E : Fr a n e) {t t' el : TypeId} {bs : List UInt8} (ho : o.op = .convert t t' x) (hx : ev e x = some v) (ht : P.underlying t = some (.slice el)) (hel : P.underlying el = some (.int .u8)) (hd : P.underlying t' = some .string)
    (hR : Rd C 1 v bs.length (byt bs)) (hC : ∀ x ∈ C, w.heap[x.1]? = some x.2) : RunsTo P o a w (str bs) w := by
  have key : (convert t t' v).run P w = .ok (str bs) w := by
    have hsrc := hR.src (P := P) (w := w) (tx := t) (e' := el) hC ht
    obtain ⟨ad, c, rfl⟩ := hR.slice
    cases ad with
    | none =>
      rcases hR.2.2.2 with ⟨h0, _⟩ | ⟨b, off, c', l, T, fr, h, _⟩
      · have : bs = [] := List.eq_nil_of_length_eq_zero h0
        subst this
        rw [run_convert_bytes_nil w t el ht hel _ c t' hd]; rfl
      · cases h
    | some ad =>
      have h1 := hsrc.cells
      simp only [Builtin.firstCells, Nat.mul_one] at h1
      have h2 : (loadCells ad bs.length).run P w = .ok ((bs.map fun b => (b.toNat : Int)).map (Value.int .u8)).toArray w := by
        rw [h1]; simp [byt, Function.comp_def]
      rw [run_convert_bytes_string w t t' el (some ad) bs.length c ht hel hd, run_bytesToString w ad bs.length c _ h2]
      congr 2
      have h3 : ∀ (bs : List UInt8) (s : ByteArray), (bs.map fun b => (b.toNat : Int)).foldl (fun r n => r.push (UInt8.ofNat n.toNat)) s = ⟨s.data ++ bs.toArray⟩ := by
        intro bs
        induction bs with
        | nil => intro s; simp
        | cons b r ih =>
          intro s
          simp only [List.map_cons, List.foldl_cons, ih]
          congr 1
          simp [ByteArray.push]
      rw [h3]
      simp [ByteArray.empty, ByteArray.emptyWithCapacity]; rfl
  simp [RunsTo, execOp, ho, E.eval hx, key]

/-- A piece of a slice: its value. -/
theorem Rd.piece {s m : Nat} {xs : List Value} (h : Rd C s v m xs) {ad : Option Addr} {c : Nat} (hv : v = .slice ad m c) {lo hi mx : Nat} (h1 : lo ≤ hi) (h2 : hi ≤ m) (h3 : hi ≤ mx) :
    Rd C s (sliced ad lo hi mx s) (hi - lo) ((xs.drop (lo * s)).take ((hi - lo) * s)) := by
  subst hv
  have hl : ((xs.drop (lo * s)).take ((hi - lo) * s)).length = (hi - lo) * s := by
    rw [List.length_take, List.length_drop, h.1, ← Nat.sub_mul]
    exact Nat.min_eq_left (Nat.mul_le_mul_right _ (by omega))
  refine ⟨hl, fun u hu => h.2.1 u (List.mem_of_mem_drop (List.mem_of_mem_take hu)), by have := h.2.2.1; omega, ?_⟩
  by_cases h0 : hi - lo = 0
  · refine .inl ⟨h0, ?_⟩
    simp only [sliced, h0]
    exact ⟨_, _, rfl⟩
  · rcases h.2.2.2 with ⟨rfl, _⟩ | ⟨b, off, c', l, T, fr, hv, hm, hc⟩
    · omega
    · cases hv
      refine .inr ⟨b, off + lo * s, mx - lo, l, T, fr, by simp [sliced, show ¬ mx = lo by omega, Addr.add_lit], hm, fun i u hu => ?_⟩
      have hi' : i < (hi - lo) * s := by
        have := (List.getElem?_eq_some_iff.1 hu).1
        rw [hl] at this; exact this
      rw [List.getElem?_take_of_lt hi', List.getElem?_drop] at hu
      rw [Nat.add_assoc]
      exact hc _ _ hu

theorem Rd.cut {s m : Nat} {xs : List Value} {ad : Option Addr} {c lo hi : Nat} (h : Rd C s (.slice ad m c) m xs) (h1 : lo ≤ hi) (h2 : hi ≤ m) (h3 : hi ≤ c) :
    ∃ ad2 c2, sliced ad lo hi c s = .slice ad2 (hi - lo) c2 ∧ Rd C s (.slice ad2 (hi - lo) c2) (hi - lo) ((xs.drop (lo * s)).take ((hi - lo) * s)) :=
  ⟨_, _, rfl, h.piece rfl h1 h2 h3⟩
theorem Rd.addr {s m c : Nat} {ad : Option Addr} {xs : List Value} (h : Rd C s (.slice ad m c) m xs) (hm : 0 < m) : ∃ b off, ad = some ⟨b, off, none⟩ := by
  rcases h.2.2.2 with ⟨rfl, _⟩ | ⟨b, off, c', l, T, fr, hv, _⟩
  · omega
  · cases hv; exact ⟨b, off, rfl⟩
theorem Rd.byte {m b off c : Nat} {bs : List UInt8} (h : Rd C 1 (.slice (some ⟨b, off, none⟩) m c) m (byt bs)) (hC : ∀ x ∈ C, w.heap[x.1]? = some x.2) {i : Nat} (hi : i < bs.length) :
    w.cell? ⟨b, off + i, none⟩ = some (.int .u8 (bs[i].toNat)) := h.cells hC rfl i _ (byt_get bs hi)

theorem Rd.copySrc {P : Program} {tx e' : TypeId} {m : Nat} {xs : List Value} (h : Rd C 1 v m xs) (hC : ∀ x ∈ C, w.heap[x.1]? = some x.2) (hk : P.underlying tx = some (.slice e')) :
    ∀ k, k ≤ m → Src P 1 tx v m xs w ∧ (Builtin.firstCells 1 k v).run P w = .ok (xs.take k).toArray w := by
  intro k hkm
  have hs := h.src (P := P) hC hk
  refine ⟨hs, ?_⟩
  rcases h.2.2.2 with ⟨rfl, ad, c, rfl⟩ | ⟨b, off, c, l, T, fr, rfl, hm, hc⟩
  · have h0 : xs = [] := List.eq_nil_of_length_eq_zero (by simpa using h.1)
    subst h0
    have hk0 : k = 0 := by omega
    subst hk0
    exact hs.cells
  · have hl : (xs.take k).length = k * 1 := by rw [List.length_take, h.1]; omega
    exact run_firstCells_some w 1 k ⟨b, off, none⟩ _ c (xs.take k) hl fun j u hu => by
      have hj : j < k := by have := (List.getElem?_eq_some_iff.1 hu).1; rw [hl] at this; omega
      rw [List.getElem?_take_of_lt hj] at hu
      rw [Addr.add_lit]
      exact h.cells hC rfl j u hu
theorem copy_all {k : Nat} {l ys : List Value} {m d : Nat} (h : ys.length = m ∧ l.length = m ∧ d = m ∧ k = 0) : l.take k ++ ys.take (min m d) ++ l.drop (k + min m d) = ys := by
  obtain ⟨rfl, h2, rfl, rfl⟩ := h
  simp [h2]

/-- Slices of slices. -/
theorem rn_slice_lh (E : Fr a n e) {t el : TypeId} {s l c lo hi : Nat} {ad : Option Addr} {k1 k2 : IntKind} {q r : Int} (ho : o.op = .slice t x (some y) (some z) none) (hx : ev e x = some (.slice ad l c)) (hy : ev e y = some (.int k1 q)) (hz : ev e z = some (.int k2 r))
    (ht : P.underlying t = some (.slice el)) (hs : (P.info? el).map (·.size) = some s) (hq : q = (lo : Int)) (hr : r = (hi : Int)) (h1 : lo ≤ hi) (h2 : hi ≤ c) : RunsTo P o a w (sliced ad lo hi c s) w := by
  subst hq hr
  have e1 : P.elem t = el := by simp [Program.elem, ht]
  have := Go.run_slice_lh (P := P) w t ad l c (by rw [e1]; exact ht) k1 k2 (lo : Int) (hi : Int) (by omega) (by omega) (by omega)
  rw [e1, run_sizeOf hs] at this
  simp [RunsTo, execOp, ho, E.eval hx, E.eval hy, E.eval hz, run_sliceAt_slice w t _ _ _ _ (by rw [e1]; exact ht), this]
theorem rn_slice_h (E : Fr a n e) {t el : TypeId} {s l c hi : Nat} {ad : Option Addr} {k2 : IntKind} {r : Int} (ho : o.op = .slice t x none (some z) none) (hx : ev e x = some (.slice ad l c)) (hz : ev e z = some (.int k2 r))
    (ht : P.underlying t = some (.slice el)) (hs : (P.info? el).map (·.size) = some s) (hr : r = (hi : Int)) (h2 : hi ≤ c) : RunsTo P o a w (sliced ad 0 hi c s) w := by
  subst hr
  have e1 : P.elem t = el := by simp [Program.elem, ht]
  have := Go.run_slice_h (P := P) w t ad l c (by rw [e1]; exact ht) k2 (hi : Int) (by omega) (by omega)
  rw [e1, run_sizeOf hs] at this
  simp [RunsTo, execOp, ho, E.eval hx, E.eval hz, run_sliceAt_slice w t _ _ _ _ (by rw [e1]; exact ht), this]
theorem rn_slice_l (E : Fr a n e) {t el : TypeId} {s l c lo : Nat} {ad : Option Addr} {k1 : IntKind} {q : Int} (ho : o.op = .slice t x (some y) none none) (hx : ev e x = some (.slice ad l c)) (hy : ev e y = some (.int k1 q))
    (ht : P.underlying t = some (.slice el)) (hs : (P.info? el).map (·.size) = some s) (hq : q = (lo : Int)) (h1 : lo ≤ l) : RunsTo P o a w (sliced ad lo l c s) w := by
  subst hq
  have e1 : P.elem t = el := by simp [Program.elem, ht]
  have := Go.run_slice_l (P := P) w t ad l c (by rw [e1]; exact ht) k1 (lo : Int) (by omega) (by omega)
  rw [e1, run_sizeOf hs] at this
  simp [RunsTo, execOp, ho, E.eval hx, E.eval hy, run_sliceAt_slice w t _ _ _ _ (by rw [e1]; exact ht), this]

def evps (e : List (Nat × Value)) : List (Nat × Operand) → Option (List (Nat × Value))
  | [] => some []
  | (i, x) :: r => match ev e x, evps e r with
    | some v, some vs => some ((i, v) :: vs)
    | _, _ => none
theorem Fr.evps (E : Fr a n e) : ∀ {xs : List (Nat × Operand)} {vs : List (Nat × Value)}, Sl.evps e xs = some vs → xs.map (fun p => (p.1, a.eval p.2)) = vs
  | [], vs, h => by simp only [Sl.evps, Option.some.injEq] at h; subst h; rfl
  | (i, x) :: r, vs, h => by
    simp only [Sl.evps] at h
    split at h
    · rename_i v us h1 h2
      cases h
      rw [List.map_cons, E.eval h1, E.evps h2]
    · cases h
/-- 'Instr.fill' on lists. -/
def fillL (place : Nat → Option (Nat × Nat)) : List Value → List (Nat × Value) → Option (List Value)
  | cs, [] => some cs
  | cs, (i, v) :: r => match place i with
    | none => none
    | some (off, size) => match v with
      | .agg vs => if vs.toList.length = size ∧ off + vs.toList.length ≤ cs.length then fillL place (cs.take off ++ vs.toList ++ cs.drop (off + vs.toList.length)) r else none
      | v => if size = 1 ∧ off + 1 ≤ cs.length then fillL place (cs.set off v) r else none

theorem fold_set (off : Nat) : ∀ (vs : List Value) (j : Nat) (cs : Array Value), off + j + vs.length ≤ cs.size →
    (vs.zipIdx j).foldl (fun cs (c, j) => cs.setIfInBounds (off + j) c) cs = (cs.toList.take (off + j) ++ vs ++ cs.toList.drop (off + j + vs.length)).toArray
  | [], j, cs, _ => by simp
  | v :: r, j, cs, h => by
    simp only [List.length_cons] at h
    rw [List.zipIdx_cons, List.foldl_cons, fold_set off r (j + 1) _ (by simp; omega)]
    apply congrArg List.toArray
    simp only [Array.toList_setIfInBounds, List.length_cons]
    have h1 : off + j < cs.toList.length := by simp; omega
    rw [List.set_eq_take_append_cons_drop, if_pos h1]
    rw [show off + (j + 1) = (cs.toList.take (off + j)).length + 1 by simp; omega, List.take_append]
    simp only [Nat.add_sub_cancel_left, List.take_succ_cons, List.take_zero]
    rw [List.take_of_length_le (by omega)]
    have h2 : (cs.toList.take (off + j)).length = off + j := by simp; omega
    rw [h2, show off + j + 1 + r.length = (cs.toList.take (off + j)).length + (r.length + 1) by rw [h2]; omega, List.drop_append, List.drop_of_length_le (by omega)]
    simp only [h2, List.append_assoc, List.cons_append, List.nil_append, List.nil_append]
    rw [show off + j + (r.length + 1) - (off + j) = r.length + 1 by omega, List.drop_succ_cons, List.drop_drop]
    congr 4
    omega

theorem fill_eq (place : Nat → Option (Nat × Nat)) : ∀ (qs : List (Nat × Value)) (cs out : List Value), fillL place cs qs = some out → Instr.fill place cs.toArray qs = some out.toArray
  | [], cs, out, h => by simp only [fillL, Option.some.injEq] at h; subst h; rfl
  | (i, v) :: r, cs, out, h => by
    unfold fillL at h
    unfold Instr.fill
    cases hp : place i with
    | none => simp [hp] at h
    | some q =>
      obtain ⟨off, size⟩ := q
      simp only [hp] at h ⊢
      by_cases hag : ∃ vs, v = .agg vs
      · obtain ⟨vs, rfl⟩ := hag
        simp only at h
        split at h
        · rename_i hc
          obtain ⟨h1, h2⟩ := hc
          simp only [Array.length_toList] at h1 h2
          rw [if_neg (by simp [Value.cells, h1]; omega)]
          have e1 : (Value.agg vs).cells.zipIdx.foldl (fun cs (c, j) => cs.setIfInBounds (off + j) c) cs.toArray = (cs.take off ++ vs.toList ++ cs.drop (off + vs.toList.length)).toArray := by
            have := fold_set off vs.toList 0 cs.toArray (by simpa using h2)
            rw [← Array.foldl_toList]
            simpa [Value.cells] using this
          rw [e1]
          exact fill_eq place r _ out h
        · cases h
      · have hv : v.cells = #[v] := by cases v <;> first | rfl | exact absurd ⟨_, rfl⟩ hag
        have h' : (if size = 1 ∧ off + 1 ≤ cs.length then fillL place (cs.set off v) r else none) = some out := by
          cases v <;> first | exact h | exact absurd ⟨_, rfl⟩ hag
        split at h'
        · rename_i hc
          obtain ⟨rfl, h2⟩ := hc
          rw [if_neg (by simp [hv]; omega), hv]
          have e1 : (#[v] : Array Value).zipIdx.foldl (fun cs (c, j) => cs.setIfInBounds (off + j) c) cs.toArray = (cs.set off v).toArray := by simp
          rw [e1]
          exact fill_eq place r _ out h'
        · cases h'

/-- The struct's or array's places and zero cells. -/
def builtL (P : Program) (t : TypeId) (qs : List (Nat × Value)) : Option (List Value) :=
  match P.info? t, P.underlying t with
  | some it, some (.array _ el) =>
    match it.zero, P.info? el with
    | some zv, some ie => fillL (fun i => some (i * ie.size, ie.size)) zv.cells.toList qs
    | _, _ => none
  | some it, some (.struct fields) =>
    match it.zero, fields.toList.mapM (fun f => (P.info? f.type).map fun i => (f.offset, i.size)) with
    | some zv, some places => fillL (places[·]?) zv.cells.toList qs
    | _, _ => none
  | _, _ => none
theorem built_eq {t : TypeId} {qs : List (Nat × Value)} {cs : List Value} (h : builtL P t qs = some cs) : P.built t qs = some cs.toArray := by
  unfold builtL at h
  unfold Program.built
  split at h
  · rename_i it n el h1 h2
    simp only [h1, h2]
    split at h
    · rename_i zv ie h3 h4
      simp only [h3, h4]
      simpa using fill_eq _ qs _ _ h
    · cases h
  · rename_i it fs h1 h2
    simp only [h1, h2]
    split at h
    · rename_i zv pl h3 h4
      simp only [h3, h4]
      have := fill_eq _ qs _ _ h
      simpa using this
    · cases h
  · cases h

/-- A struct put together. -/
theorem rn_build (E : Fr a n e) {t : TypeId} {ps : List (Nat × Operand)} {qs : List (Nat × Value)} {cells : List Value} (ho : o.op = .build t ps.toArray) (hq : evps e ps = some qs)
    (hr : builtL P t qs = some cells) : RunsTo P o a w (.agg cells.toArray) w := by
  have h := run_build w t qs.toArray cells.toArray (by simpa using built_eq hr)
  have h2 := E.evps hq
  simp only [RunsTo, execOp, ho, List.map_toArray, Sem.run_bind]
  rw [show (ps.map fun x => match x with | (i, x) => (i, a.eval x)) = qs from h2, h]
  rfl
end
end Go.Sl
