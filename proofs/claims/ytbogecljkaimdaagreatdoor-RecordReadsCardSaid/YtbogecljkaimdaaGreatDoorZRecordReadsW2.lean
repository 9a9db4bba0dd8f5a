/-
  Texts put together (2).
-/
import Derived.Test.YtbogecljkaimdaaGreatDoorZRecordReadsW1
set_option maxHeartbeats 1000000
namespace Go.Sl
section
variable {A B1 B2 B3 B4 B5 B6 B7 B8 B9 B10 B11 B12 B13 B14 B15 : zAl} {L : List zAl}
theorem pk1 : (A :: L).Perm (A :: L) := zJf _ _
theorem pk2 : (B1 :: A :: L).Perm (A :: B1 :: L) := zDy pk1
theorem pk3 : (B1 :: B2 :: A :: L).Perm (A :: B1 :: B2 :: L) := zDy pk2
theorem mm1 : A ∈ A :: L := List.Mem.head _
end
abbrev ptr (p : Nat) : Value := .pointer (some ⟨p, 0, none⟩)
theorem hp_nil (w : World) : Hp w [] := ⟨by simp, by simp⟩
section
variable {x y : Nat} {z : Int}
theorem wa1 (h : x + y < 9223372036854775808) : IntKind.i64.wrap ((x : Int) + (y : Int)) = ((x + y : Nat) : Int) := by rw [IntWalk.i64_in _ oZ]; omega
theorem zBq (h : x + y < 9223372036854775808) : IntKind.i64.wrap ((x : Int) + (OfNat.ofNat y : Int)) = ((x + y : Nat) : Int) := wa1 h
theorem zHq (h : x + y < 9223372036854775808) : IntKind.i64.wrap ((OfNat.ofNat x : Int) + (y : Int)) = ((x + y : Nat) : Int) := wa1 h
theorem ws1 (h : y ≤ x) (h' : x < 9223372036854775808) : IntKind.i64.wrap ((x : Int) - (y : Int)) = ((x - y : Nat) : Int) := by rw [IntWalk.i64_in _ oZ]; omega
theorem zFc (h : y ≤ x) (h' : x < 9223372036854775808) : IntKind.i64.wrap ((x : Int) - (OfNat.ofNat y : Int)) = ((x - y : Nat) : Int) := ws1 h h'
theorem wm1 (h : x * y < 9223372036854775808) : IntKind.i64.wrap ((x : Int) * (y : Int)) = ((x * y : Nat) : Int) := by
  have h2 : ((x * y : Nat) : Int) < 9223372036854775808 := by omega
  rw [Int.natCast_mul] at h2
  rw [IntWalk.i64_in _ ⟨by have : (0 : Int) ≤ (x : Int) * (y : Int) := by rw [← Int.natCast_mul]; omega
                           omega, by omega⟩, Int.natCast_mul]
theorem zEq (h : x * y < 9223372036854775808) : IntKind.i64.wrap ((OfNat.ofNat x : Int) * (y : Int)) = ((x * y : Nat) : Int) := wm1 h
theorem zDx (h : x * y < 18446744073709551616) : IntKind.u64.wrap ((OfNat.ofNat x : Int) * (y : Int)) = ((x * y : Nat) : Int) := by
 rw [show ((OfNat.ofNat x : Int) * (y : Int)) = ((x * y : Nat) : Int) from (Int.natCast_mul x y).symm]
 exact IntWalk.u64_in _ oZ
theorem wq_litu (h' : x < 18446744073709551616) : IntKind.u64.wrap (((x : Int)).tdiv (OfNat.ofNat y : Int)) = ((x / y : Nat) : Int) := by
 have e : ((x : Int)).tdiv (OfNat.ofNat y : Int) = ((x / y : Nat) : Int) := by
  show ((x : Int)).tdiv (y : Int) = _
  rw [Int.tdiv_eq_ediv_of_nonneg oZ]; rfl
 have h2 := Nat.div_le_self x y
 rw [e]
 generalize x / y = q at *
 exact IntWalk.u64_in _ oZ
theorem wq_lit (h' : x < 9223372036854775808) : IntKind.i64.wrap (((x : Int)).tdiv (OfNat.ofNat y : Int)) = ((x / y : Nat) : Int) := by
 have e : ((x : Int)).tdiv (OfNat.ofNat y : Int) = ((x / y : Nat) : Int) := by
  show ((x : Int)).tdiv (y : Int) = _
  rw [Int.tdiv_eq_ediv_of_nonneg oZ]; rfl
 have h2 := Nat.div_le_self x y
 rw [e]
 generalize x / y = q at *
 exact IntWalk.i64_in _ oZ
theorem wr_lit : ((x : Int)).tmod (OfNat.ofNat y : Int) = ((x % y : Nat) : Int) := by
 show ((x : Int)).tmod (y : Int) = _
 rw [Int.tmod_eq_emod_of_nonneg oZ]; rfl
theorem zCz (h : x < 9223372036854775808) : IntKind.i64.wrap (x : Int) = (x : Int) := IntWalk.i64_in _ oZ
theorem zCe (h : x < 18446744073709551616) : IntKind.u64.wrap (x : Int) = (x : Int) := IntWalk.u64_in _ oZ
theorem w_in (h : -9223372036854775808 ≤ z ∧ z ≤ 9223372036854775807) : IntKind.i64.wrap z = z := IntWalk.i64_in _ h
theorem zBb (h : 0 ≤ z ∧ z ≤ 18446744073709551615) : IntKind.u64.wrap z = z := IntWalk.u64_in _ h
theorem wn_in (h : -9223372036854775807 ≤ z ∧ z ≤ 9223372036854775807) : IntKind.i64.wrap (-z) = -z := IntWalk.i64_in _ oZ
theorem wu8 (b : UInt8) : IntKind.u64.wrap (b.toNat : Int) = (b.toNat : Int) := IntWalk.u64_in _ (by have := b.toNat_lt; omega)
theorem w8 (n : Nat) : IntKind.u8.wrap (n : Int) = ((UInt8.ofNat n).toNat : Int) := by rw [IntKind.wrap_u8]; simp
end
section
theorem shlu {x j : Nat} (h : x * 2 ^ j < 18446744073709551616) : IntKind.u64.wrap ((x : Int) * 2 ^ ((j : Nat) : Int).toNat) = ((x * 2 ^ j : Nat) : Int) := by
 have e : ((x : Int) * 2 ^ ((j : Nat) : Int).toNat) = ((x * 2 ^ j : Nat) : Int) := by simp
 rw [e]; exact zCe h
theorem shru {x j : Nat} : ((x : Int) / 2 ^ ((j : Nat) : Int).toNat) = ((x / 2 ^ j : Nat) : Int) := by simp
theorem oru {p q j : Nat} (hp : p < 2 ^ j) (h : p + q * 2 ^ j < 18446744073709551616) : bits .or .u64 (p : Int) ((q * 2 ^ j : Nat) : Int) = ((p + q * 2 ^ j : Nat) : Int) := by
 have h1 : p ||| q * 2 ^ j = p + q * 2 ^ j := by
  rw [Nat.or_comm, Nat.mul_comm, ← Nat.two_pow_add_eq_or_of_lt hp, Nat.add_comm]
 have h2 : ∀ z : Nat, z < 18446744073709551616 → (BitVec.ofInt 64 (z : Int)).toNat = z := fun z hz => by
  rw [BitVec.ofInt_natCast, BitVec.toNat_ofNat]; exact Nat.mod_eq_of_lt hz
 show IntKind.u64.wrap (((BitVec.ofInt 64 (p : Int) ||| BitVec.ofInt 64 ((q * 2 ^ j : Nat) : Int)).toNat : Nat) : Int) = _
 rw [BitVec.toNat_or, h2 p oZ, h2 _ oZ, h1]
 exact zCe h
end
theorem mkb {k : Nat} (h : k ≤ 281474976710656) : 1 * k ≤ 281474976710656 := by omega
theorem mkb8 {k : Nat} (h : k ≤ 35184372088832) : 8 * k ≤ 281474976710656 := by omega
theorem mkbn {b s k : Nat} (hb : b = s) (h : s * k ≤ 281474976710656) : b * k ≤ 281474976710656 := by subst hb; exact h
theorem n1 {p : Prop} [Decidable p] (h : decide p = true) : p := of_decide_eq_true h
theorem n2 {p : Prop} [Decidable p] (h : decide p = false) : ¬ p := of_decide_eq_false h
theorem n3 {p q : Int} (h : (p == q) = true) : p = q := by simpa using h
theorem n4 {p q : Int} (h : (p == q) = false) : p ≠ q := by simpa using h
theorem n5 {p q : Int} (h : (p != q) = true) : p ≠ q := by simpa using h
theorem n6 {p q : Int} (h : (p != q) = false) : p = q := by simpa using h
class Nrm (p : Prop) (q : outParam Prop) : Prop where
 nrm : p → q
instance (priority := 10) nrm0 {p : Prop} : Nrm p p := ⟨id⟩
instance nrm1 {p : Prop} [Decidable p] : Nrm (decide p = true) p := ⟨n1⟩
instance nrm2 {p : Prop} [Decidable p] : Nrm (decide p = false) (¬ p) := ⟨n2⟩
instance nrm3 {p q : Int} : Nrm ((p == q) = true) (p = q) := ⟨n3⟩
instance nrm4 {p q : Int} : Nrm ((p == q) = false) (p ≠ q) := ⟨n4⟩
instance nrm5 {p q : Int} : Nrm ((p != q) = true) (p ≠ q) := ⟨n5⟩
instance nrm6 {p q : Int} : Nrm ((p != q) = false) (p = q) := ⟨n6⟩
section
variable {a : Act} {n : Nat} {e : List (Nat × Value)} {ds : List Deferred} {t : Nat} {b : Bool} {G : Prop}
theorem zAj (_ : Fr a n e ds) (_ : lk e t = some (.bool b)) (h1 : b = true → G) (h2 : b = false → G) : G := by
 cases b
 ·exact h2 rfl
 ·exact h1 rfl
theorem zCc (_ : Fr a n e ds) (_ : lk e t = some (.bool b)) (hb : b = true) (h : b = true → G) : G := h hb
theorem zJn (_ : Fr a n e ds) (_ : lk e t = some (.bool b)) (hb : b = false) (h : b = false → G) : G := h hb
end
section
variable {P : Program} {id : Nat} {l : List Oper} {ops : Array Oper} {Q : Exit → Act → World → Prop} {a : Act} {w w0 : World} {As Ls : List zAl}
theorem zCn (S : St w0 As w Ls) (ord : Ordr) (Ms : List zAl) (hM : ∀ {w' : World}, Stab Ls w' → Stab Ms w') (hm : P.follows .mixedOrders = true) (hB : mixAll l.toArray ord = true)
  (k : ∀ w', St w0 As w' Ls → zCr P l.toArray (Stab Ms) (zBn Q) ord a w') : (Code.region id l.toArray true).wp P Q a w := zJi ord (Stab Ms) hm hB (hM S.drew.stab) (k _ S.drew)
theorem zBg (S : St w0 As w Ls) (ord : Ordr) (hm : P.follows .mixedOrders = true) (hB : mixAll l.toArray ord = true)
  (k : ∀ w', St w0 As w' Ls → zCr P l.toArray (Stab Ls) (zBn Q) ord a w') : (Code.region id l.toArray true).wp P Q a w := zJi ord (Stab Ls) hm hB S.drew.stab (k _ S.drew)
theorem zBi {S : World → Prop} (h : Q .normal a w) : zCr P ops S (zBn Q) .nil a w := h
end
def Ret (P : Program) (f : FuncId) (args : Array Value) (w : World) (R : Value → World → Prop) : Prop := Calls P f args w fun e w' => ∃ v, e = .returned v ∧ R v w'
theorem Ret.mono {P : Program} {f : FuncId} {args : Array Value} {w : World} {R R' : Value → World → Prop} (h : Ret P f args w R) (k : ∀ v w', R v w' → R' v w') : Ret P f args w R' :=
 Calls.mono h fun _ _ ⟨v, he, hr⟩ => ⟨v, he, k v _ hr⟩
section
variable {P : Program} {ops : Array Oper} {Q : Exit → Act → World → Prop} {a : Act} {w w' : World} {rest : List Oper} {o : Oper} {n d i : Nat} {e : List (Nat × Value)} {ds : List Deferred} {Ms : List zAl} {r : Ordr}
 {g : Operand} {xs : List Operand} {ts : Array TypeId} {f : FuncId} {fn : Func} {vs cap : List Value} {R : Value → World → Prop} {K : Act → World → Prop}
theorem zBy (E : Fr a n e ds) (hd : o.dst = some d) (hn : d < n) (ho : o.op = .call { callee := .value (.func f), args := xs.toArray, argTypes := ts })
  (hf : P.funcs[f]? = some fn) (hb : fn.body.isSome = true) (hnm : (fn.name == "runtime.NumGoroutine") = false) (hx : evs e xs = some vs)
  (hc : Ret P f vs.toArray w R) (k : ∀ v w', R v w' → ∀ a', Fr a' n ((d, v) :: e) ds → K a' w') : o.wp P a w K Q := by
 refine wp_call E ho (g := .func f) (cap := #[]) rfl hf hb hnm hx ?_
 rw [Array.append_empty]
 exact Calls.mono hc fun _ _ ⟨v, he, hr⟩ => ⟨v, he, by rw [hd]; exact k v _ hr _ (E.put hn v)⟩
theorem zJo (E : Fr a n e ds) (hd : o.dst = some d) (hn : d < n) (ho : o.op = .call { callee := .value g, args := xs.toArray, argTypes := ts }) (hgv : ev e g = some (.func (.func f) #[] cap.toArray))
  (hf : P.funcs[f]? = some fn) (hb : fn.body.isSome = true) (hnm : (fn.name == "runtime.NumGoroutine") = false) (hx : evs e xs = some vs)
  (hc : Ret P f (vs ++ cap).toArray w R) (k : ∀ v w', R v w' → ∀ a', Fr a' n ((d, v) :: e) ds → K a' w') : o.wp P a w K Q := by
 refine wp_call E ho hgv hf hb hnm hx ?_
 rw [List.append_toArray]
 exact Calls.mono hc fun _ _ ⟨v, he, hr⟩ => ⟨v, he, by rw [hd]; exact k v _ hr _ (E.put hn v)⟩
theorem zAh (E : Fr a n e ds) (hg : o.guard = none) (hd : o.dst = some d) (hn : d < n) (ho : o.op = .call { callee := .value (.func f), args := xs.toArray, argTypes := ts })
  (hf : P.funcs[f]? = some fn) (hb : fn.body.isSome = true) (hnm : (fn.name == "runtime.NumGoroutine") = false) (hx : evs e xs = some vs)
  (hc : Ret P f vs.toArray w R) (k : ∀ v w', R v w' → ∀ a', Fr a' n ((d, v) :: e) ds → wpList P ops Q rest a' w') : wpList P ops Q (o :: rest) a w :=
 zAg hg (zBy E hd hn ho hf hb hnm hx hc k)
theorem zCh (E : Fr a n e ds) (hg : o.guard = none) (hd : o.dst = some d) (hn : d < n) (ho : o.op = .call { callee := .value g, args := xs.toArray, argTypes := ts }) (hgv : ev e g = some (.func (.func f) #[] cap.toArray))
  (hf : P.funcs[f]? = some fn) (hb : fn.body.isSome = true) (hnm : (fn.name == "runtime.NumGoroutine") = false) (hx : evs e xs = some vs)
  (hc : Ret P f (vs ++ cap).toArray w R) (k : ∀ v w', R v w' → ∀ a', Fr a' n ((d, v) :: e) ds → wpList P ops Q rest a' w') : wpList P ops Q (o :: rest) a w :=
 zAg hg (zJo E hd hn ho hgv hf hb hnm hx hc k)
theorem zBs (E : Fr a n e ds) (hi : ops[i]? = some o) (hg : o.guard = none) (hd : o.dst = some d) (hn : d < n) (ho : o.op = .call { callee := .value (.func f), args := xs.toArray, argTypes := ts })
  (hf : P.funcs[f]? = some fn) (hb : fn.body.isSome = true) (hnm : (fn.name == "runtime.NumGoroutine") = false) (hx : evs e xs = some vs)
  (hc : Ret P f vs.toArray w R) (k : ∀ v w', R v w' → ∀ a', Fr a' n ((d, v) :: e) ds → Stab Ms w' ∧ zCr P ops (Stab Ms) (zBn Q) r a' w') : zCr P ops (Stab Ms) (zBn Q) (.cons (i, 1) r) a w :=
 zCu hi hg (zBy E hd hn ho hf hb hnm hx hc k)
theorem zFs (E : Fr a n e ds) (hi : ops[i]? = some o) (hg : o.guard = none) (hd : o.dst = some d) (hn : d < n) (ho : o.op = .call { callee := .value (.func f), args := xs.toArray, argTypes := ts })
  (hf : P.funcs[f]? = some fn) (hb : fn.body.isSome = true) (hnm : (fn.name == "runtime.NumGoroutine") = false) (hx : evs e xs = some vs)
  (hc : Ret P f vs.toArray w R) (k : ∀ v w', R v w' → ∀ a', Fr a' n ((d, v) :: e) ds → zCr P ops (Stab Ms) (zBn Q) r a' w') : zCr P ops (Stab Ms) (zBn Q) (.cons (i, 3) r) a w :=
 zCb hi hg (zBy E hd hn ho hf hb hnm hx hc k)
theorem mix_callc3 (E : Fr a n e ds) (hi : ops[i]? = some o) (hg : o.guard = none) (hd : o.dst = some d) (hn : d < n) (ho : o.op = .call { callee := .value g, args := xs.toArray, argTypes := ts }) (hgv : ev e g = some (.func (.func f) #[] cap.toArray))
  (hf : P.funcs[f]? = some fn) (hb : fn.body.isSome = true) (hnm : (fn.name == "runtime.NumGoroutine") = false) (hx : evs e xs = some vs)
  (hc : Ret P f (vs ++ cap).toArray w R) (k : ∀ v w', R v w' → ∀ a', Fr a' n ((d, v) :: e) ds → zCr P ops (Stab Ms) (zBn Q) r a' w') : zCr P ops (Stab Ms) (zBn Q) (.cons (i, 3) r) a w :=
 zCb hi hg (zJo E hd hn ho hgv hf hb hnm hx hc k)
end
def byt (bs : List UInt8) : List Value := bs.map fun b => .int .u8 b.toNat
theorem zDt (bs : List UInt8) : (byt bs).length = bs.length := by simp [byt]
theorem byt_one (bs : List UInt8) : ∀ u ∈ byt bs, u.oneCell' = true := by intro u hu; obtain ⟨b, _, rfl⟩ := List.mem_map.1 hu; rfl
theorem zJp (bs : List UInt8) {i : Nat} (h : i < bs.length) : (byt bs)[i]? = some (.int .u8 (bs[i].toNat)) := by simp [byt, h]
theorem zDa (xs ys : List UInt8) : byt (xs ++ ys) = byt xs ++ byt ys := by simp [byt]
theorem zEs (k : Nat) (xs : List UInt8) : (byt xs).take k = byt (xs.take k) := by simp [byt, List.map_take]
theorem zGd (k : Nat) (xs : List UInt8) : (byt xs).drop k = byt (xs.drop k) := by simp [byt, List.map_drop]
section
variable {P : Program} {a : Act} {w : World} {o : Oper} {n : Nat} {e : List (Nat × Value)} {ds : List Deferred} {x y z : Operand} {v u : Value} {C : zAl}
theorem zFt (E : Fr a n e ds) {t : TypeId} {bs : List UInt8} (ho : o.op = .call { callee := .builtin .len, args := #[x], argTypes := #[t] }) (hx : ev e x = some (str bs))
  (ht : P.underlying t = some .string) : zAt P o a w (.int .i64 bs.length) w := by
 have h := zDr (w := w) E ho hx ht
 simpa [ByteArray.size] using h
theorem src_str {tx : TypeId} (hk : P.underlying tx = some .string) (bs : List UInt8) (w : World) : Src P 1 tx (str bs) bs.length (byt bs) w := by
 have h := Src.ofString w hk (⟨bs.toArray⟩ : ByteArray)
 have e1 : byteCells ⟨bs.toArray⟩ = byt bs := by simp [byteCells, byt]
 have e2 : (⟨bs.toArray⟩ : ByteArray).size = bs.length := by simp [ByteArray.size]
 rwa [e1, e2] at h
theorem zBd (E : Fr a n e ds) {t : TypeId} {b j : Nat} (ho : o.op = .load t x) (hx : ev e x = some (.pointer (some ⟨b, j, none⟩))) (ht : zKp P t = true)
  (hc : w.cell? ⟨b, j, none⟩ = some v) : zAt P o a w v w := by
 simp [zAt, execOp, ho, E.eval hx, Instr.loadAt, Instr.sureAddr, loadVar, zDz ht, hc]
theorem zAw (E : Fr a n e ds) {t el : TypeId} {b off l c i : Nat} {k : IntKind} {q : Int} (ho : o.op = .indexAddr t x y) (hx : ev e x = some (.slice (some ⟨b, off, none⟩) l c)) (hy : ev e y = some (.int k q))
  (ht : P.underlying t = some (.slice el)) (hs : (P.info? el).map (·.size) = some 1) (hq : q = (i : Int)) (hi : i < l) : zAt P o a w (.pointer (some ⟨b, off + i, none⟩)) w := by
 have h := zBe (w := w) E ho hx hy ht hs hq hi
 rwa [Nat.mul_one] at h
theorem zBh (E : Fr a n e ds) {t t' el : TypeId} {bs : List UInt8} (ho : o.op = .convert t t' x) (hx : ev e x = some v) (ht : P.underlying t = some (.slice el)) (hel : P.underlying el = some (.int .u8)) (hd : P.underlying t' = some .string)
  (hR : Rd C 1 v bs.length (byt bs)) (hC : ∀ x ∈ C, w.heap[x.1]? = some x.2) : zAt P o a w (str bs) w := by
 have key : (convert t t' v).run P w = .ok (str bs) w := by
  have hsrc := hR.src (P := P) (w := w) (tx := t) (e' := el) hC ht
  obtain ⟨ad, c, rfl⟩ := hR.slice
  cases ad with
  | none =>
   rcases hR.2.2.2 with ⟨h0, _⟩ | ⟨b, off, c', l, T, fr, h, _⟩
   ·have : bs = [] := List.eq_nil_of_length_eq_zero h0
    subst this
    rw [run_convert_bytes_nil w t el ht hel _ c t' hd]; rfl
   ·cases h
  | some ad =>
   have h1 := hsrc.cells
   simp only [Builtin.firstCells, Nat.mul_one] at h1
   have h2 : (loadCells ad bs.length).run P w = .ok ((bs.map fun b => (b.toNat : Int)).map (Value.int .u8)).toArray w := by
    rw [h1]; simp [byt, Function.comp_def]
   rw [run_convert_bytes_string w t t' el (some ad) bs.length c ht hel hd, run_bytesToString w ad bs.length c _ h2]
   congr 2
   have h3 : ∀ (bs : List UInt8) (s : ByteArray), (bs.map fun b => (b.toNat : Int)).foldl (fun r n => r.push (UInt8.ofNat n.toNat)) s = ⟨s.data ++ bs.toArray⟩ := by
    intro bs
    induction bs with
    | nil => intro s; simp
    | cons b r ih =>
     intro s
     simp only [List.map_cons, List.foldl_cons, ih]
     congr 1
     simp [ByteArray.push]
   rw [h3]
   simp [ByteArray.empty, ByteArray.emptyWithCapacity]; rfl
 simp [zAt, execOp, ho, E.eval hx, key]
theorem Rd.piece {s m : Nat} {xs : List Value} (h : Rd C s v m xs) {ad : Option Addr} {c : Nat} (hv : v = .slice ad m c) {lo hi mx : Nat} (h1 : lo ≤ hi) (h2 : hi ≤ m) (h3 : hi ≤ mx) :
  Rd C s (sliced ad lo hi mx s) (hi - lo) ((xs.drop (lo * s)).take ((hi - lo) * s)) := by
 subst hv
 have hl : ((xs.drop (lo * s)).take ((hi - lo) * s)).length = (hi - lo) * s := by
  rw [List.length_take, List.length_drop, h.1, ← Nat.sub_mul]
  exact Nat.min_eq_left (Nat.mul_le_mul_right _ oZ)
 refine ⟨hl, fun u hu => h.2.1 u (List.mem_of_mem_drop (List.mem_of_mem_take hu)), by have := h.2.2.1; omega, ?_⟩
 by_cases h0 : hi - lo = 0
 ·refine .inl ⟨h0, ?_⟩
  simp only [sliced, h0]
  exact ⟨_, _, rfl⟩
 ·rcases h.2.2.2 with ⟨rfl, _⟩ | ⟨b, off, c', l, T, fr, hv, hm, hc⟩
  ·omega
  ·cases hv
   refine .inr ⟨b, off + lo * s, mx - lo, l, T, fr, by simp [sliced, show ¬ mx = lo by omega, Addr.add_lit], hm, fun i u hu => ?_⟩
   have hi' : i < (hi - lo) * s := by
    have := (List.getElem?_eq_some_iff.1 hu).1
    rw [hl] at this; exact this
   rw [List.getElem?_take_of_lt hi', List.getElem?_drop] at hu
   rw [Nat.add_assoc]
   exact hc _ _ hu
theorem Rd.cut {s m : Nat} {xs : List Value} {ad : Option Addr} {c lo hi : Nat} (h : Rd C s (.slice ad m c) m xs) (h1 : lo ≤ hi) (h2 : hi ≤ m) (h3 : hi ≤ c) :
  ∃ ad2 c2, sliced ad lo hi c s = .slice ad2 (hi - lo) c2 ∧ Rd C s (.slice ad2 (hi - lo) c2) (hi - lo) ((xs.drop (lo * s)).take ((hi - lo) * s)) :=
 ⟨_, _, rfl, h.piece rfl h1 h2 h3⟩
theorem Rd.addr {s m c : Nat} {ad : Option Addr} {xs : List Value} (h : Rd C s (.slice ad m c) m xs) (hm : 0 < m) : ∃ b off, ad = some ⟨b, off, none⟩ := by
 rcases h.2.2.2 with ⟨rfl, _⟩ | ⟨b, off, c', l, T, fr, hv, _⟩
 ·omega
 ·cases hv; exact ⟨b, off, rfl⟩
theorem Rd.byte {m b off c : Nat} {bs : List UInt8} (h : Rd C 1 (.slice (some ⟨b, off, none⟩) m c) m (byt bs)) (hC : ∀ x ∈ C, w.heap[x.1]? = some x.2) {i : Nat} (hi : i < bs.length) :
  w.cell? ⟨b, off + i, none⟩ = some (.int .u8 (bs[i].toNat)) := h.cells hC rfl i _ (zJp bs hi)
theorem Rd.copySrc {P : Program} {tx e' : TypeId} {m : Nat} {xs : List Value} (h : Rd C 1 v m xs) (hC : ∀ x ∈ C, w.heap[x.1]? = some x.2) (hk : P.underlying tx = some (.slice e')) :
  ∀ k, k ≤ m → Src P 1 tx v m xs w ∧ (Builtin.firstCells 1 k v).run P w = .ok (xs.take k).toArray w := by
 intro k hkm
 have hs := h.src (P := P) hC hk
 refine ⟨hs, ?_⟩
 rcases h.2.2.2 with ⟨rfl, ad, c, rfl⟩ | ⟨b, off, c, l, T, fr, rfl, hm, hc⟩
 ·have h0 : xs = [] := List.eq_nil_of_length_eq_zero (by simpa using h.1)
  subst h0
  have hk0 : k = 0 := by omega
  subst hk0
  exact hs.cells
 ·have hl : (xs.take k).length = k * 1 := by rw [List.length_take, h.1]; omega
  exact run_firstCells_some w 1 k ⟨b, off, none⟩ _ c (xs.take k) hl fun j u hu => by
   have hj : j < k := by have := (List.getElem?_eq_some_iff.1 hu).1; rw [hl] at this; omega
   rw [List.getElem?_take_of_lt hj] at hu
   rw [Addr.add_lit]
   exact h.cells hC rfl j u hu
theorem copy_all {k : Nat} {l ys : List Value} {m d : Nat} (h : ys.length = m ∧ l.length = m ∧ d = m ∧ k = 0) : l.take k ++ ys.take (min m d) ++ l.drop (k + min m d) = ys := by
 obtain ⟨rfl, h2, rfl, rfl⟩ := h
 simp [h2]
theorem zDi (E : Fr a n e ds) {t el : TypeId} {s l c lo hi : Nat} {ad : Option Addr} {k1 k2 : IntKind} {q r : Int} (ho : o.op = .slice t x (some y) (some z) none) (hx : ev e x = some (.slice ad l c)) (hy : ev e y = some (.int k1 q)) (hz : ev e z = some (.int k2 r))
  (ht : P.underlying t = some (.slice el)) (hs : (P.info? el).map (·.size) = some s) (hq : q = (lo : Int)) (hr : r = (hi : Int)) (h1 : lo ≤ hi) (h2 : hi ≤ c) : zAt P o a w (sliced ad lo hi c s) w := by
 subst hq hr
 have e1 : P.elem t = el := by simp [Program.elem, ht]
 have := Go.run_slice_lh (P := P) w t ad l c (by rw [e1]; exact ht) k1 k2 (lo : Int) (hi : Int) oZ oZ oZ
 rw [e1, zCw hs] at this
 simp [zAt, execOp, ho, E.eval hx, E.eval hy, E.eval hz, run_sliceAt_slice w t _ _ _ _ (by rw [e1]; exact ht), this]
theorem zEy (E : Fr a n e ds) {t el : TypeId} {s l c hi : Nat} {ad : Option Addr} {k2 : IntKind} {r : Int} (ho : o.op = .slice t x none (some z) none) (hx : ev e x = some (.slice ad l c)) (hz : ev e z = some (.int k2 r))
  (ht : P.underlying t = some (.slice el)) (hs : (P.info? el).map (·.size) = some s) (hr : r = (hi : Int)) (h2 : hi ≤ c) : zAt P o a w (sliced ad 0 hi c s) w := by
 subst hr
 have e1 : P.elem t = el := by simp [Program.elem, ht]
 have := Go.run_slice_h (P := P) w t ad l c (by rw [e1]; exact ht) k2 (hi : Int) oZ oZ
 rw [e1, zCw hs] at this
 simp [zAt, execOp, ho, E.eval hx, E.eval hz, run_sliceAt_slice w t _ _ _ _ (by rw [e1]; exact ht), this]
theorem rn_slice_l (E : Fr a n e ds) {t el : TypeId} {s l c lo : Nat} {ad : Option Addr} {k1 : IntKind} {q : Int} (ho : o.op = .slice t x (some y) none none) (hx : ev e x = some (.slice ad l c)) (hy : ev e y = some (.int k1 q))
  (ht : P.underlying t = some (.slice el)) (hs : (P.info? el).map (·.size) = some s) (hq : q = (lo : Int)) (h1 : lo ≤ l) : zAt P o a w (sliced ad lo l c s) w := by
 subst hq
 have e1 : P.elem t = el := by simp [Program.elem, ht]
 have := Go.run_slice_l (P := P) w t ad l c (by rw [e1]; exact ht) k1 (lo : Int) oZ oZ
 rw [e1, zCw hs] at this
 simp [zAt, execOp, ho, E.eval hx, E.eval hy, run_sliceAt_slice w t _ _ _ _ (by rw [e1]; exact ht), this]
def evps (e : List (Nat × Value)) : List (Nat × Operand) → Option (List (Nat × Value))
 | [] => some []
 | (i, x) :: r => match ev e x, evps e r with
  | some v, some vs => some ((i, v) :: vs)
  | _, _ => none
theorem Fr.evps (E : Fr a n e ds) : ∀ {xs : List (Nat × Operand)} {vs : List (Nat × Value)}, Sl.evps e xs = some vs → xs.map (fun p => (p.1, a.eval p.2)) = vs
 | [], vs, h => by simp only [Sl.evps, Option.some.injEq] at h; subst h; rfl
 | (i, x) :: r, vs, h => by
  simp only [Sl.evps] at h
  split at h
  ·rename_i v us h1 h2
   cases h
   rw [List.map_cons, E.eval h1, E.evps h2]
  ·cases h
def zLk (place : Nat → Option (Nat × Nat)) : List Value → List (Nat × Value) → Option (List Value)
 | cs, [] => some cs
 | cs, (i, v) :: r => match place i with
  | none => none
  | some (off, size) => match v with
   | .agg vs => if vs.toList.length = size ∧ off + vs.toList.length ≤ cs.length then zLk place (cs.take off ++ vs.toList ++ cs.drop (off + vs.toList.length)) r else none
   | v => if size = 1 ∧ off + 1 ≤ cs.length then zLk place (cs.set off v) r else none
theorem fold_set (off : Nat) : ∀ (vs : List Value) (j : Nat) (cs : Array Value), off + j + vs.length ≤ cs.size →
  (vs.zipIdx j).foldl (fun cs (c, j) => cs.setIfInBounds (off + j) c) cs = (cs.toList.take (off + j) ++ vs ++ cs.toList.drop (off + j + vs.length)).toArray
 | [], j, cs, _ => by simp
 | v :: r, j, cs, h => by
  simp only [List.length_cons] at h
  rw [List.zipIdx_cons, List.foldl_cons, fold_set off r (j + 1) _ (by simp; omega)]
  apply congrArg List.toArray
  simp only [Array.toList_setIfInBounds, List.length_cons]
  have h1 : off + j < cs.toList.length := by simp; omega
  rw [List.set_eq_take_append_cons_drop, if_pos h1]
  rw [show off + (j + 1) = (cs.toList.take (off + j)).length + 1 by simp; omega, List.take_append]
  simp only [Nat.add_sub_cancel_left, List.take_succ_cons, List.take_zero]
  rw [List.take_of_length_le oZ]
  have h2 : (cs.toList.take (off + j)).length = off + j := by simp; omega
  rw [h2, show off + j + 1 + r.length = (cs.toList.take (off + j)).length + (r.length + 1) by rw [h2]; omega, List.drop_append, List.drop_of_length_le oZ]
  simp only [h2, List.append_assoc, List.cons_append, List.nil_append, List.nil_append]
  rw [show off + j + (r.length + 1) - (off + j) = r.length + 1 by omega, List.drop_succ_cons, List.drop_drop]
  congr 4
  omega
theorem zJq (place : Nat → Option (Nat × Nat)) : ∀ (qs : List (Nat × Value)) (cs out : List Value), zLk place cs qs = some out → Instr.fill place cs.toArray qs = some out.toArray
 | [], cs, out, h => by simp only [zLk, Option.some.injEq] at h; subst h; rfl
 | (i, v) :: r, cs, out, h => by
  unfold zLk at h
  unfold Instr.fill
  cases hp : place i with
  | none => simp [hp] at h
  | some q =>
   obtain ⟨off, size⟩ := q
   simp only [hp] at h ⊢
   by_cases hag : ∃ vs, v = .agg vs
   ·obtain ⟨vs, rfl⟩ := hag
    simp only at h
    split at h
    ·rename_i hc
     obtain ⟨h1, h2⟩ := hc
     simp only [Array.length_toList] at h1 h2
     rw [if_neg (by simp [Value.cells, h1]; omega)]
     have e1 : (Value.agg vs).cells.zipIdx.foldl (fun cs (c, j) => cs.setIfInBounds (off + j) c) cs.toArray = (cs.take off ++ vs.toList ++ cs.drop (off + vs.toList.length)).toArray := by
      have := fold_set off vs.toList 0 cs.toArray (by simpa using h2)
      rw [← Array.foldl_toList]
      simpa [Value.cells] using this
     rw [e1]
     exact zJq place r _ out h
    ·cases h
   ·have hv : v.cells = #[v] := by cases v <;> first | rfl | exact absurd ⟨_, rfl⟩ hag
    have h' : (if size = 1 ∧ off + 1 ≤ cs.length then zLk place (cs.set off v) r else none) = some out := by
     cases v <;> first | exact h | exact absurd ⟨_, rfl⟩ hag
    split at h'
    ·rename_i hc
     obtain ⟨rfl, h2⟩ := hc
     rw [if_neg (by simp [hv]; omega), hv]
     have e1 : (#[v] : Array Value).zipIdx.foldl (fun cs (c, j) => cs.setIfInBounds (off + j) c) cs.toArray = (cs.set off v).toArray := by simp
     rw [e1]
     exact zJq place r _ out h'
    ·cases h'
def builtL (P : Program) (t : TypeId) (qs : List (Nat × Value)) : Option (List Value) :=
 match P.info? t, P.underlying t with
 | some it, some (.array _ el) =>
  match it.zero, P.info? el with
  | some zv, some ie => zLk (fun i => some (i * ie.size, ie.size)) zv.cells.toList qs
  | _, _ => none
 | some it, some (.struct fields) =>
  match it.zero, fields.toList.mapM (fun f => (P.info? f.type).map fun i => (f.offset, i.size)) with
  | some zv, some places => zLk (places[·]?) zv.cells.toList qs
  | _, _ => none
 | _, _ => none
theorem built_eq {t : TypeId} {qs : List (Nat × Value)} {cs : List Value} (h : builtL P t qs = some cs) : P.built t qs = some cs.toArray := by
 unfold builtL at h
 unfold Program.built
 split at h
 ·rename_i it n el h1 h2
  simp only [h1, h2]
  split at h
  ·rename_i zv ie h3 h4
   simp only [h3, h4]
   simpa using zJq _ qs _ _ h
  ·cases h
 ·rename_i it fs h1 h2
  simp only [h1, h2]
  split at h
  ·rename_i zv pl h3 h4
   simp only [h3, h4]
   have := zJq _ qs _ _ h
   simpa using this
  ·cases h
 ·cases h
theorem zBp (E : Fr a n e ds) {t : TypeId} {ps : List (Nat × Operand)} {qs : List (Nat × Value)} {cells : List Value} (ho : o.op = .build t ps.toArray) (hq : evps e ps = some qs)
  (hr : builtL P t qs = some cells) : zAt P o a w (.agg cells.toArray) w := by
 have h := run_build w t qs.toArray cells.toArray (by simpa using built_eq hr)
 have h2 := E.evps hq
 simp only [zAt, execOp, ho, List.map_toArray, Sem.run_bind]
 rw [show (ps.map fun x => match x with | (i, x) => (i, a.eval x)) = qs from h2, h]
 rfl
end
section
variable {P : Program} {ops : Array Oper} {Q : Exit → Act → World → Prop} {a : Act} {w w' : World} {rest : List Oper} {o : Oper} {n d i : Nat} {e : List (Nat × Value)} {v : Value} {Ms : List zAl} {r : Ordr} {ds : List Deferred}
theorem zp (E : Fr a n e ds) (hr : zAt P o a w v w) (k : ∀ a', Fr a' n ((d, v) :: e) ds → wpList P ops Q rest a' w) (hg : o.guard = none := by rfl) (hd : o.dst = some d := by rfl) (hn : d < n := by decide) : wpList P ops Q (o :: rest) a w := zJg E hg hd hn hr k
theorem zy (E : Fr a n e ds) {j t : Nat} {want b : Bool} {oj : Oper} (hbw : b = want) (hr : zAt P o a w v w) (k : ∀ a', Fr a' n ((d, v) :: e) ds → wpList P ops Q rest a' w) (hg : o.guard = some (j, want) := by rfl) (hj : ops[j]? = some oj := by rfl) (ht : oj.dst = some t := by rfl) (hb : lk e t = some (.bool b) := by rfl)
    (hd : o.dst = some d := by rfl) (hn : d < n := by decide) : wpList P ops Q (o :: rest) a w := zHh E hg hj ht hb hbw hd hn hr k
theorem zn (E : Fr a n e ds) {j t : Nat} {want b : Bool} {oj : Oper} (hbw : b = !want) (k : ∀ a', Fr a' n ((d, undef) :: e) ds → wpList P ops Q rest a' w) (hg : o.guard = some (j, want) := by rfl) (hj : ops[j]? = some oj := by rfl) (ht : oj.dst = some t := by rfl) (hb : lk e t = some (.bool b) := by rfl)
    (hd : o.dst = some d := by rfl) (hn : d < n := by decide) : wpList P ops Q (o :: rest) a w := zLh E hg hj ht hb hbw hd hn k
theorem zu (E : Fr a n e ds) {j t : Nat} {want : Bool} {oj : Oper} (k : ∀ a', Fr a' n ((d, undef) :: e) ds → wpList P ops Q rest a' w) (hg : o.guard = some (j, want) := by rfl) (hj : ops[j]? = some oj := by rfl) (ht : oj.dst = some t := by rfl) (hb : lk e t = some undef := by rfl)
    (hd : o.dst = some d := by rfl) (hn : d < n := by decide) : wpList P ops Q (o :: rest) a w := zIw E hg hj ht hb hd hn k
theorem zm (E : Fr a n e ds) (hi : ops[i]? = some o) (hr : ∀ w', Stab Ms w' → zAt P o a w' v w') (k : ∀ a', Fr a' n ((d, v) :: e) ds → zCr P ops (Stab Ms) (zBn Q) r a' w) (hg : o.guard = none := by rfl) (hd : o.dst = some d := by rfl) (hn : d < n := by decide) : zCr P ops (Stab Ms) (zBn Q) (.cons (i, 0) r) a w := zLi E hi hg hd hn hr k
theorem zd (E : Fr a n e ds) (k : ∀ a', Fr a' n ((d, v) :: e) ds → wpList P ops Q rest a' w) (hr : zAt P o a w v w := by first | exact zDk E rfl rfl | exact zCl E rfl rfl | exact zFq E rfl rfl rfl (S.get (by repeat (first | exact pk1 | apply zDy))) rfl | exact zBd E rfl rfl rfl (by assumption) | exact zFb E rfl rfl | exact zDs E rfl rfl rfl | exact rn_len E rfl rfl rfl | exact zFt E rfl rfl rfl | exact zDr E rfl rfl rfl | exact rn_eql E rfl rfl rfl | exact zFo E rfl rfl rfl rfl | exact zHn E rfl rfl rfl rfl | exact zGa E rfl rfl rfl | exact rn_neq E rfl rfl rfl | exact zFp E rfl rfl rfl rfl | exact zHo E rfl rfl rfl rfl | exact zGb E rfl rfl rfl | exact rn_lss E rfl rfl rfl | exact rn_leq E rfl rfl rfl | exact zJj E rfl rfl rfl | exact rn_geq E rfl rfl rfl | exact zJk E rfl rfl) (hg : o.guard = none := by rfl) (hd : o.dst = some d := by rfl) (hn : d < n := by decide) : wpList P ops Q (o :: rest) a w := zJg E hg hd hn hr k
theorem zyd (E : Fr a n e ds) {j t : Nat} {want b : Bool} {oj : Oper} (hbw : b = want) (k : ∀ a', Fr a' n ((d, v) :: e) ds → wpList P ops Q rest a' w) (hr : zAt P o a w v w := by first | exact zDk E rfl rfl | exact zCl E rfl rfl | exact zFq E rfl rfl rfl (S.get (by repeat (first | exact pk1 | apply zDy))) rfl | exact zBd E rfl rfl rfl (by assumption) | exact zFb E rfl rfl | exact zDs E rfl rfl rfl | exact rn_len E rfl rfl rfl | exact zFt E rfl rfl rfl | exact zDr E rfl rfl rfl | exact rn_eql E rfl rfl rfl | exact zFo E rfl rfl rfl rfl | exact zHn E rfl rfl rfl rfl | exact zGa E rfl rfl rfl | exact rn_neq E rfl rfl rfl | exact zFp E rfl rfl rfl rfl | exact zHo E rfl rfl rfl rfl | exact zGb E rfl rfl rfl | exact rn_lss E rfl rfl rfl | exact rn_leq E rfl rfl rfl | exact zJj E rfl rfl rfl | exact rn_geq E rfl rfl rfl | exact zJk E rfl rfl) (hg : o.guard = some (j, want) := by rfl) (hj : ops[j]? = some oj := by rfl) (ht : oj.dst = some t := by rfl) (hb : lk e t = some (.bool b) := by rfl)
    (hd : o.dst = some d := by rfl) (hn : d < n := by decide) : wpList P ops Q (o :: rest) a w := zHh E hg hj ht hb hbw hd hn hr k
theorem zmd (E : Fr a n e ds) (k : ∀ a', Fr a' n ((d, v) :: e) ds → zCr P ops (Stab Ms) (zBn Q) r a' w) (hi : ops[i]? = some o := by rfl) (hr : ∀ w', Stab Ms w' → zAt P o a w' v w' := by intro w h; first | exact zDk E rfl rfl | exact zCl E rfl rfl | exact zFq E rfl rfl rfl (h.one (by repeat (first | exact mm1 | assumption | apply List.Mem.tail))) rfl | exact zBd E rfl rfl rfl (by assumption) | exact zFb E rfl rfl | exact zDs E rfl rfl rfl | exact rn_len E rfl rfl rfl | exact zFt E rfl rfl rfl | exact zDr E rfl rfl rfl | exact rn_eql E rfl rfl rfl | exact zFo E rfl rfl rfl rfl | exact zHn E rfl rfl rfl rfl | exact zGa E rfl rfl rfl | exact rn_neq E rfl rfl rfl | exact zFp E rfl rfl rfl rfl | exact zHo E rfl rfl rfl rfl | exact zGb E rfl rfl rfl | exact rn_lss E rfl rfl rfl | exact rn_leq E rfl rfl rfl | exact zJj E rfl rfl rfl | exact rn_geq E rfl rfl rfl | exact zJk E rfl rfl) (hg : o.guard = none := by rfl) (hd : o.dst = some d := by rfl) (hn : d < n := by decide) : zCr P ops (Stab Ms) (zBn Q) (.cons (i, 0) r) a w := zLi E hi hg hd hn hr k
theorem zfd (q : Nat) {b : Nat} {f : Nat} {s : TypeId} {x : Operand} (E : Fr a n e ds) (k : ∀ a', Fr a' n ((d, .pointer (some ⟨b, q, none⟩)) :: e) ds → wpList P ops Q rest a' w) (ho : o.op = .fieldAddr s x f := by rfl) (hx : ev e x = some (.pointer (some ⟨b, 0, none⟩)) := by rfl) (hf : zHx P s f = some q := by rfl) (hg : o.guard = none := by rfl) (hd : o.dst = some d := by rfl) (hn : d < n := by decide) : wpList P ops Q (o :: rest) a w := zJg E hg hd hn (zAc E ho hx hf) k
theorem zfm (q : Nat) {b : Nat} {f : Nat} {s : TypeId} {x : Operand} (E : Fr a n e ds) (k : ∀ a', Fr a' n ((d, .pointer (some ⟨b, q, none⟩)) :: e) ds → zCr P ops (Stab Ms) (zBn Q) r a' w) (hi : ops[i]? = some o := by rfl) (ho : o.op = .fieldAddr s x f := by rfl) (hx : ev e x = some (.pointer (some ⟨b, 0, none⟩)) := by rfl) (hf : zHx P s f = some q := by rfl) (hg : o.guard = none := by rfl) (hd : o.dst = some d := by rfl) (hn : d < n := by decide) : zCr P ops (Stab Ms) (zBn Q) (.cons (i, 0) r) a w := zLi E hi hg hd hn (fun _ _ => zAc E ho hx hf) k
end
end Go.Sl
namespace Go.Sl
section
variable {P : Program} {Q : Exit → Act → World → Prop} {a : Act} {w0 w : World} {o : Oper} {n : Nat} {e : List (Nat × Value)} {ds : List Deferred} {x y : Operand} {v u : Value} {C : zAl} {As Ls Rs : List zAl} {K : Act → World → Prop}
def Joined (J : Act → World → Prop) (Q : Exit → Act → World → Prop) : Exit → Act → World → Prop
 | .normal, a, w => J a w
 | e, a, w => Q e a w
theorem zDd (J : Act → World → Prop) {c : Code} (h : c.wp P (Joined J Q) a w) (k : ∀ a' w', J a' w' → Q .normal a' w') : c.wp P Q a w :=
 wp_mono h fun e a' w' h => by cases e <;> first | exact k _ _ h | exact h
theorem zAk {J : Act → World → Prop} (h : J a w) : Joined J Q .normal a w := h
theorem flat_rep (L : List Value) : ∀ (k i : Nat), i < k * L.length → (List.replicate k L).flatten[i]? = L[i % L.length]?
 | 0, i, h => by simp at h
 | k + 1, i, h => by
  rw [List.replicate_succ, List.flatten_cons]
  by_cases hi : i < L.length
  ·rw [List.getElem?_append_left hi, Nat.mod_eq_of_lt hi]
  ·rw [List.getElem?_append_right oZ, flat_rep L k (i - L.length) (by rw [Nat.add_mul, Nat.one_mul] at h; omega), Nat.mod_eq_sub_mod (by omega : i ≥ L.length)]
theorem made_flat (z : Value) (k : Nat) : ((Array.range (k * z.cells.size)).map (z.cells[· % z.cells.size]!)) = ((List.replicate k z.cells.toList).flatten).toArray := by
 have hl : ((List.replicate k z.cells.toList).flatten).length = k * z.cells.size := by simp [List.length_flatten]
 apply Array.ext
 ·simp [List.length_flatten]
 ·intro i h1 h2
  have h3 : i < k * z.cells.size := by simpa using h1
  have h4 := flat_rep z.cells.toList k i (by simpa using h3)
  have h5 : i < ((List.replicate k z.cells.toList).flatten).length := by rw [hl]; exact h3
  rw [List.getElem?_eq_getElem h5] at h4
  have hpos : 0 < z.cells.size := by
   rcases Nat.eq_zero_or_pos z.cells.size with h | h
   ·rw [h] at h3; omega
   ·exact h
  have hm : i % z.cells.size < z.cells.size := Nat.mod_lt _ hpos
  have h6 : i % z.cells.toList.length < z.cells.toList.length := by simpa using hm
  rw [List.getElem?_eq_getElem h6] at h4
  have h7 := Option.some.inj h4
  simp only [Array.getElem_map, Array.getElem_range, List.getElem_toArray, h7]
  simp [hm]
theorem zGe (E : Fr a n e ds) {d : Nat} (hr : zAt P o a w v w) (hd : o.dst = some d) (hn : d < n) (k : ∀ a', Fr a' n ((d, v) :: e) ds → K a' w) : o.wp P a w K Q :=
 hr.wp (by rw [hd]; exact k _ (E.put hn v))
theorem zCm (E : Fr a n e ds) (S : St w0 As w Ls) {t el : TypeId} {d len : Nat} {i : TypeInfo} {zv : Value} {ps : List (Nat × Operand)} {qs : List (Nat × Value)} {cells : List Value} (ho : o.op = .buildSlice t len ps.toArray) (hd : o.dst = some d) (hn : d < n)
  (hq : evps e ps = some qs) (ht : P.underlying t = some (.slice el)) (hi : P.info? el = some i) (hz : i.zero = some zv) (hs : zv.cells.size = i.size) (hsm : (len * i.size ≤ 2 ^ 24 ∧ 0 < len * i.size))
  (hf : zLk (fun j => some (j * i.size, i.size)) (List.replicate len zv.cells.toList).flatten qs = some cells)
  (k : ∀ a' w' b, Fr a' n ((d, .slice (some ⟨b, 0, none⟩) len len) :: e) ds → St w0 As w' ([(b, cel cells el)] :: Ls) → K a' w') : o.wp P a w K Q := by
 refine Go.wp_buildSlice t el len ps.toArray ho cells.toArray i zv ht hi hz oZ oZ ?_ ?_
 ·rw [← hs, made_flat]
  have h2 := E.evps hq
  have h3 : (ps.toArray.map fun x => match x with | (i, x) => (i, a.eval x)).toList = qs := by rw [List.map_toArray]; exact h2
  rw [h3, hs]
  exact zJq _ _ _ _ hf
 ·rw [hd]; exact k _ _ w.heap.size (E.put hn _) (S.alloc _)
theorem zDp (E : Fr a n e ds) {t : TypeId} {b j q : Nat} {vs : List Value} (ho : o.op = .load t x) (hx : ev e x = some (.pointer (some ⟨b, j, none⟩))) (ht : zEb P t = some q) (hl : vs.length = q)
  (hv : ∀ i u, vs[i]? = some u → w.cell? ⟨b, j + i, none⟩ = some u) : zAt P o a w (.agg vs.toArray) w := by
 subst hl
 have h1 : (loadCells ⟨b, j, none⟩ vs.length).run P w = .ok vs.toArray w :=
  run_loadCells_list w ⟨b, j, none⟩ vs fun i u hu => by rw [Addr.add_lit]; exact hv i u hu
 simp [zAt, execOp, ho, E.eval hx, Instr.loadAt, Instr.sureAddr, loadVar, zGc ht, zCw (zLj ht), h1]
theorem zAz (E : Fr a n e ds) {t T : TypeId} {b j q : Nat} {l vs : List Value} {fr : Nat × Nat} (ho : o.op = .load t x) (hx : ev e x = some (.pointer (some ⟨b, j, none⟩))) (ht : zEb P t = some q)
  (hb : w.heap[b]? = some (.cells l.toArray T fr)) (hl : vs.length = q) (hv : (l.drop j).take vs.length = vs) : zAt P o a w (.agg vs.toArray) w :=
 rn_load_agg E ho hx ht hb hl fun i u hu => by
  have h1 := (List.getElem?_eq_some_iff.1 hu).1
  rw [← hv, List.getElem?_take_of_lt h1, List.getElem?_drop] at hu
  simpa using hu
theorem flat_at {α : Type} {lay : α → List Value} {s : Nat} (hl : ∀ a, (lay a).length = s) : ∀ (asx : List α) (i : Nat) (hi : i < asx.length) (j : Nat) (u : Value), (lay asx[i])[j]? = some u → (asx.flatMap lay)[i * s + j]? = some u
 | a :: r, 0, _, j, u, h => by
  have : j < (lay a).length := (List.getElem?_eq_some_iff.1 h).1
  rw [List.flatMap_cons, Nat.zero_mul, Nat.zero_add, List.getElem?_append_left this]
  exact h
 | a :: r, i + 1, hi, j, u, h => by
  rw [List.flatMap_cons, List.getElem?_append_right (by rw [hl, Nat.succ_mul]; omega), hl, Nat.succ_mul, show i * s + s + j - s = i * s + j by omega]
  exact flat_at hl r i (by simpa using hi) j u h
theorem Rd.elem {α : Type} {lay : α → List Value} {s : Nat} (hl : ∀ a, (lay a).length = s) {asx : List α} {m b off c : Nat} (h : Rd C s (.slice (some ⟨b, off, none⟩) m c) m (asx.flatMap lay)) (hC : ∀ x ∈ C, w.heap[x.1]? = some x.2)
  {i : Nat} (hi : i < asx.length) : ∀ j u, (lay asx[i])[j]? = some u → w.cell? ⟨b, off + i * s + j, none⟩ = some u := fun j u hu => by
 rw [Nat.add_assoc]
 exact h.cells hC rfl _ _ (flat_at hl asx i hi j u hu)
theorem Buf.cap_le {T : TypeId} {s m c l : Nat} {ad : Option Addr} {xs : List Value} (h : Buf C T s (.slice ad l c) m xs) : m ≤ c := by
 rcases h.2.2 with ⟨hv, h0, _⟩ | ⟨g, c', r, hv, _, hn, _⟩
 ·omega
 ·cases hv; exact hn
theorem buf_mk {T : TypeId} {g c s m : Nat} {xs r : List Value} (hx : xs.length = m * s) (h1 : ∀ u ∈ xs, u.oneCell' = true) (hn : m ≤ c) (hc : c ≤ maxLen) (hl : xs.length + r.length = c * s) :
  Buf [(g, cel (xs ++ r) T)] T s (.slice (some ⟨g, 0, none⟩) m c) m xs := ⟨hx, h1, .inr ⟨g, c, r, rfl, rfl, hn, hc, hl⟩⟩
theorem zEa {g s m : Nat} {xs : List Value} {T : TypeId} (hx : xs.length = m * s) (h1 : ∀ u ∈ xs, u.oneCell' = true) (hm : m ≤ 4611686018427387904) (c : Nat) : Rd [(g, cel xs T)] s (.slice (some ⟨g, 0, none⟩) m c) m xs :=
 ⟨hx, h1, by simp only [maxLen]; omega, .inr ⟨g, 0, c, _, T, (0, 0), rfl, List.mem_singleton.2 rfl, fun i u hu => by simpa using hu⟩⟩
end
end Go.Sl
namespace Go.Sl
section
variable {P : Program} {Q : Exit → Act → World → Prop} {a : Act} {w0 w : World} {o : Oper} {n : Nat} {e : List (Nat × Value)} {ds : List Deferred} {x y z u : Operand} {v : Value} {C : zAl} {As Ls Rs : List zAl} {K : Act → World → Prop}
theorem rn_slice_hm (E : Fr a n e ds) {t el : TypeId} {s l c hi mx : Nat} {ad : Option Addr} {k2 k3 : IntKind} {r q : Int} (ho : o.op = .slice t x none (some z) (some u)) (hx : ev e x = some (.slice ad l c)) (hz : ev e z = some (.int k2 r)) (hu : ev e u = some (.int k3 q))
  (ht : P.underlying t = some (.slice el)) (hs : (P.info? el).map (·.size) = some s) (hr : r = (hi : Int)) (hq : q = (mx : Int)) (h1 : hi ≤ mx) (h2 : mx ≤ c) : zAt P o a w (sliced ad 0 hi mx s) w := by
 subst hr hq
 have e1 : P.elem t = el := by simp [Program.elem, ht]
 have := Go.run_slice_hm (P := P) w t ad l c (by rw [e1]; exact ht) k2 k3 (hi : Int) (mx : Int) oZ oZ oZ
 rw [e1, zCw hs] at this
 simp [zAt, execOp, ho, E.eval hx, E.eval hz, E.eval hu, run_sliceAt_slice w t _ _ _ _ (by rw [e1]; exact ht), this]
theorem equal_pair {t t0 t1 : TypeId} {k0 k1 : IntKind} {fs : Array Field} (ht : P.underlying t = some (.struct fs)) (hp : P.stoodInHeld t = false)
  (hf : fs.toList.map (fun f => (f.name == "_", f.type, f.offset)) = [(false, t0, 0), (false, t1, 1)]) (u0 : P.underlying t0 = some (.int k0)) (u1 : P.underlying t1 = some (.int k1)) (p q r s : Int) :
  (Op.equalIn 10000 t (.agg #[.int k0 p, .int k1 q]) (.agg #[.int k0 r, .int k1 s])).run P w = .ok (p == r && q == s) w := by
 have hS : P.underlying t = some (.struct (P.fieldsOf t)) := by simp [Program.fieldsOf, ht]
 have hfs : P.fieldsOf t = fs := by simp [Program.fieldsOf, ht]
 rw [show (10000 : Nat) = 9999 + 1 from rfl, run_equalIn_agg w 9999 t _ _ hS hp, hfs]
 generalize fs.toList = l at hf
 have hl : l.length = 2 := by simpa using congrArg List.length hf
 match l, hl, hf with
 | [f0, f1], _, hf =>
  simp only [List.map_cons, List.map_nil, List.cons.injEq, Prod.mk.injEq, beq_eq_false_iff_ne, ne_eq, and_true] at hf
  obtain ⟨⟨n0, rfl, o0⟩, n1, rfl, o1⟩ := hf
  have a0 : (isAgg f0.type).run P w = .ok false w := by simp [isAgg, run_underlying u0]
  have a1 : (isAgg f1.type).run P w = .ok false w := by simp [isAgg, run_underlying u1]
  simp [Op.eqFields, n0, n1, o0, o1, part, a0, a1, run_equalIn_int, u0, u1]
  by_cases h1 : p = r <;> by_cases h2 : q = s <;> simp [h1, h2]
theorem zJr (E : Fr a n e ds) {t t' t0 t1 : TypeId} {k0 k1 : IntKind} {fs : Array Field} {p q r s : Int} (ho : o.op = .binOp .eql t x y t') (hx : ev e x = some (.agg #[.int k0 p, .int k1 q])) (hy : ev e y = some (.agg #[.int k0 r, .int k1 s]))
  (ht : P.underlying t = some (.struct fs)) (hp : P.stoodInHeld t = false) (hm : P.eqGuardType P.depth t = false)
  (hf : fs.toList.map (fun f => (f.name == "_", f.type, f.offset)) = [(false, t0, 0), (false, t1, 1)]) (u0 : P.underlying t0 = some (.int k0)) (u1 : P.underlying t1 = some (.int k1)) : zAt P o a w (.bool (p == r && q == s)) w := by
 have h1 := run_eqGuard_agg (P := P) w .eql t x y #[.int k0 p, .int k1 q] #[.int k0 r, .int k1 s] hm
 have h2 : (binOp .eql t (.agg #[.int k0 p, .int k1 q]) (.agg #[.int k0 r, .int k1 s])).run P w = .ok (.bool (p == r && q == s)) w := by
  rw [run_eql_struct, equal_pair ht hp hf u0 u1]; rfl
 simp [zAt, execOp, ho, E.eval hx, E.eval hy, h1, h2]
end
end Go.Sl
namespace Go.Sl
section
variable {w0 w w' : World} {As Ls Rs Bs : List zAl} {A B C D : zAl}
theorem St.perm2 (S : St w0 As w (A :: B :: Ls)) : St w0 As w (B :: A :: Ls) := S.perm (List.Perm.swap _ _ _)
theorem St.front1 {L1 : List zAl} (S : St w0 As w Ls) (p : Ls.Perm (A :: L1)) : St w0 As w (A :: L1) := S.perm p
theorem St.front2 {L1 L2 : List zAl} (S : St w0 As w Ls) (p : Ls.Perm (A :: L1)) (q : L1.Perm (B :: L2)) : St w0 As w (A :: B :: L2) := S.perm (p.trans (q.cons _))
theorem St.front3 {L1 L2 L3 : List zAl} (S : St w0 As w Ls) (p : Ls.Perm (A :: L1)) (q : L1.Perm (B :: L2)) (r : L2.Perm (C :: L3)) : St w0 As w (A :: B :: C :: L3) := S.front2 p (q.trans (r.cons _))
theorem St.front4 {L1 L2 L3 L4 : List zAl} (S : St w0 As w Ls) (p : Ls.Perm (A :: L1)) (q : L1.Perm (B :: L2)) (r : L2.Perm (C :: L3)) (t : L3.Perm (D :: L4)) : St w0 As w (A :: B :: C :: D :: L4) := S.front3 p q (r.trans (t.cons _))
section
variable {P : Program} {ops : Array Oper} {a : Act} {rest : List Oper} {o : Oper} {n d : Nat} {e : List (Nat × Value)} {ds : List Deferred} {x g : Operand} {v : Value} {K : Act → World → Prop} {Q : Exit → Act → World → Prop}
end
end
end Go.Sl
namespace Go.Sl
def zEo (P : Program) (t : TypeId) : Bool :=
 match P.underlying t with
 | some (.struct _) | some (.array _ _) => true
 | _ => false
def zHe (P : Program) (t : TypeId) (us : List Value) : Option Value :=
 bif zEo P t then some (.agg us.toArray) else match us with
  | [u] => some u
  | _ => none
def eqFs (P : Program) (F : TypeId → List Value → List Value → Option Bool) : List Field → List Value → List Value → Option Bool
 | [], _, _ => some true
 | f :: r, us, vs => bif f.name == "_" then none else match P.info? f.type with
  | none => none
  | some i => bif Nat.blt us.length (f.offset + i.size) || Nat.blt vs.length (f.offset + i.size) then none else
   match F f.type ((us.drop f.offset).take i.size) ((vs.drop f.offset).take i.size) with
   | none => none
   | some p => match r with
    | [] => some p
    | r => match eqFs P F r us vs with
     | none => none
     | some q => some (p && q)
def zFd (P : Program) : Nat → TypeId → List Value → List Value → Option Bool
 | 0, _, _, _ => none
 | d + 1, t, us, vs => match P.underlying t with
  | some (.int _) => match us, vs with
   | [.int k a], [.int k' b] => if k = k' then some (a == b) else none
   | _, _ => none
  | some .bool => match us, vs with
   | [.bool a], [.bool b] => some (a == b)
   | _, _ => none
  | some (.struct fs) => eqFs P (zFd P d) fs.toList us vs
  | _ => none
def zKq (P : Program) : Nat → TypeId → Bool
 | 0, _ => false
 | d + 1, t => match P.underlying t with
  | some (.struct fs) => !P.stoodInHeld t && fs.toList.all fun f => zKq P d f.type
  | _ => true
section
variable {P : Program}
theorem isAgg_of {t : TypeId} (w : World) (h : P.underlying t ≠ none) : (isAgg t).run P w = .ok (zEo P t) w := by
 unfold zEo
 cases hd : P.underlying t with
 | none => exact absurd hd h
 | some d => cases d <;> simp [isAgg, run_underlying hd]
theorem run_part {t : TypeId} {i : TypeInfo} (w : World) (hi : P.info? t = some i) (hu : P.underlying t ≠ none) {us : List Value} {off : Nat} {v : Value} (hl : off + i.size ≤ us.length)
  (hv : zHe P t ((us.drop off).take i.size) = some v) : (part t us.toArray off).run P w = .ok v w := by
 unfold part
 rw [Sem.run_bind, isAgg_of w hu, Result.andThen_ok]
 unfold zHe at hv
 cases hb : zEo P t with
 | true =>
  simp only [hb, cond_true, Option.some.injEq] at hv
  subst hv
  simp only [if_true, Sem.run_bind, zCw (P := P) (w := w) (t := t) (q := i.size) (by rw [hi]; rfl), Result.andThen_ok, Sem.run_pure]
  congr 2
  apply Array.ext'
  simp [List.extract_toArray, List.extract_eq_take_drop]
 | false =>
  simp only [hb, cond_false] at hv
  split at hv
  ·rename_i u hu2
   cases hv
   have h0 : us[off]? = some v := by
    have h1 : ((us.drop off).take i.size)[0]? = some v := by rw [hu2]; rfl
    rw [List.getElem?_take] at h1
    split at h1
    ·rw [List.getElem?_drop] at h1; exact h1
    ·cases h1
   simp [h0]
  ·cases hv
theorem zLl {d : Nat} {t : TypeId} {us vs : List Value} {r : Bool} (h : zFd P d t us vs = some r) : P.underlying t ≠ none ∧ (∃ u, zHe P t us = some u) ∧ ∃ v, zHe P t vs = some v := by
 cases d with
 | zero => cases h
 | succ d =>
  unfold zFd at h
  split at h
  ·rename_i hu
   refine ⟨by rw [hu]; simp, ?_⟩
   have hb : zEo P t = false := by simp [zEo, hu]
   split at h
   ·simp [zHe, hb]
   ·cases h
  ·rename_i hu
   refine ⟨by rw [hu]; simp, ?_⟩
   have hb : zEo P t = false := by simp [zEo, hu]
   split at h
   ·simp [zHe, hb]
   ·cases h
  ·rename_i fs hu
   have hb : zEo P t = true := by simp [zEo, hu]
   exact ⟨by rw [hu]; simp, by simp [zHe, hb]⟩
  ·cases h
theorem run_eqFs {D d : Nat} {F : TypeId → List Value → List Value → Option Bool} (hF : F = zFd P d) (w : World)
  (ih : ∀ t us vs r u v, zFd P d t us vs = some r → zKq P d t = true → zHe P t us = some u → zHe P t vs = some v → (Op.equalIn D t u v).run P w = .ok r w) :
  ∀ (fs : List Field) (us vs : List Value) (r : Bool), eqFs P F fs us vs = some r → (∀ f ∈ fs, zKq P d f.type = true) → (Op.eqFields D us.toArray vs.toArray fs).run P w = .ok r w
 | [], us, vs, r, h, _ => by
  simp only [eqFs, Option.some.injEq] at h
  subst h
  simp [Op.eqFields]
 | f :: fs, us, vs, r, h, hh => by
  subst hF
  unfold eqFs at h
  cases hn : (f.name == "_") with
  | true => simp [hn] at h
  | false =>
   simp only [hn, cond_false] at h
   have hne : f.name ≠ "_" := by simpa using hn
   cases hi : P.info? f.type with
   | none => simp [hi] at h
   | some i =>
    simp only [hi] at h
    cases hl : (Nat.blt us.length (f.offset + i.size) || Nat.blt vs.length (f.offset + i.size)) with
    | true => simp [hl] at h
    | false =>
     simp only [hl, cond_false] at h
     have hl1 : f.offset + i.size ≤ us.length ∧ f.offset + i.size ≤ vs.length := by
      simp only [Bool.or_eq_false_iff] at hl
      have h1 := hl.1
      have h2 := hl.2
      rw [← Bool.not_eq_true, Nat.blt_eq] at h1 h2
      omega
     cases hp : zFd P d f.type ((us.drop f.offset).take i.size) ((vs.drop f.offset).take i.size) with
     | none => simp [hp] at h
     | some p =>
      simp only [hp] at h
      obtain ⟨hu, ⟨u, hu1⟩, v, hv1⟩ := zLl hp
      have e1 := run_part w hi hu hl1.1 hu1
      have e2 := run_part w hi hu hl1.2 hv1
      have e3 := ih _ _ _ _ _ _ hp (hh f (List.mem_cons_self ..)) hu1 hv1
      have hrun : (Op.eqFields D us.toArray vs.toArray (f :: fs)).run P w = (if (!p) = true then (pure false : Sem Bool) else Op.eqFields D us.toArray vs.toArray fs).run P w := by
       simp only [Op.eqFields, if_pos hne, Sem.run_bind, e1, Result.andThen_ok, e2, e3]
      rw [hrun]
      have hrest : ∀ q, eqFs P (zFd P d) fs us vs = some q → (Op.eqFields D us.toArray vs.toArray fs).run P w = .ok q w := fun q hq =>
       run_eqFs rfl w ih fs us vs q hq fun g hg => hh g (List.mem_cons_of_mem _ hg)
      cases fs with
      | nil =>
       simp only [Option.some.injEq] at h
       subst h
       cases p
       ·simp
       ·simp only [Bool.not_true, Bool.false_eq_true, if_false]; exact hrest true rfl
      | cons g gs =>
       simp only at h
       cases hq : eqFs P (zFd P d) (g :: gs) us vs with
       | none => simp [hq] at h
       | some q =>
        simp only [hq, Option.some.injEq] at h
        subst h
        cases p
        ·simp
        ·simp only [Bool.not_true, Bool.false_eq_true, if_false, Bool.true_and]; exact hrest q hq
theorem zJs (w : World) : ∀ (d j : Nat) (t : TypeId) (us vs : List Value) (r : Bool) (u v : Value), zFd P d t us vs = some r → zKq P d t = true → zHe P t us = some u → zHe P t vs = some v →
  (Op.equalIn (d + j) t u v).run P w = .ok r w
 | 0, _, _, _, _, _, _, _, h, _, _, _ => by cases h
 | d + 1, j, t, us, vs, r, u, v, h, hh, hu, hv => by
  unfold zFd at h
  rw [show d + 1 + j = (d + j) + 1 by omega]
  split at h
  ·rename_i k0 hk
   have hb : zEo P t = false := by simp [zEo, hk]
   split at h
   ·rename_i k a k' b
    simp only [zHe, hb, cond_false, Option.some.injEq] at hu hv
    subst hu hv
    split at h
    ·rename_i hkk
     subst hkk
     cases h
     exact run_equalIn_int w (d + j) t _ _ _ _ hk
    ·cases h
   ·cases h
  ·rename_i hk
   have hb : zEo P t = false := by simp [zEo, hk]
   split at h
   ·rename_i a b
    simp only [zHe, hb, cond_false, Option.some.injEq] at hu hv
    subst hu hv
    cases h
    exact run_equalIn_bool' w (d + j) t _ _ hk
   ·cases h
  ·rename_i fs hk
   have hb : zEo P t = true := by simp [zEo, hk]
   simp only [zHe, hb, cond_true, Option.some.injEq] at hu hv
   subst hu hv
   unfold zKq at hh
   rw [hk] at hh
   simp only [Bool.and_eq_true, Bool.not_eq_true', List.all_eq_true] at hh
   have hS : P.underlying t = some (.struct (P.fieldsOf t)) := by simp [Program.fieldsOf, hk]
   have hfs : P.fieldsOf t = fs := by simp [Program.fieldsOf, hk]
   rw [run_equalIn_agg w (d + j) t _ _ hS hh.1, hfs]
   exact run_eqFs rfl w (fun t us vs r u v h1 h2 h3 h4 => zJs w d j t us vs r u v h1 h2 h3 h4) fs.toList us vs r h hh.2
  ·cases h
end
section
variable {P : Program} {a : Act} {w : World} {o : Oper} {n : Nat} {e : List (Nat × Value)} {ds : List Deferred} {x y : Operand}
theorem zIs (E : Fr a n e ds) {t t' : TypeId} {us vs : List Value} {r : Bool} (ho : o.op = .binOp .eql t x y t') (hx : ev e x = some (.agg us.toArray)) (hy : ev e y = some (.agg vs.toArray))
  (hr : zFd P 8 t us vs = some r) (hh : zKq P 8 t = true) (hm : P.eqGuardType P.depth t = false) (ha : zEo P t = true) : zAt P o a w (.bool r) w := by
 have h1 := run_eqGuard_agg (P := P) w .eql t x y us.toArray vs.toArray hm
 have h3 := zJs w 8 9992 t us vs r _ _ hr hh (by simp only [zHe, ha, cond_true]; rfl) (by simp only [zHe, ha, cond_true]; rfl)
 have h2 : (binOp .eql t (.agg us.toArray) (.agg vs.toArray)).run P w = .ok (.bool r) w := by
  rw [run_eql_struct, h3]; rfl
 simp [zAt, execOp, ho, E.eval hx, E.eval hy, h1, h2]
end
section
variable {P : Program} {fn : Func} {a : Act} {w : World} {n : Nat} {e : List (Nat × Value)} {ds : List Deferred} {R : Ending → World → Prop} {t s b : Nat} {ty T : TypeId} {fr : Nat × Nat} {vs : List Value} {x : Value}
theorem zDu (hb : w.heap[b]? = some (.cells vs.toArray T fr)) (hs : zEb P ty = some vs.length) : (loadVar ty ⟨b, 0, none⟩).run P w = .ok (.agg vs.toArray) w := by
 have h2 : (loadCells ⟨b, 0, none⟩ vs.length).run P w = .ok vs.toArray w :=
  run_loadCells_list w ⟨b, 0, none⟩ vs fun i u hu => by rw [Addr.add_lit, zHp hb]; simpa using hu
 simp [loadVar, zGc hs, zCw (zLj hs), h2]
theorem zFu (E : Fr a n e) (hr : fn.results = #[.cell t ty]) (hp : lk e t = some (.pointer (some ⟨b, 0, none⟩))) (hb : w.heap[b]? = some (.cells vs.toArray T fr)) (hs : zEb P ty = some vs.length)
  (h : R (.returned (.agg vs.toArray)) w) : bodyPost P fn R .ret a w :=
 ⟨E.nod, .agg vs.toArray, by
  have h1 := zDu (P := P) hb hs
  have h2 := E.get t _ hp
  simp [results, hr, h2, asAddr, h1], h⟩
theorem ret_ct (E : Fr a n e) (hr : fn.results = #[.cell t ty, .tmp s]) (hp : lk e t = some (.pointer (some ⟨b, 0, none⟩))) (hx : lk e s = some x) (hb : w.heap[b]? = some (.cells vs.toArray T fr)) (hs : zEb P ty = some vs.length)
  (h : R (.returned (.tuple #[.agg vs.toArray, x])) w) : bodyPost P fn R .ret a w :=
 ⟨E.nod, .tuple #[.agg vs.toArray, x], by
  have h1 := zDu (P := P) hb hs
  have h2 := E.get t _ hp
  have h3 := E.get s _ hx
  simp [results, hr, h2, h3, asAddr, h1], h⟩
end
theorem zIt {P : Program} {a : Act} {w : World} {o : Oper} {n : Nat} {e : List (Nat × Value)} {ds : List Deferred} {x y : Operand} (E : Fr a n e ds) {t el : TypeId} {l i : Nat} {k : IntKind} {q : Int} {cs : Array Value} {v : Value}
  (ho : o.op = .index t x y) (hx : ev e x = some (.agg cs)) (hy : ev e y = some (.int k q)) (ht : P.underlying t = some (.array l el)) (h1 : zKp P el = true) (hs : (P.info? el).map (·.size) = some 1)
  (hq : q = (i : Int)) (hi : i < l) (hv : cs[i]? = some v) : zAt P o a w v w := by
 subst hq
 simp [zAt, execOp, ho, E.eval hx, E.eval hy, Instr.index, asIntOf, run_underlying ht, hi, zCw hs, part, zDz h1, hv]
theorem Buf.addr {C : zAl} {T : TypeId} {s m c : Nat} {ad : Option Addr} {xs : List Value} (h : Buf C T s (.slice ad m c) m xs) (hm : 0 < m) : ∃ g, ad = some ⟨g, 0, none⟩ := by
 rcases h.2.2 with ⟨h, h0, _⟩ | ⟨g, c', r, h, _⟩
 ·omega
 ·cases h; exact ⟨g, rfl⟩
theorem zJb {P : Program} {a : Act} {o : Oper} {n : Nat} {e : List (Nat × Value)} {ds : List Deferred} {x z : Operand} {v : Value} {K : Act → World → Prop} {Q : Exit → Act → World → Prop} {w0 w : World} {As Ls Rs : List zAl} {C : zAl}
  (E : Fr a n e ds) (S : St w0 As w Ls) {xs : List Value} {t T : TypeId} {b j i m c s : Nat} (ho : o.op = .store t x z) (hd : o.dst = none) (hx : ev e x = some (.pointer (some ⟨b, j, none⟩))) (hy : ev e z = some v)
  (h1 : v.oneCell' = true) (hs : (P.info? t).map (·.size) = some 1)
  (hB : Buf C T s (.slice (some ⟨b, 0, none⟩) m c) m xs) (hp : Ls.Perm (C :: Rs)) (hi : i < xs.length) (hj : j = i)
  (k : ∀ a' w' C', Fr a' n e ds → Buf C' T s (.slice (some ⟨b, 0, none⟩) m c) m (xs.set i v) → St w0 As w' (C' :: Rs) → K a' w') : o.wp P a w K Q := by
 subst hj
 rcases hB.2.2 with ⟨h, _⟩ | ⟨g, c', r, h, rfl, hn, hc, hcs⟩
 ·cases h
 ·cases h
  refine zAv E S ho hd hx hy h1 hs hp (by rw [List.length_append]; omega) ?_
  intro a' w' E' S'
  rw [List.set_append, if_pos hi] at S'
  refine k a' w' _ E' ⟨by rw [List.length_set]; exact hB.1, fun u hu => ?_, .inr ⟨b, _, r, rfl, rfl, hn, hc, by rw [List.length_set]; exact hcs⟩⟩ S'
  rcases List.mem_or_eq_of_mem_set hu with hu | hu
  ·exact hB.2.1 u hu
  ·rw [hu]; exact h1
end Go.Sl
namespace Go.Sl
section
variable {P : Program} {a : Act} {o : Oper} {n : Nat} {e : List (Nat × Value)} {ds : List Deferred} {x y : Operand} {v u : Value} {K : Act → World → Prop} {Q : Exit → Act → World → Prop} {w0 w : World} {As Ls Rs : List zAl} {A : zAl}
theorem St.tail (S : St w0 As w (A :: Ls)) : St w0 As w Ls := S.only (Bs := Ls) (Rs := [A]) (by
 unfold Sel
 exact (List.perm_append_comm (l₁ := [A]) (l₂ := Ls)))
theorem St.tail2 {B : zAl} (S : St w0 As w (A :: B :: Ls)) : St w0 As w Ls := S.tail.tail
theorem St.tail3 {B C : zAl} (S : St w0 As w (A :: B :: C :: Ls)) : St w0 As w Ls := S.tail.tail.tail
theorem St.del (S : St w0 As w Ls) (p : Ls.Perm (A :: Rs)) : St w0 As w Rs := (S.perm p).tail
theorem St.under (pre : List zAl) {w' : World} {Ls' : List zAl} (S : St w0 As w (pre ++ Ls)) (t : Trs w w' Ls Ls') : St w0 As w' (pre ++ Ls') :=
 (S.call (Bs := Ls) (Rs := pre) (by unfold Sel; exact List.perm_append_comm) t).perm List.perm_append_comm
theorem rn_com (E : Fr a n e ds) {t : TypeId} {p r : Int} (ho : o.op = .unOp .xor t x) (hx : ev e x = some (.int .u32 p)) (hr : bits .xor .u32 4294967295 p = r) : zAt P o a w (.int .u32 r) w := by
 subst hr
 have h : (Op.unary .xor (.int .u32 p)).run P w = .ok (.int .u32 (bits .xor .u32 4294967295 p)) w := by rfl
 simp [zAt, execOp, ho, E.eval hx, h]
theorem rn_s2a (E : Fr a n e ds) {t el : TypeId} {l c m : Nat} {ad : Option Addr} (ho : o.op = .sliceToArrayPointer t x) (hx : ev e x = some (.slice ad l c)) (ht : P.underlying t = some (.array m el)) (hm : m ≤ l) : zAt P o a w (.pointer ad) w := by
 simp [zAt, execOp, ho, E.eval hx, Instr.arrayAt, run_underlying ht, Nat.not_lt.2 hm]
theorem zBz (E : Fr a n e ds) {t el : TypeId} {b l i : Nat} {k : IntKind} {q : Int} (ho : o.op = .indexAddr t x y) (hx : ev e x = some (.pointer (some ⟨b, 0, none⟩))) (hy : ev e y = some (.int k q))
  (ht : P.underlying t = some (.array l el)) (hs : (P.info? el).map (·.size) = some 1) (hq : q = (i : Int)) (hi : i < l) : zAt P o a w (.pointer (some ⟨b, i, none⟩)) w := by
 have h := zAu (P := P) (w := w) E ho hx hy ht hs hq hi
 rwa [Nat.zero_add, Nat.mul_one] at h
theorem zCf {b j : Nat} {l : List Value} {T : TypeId} {fr : Nat × Nat} (hb : w.heap[b]? = some (.cells l.toArray T fr)) (hj : l[j]? = some v) : w.cell? ⟨b, j, none⟩ = some v := by
 rw [zHp hb]; simpa using hj
theorem zFe (E : Fr a n e ds) {t T : TypeId} {b q : Nat} {l : List Value} {fr : Nat × Nat} (ho : o.op = .load t x) (hx : ev e x = some (.pointer (some ⟨b, 0, none⟩))) (ht : zEb P t = some q)
  (hb : w.heap[b]? = some (.cells l.toArray T fr)) (hl : l.length = q) : zAt P o a w (.agg l.toArray) w :=
 zAz E ho hx ht hb hl (by rw [List.drop_zero, List.take_length])
theorem zFv (E : Fr a n e ds) (S : St w0 As w Ls) {t T : TypeId} {b : Nat} {l vs : List Value} (ho : o.op = .store t x y) (hd : o.dst = none) (hx : ev e x = some (.pointer (some ⟨b, 0, none⟩))) (hy : ev e y = some (.agg vs.toArray))
  (h1 : ∀ u ∈ vs, u.oneCell' = true) {q : Nat} (hs : (P.info? t).map (·.size) = some q) (hq : vs.length = q) (hp : Ls.Perm ([(b, cel l T)] :: Rs)) (hj : vs.length = l.length)
  (k : ∀ a' w', Fr a' n e ds → St w0 As w' ([(b, cel vs T)] :: Rs) → K a' w') : o.wp P a w K Q := by
 subst hq
 refine zAq E S ho hd hx hy h1 hs hp oZ fun a' w' E' S' => k a' w' E' ?_
 rw [List.take_zero, List.nil_append, Nat.zero_add, hj, List.drop_length, List.append_nil] at S'
 exact S'
end
theorem zHy (l : List Int) : ∀ u ∈ l.map (Value.int .u32), u.oneCell' = true := fun u hu => by
 obtain ⟨z, -, rfl⟩ := List.mem_map.1 hu; rfl
end Go.Sl
namespace Go.Sl
section
variable {P : Program} {a : Act} {o : Oper} {n : Nat} {e : List (Nat × Value)} {ds : List Deferred} {x y z : Operand} {w w0 : World} {u v : Value} {As Ls Rs : List zAl} {K : Act → World → Prop} {Q : Exit → Act → World → Prop}
end
section
variable {P : Program} {a : Act} {o : Oper} {n : Nat} {e : List (Nat × Value)} {ds : List Deferred} {x y : Operand} {w : World}
end
section
variable {w0 w : World} {As Ls L1 L2 L3 L4 L5 L6 : List zAl} {A B C D F G : zAl}
theorem St.front5 (S : St w0 As w Ls) (p : Ls.Perm (A :: L1)) (q : L1.Perm (B :: L2)) (r : L2.Perm (C :: L3)) (t : L3.Perm (D :: L4)) (u : L4.Perm (F :: L5)) : St w0 As w (A :: B :: C :: D :: F :: L5) := S.front4 p q r (t.trans (u.cons _))
theorem St.front6 (S : St w0 As w Ls) (p : Ls.Perm (A :: L1)) (q : L1.Perm (B :: L2)) (r : L2.Perm (C :: L3)) (t : L3.Perm (D :: L4)) (u : L4.Perm (F :: L5)) (v : L5.Perm (G :: L6)) : St w0 As w (A :: B :: C :: D :: F :: G :: L6) := S.front5 p q r t (u.trans (v.cons _))
end
section
variable {P : Program} {a : Act} {o : Oper} {n : Nat} {e : List (Nat × Value)} {ds : List Deferred} {x y : Operand} {w : World}
end
end Go.Sl
namespace Go.Sl
section
variable {P : Program} {a : Act} {o : Oper} {n : Nat} {e : List (Nat × Value)} {ds : List Deferred} {x y : Operand} {w w0 : World} {As Ls Rs : List zAl} {K : Act → World → Prop} {Q : Exit → Act → World → Prop}
end
section
variable {w0 w w' : World} {As Ls Rs Bs Ms : List zAl} {A B C D : zAl}
end
theorem St.cel {w0 w : World} {As Ls : List zAl} {b : Nat} {l l' : List Value} {T : TypeId} (S : St w0 As w ([(b, Sl.cel l T)] :: Ls)) (h : l = l') : St w0 As w ([(b, Sl.cel l' T)] :: Ls) := h ▸ S
end Go.Sl
namespace Go.Sl
section
variable {P : Program} {a : Act} {o : Oper} {n : Nat} {e : List (Nat × Value)} {ds : List Deferred} {x y z : Operand} {w w0 : World} {v : Value} {As Ls Rs : List zAl} {K : Act → World → Prop} {Q : Exit → Act → World → Prop}
theorem zFm {kt : TypeId} {k : IntKind} {q : Int} {b : Bool} (hk : P.underlying kt = some (.int k)) : (Instr.checkKey b 10000 kt (.int k q)).run P w = .ok () w :=
 Go.MapKept.run_checkKey (n := 9999) hk (by simp [Go.MapKept.IsKey]) b
theorem zFn (E : Fr a n e ds) {t kt et : TypeId} {r i clock : Nat} {es : Array MapEntry} {k : IntKind} {q : Int} (ho : o.op = .lookup t x y true) (hx : ev e x = some (.map (some r))) (hy : ev e y = some (.int k q)) (ht : P.underlying t = some (.map kt et)) (hk : P.underlying kt = some (.int k))
  (hb : w.heap[r]? = some (.map es clock)) (hf : Instr.findNow (.int k) (.int k q) es.toList 0 = some (some (i, v))) : zAt P o a w (.tuple #[v, .bool true]) w := by
 simp [zAt, execOp, ho, E.eval hx, E.eval hy, Instr.lookup, run_underlying ht, Go.MapKept.run_getObj_map hb, zFm hk, Go.MapKept.run_findKey hk hf]
theorem zEt (E : Fr a n e ds) {t kt et : TypeId} {r clock : Nat} {es : Array MapEntry} {k : IntKind} {q : Int} {ti : TypeInfo} (ho : o.op = .lookup t x y true) (hx : ev e x = some (.map (some r))) (hy : ev e y = some (.int k q)) (ht : P.underlying t = some (.map kt et)) (hk : P.underlying kt = some (.int k))
  (hi : P.info? et = some ti) (hz : ti.zero = some v) (hb : w.heap[r]? = some (.map es clock)) (hf : Instr.findNow (.int k) (.int k q) es.toList 0 = some none) : zAt P o a w (.tuple #[v, .bool false]) w := by
 simp [zAt, execOp, ho, E.eval hx, E.eval hy, Instr.lookup, run_underlying ht, Go.MapKept.run_getObj_map hb, zFm hk, Go.MapKept.run_findKey hk hf, zeroValue, typeInfo, hi, hz]
theorem rn_lookup1 (E : Fr a n e ds) {t kt et : TypeId} {r i clock : Nat} {es : Array MapEntry} {k : IntKind} {q : Int} (ho : o.op = .lookup t x y false) (hx : ev e x = some (.map (some r))) (hy : ev e y = some (.int k q)) (ht : P.underlying t = some (.map kt et)) (hk : P.underlying kt = some (.int k))
  (hb : w.heap[r]? = some (.map es clock)) (hf : Instr.findNow (.int k) (.int k q) es.toList 0 = some (some (i, v))) : zAt P o a w v w := by
 simp [zAt, execOp, ho, E.eval hx, E.eval hy, Instr.lookup, run_underlying ht, Go.MapKept.run_getObj_map hb, zFm hk, Go.MapKept.run_findKey hk hf]
theorem wp_makeMap (E : Fr a n e ds) (S : St w0 As w Ls) {t : TypeId} {d : Nat} (ho : o.op = .makeMap t none) (hd : o.dst = some d) (hn : d < n)
  (k : ∀ a' w' b, Fr a' n ((d, .map (some b)) :: e) ds → St w0 As w' ([(b, .map #[] 0)] :: Ls) → K a' w') : o.wp P a w K Q := by
 have hrun : zAt P o a w (.map (some w.heap.size)) (w.alloc (.map #[] 0)) := by
  have _ := E.nod
  simp [zAt, execOp, ho, Go.RowKit.run_makeMap]
 exact hrun.wp (by rw [hd]; exact k _ _ w.heap.size (E.put hn _) (S.alloc _))
theorem zHj {r : Nat} {ob ob' : Obj} (S : St w0 As w Ls) (hp : Ls.Perm ([(r, ob)] :: Rs)) : St w0 As { w with heap := w.heap.setIfInBounds r ob' } ([(r, ob')] :: Rs) :=
 S.block hp rfl rfl rfl (by simp) (fun h => by have := (Array.getElem?_eq_some_iff.1 h).1; simp [this]) (fun k hk => by simp [Ne.symm hk])
theorem zFf (E : Fr a n e ds) (S : St w0 As w Ls) {t kt et : TypeId} {r clock : Nat} {es : Array MapEntry} {k : IntKind} {q : Int} (ho : o.op = .mapUpdate t x y z ∨ o.op = .insert t x y z) (hd : o.dst = none) (hx : ev e x = some (.map (some r))) (hy : ev e y = some (.int k q)) (hz : ev e z = some v)
  (ht : P.underlying t = some (.map kt et)) (hk : P.underlying kt = some (.int k)) (hp : Ls.Perm ([(r, .map es clock)] :: Rs)) (hf : Instr.findNow (.int k) (.int k q) es.toList 0 = some none)
  (kk : ∀ a' w', Fr a' n e ds → St w0 As w' ([(r, .map (es.push { key := .int k q, val := v, born := clock }) (clock + 1))] :: Rs) → K a' w') : o.wp P a w K Q := by
 have hb := S.get hp
 refine Skips.wp (w' := { w with heap := w.heap.setIfInBounds r (.map (es.push { key := .int k q, val := v, born := clock }) (clock + 1)) }) ?_ (by rw [hd]; exact kk _ _ (E.put0 _) (zHj S hp))
 unfold Skips
 rcases ho with ho | ho <;> simp [execOp, ho, E.eval hx, E.eval hy, E.eval hz, Instr.mapUpdate, run_underlying ht, Go.MapKept.run_getObj_map hb, zFm hk, Go.MapKept.run_findKey hk hf, Go.MapKept.run_setObj_map _ hb]
end
end Go.Sl
namespace Go.Sl
section
variable {P : Program} {a : Act} {o : Oper} {n : Nat} {e : List (Nat × Value)} {ds : List Deferred} {x y z : Operand} {w w0 : World} {v : Value} {As Ls Rs : List zAl} {K : Act → World → Prop} {Q : Exit → Act → World → Prop}
theorem zIu (l : List UInt8) : (⟨l.toArray⟩ : ByteArray).toList = l := by simp
theorem zEe (l : List UInt8) : (⟨l.toArray⟩ : ByteArray).size = l.length := by simp [ByteArray.size]
theorem bytes_at (l : List UInt8) {i : Nat} (h : i < l.length) : (⟨l.toArray⟩ : ByteArray)[i]? = some l[i] := by
 rw [getElem?_pos _ _ (by rw [zEe]; exact h)]
 rfl
theorem bytes_app (l m : List UInt8) : (⟨l.toArray⟩ : ByteArray) ++ ⟨m.toArray⟩ = ⟨(l ++ m).toArray⟩ := by
 apply ByteArray.ext
 simp
theorem zGf (l : List UInt8) (lo hi : Nat) : (⟨l.toArray⟩ : ByteArray).extract lo hi = ⟨((l.drop lo).take (hi - lo)).toArray⟩ := by
 apply ByteArray.ext
 simp [ByteArray.data_extract, List.extract_toArray]
theorem rn_cat (E : Fr a n e ds) {t t' : TypeId} {b c : List UInt8} (ho : o.op = .binOp .add t x y t') (hx : ev e x = some (str b)) (hy : ev e y = some (str c)) (hl : b.length + c.length ≤ 140737488355328) : zAt P o a w (str (b ++ c)) w :=
 zDl E ho hx hy (by simp [go_sem]) (by
  show (Op.stringOp .add ⟨b.toArray⟩ ⟨c.toArray⟩).run P w = _
  have h : ¬ ((((⟨b.toArray⟩ : ByteArray).size + (⟨c.toArray⟩ : ByteArray).size : Nat) : Int) > IntKind.i64.max) := by
   rw [zEe, zEe]
   have : IntKind.i64.max = 9223372036854775807 := rfl
   omega
  simp only [Op.stringOp, if_neg h, bytes_app]
  rfl)
theorem zHz (E : Fr a n e ds) {t t' : TypeId} {b c : List UInt8} (ho : o.op = .binOp .geq t x y t') (hx : ev e x = some (str b)) (hy : ev e y = some (str c)) : zAt P o a w (.bool (!Op.bytesLess b c)) w :=
 zDl E ho hx hy (by simp [go_sem]) (by show (Op.stringOp .geq ⟨b.toArray⟩ ⟨c.toArray⟩).run P w = _; simp [Op.stringOp])
theorem zCi (E : Fr a n e ds) {t : TypeId} {l : List UInt8} {i : Nat} {k : IntKind} {q : Int} (ho : o.op = .index t x y) (hx : ev e x = some (str l)) (hy : ev e y = some (.int k q))
  (ht : P.underlying t = some .string) (hq : q = (i : Int)) (hi : i < l.length) : zAt P o a w (.int .u8 l[i].toNat) w :=
 zDo E ho hx hy ht hq (bytes_at l hi)
theorem rn_str_lh (E : Fr a n e ds) {t : TypeId} {l : List UInt8} {k k2 : IntKind} {p q : Int} {lo hi : Nat} (ho : o.op = .slice t x (some y) (some z) none) (hx : ev e x = some (str l)) (hy : ev e y = some (.int k p)) (hz : ev e z = some (.int k2 q))
  (ht : P.underlying t = some .string) (hp : p = (lo : Int)) (hq : q = (hi : Int)) (h1 : lo ≤ hi) (h2 : hi ≤ l.length) : zAt P o a w (str ((l.drop lo).take (hi - lo))) w := by
 subst hp hq
 have hs : (⟨l.toArray⟩ : ByteArray).size = l.length := zEe l
 simp [zAt, execOp, ho, E.eval hx, E.eval hy, E.eval hz, Instr.sliceAt, Instr.slice, Instr.sliceBounds, Instr.sliceBound, asIntOf, run_underlying ht, hs, h1, h2, zGf]
theorem rn_str_h (E : Fr a n e ds) {t : TypeId} {l : List UInt8} {k2 : IntKind} {q : Int} {hi : Nat} (ho : o.op = .slice t x none (some z) none) (hx : ev e x = some (str l)) (hz : ev e z = some (.int k2 q))
  (ht : P.underlying t = some .string) (hq : q = (hi : Int)) (h2 : hi ≤ l.length) : zAt P o a w (str (l.take hi)) w := by
 subst hq
 have hs : (⟨l.toArray⟩ : ByteArray).size = l.length := zEe l
 simp [zAt, execOp, ho, E.eval hx, E.eval hz, Instr.sliceAt, Instr.slice, Instr.sliceBounds, Instr.sliceBound, asIntOf, run_underlying ht, hs, h2, zGf]
theorem zLm (E : Fr a n e ds) {t : TypeId} {l : List UInt8} {k : IntKind} {p : Int} {lo : Nat} (ho : o.op = .slice t x (some y) none none) (hx : ev e x = some (str l)) (hy : ev e y = some (.int k p))
  (ht : P.underlying t = some .string) (hp : p = (lo : Int)) (h1 : lo ≤ l.length) : zAt P o a w (str (l.drop lo)) w := by
 subst hp
 have hs : (⟨l.toArray⟩ : ByteArray).size = l.length := zEe l
 have e1 : (l.drop lo).take (l.length - lo) = l.drop lo := List.take_of_length_le (by rw [List.length_drop]; exact Nat.le_refl _)
 simp [zAt, execOp, ho, E.eval hx, E.eval hy, Instr.sliceAt, Instr.slice, Instr.sliceBounds, Instr.sliceBound, asIntOf, run_underlying ht, hs, h1, zGf, e1]
theorem rn_extern (E : Fr a n e ds) {f : FuncId} {fn : Func} {ex : Array Value → Sem Value} {xs : List Operand} {vs : List Value} {ts : Array TypeId} (ho : o.op = .call { callee := .value (.func f), args := xs.toArray, argTypes := ts })
  (hf : P.funcs[f]? = some fn) (hnm : (fn.name == "runtime.NumGoroutine") = false) (hb : fn.body.isNone = true) (hn : Extern.findNext fn = none) (he : Extern.find fn = some ex) (hx : evs e xs = some vs)
  (hr : (ex vs.toArray).run P w = .ok v w) : zAt P o a w v w := by
 unfold zAt execOp
 have hg : ev e (.func f) = some (.func (.func f) #[] #[]) := rfl
 simp [ho, resolve, E.eval hg, Deferred.ofValue, invoke, E.evals hx, run_callFunc_extern hf hnm hb hn he, hr, Result.andThen]
theorem rn_itos (E : Fr a n e ds) {t t' : TypeId} {k : IntKind} {c : Nat} (ho : o.op = .convert t t' x) (hx : ev e x = some (.int k c)) (ht : P.underlying t = some (.int k)) (hd : P.underlying t' = some .string) (h1 : 128 ≤ c) (h2 : c ≤ 255) :
  zAt P o a w (str [UInt8.ofNat (192 + c / 64), UInt8.ofNat (128 + c % 64)]) w := by
 have hv : Utf8.valid (c : Int) = true := by
  have : ((c : Int)) < 1000 := by omega
  simp [Utf8.valid]; omega
 have he : Utf8.encode (c : Int) = ⟨#[UInt8.ofNat (192 + c / 64), UInt8.ofNat (128 + c % 64)]⟩ := by
  simp only [Utf8.encode, hv, if_true, Int.toNat_natCast]
  rw [if_neg oZ, if_pos oZ]
 simp [zAt, execOp, ho, E.eval hx, convert, run_underlying ht, run_underlying hd, Conv.intToString, he]
section scope
variable {c : Code} {Q : Exit → Act → World → Prop}
theorem wp_scope1 (h : c.wp P (Exit.noGoto Q) a w) : (Code.scope c).wp P Q a w := wp_scope_straight h
theorem sc_ret (h : Q .ret a w) : Exit.noGoto Q .ret a w := h
end scope
theorem rn_ibyte (E : Fr a n e ds) {f : FuncId} {fn : Func} {l : List UInt8} {c : UInt8} {ts : Array TypeId} (ho : o.op = .call { callee := .value (.func f), args := [x, y].toArray, argTypes := ts })
  (hf : P.funcs[f]? = some fn) (hnm : (fn.name == "runtime.NumGoroutine") = false) (hb : fn.body.isNone = true) (hn : Extern.findNext fn = none) (he : Extern.find fn = some Extern.BytealgIndexByte.indexByte)
  (hx : ev e x = some (str l)) (hy : ev e y = some (.int .u8 c.toNat)) : zAt P o a w (.int .i64 (Lib.indexByte l c)) w :=
 rn_extern E ho hf hnm hb hn he (vs := [str l, .int .u8 c.toNat]) (by simp [evs, hx, hy]) (by
  have := Lib.run_indexByteString (P := P) ⟨l.toArray⟩ c.toNat w
  simpa using this)
theorem rn_cbyte (E : Fr a n e ds) {f : FuncId} {fn : Func} {l : List UInt8} {c : UInt8} {ts : Array TypeId} (ho : o.op = .call { callee := .value (.func f), args := [x, y].toArray, argTypes := ts })
  (hf : P.funcs[f]? = some fn) (hnm : (fn.name == "runtime.NumGoroutine") = false) (hb : fn.body.isNone = true) (hn : Extern.findNext fn = none) (he : Extern.find fn = some Extern.BytealgCount.count)
  (hx : ev e x = some (str l)) (hy : ev e y = some (.int .u8 c.toNat)) : zAt P o a w (.int .i64 (l.count c : Nat)) w :=
 rn_extern E ho hf hnm hb hn he (vs := [str l, .int .u8 c.toNat]) (by simp [evs, hx, hy]) (by
  have := Lib.run_countString (P := P) ⟨l.toArray⟩ c.toNat w
  simpa [Lib.countByte] using this)
theorem zIv {l : List UInt8} {i : Nat} (h : i < l.length) (hc : l[i].toNat < 128) : Utf8.decode ⟨l.toArray⟩ i = (l[i].toNat, 1) := by
 have e0 : (⟨l.toArray⟩ : ByteArray).get! i = l[i] := by
  show (l.toArray)[i]! = l[i]
  simp [h]
 simp only [Utf8.decode, Nat.add_zero, e0]
 rw [if_pos hc]
theorem decode_big {l : List UInt8} {i : Nat} (h : i < l.length) (hc : 128 ≤ l[i].toNat) : 128 ≤ (Utf8.decode ⟨l.toArray⟩ i).1 := by
 have e0 : (⟨l.toArray⟩ : ByteArray).get! i = l[i] := by
  show (l.toArray)[i]! = l[i]
  simp [h]
 simp only [Utf8.decode, Nat.add_zero, e0]
 rw [if_neg oZ]
 have hr : (128 : Nat) ≤ Utf8.runeError := by decide
 split
 ·split <;> first | assumption | exact hr | (simp only; omega)
 ·split
  ·split
   ·rename_i hh; simp only [Bool.and_eq_true, decide_eq_true_eq] at hh; simp only; omega
   ·exact hr
  ·split
   ·split
    ·rename_i hh; simp only [Bool.and_eq_true, decide_eq_true_eq] at hh; simp only; omega
    ·exact hr
   ·exact hr
theorem run_getS {b p : Nat} {s : ByteArray} (hb : w.heap[b]? = some (.stringIter s p)) : (getObj b).run P w = .ok (.stringIter s p) w := by simp [getObj, Sem.run, hb]
theorem run_setS {b p : Nat} {s : ByteArray} {ob' : Obj} (hb : w.heap[b]? = some (.stringIter s p)) : (setObj b ob').run P w = .ok () { w with heap := w.heap.setIfInBounds b ob' } := by simp [setObj, Sem.run, hb]
theorem wp_rangeS (E : Fr a n e ds) (S : St w0 As w Ls) {t : TypeId} {d : Nat} {l : List UInt8} (ho : o.op = .range t x) (hd : o.dst = some d) (hn : d < n) (hx : ev e x = some (str l)) (ht : P.underlying t = some .string)
  (k : ∀ a' w' b, Fr a' n ((d, ptr b) :: e) ds → St w0 As w' ([(b, .stringIter ⟨l.toArray⟩ 0)] :: Ls) → K a' w') : o.wp P a w K Q := by
 have hrun : zAt P o a w (ptr w.heap.size) (w.alloc (.stringIter ⟨l.toArray⟩ 0)) := by
  simp [zAt, execOp, ho, E.eval hx, Instr.range, run_underlying ht]
 exact hrun.wp (by rw [hd]; exact k _ _ w.heap.size (E.put hn _) (S.alloc _))
theorem wp_nextS_end (E : Fr a n e ds) (S : St w0 As w Ls) {d b pos : Nat} {l : List UInt8} (ho : o.op = .next x true) (hd : o.dst = some d) (hn : d < n) (hx : ev e x = some (ptr b))
  (hp : Ls.Perm ([(b, .stringIter ⟨l.toArray⟩ pos)] :: Rs)) (hl : l.length ≤ pos) (k : ∀ a', Fr a' n ((d, .tuple #[.bool false]) :: e) ds → K a' w) : o.wp P a w K Q := by
 have hb := S.get hp
 have hrun : zAt P o a w (.tuple #[.bool false]) w := by
  simp [zAt, execOp, ho, E.eval hx, Instr.next, run_getS hb, zEe, Nat.not_lt.2 hl]
 exact hrun.wp (by rw [hd]; exact k _ (E.put hn _))
theorem wp_nextS (E : Fr a n e ds) (S : St w0 As w Ls) {d b pos : Nat} {l : List UInt8} (ho : o.op = .next x true) (hd : o.dst = some d) (hn : d < n) (hx : ev e x = some (ptr b))
  (hp : Ls.Perm ([(b, .stringIter ⟨l.toArray⟩ pos)] :: Rs)) (hl : pos < l.length)
  (k : ∀ a' w', Fr a' n ((d, .tuple #[.bool true, .int .i64 pos, .int .i32 (Utf8.decode ⟨l.toArray⟩ pos).1]) :: e) ds → St w0 As w' ([(b, .stringIter ⟨l.toArray⟩ (pos + (Utf8.decode ⟨l.toArray⟩ pos).2))] :: Rs) → K a' w') : o.wp P a w K Q := by
 have hb := S.get hp
 have hrun : zAt P o a w (.tuple #[.bool true, .int .i64 pos, .int .i32 (Utf8.decode ⟨l.toArray⟩ pos).1]) { w with heap := w.heap.setIfInBounds b (.stringIter ⟨l.toArray⟩ (pos + (Utf8.decode ⟨l.toArray⟩ pos).2)) } := by
  simp [zAt, execOp, ho, E.eval hx, Instr.next, run_getS hb, run_setS hb, zEe, hl, goInt]
 exact hrun.wp (by rw [hd]; exact k _ _ (E.put hn _) (zHj S hp))
end
end Go.Sl
namespace Go.Sl
section
variable {P : Program} {a : Act} {w : World} {n : Nat} {e : List (Nat × Value)} {ds : List Deferred} {fn : Func} {R : Ending → World → Prop}
theorem ret_tct (E : Fr a n e) {q t s : Nat} {v x : Value} {ty : TypeId} {b : Nat} {vs : List Value} {T : TypeId} {fr : Nat × Nat} (hr : fn.results = #[.tmp q, .cell t ty, .tmp s]) (hv : lk e q = some v) (hp : lk e t = some (.pointer (some ⟨b, 0, none⟩))) (hx : lk e s = some x)
  (hb : w.heap[b]? = some (.cells vs.toArray T fr)) (hs : zEb P ty = some vs.length) (h : R (.returned (.tuple #[v, .agg vs.toArray, x])) w) : bodyPost P fn R .ret a w :=
 ⟨E.nod, .tuple #[v, .agg vs.toArray, x], by
  have h1 := zDu (P := P) hb hs
  have h2 := E.get t _ hp
  have h3 := E.get s _ hx
  have h4 := E.get q _ hv
  simp [results, hr, h2, h3, h4, asAddr, h1], h⟩
theorem zDe (E : Fr a n e) {q t t2 s : Nat} {v x : Value} {ty ty2 : TypeId} {b b2 : Nat} {vs us : List Value} {T T2 : TypeId} {fr fr2 : Nat × Nat} (hr : fn.results = #[.cell t ty, .tmp q, .cell t2 ty2, .tmp s]) (hp : lk e t = some (.pointer (some ⟨b, 0, none⟩))) (hv : lk e q = some v)
  (hp2 : lk e t2 = some (.pointer (some ⟨b2, 0, none⟩))) (hx : lk e s = some x)
  (hb : w.heap[b]? = some (.cells vs.toArray T fr)) (hs : zEb P ty = some vs.length) (hb2 : w.heap[b2]? = some (.cells us.toArray T2 fr2)) (hs2 : zEb P ty2 = some us.length) (h : R (.returned (.tuple #[.agg vs.toArray, v, .agg us.toArray, x])) w) : bodyPost P fn R .ret a w :=
 ⟨E.nod, .tuple #[.agg vs.toArray, v, .agg us.toArray, x], by
  have h1 := zDu (P := P) hb hs
  have h1' := zDu (P := P) hb2 hs2
  have h2 := E.get t _ hp
  have h2' := E.get t2 _ hp2
  have h3 := E.get s _ hx
  have h4 := E.get q _ hv
  simp [results, hr, h2, h2', h3, h4, asAddr, h1, h1'], h⟩
end
section
variable {w0 w : World} {As Ls : List zAl} {C D : zAl}
theorem St.drops (pre : List zAl) (S : St w0 As w (C :: (pre ++ Ls))) : St w0 As w (C :: Ls) :=
 S.only (Bs := C :: Ls) (Rs := pre) (by
  show (C :: (pre ++ Ls)).Perm ((C :: Ls) ++ pre)
  exact (List.perm_append_comm).cons C)
theorem St.drops0 (pre : List zAl) (S : St w0 As w (pre ++ Ls)) : St w0 As w Ls :=
 S.only (Bs := Ls) (Rs := pre) (List.perm_append_comm)
theorem St.drops2 (pre : List zAl) (S : St w0 As w (C :: D :: (pre ++ Ls))) : St w0 As w (C :: D :: Ls) :=
 S.only (Bs := C :: D :: Ls) (Rs := pre) (by
  show (C :: D :: (pre ++ Ls)).Perm ((C :: D :: Ls) ++ pre)
  exact ((List.perm_append_comm).cons D).cons C)
end
end Go.Sl
namespace Go.Sl
def zBv : List UInt8 → Nat
 | [] => 0
 | b :: r => b.toNat + 256 * zBv r
theorem zGn (xs ys : List UInt8) : zBv (xs ++ ys) = zBv xs + 256 ^ xs.length * zBv ys := by
 induction xs with
 | nil => simp [zBv]
 | cons b r ih => simp only [List.cons_append, zBv, ih, List.length_cons, Nat.pow_succ]; rw [Nat.mul_add, Nat.add_assoc]; congr 2; rw [← Nat.mul_assoc, Nat.mul_comm 256]
theorem zEu (xs : List UInt8) : zBv xs < 256 ^ xs.length := by
 induction xs with
 | nil => simp [zBv]
 | cons b r ih =>
  have := b.toNat_lt
  simp only [zBv, List.length_cons, Nat.pow_succ]
  omega
theorem zJt (bs : List UInt8) (k : Nat) (h : k < bs.length) : zBv (bs.take (k + 1)) = zBv (bs.take k) + bs[k].toNat * 2 ^ (8 * k) := by
 rw [List.take_succ_eq_append_getElem h, zGn, List.length_take, Nat.min_eq_left oZ, Nat.pow_mul]
 simp [zBv, Nat.mul_comm]
def zBj (n : Nat) : Nat → List UInt8
 | 0 => []
 | k + 1 => zBj n k ++ [UInt8.ofNat (n / 2 ^ (8 * k))]
theorem zAx (n k : Nat) : (zBj n k).length = k := by induction k <;> simp [zBj, *]
theorem zIi (n k : Nat) : zBv (zBj n k) = n % 256 ^ k := by
 induction k with
 | zero => simp [zBj, zBv, Nat.mod_one]
 | succ k ih =>
  rw [zBj, zGn, ih, zAx, Nat.pow_succ, Nat.mod_mul]
  simp [zBv, Nat.pow_mul]
theorem zGo (xs : List Value) (k : Nat) (z v : Value) (j : Nat) (hj : xs.length = j) (hk : j < k) :
  (xs ++ List.replicate (k - j) z).set j v = (xs ++ [v]) ++ List.replicate (k - (j + 1)) z := by
 subst hj
 rw [List.set_append_right _ _ (Nat.le_refl _), Nat.sub_self, show k - xs.length = (k - (xs.length + 1)) + 1 by omega, List.replicate_succ, List.set_cons_zero, List.append_assoc]
 rfl
structure Wr where
 room : Nat
 bs : List UInt8
 e : Nat
abbrev Laid := Nat ⊕ List UInt8
def Wr.fits (s : Wr) (b : List UInt8) : Bool := s.bs.length + b.length ≤ s.room
def Wr.putE (s : Wr) (b : List UInt8) : Nat := if s.fits b then 0 else 12
def Wr.putS (s : Wr) (b : List UInt8) : Wr := if s.fits b then { s with bs := s.bs ++ b } else s
def Wr.lay (s : Wr) (x : Laid) : Wr :=
 if s.e ≠ 0 then s else match x with
  | .inl e => { s with e := e }
  | .inr b => { s.putS b with e := s.putE b }
def numE (n : Nat) (k : Int) : Laid := if k < 1 ∨ 8 < k then .inl 1 else if n ≥ 256 ^ k.toNat then .inl 11 else .inr (zBj n k.toNat)
def textE (t : List UInt8) : Laid := if t.length > 65535 then .inl 11 else .inr (zBj t.length 2 ++ t)
def Wr.num (s : Wr) (n : Nat) (k : Int) : Wr := s.lay (numE n k)
def Wr.text (s : Wr) (t : List UInt8) : Wr := s.lay (textE t)
def Wr.bytes (s : Wr) (b : List UInt8) : Wr := s.lay (.inr b)
theorem Wr.putS_eq (s : Wr) (b : List UInt8) : s.putS b = { s with bs := (s.putS b).bs } := by unfold Wr.putS; split <;> rfl
structure Rdr where
 bs : List UInt8
 at_ : Nat
 e : Nat
def Rdr.cut (s : Rdr) (k behind : Nat) : List UInt8 := (s.bs.drop (s.at_ + behind)).take k
def Rdr.num (s : Rdr) (k : Int) : Nat × Rdr :=
 if s.e ≠ 0 then (0, s) else if k < 1 ∨ 8 < k then (0, { s with e := 1 }) else if s.bs.length < s.at_ + k.toNat then (0, { s with e := 10 })
 else (zBv (s.cut k.toNat 0), { s with at_ := s.at_ + k.toNat })
def Rdr.bytes (s : Rdr) (k : Int) : List UInt8 × Rdr :=
 if s.e ≠ 0 then ([], s) else if k < 0 then ([], { s with e := 1 }) else if s.bs.length < s.at_ + k.toNat then ([], { s with e := 10 })
 else (s.cut k.toNat 0, { s with at_ := s.at_ + k.toNat })
def Rdr.text (s : Rdr) (most : Int) : List UInt8 × Rdr :=
 if s.e ≠ 0 then ([], s) else if s.bs.length < s.at_ + 2 then ([], { s with e := 10 }) else if most < zBv (s.cut 2 0) then ([], { s with e := 11 })
 else if s.bs.length < s.at_ + 2 + zBv (s.cut 2 0) then ([], { s with e := 10 })
 else (s.cut (zBv (s.cut 2 0)) 2, { s with at_ := s.at_ + (2 + zBv (s.cut 2 0)) })
def Rdr.left (s : Rdr) : Int := s.bs.length - s.at_
def Rdr.done (s : Rdr) : Nat := if s.e = 0 ∧ s.at_ < s.bs.length then 13 else s.e
theorem Rdr.cut_length (s : Rdr) (k b : Nat) (h : s.at_ + b + k ≤ s.bs.length) : (s.cut k b).length = k := by simp [Rdr.cut]; omega
end Go.Sl
