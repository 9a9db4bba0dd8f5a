/-
  Texts put together (2).
-/
import Derived.Test.YtpjidiaekifmbaaGreatDoorZParityRows1
set_option maxHeartbeats 1000000
namespace Go.Sl
section
variable {A B1 B2 B3 B4 B5 B6 B7 B8 B9 B10 B11 B12 B13 B14 B15 : zAj} {L : List zAj}
theorem pk1 : (A :: L).Perm (A :: L) := pick_head _ _
theorem pk2 : (B1 :: A :: L).Perm (A :: B1 :: L) := zFq pk1
theorem pk3 : (B1 :: B2 :: A :: L).Perm (A :: B1 :: B2 :: L) := zFq pk2
theorem mm1 : A ∈ A :: L := List.Mem.head _
end
abbrev ptr (p : Nat) : Value := .pointer (some ⟨p, 0, none⟩)
theorem zDz (w : World) : Hp w [] := ⟨by simp, by simp⟩
section
variable {x y : Nat} {z : Int}
theorem wa1 (h : x + y < 9223372036854775808) : IntKind.i64.wrap ((x : Int) + (y : Int)) = ((x + y : Nat) : Int) := by rw [IntWalk.i64_in _ oZ]; omega
theorem zBq (h : x + y < 9223372036854775808) : IntKind.i64.wrap ((x : Int) + (OfNat.ofNat y : Int)) = ((x + y : Nat) : Int) := wa1 h
theorem ws1 (h : y ≤ x) (h' : x < 9223372036854775808) : IntKind.i64.wrap ((x : Int) - (y : Int)) = ((x - y : Nat) : Int) := by rw [IntWalk.i64_in _ oZ]; omega
theorem zEc (h : y ≤ x) (h' : x < 9223372036854775808) : IntKind.i64.wrap ((x : Int) - (OfNat.ofNat y : Int)) = ((x - y : Nat) : Int) := ws1 h h'
theorem wm1 (h : x * y < 9223372036854775808) : IntKind.i64.wrap ((x : Int) * (y : Int)) = ((x * y : Nat) : Int) := by
  have h2 : ((x * y : Nat) : Int) < 9223372036854775808 := by omega
  rw [Int.natCast_mul] at h2
  rw [IntWalk.i64_in _ ⟨by have : (0 : Int) ≤ (x : Int) * (y : Int) := by rw [← Int.natCast_mul]; omega
                           omega, by omega⟩, Int.natCast_mul]
theorem zGn (h : x * y < 9223372036854775808) : IntKind.i64.wrap ((OfNat.ofNat x : Int) * (y : Int)) = ((x * y : Nat) : Int) := wm1 h
theorem zFb (h : x * y < 18446744073709551616) : IntKind.u64.wrap ((OfNat.ofNat x : Int) * (y : Int)) = ((x * y : Nat) : Int) := by
 rw [show ((OfNat.ofNat x : Int) * (y : Int)) = ((x * y : Nat) : Int) from (Int.natCast_mul x y).symm]
 exact IntWalk.u64_in _ oZ
theorem zGa (h : x * y < 9223372036854775808) : IntKind.i64.wrap ((x : Int) * (OfNat.ofNat y : Int)) = ((x * y : Nat) : Int) := wm1 h
theorem zHl (h' : x < 18446744073709551616) : IntKind.u64.wrap (((x : Int)).tdiv (OfNat.ofNat y : Int)) = ((x / y : Nat) : Int) := by
 have e : ((x : Int)).tdiv (OfNat.ofNat y : Int) = ((x / y : Nat) : Int) := by
  show ((x : Int)).tdiv (y : Int) = _
  rw [Int.tdiv_eq_ediv_of_nonneg oZ]; rfl
 have h2 := Nat.div_le_self x y
 rw [e]
 generalize x / y = q at *
 exact IntWalk.u64_in _ oZ
theorem zKb (h' : x < 9223372036854775808) : IntKind.i64.wrap (((x : Int)).tdiv (OfNat.ofNat y : Int)) = ((x / y : Nat) : Int) := by
 have e : ((x : Int)).tdiv (OfNat.ofNat y : Int) = ((x / y : Nat) : Int) := by
  show ((x : Int)).tdiv (y : Int) = _
  rw [Int.tdiv_eq_ediv_of_nonneg oZ]; rfl
 have h2 := Nat.div_le_self x y
 rw [e]
 generalize x / y = q at *
 exact IntWalk.i64_in _ oZ
theorem zLn : ((x : Int)).tmod (OfNat.ofNat y : Int) = ((x % y : Nat) : Int) := by
 show ((x : Int)).tmod (y : Int) = _
 rw [Int.tmod_eq_emod_of_nonneg oZ]; rfl
theorem zHm (h : x < 9223372036854775808) : IntKind.i64.wrap (x : Int) = (x : Int) := IntWalk.i64_in _ oZ
theorem zEo (h : x < 18446744073709551616) : IntKind.u64.wrap (x : Int) = (x : Int) := IntWalk.u64_in _ oZ
theorem w_in (h : -9223372036854775808 ≤ z ∧ z ≤ 9223372036854775807) : IntKind.i64.wrap z = z := IntWalk.i64_in _ h
theorem zBj (h : 0 ≤ z ∧ z ≤ 18446744073709551615) : IntKind.u64.wrap z = z := IntWalk.u64_in _ h
theorem wn_in (h : -9223372036854775807 ≤ z ∧ z ≤ 9223372036854775807) : IntKind.i64.wrap (-z) = -z := IntWalk.i64_in _ oZ
theorem wu8 (b : UInt8) : IntKind.u64.wrap (b.toNat : Int) = (b.toNat : Int) := IntWalk.u64_in _ (by have := b.toNat_lt; omega)
theorem w8 (n : Nat) : IntKind.u8.wrap (n : Int) = ((UInt8.ofNat n).toNat : Int) := by rw [IntKind.wrap_u8]; simp
end
section
theorem shlu {x j : Nat} (h : x * 2 ^ j < 18446744073709551616) : IntKind.u64.wrap ((x : Int) * 2 ^ ((j : Nat) : Int).toNat) = ((x * 2 ^ j : Nat) : Int) := by
 have e : ((x : Int) * 2 ^ ((j : Nat) : Int).toNat) = ((x * 2 ^ j : Nat) : Int) := by simp
 rw [e]; exact zEo h
theorem shru {x j : Nat} : ((x : Int) / 2 ^ ((j : Nat) : Int).toNat) = ((x / 2 ^ j : Nat) : Int) := by simp
theorem oru {p q j : Nat} (hp : p < 2 ^ j) (h : p + q * 2 ^ j < 18446744073709551616) : bits .or .u64 (p : Int) ((q * 2 ^ j : Nat) : Int) = ((p + q * 2 ^ j : Nat) : Int) := by
 have h1 : p ||| q * 2 ^ j = p + q * 2 ^ j := by
  rw [Nat.or_comm, Nat.mul_comm, ← Nat.two_pow_add_eq_or_of_lt hp, Nat.add_comm]
 have h2 : ∀ z : Nat, z < 18446744073709551616 → (BitVec.ofInt 64 (z : Int)).toNat = z := fun z hz => by
  rw [BitVec.ofInt_natCast, BitVec.toNat_ofNat]; exact Nat.mod_eq_of_lt hz
 show IntKind.u64.wrap (((BitVec.ofInt 64 (p : Int) ||| BitVec.ofInt 64 ((q * 2 ^ j : Nat) : Int)).toNat : Nat) : Int) = _
 rw [BitVec.toNat_or, h2 p oZ, h2 _ oZ, h1]
 exact zEo h
end
theorem mkb {k : Nat} (h : k ≤ 281474976710656) : 1 * k ≤ 281474976710656 := by omega
theorem mkb8 {k : Nat} (h : k ≤ 35184372088832) : 8 * k ≤ 281474976710656 := by omega
theorem mkbn {b s k : Nat} (hb : b = s) (h : s * k ≤ 281474976710656) : b * k ≤ 281474976710656 := by subst hb; exact h
theorem n1 {p : Prop} [Decidable p] (h : decide p = true) : p := of_decide_eq_true h
theorem n2 {p : Prop} [Decidable p] (h : decide p = false) : ¬ p := of_decide_eq_false h
theorem n3 {p q : Int} (h : (p == q) = true) : p = q := by simpa using h
theorem n4 {p q : Int} (h : (p == q) = false) : p ≠ q := by simpa using h
theorem n5 {p q : Int} (h : (p != q) = true) : p ≠ q := by simpa using h
theorem n6 {p q : Int} (h : (p != q) = false) : p = q := by simpa using h
class Nrm (p : Prop) (q : outParam Prop) : Prop where
 nrm : p → q
instance (priority := 10) nrm0 {p : Prop} : Nrm p p := ⟨id⟩
instance nrm1 {p : Prop} [Decidable p] : Nrm (decide p = true) p := ⟨n1⟩
instance nrm2 {p : Prop} [Decidable p] : Nrm (decide p = false) (¬ p) := ⟨n2⟩
instance nrm3 {p q : Int} : Nrm ((p == q) = true) (p = q) := ⟨n3⟩
instance nrm4 {p q : Int} : Nrm ((p == q) = false) (p ≠ q) := ⟨n4⟩
instance nrm5 {p q : Int} : Nrm ((p != q) = true) (p ≠ q) := ⟨n5⟩
instance nrm6 {p q : Int} : Nrm ((p != q) = false) (p = q) := ⟨n6⟩
section
variable {a : Act} {n : Nat} {e : List (Nat × Value)} {ds : List Deferred} {t : Nat} {b : Bool} {G : Prop}
theorem zAr (_ : Fr a n e ds) (_ : lk e t = some (.bool b)) (h1 : b = true → G) (h2 : b = false → G) : G := by
 cases b
 ·exact h2 rfl
 ·exact h1 rfl
theorem zCb (_ : Fr a n e ds) (_ : lk e t = some (.bool b)) (hb : b = true) (h : b = true → G) : G := h hb
theorem zBg (_ : Fr a n e ds) (_ : lk e t = some (.bool b)) (hb : b = false) (h : b = false → G) : G := h hb
end
section
variable {P : Program} {id : Nat} {l : List Oper} {ops : Array Oper} {Q : Exit → Act → World → Prop} {a : Act} {w w0 : World} {As Ls : List zAj}
theorem zDe (S : St w0 As w Ls) (ord : Ordr) (Ms : List zAj) (hM : ∀ {w' : World}, Stab Ls w' → Stab Ms w') (hm : P.follows .mixedOrders = true) (hB : mixAll l.toArray ord = true)
  (k : ∀ w', St w0 As w' Ls → zCm P l.toArray (Stab Ms) (zBk Q) ord a w') : (Code.region id l.toArray true).wp P Q a w := zJv ord (Stab Ms) hm hB (hM S.drew.stab) (k _ S.drew)
theorem zAw (S : St w0 As w Ls) (ord : Ordr) (hm : P.follows .mixedOrders = true) (hB : mixAll l.toArray ord = true)
  (k : ∀ w', St w0 As w' Ls → zCm P l.toArray (Stab Ls) (zBk Q) ord a w') : (Code.region id l.toArray true).wp P Q a w := zJv ord (Stab Ls) hm hB S.drew.stab (k _ S.drew)
theorem zBd {S : World → Prop} (h : Q .normal a w) : zCm P ops S (zBk Q) .nil a w := h
end
def Ret (P : Program) (f : FuncId) (args : Array Value) (w : World) (R : Value → World → Prop) : Prop := Calls P f args w fun e w' => ∃ v, e = .returned v ∧ R v w'
theorem Ret.mono {P : Program} {f : FuncId} {args : Array Value} {w : World} {R R' : Value → World → Prop} (h : Ret P f args w R) (k : ∀ v w', R v w' → R' v w') : Ret P f args w R' :=
 Calls.mono h fun _ _ ⟨v, he, hr⟩ => ⟨v, he, k v _ hr⟩
section
variable {P : Program} {ops : Array Oper} {Q : Exit → Act → World → Prop} {a : Act} {w w' : World} {rest : List Oper} {o : Oper} {n d i : Nat} {e : List (Nat × Value)} {ds : List Deferred} {Ms : List zAj} {r : Ordr}
 {g : Operand} {xs : List Operand} {ts : Array TypeId} {f : FuncId} {fn : Func} {vs cap : List Value} {R : Value → World → Prop} {K : Act → World → Prop}
theorem zCe (E : Fr a n e ds) (hd : o.dst = some d) (hn : d < n) (ho : o.op = .call { callee := .value (.func f), args := xs.toArray, argTypes := ts })
  (hf : P.funcs[f]? = some fn) (hb : fn.body.isSome = true) (hnm : (fn.name == "runtime.NumGoroutine") = false) (hx : evs e xs = some vs)
  (hc : Ret P f vs.toArray w R) (k : ∀ v w', R v w' → ∀ a', Fr a' n ((d, v) :: e) ds → K a' w') : o.wp P a w K Q := by
 refine wp_call E ho (g := .func f) (cap := #[]) rfl hf hb hnm hx ?_
 rw [Array.append_empty]
 exact Calls.mono hc fun _ _ ⟨v, he, hr⟩ => ⟨v, he, by rw [hd]; exact k v _ hr _ (E.put hn v)⟩
theorem wp_callc' (E : Fr a n e ds) (hd : o.dst = some d) (hn : d < n) (ho : o.op = .call { callee := .value g, args := xs.toArray, argTypes := ts }) (hgv : ev e g = some (.func (.func f) #[] cap.toArray))
  (hf : P.funcs[f]? = some fn) (hb : fn.body.isSome = true) (hnm : (fn.name == "runtime.NumGoroutine") = false) (hx : evs e xs = some vs)
  (hc : Ret P f (vs ++ cap).toArray w R) (k : ∀ v w', R v w' → ∀ a', Fr a' n ((d, v) :: e) ds → K a' w') : o.wp P a w K Q := by
 refine wp_call E ho hgv hf hb hnm hx ?_
 rw [List.append_toArray]
 exact Calls.mono hc fun _ _ ⟨v, he, hr⟩ => ⟨v, he, by rw [hd]; exact k v _ hr _ (E.put hn v)⟩
theorem zAg (E : Fr a n e ds) (hg : o.guard = none) (hd : o.dst = some d) (hn : d < n) (ho : o.op = .call { callee := .value (.func f), args := xs.toArray, argTypes := ts })
  (hf : P.funcs[f]? = some fn) (hb : fn.body.isSome = true) (hnm : (fn.name == "runtime.NumGoroutine") = false) (hx : evs e xs = some vs)
  (hc : Ret P f vs.toArray w R) (k : ∀ v w', R v w' → ∀ a', Fr a' n ((d, v) :: e) ds → wpList P ops Q rest a' w') : wpList P ops Q (o :: rest) a w :=
 zAf hg (zCe E hd hn ho hf hb hnm hx hc k)
theorem zCy (E : Fr a n e ds) (hg : o.guard = none) (hd : o.dst = some d) (hn : d < n) (ho : o.op = .call { callee := .value g, args := xs.toArray, argTypes := ts }) (hgv : ev e g = some (.func (.func f) #[] cap.toArray))
  (hf : P.funcs[f]? = some fn) (hb : fn.body.isSome = true) (hnm : (fn.name == "runtime.NumGoroutine") = false) (hx : evs e xs = some vs)
  (hc : Ret P f (vs ++ cap).toArray w R) (k : ∀ v w', R v w' → ∀ a', Fr a' n ((d, v) :: e) ds → wpList P ops Q rest a' w') : wpList P ops Q (o :: rest) a w :=
 zAf hg (wp_callc' E hd hn ho hgv hf hb hnm hx hc k)
theorem zBo (E : Fr a n e ds) (hi : ops[i]? = some o) (hg : o.guard = none) (hd : o.dst = some d) (hn : d < n) (ho : o.op = .call { callee := .value (.func f), args := xs.toArray, argTypes := ts })
  (hf : P.funcs[f]? = some fn) (hb : fn.body.isSome = true) (hnm : (fn.name == "runtime.NumGoroutine") = false) (hx : evs e xs = some vs)
  (hc : Ret P f vs.toArray w R) (k : ∀ v w', R v w' → ∀ a', Fr a' n ((d, v) :: e) ds → Stab Ms w' ∧ zCm P ops (Stab Ms) (zBk Q) r a' w') : zCm P ops (Stab Ms) (zBk Q) (.cons (i, 1) r) a w :=
 zDb hi hg (zCe E hd hn ho hf hb hnm hx hc k)
theorem zDd (E : Fr a n e ds) (hi : ops[i]? = some o) (hg : o.guard = none) (hd : o.dst = some d) (hn : d < n) (ho : o.op = .call { callee := .value (.func f), args := xs.toArray, argTypes := ts })
  (hf : P.funcs[f]? = some fn) (hb : fn.body.isSome = true) (hnm : (fn.name == "runtime.NumGoroutine") = false) (hx : evs e xs = some vs)
  (hc : Ret P f vs.toArray w R) (k : ∀ v w', R v w' → ∀ a', Fr a' n ((d, v) :: e) ds → zCm P ops (Stab Ms) (zBk Q) r a' w') : zCm P ops (Stab Ms) (zBk Q) (.cons (i, 3) r) a w :=
 zCd hi hg (zCe E hd hn ho hf hb hnm hx hc k)
end
def byt (bs : List UInt8) : List Value := bs.map fun b => .int .u8 b.toNat
theorem zAv (bs : List UInt8) : (byt bs).length = bs.length := by simp [byt]
theorem zCq (bs : List UInt8) : ∀ u ∈ byt bs, u.oneCell' = true := by intro u hu; obtain ⟨b, _, rfl⟩ := List.mem_map.1 hu; rfl
theorem zKc (bs : List UInt8) {i : Nat} (h : i < bs.length) : (byt bs)[i]? = some (.int .u8 (bs[i].toNat)) := by simp [byt, h]
theorem zBw (xs ys : List UInt8) : byt (xs ++ ys) = byt xs ++ byt ys := by simp [byt]
theorem zEl (k : Nat) (xs : List UInt8) : (byt xs).take k = byt (xs.take k) := by simp [byt, List.map_take]
theorem zEx (k : Nat) (xs : List UInt8) : (byt xs).drop k = byt (xs.drop k) := by simp [byt, List.map_drop]
section
variable {P : Program} {a : Act} {w : World} {o : Oper} {n : Nat} {e : List (Nat × Value)} {ds : List Deferred} {x y z : Operand} {v u : Value} {C : zAj}
theorem zEe (E : Fr a n e ds) {t : TypeId} {bs : List UInt8} (ho : o.op = .call { callee := .builtin .len, args := #[x], argTypes := #[t] }) (hx : ev e x = some (str bs))
  (ht : P.underlying t = some .string) : zAu P o a w (.int .i64 bs.length) w := by
 have h := zCs (w := w) E ho hx ht
 simpa [ByteArray.size] using h
theorem zAo (E : Fr a n e ds) {t : TypeId} {b j : Nat} (ho : o.op = .load t x) (hx : ev e x = some (.pointer (some ⟨b, j, none⟩))) (ht : scalar P t = true)
  (hc : w.cell? ⟨b, j, none⟩ = some v) : zAu P o a w v w := by
 simp [zAu, execOp, ho, E.eval hx, Instr.loadAt, Instr.sureAddr, loadVar, zEs ht, hc]
theorem zAp (E : Fr a n e ds) {t el : TypeId} {b off l c i : Nat} {k : IntKind} {q : Int} (ho : o.op = .indexAddr t x y) (hx : ev e x = some (.slice (some ⟨b, off, none⟩) l c)) (hy : ev e y = some (.int k q))
  (ht : P.underlying t = some (.slice el)) (hs : (P.info? el).map (·.size) = some 1) (hq : q = (i : Int)) (hi : i < l) : zAu P o a w (.pointer (some ⟨b, off + i, none⟩)) w := by
 have h := zAz (w := w) E ho hx hy ht hs hq hi
 rwa [Nat.mul_one] at h
theorem zCc (E : Fr a n e ds) {t t' el : TypeId} {bs : List UInt8} (ho : o.op = .convert t t' x) (hx : ev e x = some v) (ht : P.underlying t = some (.slice el)) (hel : P.underlying el = some (.int .u8)) (hd : P.underlying t' = some .string)
  (hR : Rd C 1 v bs.length (byt bs)) (hC : ∀ x ∈ C, w.heap[x.1]? = some x.2) : zAu P o a w (str bs) w := by
 have key : (convert t t' v).run P w = .ok (str bs) w := by
  have hsrc := hR.src (P := P) (w := w) (tx := t) (e' := el) hC ht
  obtain ⟨ad, c, rfl⟩ := hR.slice
  cases ad with
  | none =>
   rcases hR.2.2.2 with ⟨h0, _⟩ | ⟨b, off, c', l, T, fr, h, _⟩
   ·have : bs = [] := List.eq_nil_of_length_eq_zero h0
    subst this
    rw [run_convert_bytes_nil w t el ht hel _ c t' hd]; rfl
   ·cases h
  | some ad =>
   have h1 := hsrc.cells
   simp only [Builtin.firstCells, Nat.mul_one] at h1
   have h2 : (loadCells ad bs.length).run P w = .ok ((bs.map fun b => (b.toNat : Int)).map (Value.int .u8)).toArray w := by
    rw [h1]; simp [byt, Function.comp_def]
   rw [run_convert_bytes_string w t t' el (some ad) bs.length c ht hel hd, run_bytesToString w ad bs.length c _ h2]
   congr 2
   have h3 : ∀ (bs : List UInt8) (s : ByteArray), (bs.map fun b => (b.toNat : Int)).foldl (fun r n => r.push (UInt8.ofNat n.toNat)) s = ⟨s.data ++ bs.toArray⟩ := by
    intro bs
    induction bs with
    | nil => intro s; simp
    | cons b r ih =>
     intro s
     simp only [List.map_cons, List.foldl_cons, ih]
     congr 1
     simp [ByteArray.push]
   rw [h3]
   simp [ByteArray.empty, ByteArray.emptyWithCapacity]; rfl
 simp [zAu, execOp, ho, E.eval hx, key]
theorem Rd.piece {s m : Nat} {xs : List Value} (h : Rd C s v m xs) {ad : Option Addr} {c : Nat} (hv : v = .slice ad m c) {lo hi mx : Nat} (h1 : lo ≤ hi) (h2 : hi ≤ m) (h3 : hi ≤ mx) :
  Rd C s (sliced ad lo hi mx s) (hi - lo) ((xs.drop (lo * s)).take ((hi - lo) * s)) := by
 subst hv
 have hl : ((xs.drop (lo * s)).take ((hi - lo) * s)).length = (hi - lo) * s := by
  rw [List.length_take, List.length_drop, h.1, ← Nat.sub_mul]
  exact Nat.min_eq_left (Nat.mul_le_mul_right _ oZ)
 refine ⟨hl, fun u hu => h.2.1 u (List.mem_of_mem_drop (List.mem_of_mem_take hu)), by have := h.2.2.1; omega, ?_⟩
 by_cases h0 : hi - lo = 0
 ·refine .inl ⟨h0, ?_⟩
  simp only [sliced, h0]
  exact ⟨_, _, rfl⟩
 ·rcases h.2.2.2 with ⟨rfl, _⟩ | ⟨b, off, c', l, T, fr, hv, hm, hc⟩
  ·omega
  ·cases hv
   refine .inr ⟨b, off + lo * s, mx - lo, l, T, fr, by simp [sliced, show ¬ mx = lo by omega, Addr.add_lit], hm, fun i u hu => ?_⟩
   have hi' : i < (hi - lo) * s := by
    have := (List.getElem?_eq_some_iff.1 hu).1
    rw [hl] at this; exact this
   rw [List.getElem?_take_of_lt hi', List.getElem?_drop] at hu
   rw [Nat.add_assoc]
   exact hc _ _ hu
theorem Rd.cut {s m : Nat} {xs : List Value} {ad : Option Addr} {c lo hi : Nat} (h : Rd C s (.slice ad m c) m xs) (h1 : lo ≤ hi) (h2 : hi ≤ m) (h3 : hi ≤ c) :
  ∃ ad2 c2, sliced ad lo hi c s = .slice ad2 (hi - lo) c2 ∧ Rd C s (.slice ad2 (hi - lo) c2) (hi - lo) ((xs.drop (lo * s)).take ((hi - lo) * s)) :=
 ⟨_, _, rfl, h.piece rfl h1 h2 h3⟩
theorem Rd.addr {s m c : Nat} {ad : Option Addr} {xs : List Value} (h : Rd C s (.slice ad m c) m xs) (hm : 0 < m) : ∃ b off, ad = some ⟨b, off, none⟩ := by
 rcases h.2.2.2 with ⟨rfl, _⟩ | ⟨b, off, c', l, T, fr, hv, _⟩
 ·omega
 ·cases hv; exact ⟨b, off, rfl⟩
theorem Rd.byte {m b off c : Nat} {bs : List UInt8} (h : Rd C 1 (.slice (some ⟨b, off, none⟩) m c) m (byt bs)) (hC : ∀ x ∈ C, w.heap[x.1]? = some x.2) {i : Nat} (hi : i < bs.length) :
  w.cell? ⟨b, off + i, none⟩ = some (.int .u8 (bs[i].toNat)) := h.cells hC rfl i _ (zKc bs hi)
theorem Rd.copySrc {P : Program} {tx e' : TypeId} {m : Nat} {xs : List Value} (h : Rd C 1 v m xs) (hC : ∀ x ∈ C, w.heap[x.1]? = some x.2) (hk : P.underlying tx = some (.slice e')) :
  ∀ k, k ≤ m → Src P 1 tx v m xs w ∧ (Builtin.firstCells 1 k v).run P w = .ok (xs.take k).toArray w := by
 intro k hkm
 have hs := h.src (P := P) hC hk
 refine ⟨hs, ?_⟩
 rcases h.2.2.2 with ⟨rfl, ad, c, rfl⟩ | ⟨b, off, c, l, T, fr, rfl, hm, hc⟩
 ·have h0 : xs = [] := List.eq_nil_of_length_eq_zero (by simpa using h.1)
  subst h0
  have hk0 : k = 0 := by omega
  subst hk0
  exact hs.cells
 ·have hl : (xs.take k).length = k * 1 := by rw [List.length_take, h.1]; omega
  exact run_firstCells_some w 1 k ⟨b, off, none⟩ _ c (xs.take k) hl fun j u hu => by
   have hj : j < k := by have := (List.getElem?_eq_some_iff.1 hu).1; rw [hl] at this; omega
   rw [List.getElem?_take_of_lt hj] at hu
   rw [Addr.add_lit]
   exact h.cells hC rfl j u hu
theorem copy_all {k : Nat} {l ys : List Value} {m d : Nat} (h : ys.length = m ∧ l.length = m ∧ d = m ∧ k = 0) : l.take k ++ ys.take (min m d) ++ l.drop (k + min m d) = ys := by
 obtain ⟨rfl, h2, rfl, rfl⟩ := h
 simp [h2]
theorem zGb (E : Fr a n e ds) {t el : TypeId} {s l c lo hi : Nat} {ad : Option Addr} {k1 k2 : IntKind} {q r : Int} (ho : o.op = .slice t x (some y) (some z) none) (hx : ev e x = some (.slice ad l c)) (hy : ev e y = some (.int k1 q)) (hz : ev e z = some (.int k2 r))
  (ht : P.underlying t = some (.slice el)) (hs : (P.info? el).map (·.size) = some s) (hq : q = (lo : Int)) (hr : r = (hi : Int)) (h1 : lo ≤ hi) (h2 : hi ≤ c) : zAu P o a w (sliced ad lo hi c s) w := by
 subst hq hr
 have e1 : P.elem t = el := by simp [Program.elem, ht]
 have := Go.run_slice_lh (P := P) w t ad l c (by rw [e1]; exact ht) k1 k2 (lo : Int) (hi : Int) oZ oZ oZ
 rw [e1, zCr hs] at this
 simp [zAu, execOp, ho, E.eval hx, E.eval hy, E.eval hz, run_sliceAt_slice w t _ _ _ _ (by rw [e1]; exact ht), this]
theorem zIn (E : Fr a n e ds) {t el : TypeId} {s l c hi : Nat} {ad : Option Addr} {k2 : IntKind} {r : Int} (ho : o.op = .slice t x none (some z) none) (hx : ev e x = some (.slice ad l c)) (hz : ev e z = some (.int k2 r))
  (ht : P.underlying t = some (.slice el)) (hs : (P.info? el).map (·.size) = some s) (hr : r = (hi : Int)) (h2 : hi ≤ c) : zAu P o a w (sliced ad 0 hi c s) w := by
 subst hr
 have e1 : P.elem t = el := by simp [Program.elem, ht]
 have := Go.run_slice_h (P := P) w t ad l c (by rw [e1]; exact ht) k2 (hi : Int) oZ oZ
 rw [e1, zCr hs] at this
 simp [zAu, execOp, ho, E.eval hx, E.eval hz, run_sliceAt_slice w t _ _ _ _ (by rw [e1]; exact ht), this]
theorem zGw (E : Fr a n e ds) {t el : TypeId} {s l c lo : Nat} {ad : Option Addr} {k1 : IntKind} {q : Int} (ho : o.op = .slice t x (some y) none none) (hx : ev e x = some (.slice ad l c)) (hy : ev e y = some (.int k1 q))
  (ht : P.underlying t = some (.slice el)) (hs : (P.info? el).map (·.size) = some s) (hq : q = (lo : Int)) (h1 : lo ≤ l) : zAu P o a w (sliced ad lo l c s) w := by
 subst hq
 have e1 : P.elem t = el := by simp [Program.elem, ht]
 have := Go.run_slice_l (P := P) w t ad l c (by rw [e1]; exact ht) k1 (lo : Int) oZ oZ
 rw [e1, zCr hs] at this
 simp [zAu, execOp, ho, E.eval hx, E.eval hy, run_sliceAt_slice w t _ _ _ _ (by rw [e1]; exact ht), this]
def evps (e : List (Nat × Value)) : List (Nat × Operand) → Option (List (Nat × Value))
 | [] => some []
 | (i, x) :: r => match ev e x, evps e r with
  | some v, some vs => some ((i, v) :: vs)
  | _, _ => none
theorem Fr.evps (E : Fr a n e ds) : ∀ {xs : List (Nat × Operand)} {vs : List (Nat × Value)}, Sl.evps e xs = some vs → xs.map (fun p => (p.1, a.eval p.2)) = vs
 | [], vs, h => by simp only [Sl.evps, Option.some.injEq] at h; subst h; rfl
 | (i, x) :: r, vs, h => by
  simp only [Sl.evps] at h
  split at h
  ·rename_i v us h1 h2
   cases h
   rw [List.map_cons, E.eval h1, E.evps h2]
  ·cases h
def zKd (place : Nat → Option (Nat × Nat)) : List Value → List (Nat × Value) → Option (List Value)
 | cs, [] => some cs
 | cs, (i, v) :: r => match place i with
  | none => none
  | some (off, size) => match v with
   | .agg vs => if vs.toList.length = size ∧ off + vs.toList.length ≤ cs.length then zKd place (cs.take off ++ vs.toList ++ cs.drop (off + vs.toList.length)) r else none
   | v => if size = 1 ∧ off + 1 ≤ cs.length then zKd place (cs.set off v) r else none
theorem fold_set (off : Nat) : ∀ (vs : List Value) (j : Nat) (cs : Array Value), off + j + vs.length ≤ cs.size →
  (vs.zipIdx j).foldl (fun cs (c, j) => cs.setIfInBounds (off + j) c) cs = (cs.toList.take (off + j) ++ vs ++ cs.toList.drop (off + j + vs.length)).toArray
 | [], j, cs, _ => by simp
 | v :: r, j, cs, h => by
  simp only [List.length_cons] at h
  rw [List.zipIdx_cons, List.foldl_cons, fold_set off r (j + 1) _ (by simp; omega)]
  apply congrArg List.toArray
  simp only [Array.toList_setIfInBounds, List.length_cons]
  have h1 : off + j < cs.toList.length := by simp; omega
  rw [List.set_eq_take_append_cons_drop, if_pos h1]
  rw [show off + (j + 1) = (cs.toList.take (off + j)).length + 1 by simp; omega, List.take_append]
  simp only [Nat.add_sub_cancel_left, List.take_succ_cons, List.take_zero]
  rw [List.take_of_length_le oZ]
  have h2 : (cs.toList.take (off + j)).length = off + j := by simp; omega
  rw [h2, show off + j + 1 + r.length = (cs.toList.take (off + j)).length + (r.length + 1) by rw [h2]; omega, List.drop_append, List.drop_of_length_le oZ]
  simp only [h2, List.append_assoc, List.cons_append, List.nil_append, List.nil_append]
  rw [show off + j + (r.length + 1) - (off + j) = r.length + 1 by omega, List.drop_succ_cons, List.drop_drop]
  congr 4
  omega
theorem zKe (place : Nat → Option (Nat × Nat)) : ∀ (qs : List (Nat × Value)) (cs out : List Value), zKd place cs qs = some out → Instr.fill place cs.toArray qs = some out.toArray
 | [], cs, out, h => by simp only [zKd, Option.some.injEq] at h; subst h; rfl
 | (i, v) :: r, cs, out, h => by
  unfold zKd at h
  unfold Instr.fill
  cases hp : place i with
  | none => simp [hp] at h
  | some q =>
   obtain ⟨off, size⟩ := q
   simp only [hp] at h ⊢
   by_cases hag : ∃ vs, v = .agg vs
   ·obtain ⟨vs, rfl⟩ := hag
    simp only at h
    split at h
    ·rename_i hc
     obtain ⟨h1, h2⟩ := hc
     simp only [Array.length_toList] at h1 h2
     rw [if_neg (by simp [Value.cells, h1]; omega)]
     have e1 : (Value.agg vs).cells.zipIdx.foldl (fun cs (c, j) => cs.setIfInBounds (off + j) c) cs.toArray = (cs.take off ++ vs.toList ++ cs.drop (off + vs.toList.length)).toArray := by
      have := fold_set off vs.toList 0 cs.toArray (by simpa using h2)
      rw [← Array.foldl_toList]
      simpa [Value.cells] using this
     rw [e1]
     exact zKe place r _ out h
    ·cases h
   ·have hv : v.cells = #[v] := by cases v <;> first | rfl | exact absurd ⟨_, rfl⟩ hag
    have h' : (if size = 1 ∧ off + 1 ≤ cs.length then zKd place (cs.set off v) r else none) = some out := by
     cases v <;> first | exact h | exact absurd ⟨_, rfl⟩ hag
    split at h'
    ·rename_i hc
     obtain ⟨rfl, h2⟩ := hc
     rw [if_neg (by simp [hv]; omega), hv]
     have e1 : (#[v] : Array Value).zipIdx.foldl (fun cs (c, j) => cs.setIfInBounds (off + j) c) cs.toArray = (cs.set off v).toArray := by simp
     rw [e1]
     exact zKe place r _ out h'
    ·cases h'
def builtL (P : Program) (t : TypeId) (qs : List (Nat × Value)) : Option (List Value) :=
 match P.info? t, P.underlying t with
 | some it, some (.array _ el) =>
  match it.zero, P.info? el with
  | some zv, some ie => zKd (fun i => some (i * ie.size, ie.size)) zv.cells.toList qs
  | _, _ => none
 | some it, some (.struct fields) =>
  match it.zero, fields.toList.mapM (fun f => (P.info? f.type).map fun i => (f.offset, i.size)) with
  | some zv, some places => zKd (places[·]?) zv.cells.toList qs
  | _, _ => none
 | _, _ => none
theorem built_eq {t : TypeId} {qs : List (Nat × Value)} {cs : List Value} (h : builtL P t qs = some cs) : P.built t qs = some cs.toArray := by
 unfold builtL at h
 unfold Program.built
 split at h
 ·rename_i it n el h1 h2
  simp only [h1, h2]
  split at h
  ·rename_i zv ie h3 h4
   simp only [h3, h4]
   simpa using zKe _ qs _ _ h
  ·cases h
 ·rename_i it fs h1 h2
  simp only [h1, h2]
  split at h
  ·rename_i zv pl h3 h4
   simp only [h3, h4]
   have := zKe _ qs _ _ h
   simpa using this
  ·cases h
 ·cases h
theorem zBt (E : Fr a n e ds) {t : TypeId} {ps : List (Nat × Operand)} {qs : List (Nat × Value)} {cells : List Value} (ho : o.op = .build t ps.toArray) (hq : evps e ps = some qs)
  (hr : builtL P t qs = some cells) : zAu P o a w (.agg cells.toArray) w := by
 have h := run_build w t qs.toArray cells.toArray (by simpa using built_eq hr)
 have h2 := E.evps hq
 simp only [zAu, execOp, ho, List.map_toArray, Sem.run_bind]
 rw [show (ps.map fun x => match x with | (i, x) => (i, a.eval x)) = qs from h2, h]
 rfl
end
section
variable {P : Program} {ops : Array Oper} {Q : Exit → Act → World → Prop} {a : Act} {w w' : World} {rest : List Oper} {o : Oper} {n d i : Nat} {e : List (Nat × Value)} {v : Value} {Ms : List zAj} {r : Ordr} {ds : List Deferred}
theorem zp (E : Fr a n e ds) (hr : zAu P o a w v w) (k : ∀ a', Fr a' n ((d, v) :: e) ds → wpList P ops Q rest a' w) (hg : o.guard = none := by rfl) (hd : o.dst = some d := by rfl) (hn : d < n := by decide) : wpList P ops Q (o :: rest) a w := zJt E hg hd hn hr k
theorem zy (E : Fr a n e ds) {j t : Nat} {want b : Bool} {oj : Oper} (hbw : b = want) (hr : zAu P o a w v w) (k : ∀ a', Fr a' n ((d, v) :: e) ds → wpList P ops Q rest a' w) (hg : o.guard = some (j, want) := by rfl) (hj : ops[j]? = some oj := by rfl) (ht : oj.dst = some t := by rfl) (hb : lk e t = some (.bool b) := by rfl)
    (hd : o.dst = some d := by rfl) (hn : d < n := by decide) : wpList P ops Q (o :: rest) a w := zHe E hg hj ht hb hbw hd hn hr k
theorem zn (E : Fr a n e ds) {j t : Nat} {want b : Bool} {oj : Oper} (hbw : b = !want) (k : ∀ a', Fr a' n ((d, undef) :: e) ds → wpList P ops Q rest a' w) (hg : o.guard = some (j, want) := by rfl) (hj : ops[j]? = some oj := by rfl) (ht : oj.dst = some t := by rfl) (hb : lk e t = some (.bool b) := by rfl)
    (hd : o.dst = some d := by rfl) (hn : d < n := by decide) : wpList P ops Q (o :: rest) a w := list_guard_no E hg hj ht hb hbw hd hn k
theorem zu (E : Fr a n e ds) {j t : Nat} {want : Bool} {oj : Oper} (k : ∀ a', Fr a' n ((d, undef) :: e) ds → wpList P ops Q rest a' w) (hg : o.guard = some (j, want) := by rfl) (hj : ops[j]? = some oj := by rfl) (ht : oj.dst = some t := by rfl) (hb : lk e t = some undef := by rfl)
    (hd : o.dst = some d := by rfl) (hn : d < n := by decide) : wpList P ops Q (o :: rest) a w := zJg E hg hj ht hb hd hn k
theorem zm (E : Fr a n e ds) (hi : ops[i]? = some o) (hr : ∀ w', Stab Ms w' → zAu P o a w' v w') (k : ∀ a', Fr a' n ((d, v) :: e) ds → zCm P ops (Stab Ms) (zBk Q) r a' w) (hg : o.guard = none := by rfl) (hd : o.dst = some d := by rfl) (hn : d < n := by decide) : zCm P ops (Stab Ms) (zBk Q) (.cons (i, 0) r) a w := mix_pure E hi hg hd hn hr k
theorem zd (E : Fr a n e ds) (k : ∀ a', Fr a' n ((d, v) :: e) ds → wpList P ops Q rest a' w) (hr : zAu P o a w v w := by first | exact zCp E rfl rfl | exact zCi E rfl rfl | exact zCl E rfl rfl rfl (S.get (by repeat (first | exact pk1 | apply zFq))) rfl | exact zAo E rfl rfl rfl (by assumption) | exact zCu E rfl rfl | exact zDw E rfl rfl rfl | exact zJw E rfl rfl rfl | exact zEe E rfl rfl rfl | exact zCs E rfl rfl rfl | exact rn_eql E rfl rfl rfl | exact zEj E rfl rfl rfl rfl | exact zFx E rfl rfl rfl rfl | exact zEv E rfl rfl rfl | exact rn_neq E rfl rfl rfl | exact zEk E rfl rfl rfl rfl | exact zFy E rfl rfl rfl rfl | exact zEw E rfl rfl rfl | exact zJx E rfl rfl rfl | exact zLl E rfl rfl rfl | exact rn_gtr E rfl rfl rfl | exact zJy E rfl rfl rfl | exact rn_not E rfl rfl) (hg : o.guard = none := by rfl) (hd : o.dst = some d := by rfl) (hn : d < n := by decide) : wpList P ops Q (o :: rest) a w := zJt E hg hd hn hr k
theorem zyd (E : Fr a n e ds) {j t : Nat} {want b : Bool} {oj : Oper} (hbw : b = want) (k : ∀ a', Fr a' n ((d, v) :: e) ds → wpList P ops Q rest a' w) (hr : zAu P o a w v w := by first | exact zCp E rfl rfl | exact zCi E rfl rfl | exact zCl E rfl rfl rfl (S.get (by repeat (first | exact pk1 | apply zFq))) rfl | exact zAo E rfl rfl rfl (by assumption) | exact zCu E rfl rfl | exact zDw E rfl rfl rfl | exact zJw E rfl rfl rfl | exact zEe E rfl rfl rfl | exact zCs E rfl rfl rfl | exact rn_eql E rfl rfl rfl | exact zEj E rfl rfl rfl rfl | exact zFx E rfl rfl rfl rfl | exact zEv E rfl rfl rfl | exact rn_neq E rfl rfl rfl | exact zEk E rfl rfl rfl rfl | exact zFy E rfl rfl rfl rfl | exact zEw E rfl rfl rfl | exact zJx E rfl rfl rfl | exact zLl E rfl rfl rfl | exact rn_gtr E rfl rfl rfl | exact zJy E rfl rfl rfl | exact rn_not E rfl rfl) (hg : o.guard = some (j, want) := by rfl) (hj : ops[j]? = some oj := by rfl) (ht : oj.dst = some t := by rfl) (hb : lk e t = some (.bool b) := by rfl)
    (hd : o.dst = some d := by rfl) (hn : d < n := by decide) : wpList P ops Q (o :: rest) a w := zHe E hg hj ht hb hbw hd hn hr k
theorem zmd (E : Fr a n e ds) (k : ∀ a', Fr a' n ((d, v) :: e) ds → zCm P ops (Stab Ms) (zBk Q) r a' w) (hi : ops[i]? = some o := by rfl) (hr : ∀ w', Stab Ms w' → zAu P o a w' v w' := by intro w h; first | exact zCp E rfl rfl | exact zCi E rfl rfl | exact zCl E rfl rfl rfl (h.one (by repeat (first | exact mm1 | assumption | apply List.Mem.tail))) rfl | exact zAo E rfl rfl rfl (by assumption) | exact zCu E rfl rfl | exact zDw E rfl rfl rfl | exact zJw E rfl rfl rfl | exact zEe E rfl rfl rfl | exact zCs E rfl rfl rfl | exact rn_eql E rfl rfl rfl | exact zEj E rfl rfl rfl rfl | exact zFx E rfl rfl rfl rfl | exact zEv E rfl rfl rfl | exact rn_neq E rfl rfl rfl | exact zEk E rfl rfl rfl rfl | exact zFy E rfl rfl rfl rfl | exact zEw E rfl rfl rfl | exact zJx E rfl rfl rfl | exact zLl E rfl rfl rfl | exact rn_gtr E rfl rfl rfl | exact zJy E rfl rfl rfl | exact rn_not E rfl rfl) (hg : o.guard = none := by rfl) (hd : o.dst = some d := by rfl) (hn : d < n := by decide) : zCm P ops (Stab Ms) (zBk Q) (.cons (i, 0) r) a w := mix_pure E hi hg hd hn hr k
theorem zfd (q : Nat) {b : Nat} {f : Nat} {s : TypeId} {x : Operand} (E : Fr a n e ds) (k : ∀ a', Fr a' n ((d, .pointer (some ⟨b, q, none⟩)) :: e) ds → wpList P ops Q rest a' w) (ho : o.op = .fieldAddr s x f := by rfl) (hx : ev e x = some (.pointer (some ⟨b, 0, none⟩)) := by rfl) (hf : zHx P s f = some q := by rfl) (hg : o.guard = none := by rfl) (hd : o.dst = some d := by rfl) (hn : d < n := by decide) : wpList P ops Q (o :: rest) a w := zJt E hg hd hn (zAc E ho hx hf) k
theorem zfm (q : Nat) {b : Nat} {f : Nat} {s : TypeId} {x : Operand} (E : Fr a n e ds) (k : ∀ a', Fr a' n ((d, .pointer (some ⟨b, q, none⟩)) :: e) ds → zCm P ops (Stab Ms) (zBk Q) r a' w) (hi : ops[i]? = some o := by rfl) (ho : o.op = .fieldAddr s x f := by rfl) (hx : ev e x = some (.pointer (some ⟨b, 0, none⟩)) := by rfl) (hf : zHx P s f = some q := by rfl) (hg : o.guard = none := by rfl) (hd : o.dst = some d := by rfl) (hn : d < n := by decide) : zCm P ops (Stab Ms) (zBk Q) (.cons (i, 0) r) a w := mix_pure E hi hg hd hn (fun _ _ => zAc E ho hx hf) k
end
end Go.Sl
namespace Go.Sl
section
variable {P : Program} {Q : Exit → Act → World → Prop} {a : Act} {w0 w : World} {o : Oper} {n : Nat} {e : List (Nat × Value)} {ds : List Deferred} {x y : Operand} {v u : Value} {C : zAj} {As Ls Rs : List zAj} {K : Act → World → Prop}
def Joined (J : Act → World → Prop) (Q : Exit → Act → World → Prop) : Exit → Act → World → Prop
 | .normal, a, w => J a w
 | e, a, w => Q e a w
theorem zDl (J : Act → World → Prop) {c : Code} (h : c.wp P (Joined J Q) a w) (k : ∀ a' w', J a' w' → Q .normal a' w') : c.wp P Q a w :=
 wp_mono h fun e a' w' h => by cases e <;> first | exact k _ _ h | exact h
theorem zAx {J : Act → World → Prop} (h : J a w) : Joined J Q .normal a w := h
theorem flat_rep (L : List Value) : ∀ (k i : Nat), i < k * L.length → (List.replicate k L).flatten[i]? = L[i % L.length]?
 | 0, i, h => by simp at h
 | k + 1, i, h => by
  rw [List.replicate_succ, List.flatten_cons]
  by_cases hi : i < L.length
  ·rw [List.getElem?_append_left hi, Nat.mod_eq_of_lt hi]
  ·rw [List.getElem?_append_right oZ, flat_rep L k (i - L.length) (by rw [Nat.add_mul, Nat.one_mul] at h; omega), Nat.mod_eq_sub_mod (by omega : i ≥ L.length)]
theorem made_flat (z : Value) (k : Nat) : ((Array.range (k * z.cells.size)).map (z.cells[· % z.cells.size]!)) = ((List.replicate k z.cells.toList).flatten).toArray := by
 have hl : ((List.replicate k z.cells.toList).flatten).length = k * z.cells.size := by simp [List.length_flatten]
 apply Array.ext
 ·simp [List.length_flatten]
 ·intro i h1 h2
  have h3 : i < k * z.cells.size := by simpa using h1
  have h4 := flat_rep z.cells.toList k i (by simpa using h3)
  have h5 : i < ((List.replicate k z.cells.toList).flatten).length := by rw [hl]; exact h3
  rw [List.getElem?_eq_getElem h5] at h4
  have hpos : 0 < z.cells.size := by
   rcases Nat.eq_zero_or_pos z.cells.size with h | h
   ·rw [h] at h3; omega
   ·exact h
  have hm : i % z.cells.size < z.cells.size := Nat.mod_lt _ hpos
  have h6 : i % z.cells.toList.length < z.cells.toList.length := by simpa using hm
  rw [List.getElem?_eq_getElem h6] at h4
  have h7 := Option.some.inj h4
  simp only [Array.getElem_map, Array.getElem_range, List.getElem_toArray, h7]
  simp [hm]
theorem wp_take (E : Fr a n e ds) {d : Nat} (hr : zAu P o a w v w) (hd : o.dst = some d) (hn : d < n) (k : ∀ a', Fr a' n ((d, v) :: e) ds → K a' w) : o.wp P a w K Q :=
 hr.wp (by rw [hd]; exact k _ (E.put hn v))
theorem zBm (E : Fr a n e ds) (S : St w0 As w Ls) {t el : TypeId} {d len : Nat} {i : TypeInfo} {zv : Value} {ps : List (Nat × Operand)} {qs : List (Nat × Value)} {cells : List Value} (ho : o.op = .buildSlice t len ps.toArray) (hd : o.dst = some d) (hn : d < n)
  (hq : evps e ps = some qs) (ht : P.underlying t = some (.slice el)) (hi : P.info? el = some i) (hz : i.zero = some zv) (hs : zv.cells.size = i.size) (hsm : (len * i.size ≤ 2 ^ 24 ∧ 0 < len * i.size))
  (hf : zKd (fun j => some (j * i.size, i.size)) (List.replicate len zv.cells.toList).flatten qs = some cells)
  (k : ∀ a' w' b, Fr a' n ((d, .slice (some ⟨b, 0, none⟩) len len) :: e) ds → St w0 As w' ([(b, cel cells el)] :: Ls) → K a' w') : o.wp P a w K Q := by
 refine Go.wp_buildSlice t el len ps.toArray ho cells.toArray i zv ht hi hz oZ oZ ?_ ?_
 ·rw [← hs, made_flat]
  have h2 := E.evps hq
  have h3 : (ps.toArray.map fun x => match x with | (i, x) => (i, a.eval x)).toList = qs := by rw [List.map_toArray]; exact h2
  rw [h3, hs]
  exact zKe _ _ _ _ hf
 ·rw [hd]; exact k _ _ w.heap.size (E.put hn _) (S.alloc _)
theorem zDx (E : Fr a n e ds) {t : TypeId} {b j q : Nat} {vs : List Value} (ho : o.op = .load t x) (hx : ev e x = some (.pointer (some ⟨b, j, none⟩))) (ht : zFa P t = some q) (hl : vs.length = q)
  (hv : ∀ i u, vs[i]? = some u → w.cell? ⟨b, j + i, none⟩ = some u) : zAu P o a w (.agg vs.toArray) w := by
 subst hl
 have h1 : (loadCells ⟨b, j, none⟩ vs.length).run P w = .ok vs.toArray w :=
  run_loadCells_list w ⟨b, j, none⟩ vs fun i u hu => by rw [Addr.add_lit]; exact hv i u hu
 simp [zAu, execOp, ho, E.eval hx, Instr.loadAt, Instr.sureAddr, loadVar, zFz ht, zCr (info_agg ht), h1]
theorem zBf (E : Fr a n e ds) {t T : TypeId} {b j q : Nat} {l vs : List Value} {fr : Nat × Nat} (ho : o.op = .load t x) (hx : ev e x = some (.pointer (some ⟨b, j, none⟩))) (ht : zFa P t = some q)
  (hb : w.heap[b]? = some (.cells l.toArray T fr)) (hl : vs.length = q) (hv : (l.drop j).take vs.length = vs) : zAu P o a w (.agg vs.toArray) w :=
 rn_load_agg E ho hx ht hb hl fun i u hu => by
  have h1 := (List.getElem?_eq_some_iff.1 hu).1
  rw [← hv, List.getElem?_take_of_lt h1, List.getElem?_drop] at hu
  simpa using hu
theorem flat_len {α : Type} {lay : α → List Value} {s : Nat} {asx : List α} (hl : ∀ a, (lay a).length = s) : (asx.flatMap lay).length = asx.length * s := by
 induction asx with
 | nil => simp
 | cons a r ih => rw [List.flatMap_cons, List.length_append, ih, hl, List.length_cons, Nat.succ_mul, Nat.add_comm]
theorem flat_at {α : Type} {lay : α → List Value} {s : Nat} (hl : ∀ a, (lay a).length = s) : ∀ (asx : List α) (i : Nat) (hi : i < asx.length) (j : Nat) (u : Value), (lay asx[i])[j]? = some u → (asx.flatMap lay)[i * s + j]? = some u
 | a :: r, 0, _, j, u, h => by
  have : j < (lay a).length := (List.getElem?_eq_some_iff.1 h).1
  rw [List.flatMap_cons, Nat.zero_mul, Nat.zero_add, List.getElem?_append_left this]
  exact h
 | a :: r, i + 1, hi, j, u, h => by
  rw [List.flatMap_cons, List.getElem?_append_right (by rw [hl, Nat.succ_mul]; omega), hl, Nat.succ_mul, show i * s + s + j - s = i * s + j by omega]
  exact flat_at hl r i (by simpa using hi) j u h
theorem Rd.elem {α : Type} {lay : α → List Value} {s : Nat} (hl : ∀ a, (lay a).length = s) {asx : List α} {m b off c : Nat} (h : Rd C s (.slice (some ⟨b, off, none⟩) m c) m (asx.flatMap lay)) (hC : ∀ x ∈ C, w.heap[x.1]? = some x.2)
  {i : Nat} (hi : i < asx.length) : ∀ j u, (lay asx[i])[j]? = some u → w.cell? ⟨b, off + i * s + j, none⟩ = some u := fun j u hu => by
 rw [Nat.add_assoc]
 exact h.cells hC rfl _ _ (flat_at hl asx i hi j u hu)
theorem Buf.opened {T : TypeId} {s m : Nat} {xs : List Value} (h : Buf C T s v m xs) (hm : 0 < m) : ∃ g c r, v = .slice (some ⟨g, 0, none⟩) m c ∧ C = [(g, cel (xs ++ r) T)] ∧ m ≤ c ∧ c ≤ maxLen ∧ xs.length + r.length = c * s := by
 rcases h.2.2 with ⟨_, h0, _⟩ | ⟨g, c, r, hv, hC, hn, hc, hl⟩
 ·omega
 ·exact ⟨g, c, r, hv, hC, hn, hc, hl⟩
theorem Buf.cap_le {T : TypeId} {s m c l : Nat} {ad : Option Addr} {xs : List Value} (h : Buf C T s (.slice ad l c) m xs) : m ≤ c := by
 rcases h.2.2 with ⟨hv, h0, _⟩ | ⟨g, c', r, hv, _, hn, _⟩
 ·omega
 ·cases hv; exact hn
theorem zHf {T : TypeId} {g c s m : Nat} {xs r : List Value} (hx : xs.length = m * s) (h1 : ∀ u ∈ xs, u.oneCell' = true) (hn : m ≤ c) (hc : c ≤ maxLen) (hl : xs.length + r.length = c * s) :
  Buf [(g, cel (xs ++ r) T)] T s (.slice (some ⟨g, 0, none⟩) m c) m xs := ⟨hx, h1, .inr ⟨g, c, r, rfl, rfl, hn, hc, hl⟩⟩
theorem zBn {g s m : Nat} {xs : List Value} {T : TypeId} (hx : xs.length = m * s) (h1 : ∀ u ∈ xs, u.oneCell' = true) (hm : m ≤ 4611686018427387904) (c : Nat) : Rd [(g, cel xs T)] s (.slice (some ⟨g, 0, none⟩) m c) m xs :=
 ⟨hx, h1, by simp only [maxLen]; omega, .inr ⟨g, 0, c, _, T, (0, 0), rfl, List.mem_singleton.2 rfl, fun i u hu => by simpa using hu⟩⟩
end
end Go.Sl
namespace Go.Sl
section
variable {P : Program} {Q : Exit → Act → World → Prop} {a : Act} {w0 w : World} {o : Oper} {n : Nat} {e : List (Nat × Value)} {ds : List Deferred} {x y z u : Operand} {v : Value} {C : zAj} {As Ls Rs : List zAj} {K : Act → World → Prop}
theorem zKf (E : Fr a n e ds) {t el : TypeId} {s l c hi mx : Nat} {ad : Option Addr} {k2 k3 : IntKind} {r q : Int} (ho : o.op = .slice t x none (some z) (some u)) (hx : ev e x = some (.slice ad l c)) (hz : ev e z = some (.int k2 r)) (hu : ev e u = some (.int k3 q))
  (ht : P.underlying t = some (.slice el)) (hs : (P.info? el).map (·.size) = some s) (hr : r = (hi : Int)) (hq : q = (mx : Int)) (h1 : hi ≤ mx) (h2 : mx ≤ c) : zAu P o a w (sliced ad 0 hi mx s) w := by
 subst hr hq
 have e1 : P.elem t = el := by simp [Program.elem, ht]
 have := Go.run_slice_hm (P := P) w t ad l c (by rw [e1]; exact ht) k2 k3 (hi : Int) (mx : Int) oZ oZ oZ
 rw [e1, zCr hs] at this
 simp [zAu, execOp, ho, E.eval hx, E.eval hz, E.eval hu, run_sliceAt_slice w t _ _ _ _ (by rw [e1]; exact ht), this]
theorem zIo {t el : TypeId} (d : Nat) (ad : Option Addr) (l c : Nat) (ht : P.underlying t = some (.slice el)) : (Op.equalIn (d + 1) t (.slice ad l c) (.slice none 0 0)).run P w = .ok ad.isNone w := by
 cases ad <;> simp [Op.equalIn, run_underlying ht]
theorem zKg {t el : TypeId} (ad : Option Addr) (l c : Nat) (ht : P.underlying t = some (.slice el)) : (Op.equal t (.slice ad l c) (.slice none 0 0)).run P w = .ok ad.isNone w := zIo 9999 ad l c ht
theorem zJh (E : Fr a n e ds) {t t' el : TypeId} {ad : Option Addr} {l c : Nat} (ho : o.op = .binOp .eql t x y t') (hx : ev e x = some (.slice ad l c)) (hy : ev e y = some (.slice none 0 0)) (ht : P.underlying t = some (.slice el)) : zAu P o a w (.bool ad.isNone) w :=
 zDc E ho hx hy (by simp [go_sem]) (by show ((do pure (.bool (← Op.equal t (.slice ad l c) (.slice none 0 0))) : Sem Value)).run P w = _; rw [Sem.run_bind, zKg ad l c ht]; rfl)
theorem equal_pair {t t0 t1 : TypeId} {k0 k1 : IntKind} {fs : Array Field} (ht : P.underlying t = some (.struct fs)) (hp : P.stoodInHeld t = false)
  (hf : fs.toList.map (fun f => (f.name == "_", f.type, f.offset)) = [(false, t0, 0), (false, t1, 1)]) (u0 : P.underlying t0 = some (.int k0)) (u1 : P.underlying t1 = some (.int k1)) (p q r s : Int) :
  (Op.equalIn 10000 t (.agg #[.int k0 p, .int k1 q]) (.agg #[.int k0 r, .int k1 s])).run P w = .ok (p == r && q == s) w := by
 have hS : P.underlying t = some (.struct (P.fieldsOf t)) := by simp [Program.fieldsOf, ht]
 have hfs : P.fieldsOf t = fs := by simp [Program.fieldsOf, ht]
 rw [show (10000 : Nat) = 9999 + 1 from rfl, run_equalIn_agg w 9999 t _ _ hS hp, hfs]
 generalize fs.toList = l at hf
 have hl : l.length = 2 := by simpa using congrArg List.length hf
 match l, hl, hf with
 | [f0, f1], _, hf =>
  simp only [List.map_cons, List.map_nil, List.cons.injEq, Prod.mk.injEq, beq_eq_false_iff_ne, ne_eq, and_true] at hf
  obtain ⟨⟨n0, rfl, o0⟩, n1, rfl, o1⟩ := hf
  have a0 : (isAgg f0.type).run P w = .ok false w := by simp [isAgg, run_underlying u0]
  have a1 : (isAgg f1.type).run P w = .ok false w := by simp [isAgg, run_underlying u1]
  simp [Op.eqFields, n0, n1, o0, o1, part, a0, a1, run_equalIn_int, u0, u1]
  by_cases h1 : p = r <;> by_cases h2 : q = s <;> simp [h1, h2]
theorem zKh (E : Fr a n e ds) {t t' t0 t1 : TypeId} {k0 k1 : IntKind} {fs : Array Field} {p q r s : Int} (ho : o.op = .binOp .eql t x y t') (hx : ev e x = some (.agg #[.int k0 p, .int k1 q])) (hy : ev e y = some (.agg #[.int k0 r, .int k1 s]))
  (ht : P.underlying t = some (.struct fs)) (hp : P.stoodInHeld t = false) (hm : P.eqGuardType P.depth t = false)
  (hf : fs.toList.map (fun f => (f.name == "_", f.type, f.offset)) = [(false, t0, 0), (false, t1, 1)]) (u0 : P.underlying t0 = some (.int k0)) (u1 : P.underlying t1 = some (.int k1)) : zAu P o a w (.bool (p == r && q == s)) w := by
 have h1 := run_eqGuard_agg (P := P) w .eql t x y #[.int k0 p, .int k1 q] #[.int k0 r, .int k1 s] hm
 have h2 : (binOp .eql t (.agg #[.int k0 p, .int k1 q]) (.agg #[.int k0 r, .int k1 s])).run P w = .ok (.bool (p == r && q == s)) w := by
  rw [run_eql_struct, equal_pair ht hp hf u0 u1]; rfl
 simp [zAu, execOp, ho, E.eval hx, E.eval hy, h1, h2]
theorem wp_bslice0 (E : Fr a n e ds) (S : St w0 As w Ls) {t el : TypeId} {d : Nat} {i : TypeInfo} (ho : o.op = .buildSlice t 0 #[]) (hd : o.dst = some d) (hn : d < n)
  (ht : P.underlying t = some (.slice el)) (hi : P.info? el = some i)
  (k : ∀ a' w' b, Fr a' n ((d, .slice (some ⟨b, 0, none⟩) 0 0) :: e) ds → St w0 As w' ([(b, cel [] el)] :: Ls) → K a' w') : o.wp P a w K Q := by
 have h : (Instr.buildSlice t 0 #[]).run P w = .ok (.slice (some ⟨w.heap.size, 0, none⟩) 0 0) (w.alloc (.cells #[] el)) := by
  simp [Instr.buildSlice, run_underlying ht, sizeOf, typeInfo, hi, Instr.fill, newRow]
  congr 2
  exact Array.eq_empty_of_size_eq_zero (by simp)
 have hr : zAu P o a w (.slice (some ⟨w.heap.size, 0, none⟩) 0 0) (w.alloc (.cells #[] el)) := by simp [zAu, execOp, ho, h]
 exact hr.wp (by rw [hd]; exact k _ _ w.heap.size (E.put hn _) (S.alloc _))
theorem buf_room {T : TypeId} {g c s : Nat} {l : List Value} (hc : c ≤ maxLen) (hl : l.length = c * s) : Buf [(g, cel l T)] T s (.slice (some ⟨g, 0, none⟩) 0 c) 0 [] :=
 ⟨by simp, by simp, .inr ⟨g, c, l, rfl, rfl, Nat.zero_le _, hc, by simpa using hl⟩⟩
end
end Go.Sl
namespace Go.Sl
section
variable {w0 w w' : World} {As Ls Rs Bs : List zAj} {A B C D : zAj}
theorem St.perm2 (S : St w0 As w (A :: B :: Ls)) : St w0 As w (B :: A :: Ls) := S.perm (List.Perm.swap _ _ _)
theorem St.front1 {L1 : List zAj} (S : St w0 As w Ls) (p : Ls.Perm (A :: L1)) : St w0 As w (A :: L1) := S.perm p
theorem St.front2 {L1 L2 : List zAj} (S : St w0 As w Ls) (p : Ls.Perm (A :: L1)) (q : L1.Perm (B :: L2)) : St w0 As w (A :: B :: L2) := S.perm (p.trans (q.cons _))
theorem St.front3 {L1 L2 L3 : List zAj} (S : St w0 As w Ls) (p : Ls.Perm (A :: L1)) (q : L1.Perm (B :: L2)) (r : L2.Perm (C :: L3)) : St w0 As w (A :: B :: C :: L3) := S.front2 p (q.trans (r.cons _))
theorem St.front4 {L1 L2 L3 L4 : List zAj} (S : St w0 As w Ls) (p : Ls.Perm (A :: L1)) (q : L1.Perm (B :: L2)) (r : L2.Perm (C :: L3)) (t : L3.Perm (D :: L4)) : St w0 As w (A :: B :: C :: D :: L4) := S.front3 p q (r.trans (t.cons _))
section
variable {P : Program} {ops : Array Oper} {a : Act} {rest : List Oper} {o : Oper} {n d : Nat} {e : List (Nat × Value)} {ds : List Deferred} {x g : Operand} {v : Value} {K : Act → World → Prop} {Q : Exit → Act → World → Prop}
theorem rn_bound (E : Fr a n e ds) {fn : Fn} {cs : List Operand} {vs : List Value} (ho : o.op = .makeFunc fn cs.toArray #[]) (hc : evs e cs = some vs) (hf : ∃ k, fn = .func k) : zAu P o a w (.func fn vs.toArray #[]) w := by
 obtain ⟨k, rfl⟩ := hf
 simp [zAu, execOp, ho, Instr.makeFunc, E.evals hc]
theorem wp_callb (E : Fr a n e ds) {xs : List Operand} {ts : Array TypeId} {f : FuncId} {fn : Func} {vs fs : List Value} {R : Value → World → Prop} (hd : o.dst = some d) (hn : d < n)
  (ho : o.op = .call { callee := .value g, args := xs.toArray, argTypes := ts }) (hgv : ev e g = some (.func (.func f) fs.toArray #[]))
  (hf : P.funcs[f]? = some fn) (hb : fn.body.isSome = true) (hnm : (fn.name == "runtime.NumGoroutine") = false)
  (hx : evs e xs = some vs) (hc : Ret P f (fs ++ vs).toArray w R) (k : ∀ v w', R v w' → ∀ a', Fr a' n ((d, v) :: e) ds → K a' w') : o.wp P a w K Q := by
 unfold Oper.wp
 have hr : (execOp a.eval o).run P w = .ok (.enter f (fs ++ vs).toArray) w := by
  unfold execOp
  simp [ho, resolve, E.eval hgv, Deferred.ofValue, invoke, E.evals hx, zIx hf hb hnm]
 rw [hr]
 refine Calls.mono hc ?_
 rintro en w' ⟨v, rfl, h⟩
 rw [hd]
 exact k v _ h _ (E.put hn v)
theorem list_callb (E : Fr a n e ds) (hg : o.guard = none) (hd : o.dst = some d) (hn : d < n) {xs : List Operand} {ts : Array TypeId} {f : FuncId} {fn : Func} {vs fs : List Value} {R : Value → World → Prop}
  (ho : o.op = .call { callee := .value g, args := xs.toArray, argTypes := ts }) (hgv : ev e g = some (.func (.func f) fs.toArray #[]))
  (hf : P.funcs[f]? = some fn) (hb : fn.body.isSome = true) (hnm : (fn.name == "runtime.NumGoroutine") = false) (hx : evs e xs = some vs)
  (hc : Ret P f (fs ++ vs).toArray w R) (k : ∀ v w', R v w' → ∀ a', Fr a' n ((d, v) :: e) ds → wpList P ops Q rest a' w') : wpList P ops Q (o :: rest) a w :=
 zAf hg (wp_callb E hd hn ho hgv hf hb hnm hx hc k)
end
end
end Go.Sl
namespace Go.Sl
def zEp (P : Program) (t : TypeId) : Bool :=
 match P.underlying t with
 | some (.struct _) | some (.array _ _) => true
 | _ => false
def zHc (P : Program) (t : TypeId) (us : List Value) : Option Value :=
 bif zEp P t then some (.agg us.toArray) else match us with
  | [u] => some u
  | _ => none
def eqFs (P : Program) (F : TypeId → List Value → List Value → Option Bool) : List Field → List Value → List Value → Option Bool
 | [], _, _ => some true
 | f :: r, us, vs => bif f.name == "_" then none else match P.info? f.type with
  | none => none
  | some i => bif Nat.blt us.length (f.offset + i.size) || Nat.blt vs.length (f.offset + i.size) then none else
   match F f.type ((us.drop f.offset).take i.size) ((vs.drop f.offset).take i.size) with
   | none => none
   | some p => match r with
    | [] => some p
    | r => match eqFs P F r us vs with
     | none => none
     | some q => some (p && q)
def zFc (P : Program) : Nat → TypeId → List Value → List Value → Option Bool
 | 0, _, _, _ => none
 | d + 1, t, us, vs => match P.underlying t with
  | some (.int _) => match us, vs with
   | [.int k a], [.int k' b] => if k = k' then some (a == b) else none
   | _, _ => none
  | some .bool => match us, vs with
   | [.bool a], [.bool b] => some (a == b)
   | _, _ => none
  | some (.struct fs) => eqFs P (zFc P d) fs.toList us vs
  | _ => none
def noHeld (P : Program) : Nat → TypeId → Bool
 | 0, _ => false
 | d + 1, t => match P.underlying t with
  | some (.struct fs) => !P.stoodInHeld t && fs.toList.all fun f => noHeld P d f.type
  | _ => true
section
variable {P : Program}
theorem isAgg_of {t : TypeId} (w : World) (h : P.underlying t ≠ none) : (isAgg t).run P w = .ok (zEp P t) w := by
 unfold zEp
 cases hd : P.underlying t with
 | none => exact absurd hd h
 | some d => cases d <;> simp [isAgg, run_underlying hd]
theorem run_part {t : TypeId} {i : TypeInfo} (w : World) (hi : P.info? t = some i) (hu : P.underlying t ≠ none) {us : List Value} {off : Nat} {v : Value} (hl : off + i.size ≤ us.length)
  (hv : zHc P t ((us.drop off).take i.size) = some v) : (part t us.toArray off).run P w = .ok v w := by
 unfold part
 rw [Sem.run_bind, isAgg_of w hu, Result.andThen_ok]
 unfold zHc at hv
 cases hb : zEp P t with
 | true =>
  simp only [hb, cond_true, Option.some.injEq] at hv
  subst hv
  simp only [if_true, Sem.run_bind, zCr (P := P) (w := w) (t := t) (q := i.size) (by rw [hi]; rfl), Result.andThen_ok, Sem.run_pure]
  congr 2
  apply Array.ext'
  simp [List.extract_toArray, List.extract_eq_take_drop]
 | false =>
  simp only [hb, cond_false] at hv
  split at hv
  ·rename_i u hu2
   cases hv
   have h0 : us[off]? = some v := by
    have h1 : ((us.drop off).take i.size)[0]? = some v := by rw [hu2]; rfl
    rw [List.getElem?_take] at h1
    split at h1
    ·rw [List.getElem?_drop] at h1; exact h1
    ·cases h1
   simp [h0]
  ·cases hv
theorem eqCells_shape {d : Nat} {t : TypeId} {us vs : List Value} {r : Bool} (h : zFc P d t us vs = some r) : P.underlying t ≠ none ∧ (∃ u, zHc P t us = some u) ∧ ∃ v, zHc P t vs = some v := by
 cases d with
 | zero => cases h
 | succ d =>
  unfold zFc at h
  split at h
  ·rename_i hu
   refine ⟨by rw [hu]; simp, ?_⟩
   have hb : zEp P t = false := by simp [zEp, hu]
   split at h
   ·simp [zHc, hb]
   ·cases h
  ·rename_i hu
   refine ⟨by rw [hu]; simp, ?_⟩
   have hb : zEp P t = false := by simp [zEp, hu]
   split at h
   ·simp [zHc, hb]
   ·cases h
  ·rename_i fs hu
   have hb : zEp P t = true := by simp [zEp, hu]
   exact ⟨by rw [hu]; simp, by simp [zHc, hb]⟩
  ·cases h
theorem run_eqFs {D d : Nat} {F : TypeId → List Value → List Value → Option Bool} (hF : F = zFc P d) (w : World)
  (ih : ∀ t us vs r u v, zFc P d t us vs = some r → noHeld P d t = true → zHc P t us = some u → zHc P t vs = some v → (Op.equalIn D t u v).run P w = .ok r w) :
  ∀ (fs : List Field) (us vs : List Value) (r : Bool), eqFs P F fs us vs = some r → (∀ f ∈ fs, noHeld P d f.type = true) → (Op.eqFields D us.toArray vs.toArray fs).run P w = .ok r w
 | [], us, vs, r, h, _ => by
  simp only [eqFs, Option.some.injEq] at h
  subst h
  simp [Op.eqFields]
 | f :: fs, us, vs, r, h, hh => by
  subst hF
  unfold eqFs at h
  cases hn : (f.name == "_") with
  | true => simp [hn] at h
  | false =>
   simp only [hn, cond_false] at h
   have hne : f.name ≠ "_" := by simpa using hn
   cases hi : P.info? f.type with
   | none => simp [hi] at h
   | some i =>
    simp only [hi] at h
    cases hl : (Nat.blt us.length (f.offset + i.size) || Nat.blt vs.length (f.offset + i.size)) with
    | true => simp [hl] at h
    | false =>
     simp only [hl, cond_false] at h
     have hl1 : f.offset + i.size ≤ us.length ∧ f.offset + i.size ≤ vs.length := by
      simp only [Bool.or_eq_false_iff] at hl
      have h1 := hl.1
      have h2 := hl.2
      rw [← Bool.not_eq_true, Nat.blt_eq] at h1 h2
      omega
     cases hp : zFc P d f.type ((us.drop f.offset).take i.size) ((vs.drop f.offset).take i.size) with
     | none => simp [hp] at h
     | some p =>
      simp only [hp] at h
      obtain ⟨hu, ⟨u, hu1⟩, v, hv1⟩ := eqCells_shape hp
      have e1 := run_part w hi hu hl1.1 hu1
      have e2 := run_part w hi hu hl1.2 hv1
      have e3 := ih _ _ _ _ _ _ hp (hh f (List.mem_cons_self ..)) hu1 hv1
      have hrun : (Op.eqFields D us.toArray vs.toArray (f :: fs)).run P w = (if (!p) = true then (pure false : Sem Bool) else Op.eqFields D us.toArray vs.toArray fs).run P w := by
       simp only [Op.eqFields, if_pos hne, Sem.run_bind, e1, Result.andThen_ok, e2, e3]
      rw [hrun]
      have hrest : ∀ q, eqFs P (zFc P d) fs us vs = some q → (Op.eqFields D us.toArray vs.toArray fs).run P w = .ok q w := fun q hq =>
       run_eqFs rfl w ih fs us vs q hq fun g hg => hh g (List.mem_cons_of_mem _ hg)
      cases fs with
      | nil =>
       simp only [Option.some.injEq] at h
       subst h
       cases p
       ·simp
       ·simp only [Bool.not_true, Bool.false_eq_true, if_false]; exact hrest true rfl
      | cons g gs =>
       simp only at h
       cases hq : eqFs P (zFc P d) (g :: gs) us vs with
       | none => simp [hq] at h
       | some q =>
        simp only [hq, Option.some.injEq] at h
        subst h
        cases p
        ·simp
        ·simp only [Bool.not_true, Bool.false_eq_true, if_false, Bool.true_and]; exact hrest q hq
theorem zKi (w : World) : ∀ (d j : Nat) (t : TypeId) (us vs : List Value) (r : Bool) (u v : Value), zFc P d t us vs = some r → noHeld P d t = true → zHc P t us = some u → zHc P t vs = some v →
  (Op.equalIn (d + j) t u v).run P w = .ok r w
 | 0, _, _, _, _, _, _, _, h, _, _, _ => by cases h
 | d + 1, j, t, us, vs, r, u, v, h, hh, hu, hv => by
  unfold zFc at h
  rw [show d + 1 + j = (d + j) + 1 by omega]
  split at h
  ·rename_i k0 hk
   have hb : zEp P t = false := by simp [zEp, hk]
   split at h
   ·rename_i k a k' b
    simp only [zHc, hb, cond_false, Option.some.injEq] at hu hv
    subst hu hv
    split at h
    ·rename_i hkk
     subst hkk
     cases h
     exact run_equalIn_int w (d + j) t _ _ _ _ hk
    ·cases h
   ·cases h
  ·rename_i hk
   have hb : zEp P t = false := by simp [zEp, hk]
   split at h
   ·rename_i a b
    simp only [zHc, hb, cond_false, Option.some.injEq] at hu hv
    subst hu hv
    cases h
    exact run_equalIn_bool' w (d + j) t _ _ hk
   ·cases h
  ·rename_i fs hk
   have hb : zEp P t = true := by simp [zEp, hk]
   simp only [zHc, hb, cond_true, Option.some.injEq] at hu hv
   subst hu hv
   unfold noHeld at hh
   rw [hk] at hh
   simp only [Bool.and_eq_true, Bool.not_eq_true', List.all_eq_true] at hh
   have hS : P.underlying t = some (.struct (P.fieldsOf t)) := by simp [Program.fieldsOf, hk]
   have hfs : P.fieldsOf t = fs := by simp [Program.fieldsOf, hk]
   rw [run_equalIn_agg w (d + j) t _ _ hS hh.1, hfs]
   exact run_eqFs rfl w (fun t us vs r u v h1 h2 h3 h4 => zKi w d j t us vs r u v h1 h2 h3 h4) fs.toList us vs r h hh.2
  ·cases h
end
section
variable {P : Program} {a : Act} {w : World} {o : Oper} {n : Nat} {e : List (Nat × Value)} {ds : List Deferred} {x y : Operand}
theorem zIz (E : Fr a n e ds) {t t' : TypeId} {us vs : List Value} {r : Bool} (ho : o.op = .binOp .eql t x y t') (hx : ev e x = some (.agg us.toArray)) (hy : ev e y = some (.agg vs.toArray))
  (hr : zFc P 8 t us vs = some r) (hh : noHeld P 8 t = true) (hm : P.eqGuardType P.depth t = false) (ha : zEp P t = true) : zAu P o a w (.bool r) w := by
 have h1 := run_eqGuard_agg (P := P) w .eql t x y us.toArray vs.toArray hm
 have h3 := zKi w 8 9992 t us vs r _ _ hr hh (by simp only [zHc, ha, cond_true]; rfl) (by simp only [zHc, ha, cond_true]; rfl)
 have h2 : (binOp .eql t (.agg us.toArray) (.agg vs.toArray)).run P w = .ok (.bool r) w := by
  rw [run_eql_struct, h3]; rfl
 simp [zAu, execOp, ho, E.eval hx, E.eval hy, h1, h2]
end
section
variable {P : Program} {fn : Func} {a : Act} {w : World} {n : Nat} {e : List (Nat × Value)} {ds : List Deferred} {R : Ending → World → Prop} {t s b : Nat} {ty T : TypeId} {fr : Nat × Nat} {vs : List Value} {x : Value}
theorem zHy (hb : w.heap[b]? = some (.cells vs.toArray T fr)) (hs : zFa P ty = some vs.length) : (loadVar ty ⟨b, 0, none⟩).run P w = .ok (.agg vs.toArray) w := by
 have h2 : (loadCells ⟨b, 0, none⟩ vs.length).run P w = .ok vs.toArray w :=
  run_loadCells_list w ⟨b, 0, none⟩ vs fun i u hu => by rw [Addr.add_lit, zGl hb]; simpa using hu
 simp [loadVar, zFz hs, zCr (info_agg hs), h2]
theorem zKj (E : Fr a n e) (hr : fn.results = #[.cell t ty]) (hp : lk e t = some (.pointer (some ⟨b, 0, none⟩))) (hb : w.heap[b]? = some (.cells vs.toArray T fr)) (hs : zFa P ty = some vs.length)
  (h : R (.returned (.agg vs.toArray)) w) : bodyPost P fn R .ret a w :=
 ⟨E.nod, .agg vs.toArray, by
  have h1 := zHy (P := P) hb hs
  have h2 := E.get t _ hp
  simp [results, hr, h2, asAddr, h1], h⟩
theorem ret_ct (E : Fr a n e) (hr : fn.results = #[.cell t ty, .tmp s]) (hp : lk e t = some (.pointer (some ⟨b, 0, none⟩))) (hx : lk e s = some x) (hb : w.heap[b]? = some (.cells vs.toArray T fr)) (hs : zFa P ty = some vs.length)
  (h : R (.returned (.tuple #[.agg vs.toArray, x])) w) : bodyPost P fn R .ret a w :=
 ⟨E.nod, .tuple #[.agg vs.toArray, x], by
  have h1 := zHy (P := P) hb hs
  have h2 := E.get t _ hp
  have h3 := E.get s _ hx
  simp [results, hr, h2, h3, asAddr, h1], h⟩
end
theorem zFi {P : Program} {a : Act} {w : World} {o : Oper} {n : Nat} {e : List (Nat × Value)} {ds : List Deferred} {x y : Operand} (E : Fr a n e ds) {t el : TypeId} {l i : Nat} {k : IntKind} {q : Int} {cs : Array Value} {v : Value}
  (ho : o.op = .index t x y) (hx : ev e x = some (.agg cs)) (hy : ev e y = some (.int k q)) (ht : P.underlying t = some (.array l el)) (h1 : scalar P el = true) (hs : (P.info? el).map (·.size) = some 1)
  (hq : q = (i : Int)) (hi : i < l) (hv : cs[i]? = some v) : zAu P o a w v w := by
 subst hq
 simp [zAu, execOp, ho, E.eval hx, E.eval hy, Instr.index, asIntOf, run_underlying ht, hi, zCr hs, part, zEs h1, hv]
theorem Buf.addr {C : zAj} {T : TypeId} {s m c : Nat} {ad : Option Addr} {xs : List Value} (h : Buf C T s (.slice ad m c) m xs) (hm : 0 < m) : ∃ g, ad = some ⟨g, 0, none⟩ := by
 rcases h.2.2 with ⟨h, h0, _⟩ | ⟨g, c', r, h, _⟩
 ·omega
 ·cases h; exact ⟨g, rfl⟩
theorem zJl {P : Program} {a : Act} {o : Oper} {n : Nat} {e : List (Nat × Value)} {ds : List Deferred} {x z : Operand} {v : Value} {K : Act → World → Prop} {Q : Exit → Act → World → Prop} {w0 w : World} {As Ls Rs : List zAj} {C : zAj}
  (E : Fr a n e ds) (S : St w0 As w Ls) {xs : List Value} {t T : TypeId} {b j i m c s : Nat} (ho : o.op = .store t x z) (hd : o.dst = none) (hx : ev e x = some (.pointer (some ⟨b, j, none⟩))) (hy : ev e z = some v)
  (h1 : v.oneCell' = true) (hs : (P.info? t).map (·.size) = some 1)
  (hB : Buf C T s (.slice (some ⟨b, 0, none⟩) m c) m xs) (hp : Ls.Perm (C :: Rs)) (hi : i < xs.length) (hj : j = i)
  (k : ∀ a' w' C', Fr a' n e ds → Buf C' T s (.slice (some ⟨b, 0, none⟩) m c) m (xs.set i v) → St w0 As w' (C' :: Rs) → K a' w') : o.wp P a w K Q := by
 subst hj
 rcases hB.2.2 with ⟨h, _⟩ | ⟨g, c', r, h, rfl, hn, hc, hcs⟩
 ·cases h
 ·cases h
  refine zBa E S ho hd hx hy h1 hs hp (by rw [List.length_append]; omega) ?_
  intro a' w' E' S'
  rw [List.set_append, if_pos hi] at S'
  refine k a' w' _ E' ⟨by rw [List.length_set]; exact hB.1, fun u hu => ?_, .inr ⟨b, _, r, rfl, rfl, hn, hc, by rw [List.length_set]; exact hcs⟩⟩ S'
  rcases List.mem_or_eq_of_mem_set hu with hu | hu
  ·exact hB.2.1 u hu
  ·rw [hu]; exact h1
end Go.Sl
namespace Go.Sl
abbrev mcel (l : List Value) (T : TypeId) : Obj := .cells l.toArray T (l.length, l.length + 1)
section
variable {P : Program} {a : Act} {o : Oper} {n : Nat} {e : List (Nat × Value)} {ds : List Deferred} {x y : Operand} {v u : Value} {K : Act → World → Prop} {Q : Exit → Act → World → Prop} {w0 w : World} {As Ls Rs : List zAj}
theorem wp_mark (E : Fr a n e ds) (S : St w0 As w Ls) {t t' el T : TypeId} {d g m c : Nat} {l : List Value} (ho : o.op = .convert t t' x) (htt : t = t') (hd : o.dst = some d) (hn : d < n)
  (hx : ev e x = some (.slice (some ⟨g, 0, none⟩) m c)) (ht : P.underlying t = some (.slice el)) (hel : P.underlying el = some (.int .u8)) (hp : Ls.Perm ([(g, cel l T)] :: Rs))
  (k : ∀ a' w', Fr a' n ((d, .slice (some ⟨g, 0, none⟩) m c) :: e) ds → St w0 As w' ([(g, mcel l T)] :: Rs) → K a' w') : o.wp P a w K Q := by
 subst htt
 have hg : w.heap[g]? = some (cel l T) := S.get hp
 have hsh : w.shape? g = some (T, l.length) := by unfold World.shape?; rw [hg]; simp
 have hrun : zAu P o a w (.slice (some ⟨g, 0, none⟩) m c) (w.freeze ⟨g, l.length, none⟩ 1) := by
  simp [zAu, execOp, ho, E.eval hx, convert, run_underlying ht, run_underlying hel, markStringish, hsh]
 refine hrun.wp ?_
 rw [hd]
 have hh : (w.freeze ⟨g, l.length, none⟩ 1).heap = w.heap.modify g (fun
   | .cells c elem (lo, hi) => .cells c elem (if lo == hi then (l.length, l.length + 1) else (min lo l.length, max hi (l.length + 1)))
   | o => o) := by
  unfold World.freeze; rw [if_neg dZ]; rfl
 refine k _ _ (E.put hn _) (S.block hp ?_ ?_ ?_ ?_ ?_ ?_)
 ·unfold World.freeze; rw [if_neg dZ]
 ·unfold World.freeze; rw [if_neg dZ]
 ·unfold World.freeze; rw [if_neg dZ]
 ·rw [hh]; simp
 ·intro h
  rw [hh, Array.getElem?_modify, if_pos rfl, h]
  rfl
 ·intro k hk
  rw [hh, Array.getElem?_modify, if_neg (fun q => hk q.symm)]
theorem wp_appendf (E : Fr a n e ds) (S : St w0 As w Ls) {C : zAj} {t tx T : TypeId} {d m q s by' b off : Nat} {i : TypeInfo} {zv : Value} {xs ys : List Value} (ho : o.op = .call { callee := .builtin .append, args := #[x, y], argTypes := #[t, tx] }) (hd : o.dst = some d) (hn : d < n)
  (hx : ev e x = some (.slice (some ⟨b, off, none⟩) q q)) (hy : ev e y = some u) (hB : Rd C s (.slice (some ⟨b, off, none⟩) q q) q xs) (hC : C ∈ Ls) (hs : Src P s tx u m ys w)
  (ht : P.underlying t = some (.slice T)) (hi : P.info? T = some i) (hz : i.zero = some zv) (hsz : i.size = s) (hzs : zv.cells.size = s) (hbz : i.bytes = by')
  (h63 : q + m ≤ maxLen) (hby : (q + m) * by' ≤ 140737488355328) (hm : 0 < m)
  (k : ∀ a' w' v' C', Fr a' n ((d, v') :: e) ds → St w0 As w' (C' :: Ls) → Buf C' T s v' (q + m) (xs ++ ys) → K a' w') : o.wp P a w K Q := by
 subst hsz hbz
 have hCC := S.stab.at hC
 have hcells := hB.cells hCC (b := b) (off := off) (c := q) rfl
 have h63' : ((q + m : Nat) : Int) ≤ 9223372036854775807 := by simp only [maxLen] at h63; omega
 have hold : (Builtin.firstCells i.size q (.slice (some ⟨b, off, none⟩) q q)).run P w.drew = .ok xs.toArray w.drew :=
  run_firstCells_some w.drew i.size q ⟨b, off, none⟩ q q xs hB.1 fun j z hz => by
   rw [Addr.add_lit, World.cell?_drew]; exact hcells j z hz
 have hr := run_append_grow_src (P := P) w t tx o.type T i zv ht hi hz (some ⟨b, off, none⟩) q q xs hold u m ys hs oZ h63' (growslice_fits oZ hby)
 have hlen : (xs ++ ys).length = (q + m) * i.size := by rw [List.length_append, hB.1, hs.newsLen, Nat.add_mul]
 have hone : ∀ z ∈ xs ++ ys, z.oneCell' = true := fun z hz => by
  rcases List.mem_append.1 hz with h | h
  ·exact hB.2.1 z h
  ·exact hs.one z h
 have hge := grownCap_ge w (q + m) q T
 have hcm : grownCap w (q + m) q T ≤ maxLen := grownCap_le_maxLen w (q + m) q T h63
 have hrun : zAu P o a w (.slice (some ⟨w.heap.size, 0, none⟩) (q + m) (grownCap w (q + m) q T)) (w.drew.alloc (.cells ((xs ++ ys).toArray ++ Builtin.zeroCells zv.cells (grownCap w (q + m) q T - (q + m))) T)) := by
  simp [zAu, execOp, ho, resolve, invoke, builtin, E.eval hx, E.eval hy, hr]
 refine hrun.wp ?_
 rw [hd]
 refine k _ _ _ _ (E.put hn _) (S.drew.alloc _) ⟨hlen, hone, .inr ⟨w.heap.size, _, (Builtin.zeroCells zv.cells (grownCap w (q + m) q T - (q + m))).toList, rfl, ?_, hge, hcm, ?_⟩⟩
 ·simp [cel]
 ·rw [hlen]
  simp only [Array.length_toList, size_zeroCells, hzs, ← Nat.add_mul]
  congr 1
  omega
end
theorem rd_mark {g : Nat} {T : TypeId} (b : List UInt8) (hb : b.length ≤ 4611686018427387904) : Rd [(g, mcel (byt b) T)] 1 (.slice (some ⟨g, 0, none⟩) b.length b.length) b.length (byt b) :=
 ⟨by simp [zAv], zCq b, by simp only [maxLen]; omega, .inr ⟨g, 0, b.length, _, T, _, rfl, List.mem_singleton.2 rfl, fun i u hu => by simpa using hu⟩⟩
end Go.Sl
namespace Go.Sl
section
variable {P : Program} {a : Act} {o : Oper} {n : Nat} {e : List (Nat × Value)} {ds : List Deferred} {x y : Operand} {v u : Value} {K : Act → World → Prop} {Q : Exit → Act → World → Prop} {w0 w : World} {As Ls Rs : List zAj} {A : zAj}
theorem St.tail (S : St w0 As w (A :: Ls)) : St w0 As w Ls := S.only (Bs := Ls) (Rs := [A]) (by
 unfold Sel
 exact (List.perm_append_comm (l₁ := [A]) (l₂ := Ls)))
theorem St.tail2 {B : zAj} (S : St w0 As w (A :: B :: Ls)) : St w0 As w Ls := S.tail.tail
theorem St.tail3 {B C : zAj} (S : St w0 As w (A :: B :: C :: Ls)) : St w0 As w Ls := S.tail.tail.tail
theorem St.del (S : St w0 As w Ls) (p : Ls.Perm (A :: Rs)) : St w0 As w Rs := (S.perm p).tail
theorem St.under (pre : List zAj) {w' : World} {Ls' : List zAj} (S : St w0 As w (pre ++ Ls)) (t : Trs w w' Ls Ls') : St w0 As w' (pre ++ Ls') :=
 (S.call (Bs := Ls) (Rs := pre) (by unfold Sel; exact List.perm_append_comm) t).perm List.perm_append_comm
theorem rn_com (E : Fr a n e ds) {t : TypeId} {p r : Int} (ho : o.op = .unOp .xor t x) (hx : ev e x = some (.int .u32 p)) (hr : bits .xor .u32 4294967295 p = r) : zAu P o a w (.int .u32 r) w := by
 subst hr
 have h : (Op.unary .xor (.int .u32 p)).run P w = .ok (.int .u32 (bits .xor .u32 4294967295 p)) w := by rfl
 simp [zAu, execOp, ho, E.eval hx, h]
theorem rn_s2a (E : Fr a n e ds) {t el : TypeId} {l c m : Nat} {ad : Option Addr} (ho : o.op = .sliceToArrayPointer t x) (hx : ev e x = some (.slice ad l c)) (ht : P.underlying t = some (.array m el)) (hm : m ≤ l) : zAu P o a w (.pointer ad) w := by
 simp [zAu, execOp, ho, E.eval hx, Instr.arrayAt, run_underlying ht, Nat.not_lt.2 hm]
theorem zCa (E : Fr a n e ds) {t el : TypeId} {b l i : Nat} {k : IntKind} {q : Int} (ho : o.op = .indexAddr t x y) (hx : ev e x = some (.pointer (some ⟨b, 0, none⟩))) (hy : ev e y = some (.int k q))
  (ht : P.underlying t = some (.array l el)) (hs : (P.info? el).map (·.size) = some 1) (hq : q = (i : Int)) (hi : i < l) : zAu P o a w (.pointer (some ⟨b, i, none⟩)) w := by
 have h := zAm (P := P) (w := w) E ho hx hy ht hs hq hi
 rwa [Nat.zero_add, Nat.mul_one] at h
theorem zBv {b j : Nat} {l : List Value} {T : TypeId} {fr : Nat × Nat} (hb : w.heap[b]? = some (.cells l.toArray T fr)) (hj : l[j]? = some v) : w.cell? ⟨b, j, none⟩ = some v := by
 rw [zGl hb]; simpa using hj
theorem zDu (E : Fr a n e ds) {t T : TypeId} {b q : Nat} {l : List Value} {fr : Nat × Nat} (ho : o.op = .load t x) (hx : ev e x = some (.pointer (some ⟨b, 0, none⟩))) (ht : zFa P t = some q)
  (hb : w.heap[b]? = some (.cells l.toArray T fr)) (hl : l.length = q) : zAu P o a w (.agg l.toArray) w :=
 zBf E ho hx ht hb hl (by rw [List.drop_zero, List.take_length])
theorem zEq (E : Fr a n e ds) (S : St w0 As w Ls) {t T : TypeId} {b : Nat} {l vs : List Value} (ho : o.op = .store t x y) (hd : o.dst = none) (hx : ev e x = some (.pointer (some ⟨b, 0, none⟩))) (hy : ev e y = some (.agg vs.toArray))
  (h1 : ∀ u ∈ vs, u.oneCell' = true) {q : Nat} (hs : (P.info? t).map (·.size) = some q) (hq : vs.length = q) (hp : Ls.Perm ([(b, cel l T)] :: Rs)) (hj : vs.length = l.length)
  (k : ∀ a' w', Fr a' n e ds → St w0 As w' ([(b, cel vs T)] :: Rs) → K a' w') : o.wp P a w K Q := by
 subst hq
 refine zBr E S ho hd hx hy h1 hs hp oZ fun a' w' E' S' => k a' w' E' ?_
 rw [List.take_zero, List.nil_append, Nat.zero_add, hj, List.drop_length, List.append_nil] at S'
 exact S'
end
theorem zHz (l : List Int) : ∀ u ∈ l.map (Value.int .u32), u.oneCell' = true := fun u hu => by
 obtain ⟨z, -, rfl⟩ := List.mem_map.1 hu; rfl
end Go.Sl
namespace Go.Sl
section
variable {P : Program} {a : Act} {o : Oper} {n : Nat} {e : List (Nat × Value)} {ds : List Deferred} {x y z : Operand} {w w0 : World} {u v : Value} {As Ls Rs : List zAj} {K : Act → World → Prop} {Q : Exit → Act → World → Prop}
theorem zGo (E : Fr a n e ds) {t el : TypeId} {b j m : Nat} (ho : o.op = .slice t x none none none) (hx : ev e x = some (.pointer (some ⟨b, j, none⟩))) (ht : P.underlying t = some (.array m el)) (hs : (P.info? el).map (·.size) = some 1) (hm : 0 < m) :
  zAu P o a w (.slice (some ⟨b, j, none⟩) m m) w := by
 have h0 : ¬ m = 0 := by omega
 simp [zAu, execOp, ho, E.eval hx, Instr.sliceAt, Instr.sureAddr, run_underlying ht, Instr.sliceBounds, zCr hs, h0, Addr.add_lit]
theorem rd_part {g m : Nat} {T : TypeId} (pre xs post : List Value) (hx : xs.length = m) (h1 : ∀ u ∈ xs, u.oneCell' = true) (hm : m ≤ 4611686018427387904) (c : Nat) : Rd [(g, cel (pre ++ xs ++ post) T)] 1 (.slice (some ⟨g, pre.length, none⟩) m c) m xs :=
 ⟨by omega, h1, by simp only [maxLen]; omega, .inr ⟨g, pre.length, c, (pre ++ xs ++ post).toArray, T, _, rfl, List.Mem.head _, fun i u hu => by
  have hi := (List.getElem?_eq_some_iff.1 hu).1
  simp only [List.getElem?_toArray]
  rw [List.append_assoc, List.getElem?_append_right oZ, Nat.add_sub_cancel_left, List.getElem?_append_left hi]; exact hu⟩⟩
theorem wp_append_in (E : Fr a n e ds) (S : St w0 As w Ls) {t tx T : TypeId} {d m q c g s : Nat} {i : TypeInfo} {l ys : List Value} (ho : o.op = .call { callee := .builtin .append, args := #[x, y], argTypes := #[t, tx] }) (hd : o.dst = some d) (hn : d < n)
  (hx : ev e x = some (.slice (some ⟨g, 0, none⟩) q c)) (hy : ev e y = some u) (hp : Ls.Perm ([(g, cel l T)] :: Rs)) (hroom : q + m ≤ c) (hlen : (q + m) * s ≤ l.length) (hs : Src P s tx u m ys w)
  (ht : P.underlying t = some (.slice T)) (hi : P.info? T = some i) (hsz : i.size = s)
  (k : ∀ a' w', Fr a' n ((d, .slice (some ⟨g, 0, none⟩) (q + m) c) :: e) ds → St w0 As w' ([(g, cel (l.take (q * s) ++ ys ++ l.drop ((q + m) * s)) T)] :: Rs) → K a' w') : o.wp P a w K Q := by
 subst hsz
 have hyl : ys.length = m * i.size := hs.newsLen
 have hst := run_storeCells_at P g (q * i.size) T ys 0 l.toArray w (S.get hp) (by rw [hyl, Nat.add_zero, ← Nat.add_mul]; simpa using hlen) hs.one
 simp only [Nat.add_zero, hyl, ← Nat.add_mul] at hst
 have hrun : zAu P o a w (.slice (some ⟨g, 0, none⟩) (q + m) c) (w.setRow g (l.take (q * i.size) ++ ys ++ l.drop ((q + m) * i.size)).toArray) := by
  rcases hs.kind with ⟨e', hk⟩ | hk <;> simp [zAu, execOp, ho, resolve, invoke, builtin, E.eval hx, E.eval hy, Builtin.append_, run_underlying ht, run_underlying hk, sizeOf, typeInfo, hi, hs.len, hroom, hs.cells, Addr.add_lit, hst]
 refine hrun.wp ?_
 rw [hd]
 exact k _ _ (E.put hn _) (S.row hp)
end
section
variable {P : Program} {a : Act} {o : Oper} {n : Nat} {e : List (Nat × Value)} {ds : List Deferred} {x y : Operand} {w : World}
def Bk (w : World) (b : Nat) : Prop := ∃ l T, w.heap[b]? = some (cel l T)
theorem equal_ptrs {t te : TypeId} {i j : Nat} {z : TypeInfo} (hp : P.underlying t = some (.pointer te)) (hte : P.info? te = some z) (hsz : z.size ≠ 0) (h : i = j ∨ (Bk w i ∧ Bk w j)) :
  (Op.equal t (ptr i) (ptr j)).run P w = .ok (decide (i = j)) w := by
 by_cases hij : i = j
 ·subst hij
  simp only [decide_true]
  have key : ∀ d : Nat, (Op.equalIn (d + 1) t (.pointer (some ⟨i, 0, none⟩)) (.pointer (some ⟨i, 0, none⟩))).run P w = .ok true w := fun d => by
   simp [Op.equalIn, run_underlying hp, sizeOf, typeInfo, hte, run_sameAddr_same]
  exact key 9999
 ·obtain ⟨⟨l1, T1, h1⟩, ⟨l2, T2, h2⟩⟩ := h.resolve_left hij
  have hne : (⟨i, 0, none⟩ : Addr) ≠ ⟨j, 0, none⟩ := fun q => hij (by cases q; rfl)
  have key : ∀ d : Nat, (Op.equalIn (d + 1) t (.pointer (some ⟨i, 0, none⟩)) (.pointer (some ⟨j, 0, none⟩))).run P w = .ok false w := fun d => by
   simp [Op.equalIn, run_underlying hp, sizeOf, typeInfo, hte, hsz, run_sameAddr_other w hne (show w.heap[(⟨i, 0, none⟩ : Addr).block]? = some (.cells l1.toArray T1 (0, 0)) from h1) (show w.heap[(⟨j, 0, none⟩ : Addr).block]? = some (.cells l2.toArray T2 (0, 0)) from h2)]
  rw [decide_eq_false hij]
  exact key 9999
theorem rn_eql_ptrs (E : Fr a n e ds) {t t' te : TypeId} {i j : Nat} {z : TypeInfo} (ho : o.op = .binOp .eql t x y t') (hx : ev e x = some (ptr i)) (hy : ev e y = some (ptr j)) (hp : P.underlying t = some (.pointer te)) (hte : P.info? te = some z) (hsz : z.size ≠ 0) (h : i = j ∨ (Bk w i ∧ Bk w j)) :
  zAu P o a w (.bool (decide (i = j))) w :=
 zDc E ho hx hy (by simp [go_sem]) (by show ((do pure (.bool (← Op.equal t (ptr i) (ptr j))) : Sem Value)).run P w = _; rw [Sem.run_bind, equal_ptrs hp hte hsz h]; rfl)
theorem rn_neq_ptrs (E : Fr a n e ds) {t t' te : TypeId} {i j : Nat} {z : TypeInfo} (ho : o.op = .binOp .neq t x y t') (hx : ev e x = some (ptr i)) (hy : ev e y = some (ptr j)) (hp : P.underlying t = some (.pointer te)) (hte : P.info? te = some z) (hsz : z.size ≠ 0) (h : i = j ∨ (Bk w i ∧ Bk w j)) :
  zAu P o a w (.bool !(decide (i = j))) w :=
 zDc E ho hx hy (by simp [go_sem]) (by show ((do pure (.bool !(← Op.equal t (ptr i) (ptr j))) : Sem Value)).run P w = _; rw [Sem.run_bind, equal_ptrs hp hte hsz h]; rfl)
end
theorem sliced_at {g lo hi c : Nat} (h : lo < c) : sliced (some ⟨g, 0, none⟩) lo hi c 1 = .slice (some ⟨g, lo, none⟩) (hi - lo) (c - lo) := by
 unfold sliced
 have : ¬ c = lo := by omega
 simp [this, Addr.add]
 try omega
theorem fill_one {sz : Nat} {z vs : List Value} (hz : z.length = sz) (hv : vs.length = sz) : zKd (fun j => some (j * sz, sz)) (List.replicate 1 z).flatten [(0, .agg vs.toArray)] = some vs := by
 subst hz
 have h1 : (List.replicate 1 z).flatten = z := by simp [List.replicate]
 simp [zKd, h1, hv]
section
variable {w0 w : World} {As Ls L1 L2 L3 L4 L5 L6 : List zAj} {A B C D F G : zAj}
theorem St.front5 (S : St w0 As w Ls) (p : Ls.Perm (A :: L1)) (q : L1.Perm (B :: L2)) (r : L2.Perm (C :: L3)) (t : L3.Perm (D :: L4)) (u : L4.Perm (F :: L5)) : St w0 As w (A :: B :: C :: D :: F :: L5) := S.front4 p q r (t.trans (u.cons _))
theorem St.front6 (S : St w0 As w Ls) (p : Ls.Perm (A :: L1)) (q : L1.Perm (B :: L2)) (r : L2.Perm (C :: L3)) (t : L3.Perm (D :: L4)) (u : L4.Perm (F :: L5)) (v : L5.Perm (G :: L6)) : St w0 As w (A :: B :: C :: D :: F :: G :: L6) := S.front5 p q r t (u.trans (v.cons _))
end
section
variable {P : Program} {a : Act} {o : Oper} {n : Nat} {e : List (Nat × Value)} {ds : List Deferred} {x y : Operand} {w : World}
theorem zHn (E : Fr a n e ds) {t el : TypeId} {b l c i : Nat} {k : IntKind} {q : Int} (ho : o.op = .indexAddr t x y) (hx : ev e x = some (.slice (some ⟨b, 0, none⟩) l c)) (hy : ev e y = some (.int k q))
  (ht : P.underlying t = some (.slice el)) (hs : (P.info? el).map (·.size) = some 1) (hq : q = (i : Int)) (hi : i < l) : zAu P o a w (.pointer (some ⟨b, i, none⟩)) w := by
 have h := zAz (P := P) (w := w) E ho hx hy ht hs hq hi
 rwa [Nat.zero_add, Nat.mul_one] at h
end
end Go.Sl
namespace Go.Sl
open Go.ChangeShapes Go.WideShapes Go.ChangeAt Go.RowKit
section
variable {H : Type} {enc : TypeId × Value → H} {P : Program}
theorem trods_stay (hl : laidOutB P = true) {W W' : World} (hb : Below W.heap.size W W') {sp : Nat → Bool} : ∀ (ts : List TypeId) (vs : List Value) (ds : List (DataW H)) (ps : List MemPlace),
  (∀ t ∈ ts, P.readableRec t = true ∧ t < P.types.size) → DataW.TrodAll enc P W 0 (fun _ => true) true ts vs ds ps → (∀ x ∈ ps, x.block < W.heap.size) → (∀ x ∈ ps, sp x.block = true) → DataW.TrodAll enc P W' 0 sp true ts vs ds ps
 | [], vs, ds, ps, _, h, _, _ => by
  obtain ⟨rfl, rfl, rfl⟩ := trodAll_nil h
  exact trodAll_mk0
 | t :: ts, vs, ds, ps, ht, h, hlt, hsp => by
  obtain ⟨v0, vs0, d0, ds0, p0, q0, rfl, rfl, rfl, h0, r0⟩ := trodAll_cons h
  refine trodAll_cons_mk ?_ (trods_stay hl hb ts vs0 ds0 q0 (fun u hu => ht u (List.mem_cons_of_mem _ hu)) r0 (fun x hx => hlt x (List.mem_append_right _ hx)) (fun x hx => hsp x (List.mem_append_right _ hx)))
  exact WideElems.Trod_stays hl (ht t (List.mem_cons_self ..)).1 (ht t (List.mem_cons_self ..)).2 h0 (fun x hx => hb.same (hlt x (List.mem_append_left _ hx))) (fun x hx => hsp x (List.mem_append_left _ hx))
theorem post_below {f : Func} {s : ChangeSpec} {apart fresh handsOn again : Bool} {W W' : World} {args : Array Value} {ds gs : List (DataW H)} {before : List MemPlace} {tb : TypeId}
  (hl : laidOutB P = true) (hW : DataW.Whole enc P f.params.toList s.vars apart W args.toList ds gs before) (hvars : s.vars = [])
  (hts : ∀ t ∈ f.params.toList, P.readableRec t = true ∧ t < P.types.size) (hrt : f.resultTypes = #[tb]) (htb : P.underlying tb = some .bool)
  (hs : (s.fn H (ds ++ gs)) = { results := [.lit (.bool true)], args := ds }) (hb : Below W.heap.size W W') :
  s.post enc P f apart fresh handsOn again W args (.bool true) W' := by
 have hlt : ∀ p ∈ before, p.block < W.heap.size := fun p hp => hW.lt p hp
 obtain ⟨p, q, hA, hV, rfl, hz, hn⟩ := id hW
 rw [hvars] at hV
 obtain ⟨rfl, rfl⟩ := trodVars_none hV
 simp only [List.append_nil] at *
 have hargs : ∀ sp : Nat → Bool, (∀ x ∈ p, sp x.block = true) → DataW.TrodAll enc P W' 0 sp true f.params.toList args.toList (s.fn H ds).args p := fun sp hsp => by
  rw [hs]; exact trods_stay hl hb _ _ _ _ hts hA hlt hsp
 have hres : ∀ (b : Nat) (sp : Nat → Bool) (hd : Bool), DataW.TrodAll enc P W' b sp hd f.resultTypes.toList ((Value.bool true).resultList f.resultTypes.size) (s.fn H ds).results [] := fun b sp hd => by
  rw [hs, hrt]; exact trodAll_mk1 (shut_bool htb true)
 have hvs : ∀ sp : Nat → Bool, DataW.TrodVars enc P W' sp s.vars (s.fn H ds).vars [] := fun sp => by
  rw [hvars, hs]; exact rfl
 refine ⟨ds, [], p, [], p, [], hW, by simpa using hres _ _ _, by simpa using hargs _ (fun x hx => by simpa using hlt x hx), by simpa using hvs _, World.keptBut_mono (fun x hx => ⟨hx, ?_⟩) (hb.frame (· ∈ p)), fun _ => ?_⟩
 ·exact Or.inr (Or.inl hx)
 ·have hok : ∀ (j : Nat) (t : TypeId) (r : Value), f.resultTypes[j]? = some t → ((Value.bool true).resultList f.resultTypes.size)[j]? = some r → Value.okWide P W' .any 0 t r :=
   ok_one hrt rfl (okWide_bool_mk htb true)
  have h1 := trodAll_append (hargs (fun _ => true) (fun _ _ => rfl)) (hres 0 (fun _ => true) true)
  refine ⟨hok, _, [], [] ++ p, ⟨[] ++ p, [], h1, by have := hvs (fun _ => true); rw [hs] at this; exact this, by simp, ?_, ?_⟩, fun x hx _ => by simpa using hx⟩
  ·intro b off hx
   have hin : MemPlace.cell b off ∈ p := by simpa using hx
   rw [hb.frozen (hlt _ hin)]
   exact hz b off hin
  ·intro ha
   simpa using hn ha
end
end Go.Sl
namespace Go.Sl
structure Wt where
 d : Nat
 at_ : Nat
 b : List UInt8
 hb : b.length = 128
def Wt.lay (x : Wt) : List Value := [ptr x.d, .int .i64 x.at_] ++ byt x.b
theorem Wt.lay_len (x : Wt) : x.lay.length = 130 := by simp [Wt.lay, zAv, x.hb]
theorem Wt.lay_one (x : Wt) : ∀ u ∈ x.lay, u.oneCell' = true := fun u hu => by
 rcases List.mem_append.1 hu with h | h
 ·simp at h; rcases h with rfl | rfl <;> rfl
 ·exact zCq _ u h
def secB (b : List UInt8) (i : Nat) : List UInt8 := (b.drop (128 * i)).take 128
def setS (l : List UInt8) (i : Nat) (b : List UInt8) : List UInt8 := l.take (128 * i) ++ b ++ l.drop (128 * i + 128)
theorem zCf {b : List UInt8} {i : Nat} (h : 128 * i + 128 ≤ b.length) : (secB b i).length = 128 := by rw [secB, List.length_take, List.length_drop]; omega
theorem zEf {l b : List UInt8} {i : Nat} (h : 128 * i + 128 ≤ l.length) (hb : b.length = 128) : (setS l i b).length = l.length := by
 simp only [setS, List.length_append, List.length_take, List.length_drop]; omega
theorem byt_setS (l b : List UInt8) (i : Nat) (hb : b.length = 128) : (byt l).take (128 * i) ++ byt b ++ (byt l).drop (128 * i + 128) = byt (setS l i b) := by
 rw [setS, zBw, zBw, zEl, zEx]
structure Pw where
 left : Int
 off : Bool
 wr : Nat
def pad (b : List UInt8) : List UInt8 := (b ++ List.replicate 128 0).take 128
theorem pad_length (b : List UInt8) : (pad b).length = 128 := by simp [pad]
theorem pad_id {b : List UInt8} (h : b.length = 128) : pad b = b := by rw [pad, List.take_left' h]
def mkW (d at_ : Nat) (b : List UInt8) : Wt := ⟨d, at_, pad b, pad_length b⟩
def wrN (d at_ : Nat) (b : List UInt8) : Nat → Nat → Pw → List UInt8 → List Wt → Pw × List UInt8 × List Wt × Int
 | 0, _, s, nw, ws => (s, nw, ws, 0)
 | k + 1, i, s, nw, ws => if s.left = 0 then ({ s with left := -1, off := true }, nw, ws, 5) else
   wrN d at_ b k (i + 1) { s with left := if 0 < s.left then s.left - 1 else s.left, wr := s.wr + 1 } (setS nw (at_ + i) (secB b i)) (ws ++ [mkW d (at_ + i) (secB b i)])
def zDy (n : Nat) (at_ : Int) (b : List UInt8) : Prop := b.length % 128 = 0 ∧ 0 ≤ at_ ∧ at_ ≤ (n / 128 : Nat) ∧ ((b.length / 128 : Nat) : Int) ≤ (n / 128 : Nat) - at_
instance (n : Nat) (at_ : Int) (b : List UInt8) : Decidable (zDy n at_ b) := by unfold zDy; infer_instance
def wrS (d n : Nat) (at_ : Int) (b : List UInt8) (s : Pw) (f : Bool) (nw : List UInt8) (ws : List Wt) : Pw × List UInt8 × List Wt × Int :=
 if s.off then (s, nw, ws, 5) else if f then (s, nw, ws, 30) else if ¬ zDy n at_ b then (s, nw, ws, 1) else wrN d at_.toNat b (b.length / 128) 0 s nw ws
end Go.Sl
namespace Go.Proofs.YtpjidiaekifmbaaGreatDoor
open Go.Sl
set_option maxRecDepth 10000
abbrev pcl (s : Pw) (vw vd : Value) : Obj := cel [vw, .int .i64 s.left, .bool s.off, .int .i64 s.wr, vd] 127
abbrev dcl (p gp gn n : Nat) (f : Bool) : Obj := cel [ptr p, .slice (some ⟨gp, 0, none⟩) n n, .slice (some ⟨gn, 0, none⟩) n n, .bool f] 121
theorem newpower_ret (w0 : World) : Ret Tryz.prog 24 #[] w0 fun u w' => ∃ p, u = ptr p ∧ Trs w0 w' [] [[(p, pcl ⟨-1, false, 0⟩ (.slice none 0 0) (.slice none 0 0))]] := by
 have S := St.begin (zDz w0)
 refine zLj 3 Tryz.func24 rfl rfl ?_; intro a E
 refine wp_seq_k ?_; intro K hK
 refine zAa ?_
 refine zd E ?_; clear E a; intro a E
 refine wpList_nil ?_
 refine zAb hK ?_; clear hK K
 refine wp_seq_k ?_; intro K hK
 refine zAa ?_
 refine zp E (zBt (cells := [_, _, _, _, _]) E rfl rfl rfl) ?_; clear E a; intro a E
 refine zAf rfl (zBz E S rfl rfl dZ rfl rfl ?_); clear E S a; intro a w b2 E S
 refine zd E ?_; clear E a; intro a E
 refine wpList_nil ?_
 refine zAb hK ?_; clear hK K
 refine wp_ret ?_
 refine ret1 E rfl rfl ?_
 exact ⟨_, rfl, b2, rfl, S.tr⟩
theorem zGc (d p gp gn n : Nat) (f : Bool) (hn : n ≤ 1048576) (w0 : World) (H : Hp w0 [[(d, dcl p gp gn n f)]]) : Ret Tryz.prog 53 #[ptr d] w0 fun u w' => u = .int .i64 (n / 128 : Nat) ∧ Trs w0 w' [[(d, dcl p gp gn n f)]] [[(d, dcl p gp gn n f)]] := by
 have S := St.begin H
 refine zCh 9 Tryz.func53 rfl rfl dZ ?_; intro a E
 refine wp_seq_k ?_; intro K hK
 refine zAa ?_
 refine zd E ?_; clear E a; intro a E
 refine wpList_nil ?_
 refine zAb hK ?_; clear hK K
 refine wp_seq_k ?_; intro K hK
 refine zAa ?_
 iterate 2 (refine zd E ?_; clear E a; intro a E)
 refine zp E (by first | exact zAc (q := 1) E rfl rfl rfl | exact zAd (q := 1) E rfl rfl rfl) ?_; clear E a; intro a E
 iterate 2 (refine zd E ?_; clear E a; intro a E)
 refine zp E (zGg E rfl rfl rfl dZ (by first | exact zKb (y := 128) oZ | exact zHl (y := 128) oZ | exact rfl)) ?_; clear E a; intro a E
 refine zd E ?_; clear E a; intro a E
 refine wpList_nil ?_
 refine zAb hK ?_; clear hK K
 refine wp_ret ?_
 refine ret1 E rfl rfl ?_
 exact ⟨_, rfl, rfl, S.tr⟩
theorem down_ret (d p gp gn n : Nat) (f : Bool) (s : Pw) (vw vd : Value) (w0 : World) (H : Hp w0 [[(p, pcl s vw vd)], [(d, dcl p gp gn n f)]]) :
  Ret Tryz.prog 81 #[ptr d] w0 fun u w' => u = .int .i64 (if s.off then 5 else if f then 30 else 0) ∧ Trs w0 w' [[(p, pcl s vw vd)], [(d, dcl p gp gn n f)]] [[(p, pcl s vw vd)], [(d, dcl p gp gn n f)]] := by
 have S := St.begin H
 refine zCh 16 Tryz.func81 rfl rfl dZ ?_; intro a E
 refine wp_seq_k ?_; intro K hK
 refine zAa ?_
 refine zd E ?_; clear E a; intro a E
 refine wpList_nil ?_
 refine zAb hK ?_; clear hK K
 refine wp_seq_k ?_; intro K hK
 refine wp_block ?_
 refine wp_seq_k ?_; intro K hK
 refine zAa ?_
 iterate 2 (refine zd E ?_; clear E a; intro a E)
 refine zp E (by first | exact zAc (q := 0) E rfl rfl rfl | exact zAd (q := 0) E rfl rfl rfl) ?_; clear E a; intro a E
 iterate 2 (refine zd E ?_; clear E a; intro a E)
 refine zp E (by first | exact zAc (q := 2) E rfl rfl rfl | exact zAd (q := 2) E rfl rfl rfl) ?_; clear E a; intro a E
 iterate 2 (refine zd E ?_; clear E a; intro a E)
 refine wpList_nil ?_
 refine zAb hK ?_; clear hK K
 refine zAs E rfl (fun hb => ?_) (fun hb => ?_)
 ·replace hb := Nrm.nrm hb
  refine wp_seq_k ?_; intro K hK
  refine zAa ?_
  refine zd E ?_; clear E a; intro a E
  refine wpList_nil ?_
  refine zAb hK ?_; clear hK K
  refine wp_ret ?_
  refine zDr ?_
  refine zBc ?_; clear hK K
  refine ret1 E rfl rfl ?_
  exact ⟨_, rfl, by simp [*], S.tr⟩
 ·replace hb := Nrm.nrm hb
  refine wp_seq_k ?_; intro K hK
  refine zAa ?_
  iterate 2 (refine zd E ?_; clear E a; intro a E)
  refine zp E (by first | exact zAc (q := 3) E rfl rfl rfl | exact zAd (q := 3) E rfl rfl rfl) ?_; clear E a; intro a E
  iterate 2 (refine zd E ?_; clear E a; intro a E)
  refine wpList_nil ?_
  refine zAb hK ?_; clear hK K
  refine zAs E rfl (fun hb => ?_) (fun hb => ?_)
  ·replace hb := Nrm.nrm hb
   refine wp_seq_k ?_; intro K hK
   refine zAa ?_
   refine zd E ?_; clear E a; intro a E
   refine wpList_nil ?_
   refine zAb hK ?_; clear hK K
   refine wp_ret ?_
   refine zDr ?_
   refine zBc ?_; clear hK K
   refine ret1 E rfl rfl ?_
   exact ⟨_, rfl, by simp [*], S.tr⟩
  ·replace hb := Nrm.nrm hb
   refine wp_skip ?_
   refine zAq ?_
   refine zAb hK ?_; clear hK K
   refine wp_seq_k ?_; intro K hK
   refine zAa ?_
   refine zd E ?_; clear E a; intro a E
   refine wpList_nil ?_
   refine zAb hK ?_; clear hK K
   refine wp_ret ?_
   refine ret1 E rfl rfl ?_
   exact ⟨_, rfl, by simp [*], S.tr⟩
theorem has_ret (d p gp gn n : Nat) (f : Bool) (at_ many : Int) (hn : n ≤ 1048576) (ha : -9223372036854775808 ≤ at_ ∧ at_ ≤ 9223372036854775807) (w0 : World) (H : Hp w0 [[(d, dcl p gp gn n f)]]) :
  Ret Tryz.prog 82 #[ptr d, .int .i64 at_, .int .i64 many] w0 fun u w' => u = .bool (decide (0 ≤ at_ ∧ 0 ≤ many ∧ at_ ≤ (n / 128 : Nat) ∧ many ≤ (n / 128 : Nat) - at_)) ∧ Trs w0 w' [[(d, dcl p gp gn n f)]] [[(d, dcl p gp gn n f)]] := by
 have S := St.begin H
 refine zDi 27 Tryz.func82 rfl rfl dZ ?_; intro a E
 refine wp_seq_k ?_; intro K hK
 refine zAa ?_
 refine zd E ?_; clear E a; intro a E
 refine wpList_nil ?_
 refine zAb hK ?_; clear hK K
 refine wp_seq_k ?_; intro K hK
 refine zAa ?_
 iterate 3 (refine zd E ?_; clear E a; intro a E)
 refine zAr E (t := 9) rfl (fun hb9 => ?_) (fun hb9 => ?_)
 ·have hb9n := hb9; replace hb9n := Nrm.nrm hb9n
  iterate 2 (refine zyd E hb9 ?_; clear E a; intro a E)
  refine zp E (zAi E rfl rfl hb9 rfl) ?_; clear E a; intro a E
  refine zd E ?_; clear E a; intro a E
  refine zAr E (t := 13) rfl (fun hb13 => ?_) (fun hb13 => ?_)
  ·have hb13n := hb13; replace hb13n := Nrm.nrm hb13n
   iterate 2 (refine zyd E hb13 ?_; clear E a; intro a E)
   refine zBy E rfl rfl rfl rfl hb13 ?_; refine zCe E rfl dZ rfl Tryz.func53 rfl yZ rfl (zGc d p gp gn n f hn _ (S.hp.sel sZ)) ?_
   rintro v16 w ⟨rfl, hT⟩; clear E a; intro a E
   have S := S.call1 sZ hT
   refine zyd E hb13 ?_; clear E a; intro a E
   refine zp E (zAi E rfl rfl hb13 rfl) ?_; clear E a; intro a E
   refine zd E ?_; clear E a; intro a E
   refine zAr E (t := 19) rfl (fun hb19 => ?_) (fun hb19 => ?_)
   ·have hb19n := hb19; replace hb19n := Nrm.nrm hb19n
    iterate 2 (refine zyd E hb19 ?_; clear E a; intro a E)
    refine zBy E rfl rfl rfl rfl hb19 ?_; refine zCe E rfl dZ rfl Tryz.func53 rfl yZ rfl (zGc d p gp gn n f hn _ (S.hp.sel sZ)) ?_
    rintro v22 w ⟨rfl, hT⟩; clear E a; intro a E
    have S := S.call1 sZ hT
    refine zyd E hb19 ?_; clear E a; intro a E
    refine zy E hb19 (zCo E rfl rfl rfl (by first | exact ws1 oZ oZ | exact w_in oZ | exact zBj oZ | exact rfl)) ?_; clear E a; intro a E
    refine zyd E hb19 ?_; clear E a; intro a E
    refine zp E (zAi E rfl rfl hb19 rfl) ?_; clear E a; intro a E
    refine zd E ?_; clear E a; intro a E
    refine wpList_nil ?_
    refine zAb hK ?_; clear hK K
    refine wp_ret ?_
    refine ret1 E rfl rfl ?_
    exact ⟨_, rfl, by congr 1; rw [Bool.eq_iff_iff]; simp <;> omega, S.tr⟩
   ·have hb19n := hb19; replace hb19n := Nrm.nrm hb19n
    iterate 6 (refine zn E hb19 ?_; clear E a; intro a E)
    refine zp E (zAk E rfl rfl hb19 rfl) ?_; clear E a; intro a E
    refine zd E ?_; clear E a; intro a E
    refine wpList_nil ?_
    refine zAb hK ?_; clear hK K
    refine wp_ret ?_
    refine ret1 E rfl rfl ?_
    exact ⟨_, rfl, by congr 1; rw [Bool.eq_iff_iff]; simp <;> omega, S.tr⟩
  ·have hb13n := hb13; replace hb13n := Nrm.nrm hb13n
   iterate 4 (refine zn E hb13 ?_; clear E a; intro a E)
   refine zp E (zAk E rfl rfl hb13 rfl) ?_; clear E a; intro a E
   refine zd E ?_; clear E a; intro a E
   iterate 6 (refine zn E rfl ?_; clear E a; intro a E)
   refine zp E (zAk E rfl rfl rfl rfl) ?_; clear E a; intro a E
   refine zd E ?_; clear E a; intro a E
   refine wpList_nil ?_
   refine zAb hK ?_; clear hK K
   refine wp_ret ?_
   refine ret1 E rfl rfl ?_
   exact ⟨_, rfl, by congr 1; rw [Bool.eq_iff_iff]; simp <;> omega, S.tr⟩
 ·have hb9n := hb9; replace hb9n := Nrm.nrm hb9n
  iterate 2 (refine zn E hb9 ?_; clear E a; intro a E)
  refine zp E (zAk E rfl rfl hb9 rfl) ?_; clear E a; intro a E
  refine zd E ?_; clear E a; intro a E
  iterate 4 (refine zn E rfl ?_; clear E a; intro a E)
  refine zp E (zAk E rfl rfl rfl rfl) ?_; clear E a; intro a E
  refine zd E ?_; clear E a; intro a E
  iterate 6 (refine zn E rfl ?_; clear E a; intro a E)
  refine zp E (zAk E rfl rfl rfl rfl) ?_; clear E a; intro a E
  refine zd E ?_; clear E a; intro a E
  refine wpList_nil ?_
  refine zAb hK ?_; clear hK K
  refine wp_ret ?_
  refine ret1 E rfl rfl ?_
  exact ⟨_, rfl, by congr 1; rw [Bool.eq_iff_iff]; simp <;> omega, S.tr⟩
theorem zHo (x : Value) (g n i : Nat) (hi : 128 * i + 128 ≤ n) (hn : n ≤ 1048576) (w0 : World) : Ret Tryz.prog 55 #[x, .slice (some ⟨g, 0, none⟩) n n, .int .i64 i] w0 fun u w' => u = .slice (some ⟨g, 128 * i, none⟩) 128 (n - 128 * i) ∧ Trs w0 w' [] [] := by
 have S := St.begin (zDz w0)
 refine zDi 14 Tryz.func55 rfl rfl dZ ?_; intro a E
 refine wp_seq_k ?_; intro K hK
 refine zAa ?_
 refine zd E ?_; clear E a; intro a E
 refine wpList_nil ?_
 refine zAb hK ?_; clear hK K
 refine wp_seq_k ?_; intro K hK
 refine zAa ?_
 iterate 2 (refine zd E ?_; clear E a; intro a E)
 refine zp E (zCx E rfl rfl rfl (by first | exact zGa (y := 128) oZ | exact w_in oZ | exact rfl)) ?_; clear E a; intro a E
 refine zd E ?_; clear E a; intro a E
 refine zp E (zAy E rfl rfl rfl (by first | exact zBq (y := 1) oZ | exact w_in oZ | exact zBj oZ | exact rfl)) ?_; clear E a; intro a E
 refine zp E (zCx E rfl rfl rfl (by first | exact zGa (y := 128) oZ | exact w_in oZ | exact rfl)) ?_; clear E a; intro a E
 refine zp E (zGb (s := 1) (lo := 128 * i) (hi := 128 * i + 128) E rfl rfl rfl rfl rfl rfl oZ oZ oZ oZ) ?_; clear E a; intro a E
 rw [sliced_at oZ, Nat.add_sub_cancel_left] at E
 refine zd E ?_; clear E a; intro a E
 refine wpList_nil ?_
 refine zAb hK ?_; clear hK K
 refine wp_ret ?_
 refine ret1 E rfl rfl ?_
 exact ⟨_, rfl, rfl, (S.only (Bs := []) sZ).tr⟩
end Go.Proofs.YtpjidiaekifmbaaGreatDoor
namespace Go.Sl
section
variable {α : Type} {T : TypeId} {s : Nat} {lay : List α → List Value}
def Inn (T : TypeId) (s : Nat) (lay : List α → List Value) : zAj → List Value → List (List α) → Prop
 | D, [], [] => D = []
 | D, v :: vs, x :: xs => ∃ C D', D = C ++ D' ∧ Buf C T s v x.length (lay x) ∧ Inn T s lay D' vs xs
 | _, _, _ => False
theorem Inn.len : ∀ {D : zAj} {vs : List Value} {xs : List (List α)}, Inn T s lay D vs xs → vs.length = xs.length
 | _, [], [], _ => rfl
 | _, _ :: _, _ :: _, ⟨_, _, _, _, h⟩ => by simp [h.len]
 | _, [], _ :: _, h => h.elim
 | _, _ :: _, [], h => h.elim
theorem Inn.nil : Inn T s lay [] [] [] := rfl
theorem Inn.one : ∀ {D : zAj} {vs : List Value} {xs : List (List α)}, Inn T s lay D vs xs → ∀ u ∈ vs, u.oneCell' = true
 | _, [], [], _ => fun u hu => by cases hu
 | _, _ :: _, _ :: _, ⟨_, _, _, hC, h⟩ => fun u hu => by
  rcases List.mem_cons.1 hu with rfl | hu
  ·obtain ⟨ad, c, rfl⟩ := hC.slice; rfl
  ·exact h.one u hu
 | _, [], _ :: _, h => h.elim
 | _, _ :: _, [], h => h.elim
theorem Inn.snoc {C : zAj} {v : Value} {x : List α} (hC : Buf C T s v x.length (lay x)) : ∀ {D : zAj} {vs : List Value} {xs : List (List α)}, Inn T s lay D vs xs → Inn T s lay (D ++ C) (vs ++ [v]) (xs ++ [x])
 | _, [], [], h => by
  cases h
  exact ⟨C, [], by simp, hC, rfl⟩
 | _, _ :: _, _ :: _, ⟨C0, D', e, hC0, h⟩ => ⟨C0, D' ++ C, by rw [e, List.append_assoc], hC0, h.snoc hC⟩
 | _, [], _ :: _, h => h.elim
 | _, _ :: _, [], h => h.elim
theorem Inn.at : ∀ {D : zAj} {vs : List Value} {xs : List (List α)}, Inn T s lay D vs xs → ∀ {i : Nat} (hi : i < xs.length),
  ∃ A C B v, D = A ++ (C ++ B) ∧ vs[i]? = some v ∧ Buf C T s v xs[i].length (lay xs[i]) ∧ ∀ C' v' x', Buf C' T s v' x'.length (lay x') → Inn T s lay (A ++ (C' ++ B)) (vs.set i v') (xs.set i x')
 | _, v :: vs, x :: xs, ⟨C, D', e, hC, h⟩, 0, _ => ⟨[], C, D', v, by simpa using e, rfl, hC, fun C' v' x' hC' => ⟨C', D', by simp, hC', h⟩⟩
 | _, v :: vs, x :: xs, ⟨C, D', e, hC, h⟩, i + 1, hi => by
  obtain ⟨A, C2, B, v2, e2, hv, hB, hk⟩ := h.at (i := i) (by simpa using hi)
  refine ⟨C ++ A, C2, B, v2, by rw [e, e2, List.append_assoc], hv, hB, fun C' v' x' hC' => ?_⟩
  exact ⟨C, A ++ (C' ++ B), by rw [List.append_assoc], hC, hk C' v' x' hC'⟩
 | _, [], [], _, _, hi => absurd hi (by simp)
 | _, [], _ :: _, h, _, _ => h.elim
 | _, _ :: _, [], h, _, _ => h.elim
theorem Inn.rd {D : zAj} {vs : List Value} {xs : List (List α)} (h : Inn T s lay D vs xs) {i : Nat} (hi : i < xs.length) : ∃ v, vs[i]? = some v ∧ Rd D s v xs[i].length (lay xs[i]) := by
 obtain ⟨A, C, B, v, rfl, hv, hC, -⟩ := h.at hi
 exact ⟨v, hv, hC.rd.sub fun x hx => by simp [hx]⟩
theorem Inn.app {E : zAj} {us : List Value} {ys : List (List α)} (k : Inn T s lay E us ys) : ∀ {D : zAj} {vs : List Value} {xs : List (List α)}, Inn T s lay D vs xs → Inn T s lay (D ++ E) (vs ++ us) (xs ++ ys)
 | _, [], [], h => by cases h; exact k
 | _, _ :: _, _ :: _, ⟨C0, D', e, hC0, h⟩ => ⟨C0, D' ++ E, by rw [e, List.append_assoc], hC0, Inn.app k h⟩
 | _, [], _ :: _, h => h.elim
 | _, _ :: _, [], h => h.elim
end
section
variable {w0 w : World} {As Ls : List zAj} {A B C : zAj}
theorem St.call4 {As Ls Bs Rs : List zAj} {w0 w w' : World} {C D F G : zAj} (S : St w0 As w Ls) (s : Sel Ls Bs Rs) (t : Trs w w' Bs [C, D, F, G]) : St w0 As w' (C :: D :: F :: G :: Rs) := S.call s t
theorem St.openMid (S : St w0 As w ((A ++ (C ++ B)) :: Ls)) : St w0 As w (C :: A :: B :: Ls) :=
 (S.split.perm2.split).perm ((List.Perm.swap _ _ _).cons _)
theorem St.closeMid (S : St w0 As w (C :: A :: B :: Ls)) : St w0 As w ((A ++ (C ++ B)) :: Ls) :=
 ((S.perm ((List.Perm.swap _ _ _).cons _)).join.perm2).join
end
theorem Rd.bytes {C : zAj} {ad : Option Addr} {c : Nat} {l : List UInt8} (h : Rd C 1 (.slice ad l.length c) l.length (byt l)) {lo hi mx : Nat} (h1 : lo ≤ hi) (h2 : hi ≤ l.length) (h3 : hi ≤ mx) :
  Rd C 1 (sliced ad lo hi mx 1) ((l.drop lo).take (hi - lo)).length (byt ((l.drop lo).take (hi - lo))) := by
 have h4 := h.piece rfl h1 h2 h3
 rw [Nat.mul_one, Nat.mul_one, zEx, zEl] at h4
 rwa [List.length_take, List.length_drop, Nat.min_eq_left oZ]
theorem Rd.tailc {C : zAj} {s m n : Nat} {ad : Option Addr} {c : Nat} {xs : List Value} (h : Rd C s (.slice ad m c) m xs) (h1 : n ≤ m) (h2 : m ≤ c) :
  ∃ ad2 c2, sliced ad n m c s = .slice ad2 (m - n) c2 ∧ m - n ≤ c2 ∧ Rd C s (.slice ad2 (m - n) c2) (m - n) (xs.drop (n * s)) := by
 have h4 := h.piece rfl h1 (Nat.le_refl m) h2
 rw [List.take_of_length_le (by rw [List.length_drop, h.1, ← Nat.sub_mul]; exact Nat.le_refl _)] at h4
 exact ⟨_, _, rfl, by omega, h4⟩
end Go.Sl
