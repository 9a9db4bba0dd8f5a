/-
  Texts: joined, cut, compared, gone through; entries without a Go body.
-/
import Derived.Test.YtenhebjhoicpjaaMap
import Derived.Lib.Bytealg
import Derived.Scope
namespace Go.Sl
section
variable {P : Program} {a : Act} {o : Oper} {n : Nat} {e : List (Nat × Value)} {x y z : Operand} {w w0 : World} {v : Value} {As Ls Rs : List Chunk} {K : Act → World → Prop} {Q : Exit → Act → World → Prop}

theorem bytes_toList (l : List UInt8) : (⟨l.toArray⟩ : ByteArray).toList = l := by simp
theorem bytes_size (l : List UInt8) : (⟨l.toArray⟩ : ByteArray).size = l.length := by simp [ByteArray.size]
theorem bytes_at (l : List UInt8) {i : Nat} (h : i < l.length) : (⟨l.toArray⟩ : ByteArray)[i]? = some l[i] := by
  rw [getElem?_pos _ _ (by rw [bytes_size]; exact h)]
  rfl
theorem bytes_app (l m : List UInt8) : (⟨l.toArray⟩ : ByteArray) ++ ⟨m.toArray⟩ = ⟨(l ++ m).toArray⟩ := by
  apply ByteArray.ext
  simp
theorem bytes_extract (l : List UInt8) (lo hi : Nat) : (⟨l.toArray⟩ : ByteArray).extract lo hi = ⟨((l.drop lo).take (hi - lo)).toArray⟩ := by
  apply ByteArray.ext
  simp [ByteArray.data_extract, List.extract_toArray]
theorem rn_cat (E : Fr a n e) {t t' : TypeId} {b c : List UInt8} (ho : o.op = .binOp .add t x y t') (hx : ev e x = some (str b)) (hy : ev e y = some (str c)) (hl : b.length + c.length ≤ 140737488355328) : RunsTo P o a w (str (b ++ c)) w :=
  rn_bin E ho hx hy (by simp [go_sem]) (by
    show (Op.stringOp .add ⟨b.toArray⟩ ⟨c.toArray⟩).run P w = _
    have h : ¬ ((((⟨b.toArray⟩ : ByteArray).size + (⟨c.toArray⟩ : ByteArray).size : Nat) : Int) > IntKind.i64.max) := by
      rw [bytes_size, bytes_size]
      have : IntKind.i64.max = 9223372036854775807 := rfl
      omega
    simp only [Op.stringOp, if_neg h, bytes_app]
    rfl)
theorem rn_geq_string (E : Fr a n e) {t t' : TypeId} {b c : List UInt8} (ho : o.op = .binOp .geq t x y t') (hx : ev e x = some (str b)) (hy : ev e y = some (str c)) : RunsTo P o a w (.bool (!Op.bytesLess b c)) w :=
  rn_bin E ho hx hy (by simp [go_sem]) (by show (Op.stringOp .geq ⟨b.toArray⟩ ⟨c.toArray⟩).run P w = _; simp [Op.stringOp])
theorem rn_index_str (E : Fr a n e) {t : TypeId} {l : List UInt8} {i : Nat} {k : IntKind} {q : Int} (ho : o.op = .index t x y) (hx : ev e x = some (str l)) (hy : ev e y = some (.int k q))
    (ht : P.underlying t = some .string) (hq : q = (i : Int)) (hi : i < l.length) : RunsTo P o a w (.int .u8 l[i].toNat) w :=
  rn_index_string E ho hx hy ht hq (bytes_at l hi)
theorem rn_str_lh (E : Fr a n e) {t : TypeId} {l : List UInt8} {k k2 : IntKind} {p q : Int} {lo hi : Nat} (ho : o.op = .slice t x (some y) (some z) none) (hx : ev e x = some (str l)) (hy : ev e y = some (.int k p)) (hz : ev e z = some (.int k2 q))
    (ht : P.underlying t = some .string) (hp : p = (lo : Int)) (hq : q = (hi : Int)) (h1 : lo ≤ hi) (h2 : hi ≤ l.length) : RunsTo P o a w (str ((l.drop lo).take (hi - lo))) w := by
  subst hp hq
  have hs : (⟨l.toArray⟩ : ByteArray).size = l.length := bytes_size l
  simp [RunsTo, execOp, ho, E.eval hx, E.eval hy, E.eval hz, Instr.sliceAt, Instr.slice, Instr.sliceBounds, Instr.sliceBound, asIntOf, run_underlying ht, hs, h1, h2, bytes_extract]
theorem rn_str_h (E : Fr a n e) {t : TypeId} {l : List UInt8} {k2 : IntKind} {q : Int} {hi : Nat} (ho : o.op = .slice t x none (some z) none) (hx : ev e x = some (str l)) (hz : ev e z = some (.int k2 q))
    (ht : P.underlying t = some .string) (hq : q = (hi : Int)) (h2 : hi ≤ l.length) : RunsTo P o a w (str (l.take hi)) w := by
  subst hq
  have hs : (⟨l.toArray⟩ : ByteArray).size = l.length := bytes_size l
  simp [RunsTo, execOp, ho, E.eval hx, E.eval hz, Instr.sliceAt, Instr.slice, Instr.sliceBounds, Instr.sliceBound, asIntOf, run_underlying ht, hs, h2, bytes_extract]
theorem rn_str_l (E : Fr a n e) {t : TypeId} {l : List UInt8} {k : IntKind} {p : Int} {lo : Nat} (ho : o.op = .slice t x (some y) none none) (hx : ev e x = some (str l)) (hy : ev e y = some (.int k p))
    (ht : P.underlying t = some .string) (hp : p = (lo : Int)) (h1 : lo ≤ l.length) : RunsTo P o a w (str (l.drop lo)) w := by
  subst hp
  have hs : (⟨l.toArray⟩ : ByteArray).size = l.length := bytes_size l
  have e1 : (l.drop lo).take (l.length - lo) = l.drop lo := List.take_of_length_le (by rw [List.length_drop]; exact Nat.le_refl _)
  simp [RunsTo, execOp, ho, E.eval hx, E.eval hy, Instr.sliceAt, Instr.slice, Instr.sliceBounds, Instr.sliceBound, asIntOf, run_underlying ht, hs, h1, bytes_extract, e1]

/-- An entry without a Go body. -/
theorem rn_extern (E : Fr a n e) {f : FuncId} {fn : Func} {ex : Array Value → Sem Value} {xs : List Operand} {vs : List Value} {ts : Array TypeId} (ho : o.op = .call { callee := .value (.func f), args := xs.toArray, argTypes := ts })
    (hf : P.funcs[f]? = some fn) (hnm : (fn.name == "runtime.NumGoroutine") = false) (hb : fn.body.isNone = true) (hn : Extern.findNext fn = none) (he : Extern.find fn = some ex) (hx : evs e xs = some vs)
    (hr : (ex vs.toArray).run P w = .ok v w) : RunsTo P o a w v w := by
  unfold RunsTo execOp
  have hg : ev e (.func f) = some (.func (.func f) #[] #[]) := rfl
  simp [ho, resolve, E.eval hg, Deferred.ofValue, invoke, E.evals hx, run_callFunc_extern hf hnm hb hn he, hr, Result.andThen]
theorem rn_itos (E : Fr a n e) {t t' : TypeId} {k : IntKind} {c : Nat} (ho : o.op = .convert t t' x) (hx : ev e x = some (.int k c)) (ht : P.underlying t = some (.int k)) (hd : P.underlying t' = some .string) (h1 : 128 ≤ c) (h2 : c ≤ 255) :
    RunsTo P o a w (str [UInt8.ofNat (192 + c / 64), UInt8.ofNat (128 + c % 64)]) w := by
  have hv : Utf8.valid (c : Int) = true := by
    have : ((c : Int)) < 1000 := by omega
    simp [Utf8.valid]; omega
  have he : Utf8.encode (c : Int) = ⟨#[UInt8.ofNat (192 + c / 64), UInt8.ofNat (128 + c % 64)]⟩ := by
    simp only [Utf8.encode, hv, if_true, Int.toNat_natCast]
    rw [if_neg (by omega), if_pos (by omega)]
  simp [RunsTo, execOp, ho, E.eval hx, convert, run_underlying ht, run_underlying hd, Conv.intToString, he]
section scope
variable {c : Code} {Q : Exit → Act → World → Prop}
theorem wp_scope1 (h : c.wp P (Exit.noGoto Q) a w) : (Code.scope c).wp P Q a w := wp_scope_straight h
theorem sc_ret (h : Q .ret a w) : Exit.noGoto Q .ret a w := h
theorem sc_normal (h : Q .normal a w) : Exit.noGoto Q .normal a w := h
theorem sc_exit {i : Nat} (h : Q (.exit i) a w) : Exit.noGoto Q (.exit i) a w := h
end scope
theorem u8_self (c : UInt8) : (c.toNat : Int).toNat.toUInt8 = c := by simp
theorem rn_ibyte (E : Fr a n e) {f : FuncId} {fn : Func} {l : List UInt8} {c : UInt8} {ts : Array TypeId} (ho : o.op = .call { callee := .value (.func f), args := [x, y].toArray, argTypes := ts })
    (hf : P.funcs[f]? = some fn) (hnm : (fn.name == "runtime.NumGoroutine") = false) (hb : fn.body.isNone = true) (hn : Extern.findNext fn = none) (he : Extern.find fn = some Extern.BytealgIndexByte.indexByte)
    (hx : ev e x = some (str l)) (hy : ev e y = some (.int .u8 c.toNat)) : RunsTo P o a w (.int .i64 (Lib.indexByte l c)) w :=
  rn_extern E ho hf hnm hb hn he (vs := [str l, .int .u8 c.toNat]) (by simp [evs, hx, hy]) (by
    have := Lib.run_indexByteString (P := P) ⟨l.toArray⟩ c.toNat w
    simpa using this)
theorem rn_cbyte (E : Fr a n e) {f : FuncId} {fn : Func} {l : List UInt8} {c : UInt8} {ts : Array TypeId} (ho : o.op = .call { callee := .value (.func f), args := [x, y].toArray, argTypes := ts })
    (hf : P.funcs[f]? = some fn) (hnm : (fn.name == "runtime.NumGoroutine") = false) (hb : fn.body.isNone = true) (hn : Extern.findNext fn = none) (he : Extern.find fn = some Extern.BytealgCount.count)
    (hx : ev e x = some (str l)) (hy : ev e y = some (.int .u8 c.toNat)) : RunsTo P o a w (.int .i64 (l.count c : Nat)) w :=
  rn_extern E ho hf hnm hb hn he (vs := [str l, .int .u8 c.toNat]) (by simp [evs, hx, hy]) (by
    have := Lib.run_countString (P := P) ⟨l.toArray⟩ c.toNat w
    simpa [Lib.countByte] using this)

/-- The signs of a text, one by one: those below 128 are their bytes; another one is 128 or more. -/
theorem decode_small {l : List UInt8} {i : Nat} (h : i < l.length) (hc : l[i].toNat < 128) : Utf8.decode ⟨l.toArray⟩ i = (l[i].toNat, 1) := by
  have e0 : (⟨l.toArray⟩ : ByteArray).get! i = l[i] := by
    show (l.toArray)[i]! = l[i]
    simp [h]
  simp only [Utf8.decode, Nat.add_zero, e0]
  rw [if_pos hc]
theorem decode_big {l : List UInt8} {i : Nat} (h : i < l.length) (hc : 128 ≤ l[i].toNat) : 128 ≤ (Utf8.decode ⟨l.toArray⟩ i).1 := by
  have e0 : (⟨l.toArray⟩ : ByteArray).get! i = l[i] := by
    show (l.toArray)[i]! = l[i]
    simp [h]
  simp only [Utf8.decode, Nat.add_zero, e0]
  rw [if_neg (by omega)]
  have hr : (128 : Nat) ≤ Utf8.runeError := by decide
  split
  · split <;> first | assumption | exact hr | (simp only; omega)
  · split
    · split
      · rename_i hh; simp only [Bool.and_eq_true, decide_eq_true_eq] at hh; simp only; omega
      · exact hr
    · split
      · split
        · rename_i hh; simp only [Bool.and_eq_true, decide_eq_true_eq] at hh; simp only; omega
        · exact hr
      · exact hr
theorem run_getS {b p : Nat} {s : ByteArray} (hb : w.heap[b]? = some (.stringIter s p)) : (getObj b).run P w = .ok (.stringIter s p) w := by simp [getObj, Sem.run, hb]
theorem run_setS {b p : Nat} {s : ByteArray} {ob' : Obj} (hb : w.heap[b]? = some (.stringIter s p)) : (setObj b ob').run P w = .ok () { w with heap := w.heap.setIfInBounds b ob' } := by simp [setObj, Sem.run, hb]
theorem wp_rangeS (E : Fr a n e) (S : St w0 As w Ls) {t : TypeId} {d : Nat} {l : List UInt8} (ho : o.op = .range t x) (hd : o.dst = some d) (hn : d < n) (hx : ev e x = some (str l)) (ht : P.underlying t = some .string)
    (k : ∀ a' w' b, Fr a' n ((d, ptr b) :: e) → St w0 As w' ([(b, .stringIter ⟨l.toArray⟩ 0)] :: Ls) → K a' w') : o.wp P a w K Q := by
  have hrun : RunsTo P o a w (ptr w.heap.size) (w.alloc (.stringIter ⟨l.toArray⟩ 0)) := by
    simp [RunsTo, execOp, ho, E.eval hx, Instr.range, run_underlying ht]
  exact hrun.wp (by rw [hd]; exact k _ _ w.heap.size (E.put hn _) (S.alloc _))
theorem wp_nextS_end (E : Fr a n e) (S : St w0 As w Ls) {d b pos : Nat} {l : List UInt8} (ho : o.op = .next x true) (hd : o.dst = some d) (hn : d < n) (hx : ev e x = some (ptr b))
    (hp : Ls.Perm ([(b, .stringIter ⟨l.toArray⟩ pos)] :: Rs)) (hl : l.length ≤ pos) (k : ∀ a', Fr a' n ((d, .tuple #[.bool false]) :: e) → K a' w) : o.wp P a w K Q := by
  have hb := S.get hp
  have hrun : RunsTo P o a w (.tuple #[.bool false]) w := by
    simp [RunsTo, execOp, ho, E.eval hx, Instr.next, run_getS hb, bytes_size, Nat.not_lt.2 hl]
  exact hrun.wp (by rw [hd]; exact k _ (E.put hn _))
theorem wp_nextS (E : Fr a n e) (S : St w0 As w Ls) {d b pos : Nat} {l : List UInt8} (ho : o.op = .next x true) (hd : o.dst = some d) (hn : d < n) (hx : ev e x = some (ptr b))
    (hp : Ls.Perm ([(b, .stringIter ⟨l.toArray⟩ pos)] :: Rs)) (hl : pos < l.length)
    (k : ∀ a' w', Fr a' n ((d, .tuple #[.bool true, .int .i64 pos, .int .i32 (Utf8.decode ⟨l.toArray⟩ pos).1]) :: e) → St w0 As w' ([(b, .stringIter ⟨l.toArray⟩ (pos + (Utf8.decode ⟨l.toArray⟩ pos).2))] :: Rs) → K a' w') : o.wp P a w K Q := by
  have hb := S.get hp
  have hrun : RunsTo P o a w (.tuple #[.bool true, .int .i64 pos, .int .i32 (Utf8.decode ⟨l.toArray⟩ pos).1]) { w with heap := w.heap.setIfInBounds b (.stringIter ⟨l.toArray⟩ (pos + (Utf8.decode ⟨l.toArray⟩ pos).2)) } := by
    simp [RunsTo, execOp, ho, E.eval hx, Instr.next, run_getS hb, run_setS hb, bytes_size, hl, goInt]
  exact hrun.wp (by rw [hd]; exact k _ _ (E.put hn _) (heap_set_block S hp))
end
end Go.Sl
