/-
  Maps with keys that are numbers: made, written, looked up.
-/
import Derived.Test.YtenhebjhoicpjaaMore8
import Derived.MapKept
import Derived.Carry
namespace Go.Sl
section
variable {P : Program} {a : Act} {o : Oper} {n : Nat} {e : List (Nat × Value)} {x y z : Operand} {w w0 : World} {v : Value} {As Ls Rs : List Chunk} {K : Act → World → Prop} {Q : Exit → Act → World → Prop}
theorem checkKey_int {kt : TypeId} {k : IntKind} {q : Int} {b : Bool} (hk : P.underlying kt = some (.int k)) : (Instr.checkKey b 10000 kt (.int k q)).run P w = .ok () w :=
  Go.MapKept.run_checkKey (n := 9999) hk (by simp [Go.MapKept.IsKey]) b
theorem rn_lookup_is (E : Fr a n e) {t kt et : TypeId} {r i clock : Nat} {es : Array MapEntry} {k : IntKind} {q : Int} (ho : o.op = .lookup t x y true) (hx : ev e x = some (.map (some r))) (hy : ev e y = some (.int k q)) (ht : P.underlying t = some (.map kt et)) (hk : P.underlying kt = some (.int k))
    (hb : w.heap[r]? = some (.map es clock)) (hf : Instr.findNow (.int k) (.int k q) es.toList 0 = some (some (i, v))) : RunsTo P o a w (.tuple #[v, .bool true]) w := by
  simp [RunsTo, execOp, ho, E.eval hx, E.eval hy, Instr.lookup, run_underlying ht, Go.MapKept.run_getObj_map hb, checkKey_int hk, Go.MapKept.run_findKey hk hf]
theorem rn_lookup_not (E : Fr a n e) {t kt et : TypeId} {r clock : Nat} {es : Array MapEntry} {k : IntKind} {q : Int} {ti : TypeInfo} (ho : o.op = .lookup t x y true) (hx : ev e x = some (.map (some r))) (hy : ev e y = some (.int k q)) (ht : P.underlying t = some (.map kt et)) (hk : P.underlying kt = some (.int k))
    (hi : P.info? et = some ti) (hz : ti.zero = some v) (hb : w.heap[r]? = some (.map es clock)) (hf : Instr.findNow (.int k) (.int k q) es.toList 0 = some none) : RunsTo P o a w (.tuple #[v, .bool false]) w := by
  simp [RunsTo, execOp, ho, E.eval hx, E.eval hy, Instr.lookup, run_underlying ht, Go.MapKept.run_getObj_map hb, checkKey_int hk, Go.MapKept.run_findKey hk hf, zeroValue, typeInfo, hi, hz]
theorem rn_lookup1 (E : Fr a n e) {t kt et : TypeId} {r i clock : Nat} {es : Array MapEntry} {k : IntKind} {q : Int} (ho : o.op = .lookup t x y false) (hx : ev e x = some (.map (some r))) (hy : ev e y = some (.int k q)) (ht : P.underlying t = some (.map kt et)) (hk : P.underlying kt = some (.int k))
    (hb : w.heap[r]? = some (.map es clock)) (hf : Instr.findNow (.int k) (.int k q) es.toList 0 = some (some (i, v))) : RunsTo P o a w v w := by
  simp [RunsTo, execOp, ho, E.eval hx, E.eval hy, Instr.lookup, run_underlying ht, Go.MapKept.run_getObj_map hb, checkKey_int hk, Go.MapKept.run_findKey hk hf]
theorem rn_lookup1_not (E : Fr a n e) {t kt et : TypeId} {r clock : Nat} {es : Array MapEntry} {k : IntKind} {q : Int} {ti : TypeInfo} (ho : o.op = .lookup t x y false) (hx : ev e x = some (.map (some r))) (hy : ev e y = some (.int k q)) (ht : P.underlying t = some (.map kt et)) (hk : P.underlying kt = some (.int k))
    (hi : P.info? et = some ti) (hz : ti.zero = some v) (hb : w.heap[r]? = some (.map es clock)) (hf : Instr.findNow (.int k) (.int k q) es.toList 0 = some none) : RunsTo P o a w v w := by
  simp [RunsTo, execOp, ho, E.eval hx, E.eval hy, Instr.lookup, run_underlying ht, Go.MapKept.run_getObj_map hb, checkKey_int hk, Go.MapKept.run_findKey hk hf, zeroValue, typeInfo, hi, hz]
/-- A new map. -/
theorem wp_makeMap (E : Fr a n e) (S : St w0 As w Ls) {t : TypeId} {d : Nat} (ho : o.op = .makeMap t none) (hd : o.dst = some d) (hn : d < n)
    (k : ∀ a' w' b, Fr a' n ((d, .map (some b)) :: e) → St w0 As w' ([(b, .map #[] 0)] :: Ls) → K a' w') : o.wp P a w K Q := by
  have hrun : RunsTo P o a w (.map (some w.heap.size)) (w.alloc (.map #[] 0)) := by
    have _ := E.nod
    simp [RunsTo, execOp, ho, Go.RowKit.run_makeMap]
  exact hrun.wp (by rw [hd]; exact k _ _ w.heap.size (E.put hn _) (S.alloc _))
theorem wp_makeMapN (E : Fr a n e) (S : St w0 As w Ls) {t kt et : TypeId} {d : Nat} {k : IntKind} {q : Int} (ho : o.op = .makeMap t (some x)) (hd : o.dst = some d) (hn : d < n) (hx : ev e x = some (.int k q)) (ht : P.underlying t = some (.map kt et))
    (k : ∀ a' w' b, Fr a' n ((d, .map (some b)) :: e) → St w0 As w' ([(b, .map #[] 0)] :: Ls) → K a' w') : o.wp P a w K Q := by
  have hrun : RunsTo P o a w (.map (some w.heap.size)) (w.alloc (.map #[] 0)) := by
    simp [RunsTo, execOp, ho, Instr.makeMap, E.eval hx, run_underlying ht, asInt, asIntOf]
  exact hrun.wp (by rw [hd]; exact k _ _ w.heap.size (E.put hn _) (S.alloc _))
theorem heap_set_block {r : Nat} {ob ob' : Obj} (S : St w0 As w Ls) (hp : Ls.Perm ([(r, ob)] :: Rs)) : St w0 As { w with heap := w.heap.setIfInBounds r ob' } ([(r, ob')] :: Rs) :=
  S.block hp rfl rfl rfl (by simp) (fun h => by have := (Array.getElem?_eq_some_iff.1 h).1; simp [this]) (fun k hk => by simp [Ne.symm hk])
/-- A key that is not there, written. -/
theorem wp_mapSet (E : Fr a n e) (S : St w0 As w Ls) {t kt et : TypeId} {r clock : Nat} {es : Array MapEntry} {k : IntKind} {q : Int} (ho : o.op = .mapUpdate t x y z ∨ o.op = .insert t x y z) (hd : o.dst = none) (hx : ev e x = some (.map (some r))) (hy : ev e y = some (.int k q)) (hz : ev e z = some v)
    (ht : P.underlying t = some (.map kt et)) (hk : P.underlying kt = some (.int k)) (hp : Ls.Perm ([(r, .map es clock)] :: Rs)) (hf : Instr.findNow (.int k) (.int k q) es.toList 0 = some none)
    (kk : ∀ a' w', Fr a' n e → St w0 As w' ([(r, .map (es.push { key := .int k q, val := v, born := clock }) (clock + 1))] :: Rs) → K a' w') : o.wp P a w K Q := by
  have hb := S.get hp
  refine Skips.wp (w' := { w with heap := w.heap.setIfInBounds r (.map (es.push { key := .int k q, val := v, born := clock }) (clock + 1)) }) ?_ (by rw [hd]; exact kk _ _ (E.put0 _) (heap_set_block S hp))
  unfold Skips
  rcases ho with ho | ho <;> simp [execOp, ho, E.eval hx, E.eval hy, E.eval hz, Instr.mapUpdate, run_underlying ht, Go.MapKept.run_getObj_map hb, checkKey_int hk, Go.MapKept.run_findKey hk hf, Go.MapKept.run_setObj_map _ hb]
end
end Go.Sl
