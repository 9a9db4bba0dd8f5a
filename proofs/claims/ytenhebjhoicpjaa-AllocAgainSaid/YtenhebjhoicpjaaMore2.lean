/-
  Still more operations: slices with three bounds, nil slices compared, pairs compared, room asked for by append, empty slices put together.
-/
import Derived.Test.YtenhebjhoicpjaaMore
import Derived.Laws.StructEq
namespace Go.Sl

section
variable {P : Program} {Q : Exit → Act → World → Prop} {a : Act} {w0 w : World} {o : Oper} {n : Nat} {e : List (Nat × Value)} {x y z u : Operand} {v : Value} {C : Chunk} {As Ls Rs : List Chunk} {K : Act → World → Prop}

theorem rn_slice_hm (E : Fr a n e) {t el : TypeId} {s l c hi mx : Nat} {ad : Option Addr} {k2 k3 : IntKind} {r q : Int} (ho : o.op = .slice t x none (some z) (some u)) (hx : ev e x = some (.slice ad l c)) (hz : ev e z = some (.int k2 r)) (hu : ev e u = some (.int k3 q))
    (ht : P.underlying t = some (.slice el)) (hs : (P.info? el).map (·.size) = some s) (hr : r = (hi : Int)) (hq : q = (mx : Int)) (h1 : hi ≤ mx) (h2 : mx ≤ c) : RunsTo P o a w (sliced ad 0 hi mx s) w := by
  subst hr hq
  have e1 : P.elem t = el := by simp [Program.elem, ht]
  have := Go.run_slice_hm (P := P) w t ad l c (by rw [e1]; exact ht) k2 k3 (hi : Int) (mx : Int) (by omega) (by omega) (by omega)
  rw [e1, run_sizeOf hs] at this
  simp [RunsTo, execOp, ho, E.eval hx, E.eval hz, E.eval hu, run_sliceAt_slice w t _ _ _ _ (by rw [e1]; exact ht), this]
theorem rn_slice_lhm (E : Fr a n e) {t el : TypeId} {s l c lo hi mx : Nat} {ad : Option Addr} {k1 k2 k3 : IntKind} {p r q : Int} (ho : o.op = .slice t x (some y) (some z) (some u)) (hx : ev e x = some (.slice ad l c)) (hy : ev e y = some (.int k1 p)) (hz : ev e z = some (.int k2 r)) (hu : ev e u = some (.int k3 q))
    (ht : P.underlying t = some (.slice el)) (hs : (P.info? el).map (·.size) = some s) (hp : p = (lo : Int)) (hr : r = (hi : Int)) (hq : q = (mx : Int)) (h0 : lo ≤ hi) (h1 : hi ≤ mx) (h2 : mx ≤ c) : RunsTo P o a w (sliced ad lo hi mx s) w := by
  subst hp hr hq
  have e1 : P.elem t = el := by simp [Program.elem, ht]
  have := Go.run_slice_lhm (P := P) w t ad l c (by rw [e1]; exact ht) k1 k2 k3 (lo : Int) (hi : Int) (mx : Int) (by omega) (by omega) (by omega) (by omega)
  rw [e1, run_sizeOf hs] at this
  simp [RunsTo, execOp, ho, E.eval hx, E.eval hy, E.eval hz, E.eval hu, run_sliceAt_slice w t _ _ _ _ (by rw [e1]; exact ht), this]

theorem equalIn_slice_nil {t el : TypeId} (d : Nat) (ad : Option Addr) (l c : Nat) (ht : P.underlying t = some (.slice el)) : (Op.equalIn (d + 1) t (.slice ad l c) (.slice none 0 0)).run P w = .ok ad.isNone w := by
  cases ad <;> simp [Op.equalIn, run_underlying ht]
theorem equal_slice_nil {t el : TypeId} (ad : Option Addr) (l c : Nat) (ht : P.underlying t = some (.slice el)) : (Op.equal t (.slice ad l c) (.slice none 0 0)).run P w = .ok ad.isNone w := equalIn_slice_nil 9999 ad l c ht
theorem rn_eql_slice_nil (E : Fr a n e) {t t' el : TypeId} {ad : Option Addr} {l c : Nat} (ho : o.op = .binOp .eql t x y t') (hx : ev e x = some (.slice ad l c)) (hy : ev e y = some (.slice none 0 0)) (ht : P.underlying t = some (.slice el)) : RunsTo P o a w (.bool ad.isNone) w :=
  rn_bin E ho hx hy (by simp [go_sem]) (by show ((do pure (.bool (← Op.equal t (.slice ad l c) (.slice none 0 0))) : Sem Value)).run P w = _; rw [Sem.run_bind, equal_slice_nil ad l c ht]; rfl)
theorem rn_neq_slice_nil (E : Fr a n e) {t t' el : TypeId} {ad : Option Addr} {l c : Nat} (ho : o.op = .binOp .neq t x y t') (hx : ev e x = some (.slice ad l c)) (hy : ev e y = some (.slice none 0 0)) (ht : P.underlying t = some (.slice el)) : RunsTo P o a w (.bool !ad.isNone) w :=
  rn_bin E ho hx hy (by simp [go_sem]) (by show ((do pure (.bool !(← Op.equal t (.slice ad l c) (.slice none 0 0))) : Sem Value)).run P w = _; rw [Sem.run_bind, equal_slice_nil ad l c ht]; rfl)

/-- Two numbers as a struct: what '==' says of two of them. -/
theorem equal_pair {t t0 t1 : TypeId} {k0 k1 : IntKind} {fs : Array Field} (ht : P.underlying t = some (.struct fs)) (hp : P.stoodInHeld t = false)
    (hf : fs.toList.map (fun f => (f.name == "_", f.type, f.offset)) = [(false, t0, 0), (false, t1, 1)]) (u0 : P.underlying t0 = some (.int k0)) (u1 : P.underlying t1 = some (.int k1)) (p q r s : Int) :
    (Op.equalIn 10000 t (.agg #[.int k0 p, .int k1 q]) (.agg #[.int k0 r, .int k1 s])).run P w = .ok (p == r && q == s) w := by
  have hS : P.underlying t = some (.struct (P.fieldsOf t)) := by simp [Program.fieldsOf, ht]
  have hfs : P.fieldsOf t = fs := by simp [Program.fieldsOf, ht]
  rw [show (10000 : Nat) = 9999 + 1 from rfl, run_equalIn_agg w 9999 t _ _ hS hp, hfs]
  generalize fs.toList = l at hf
  have hl : l.length = 2 := by simpa using congrArg List.length hf
  match l, hl, hf with
  | [f0, f1], _, hf =>
    simp only [List.map_cons, List.map_nil, List.cons.injEq, Prod.mk.injEq, beq_eq_false_iff_ne, ne_eq, and_true] at hf
    obtain ⟨⟨n0, rfl, o0⟩, n1, rfl, o1⟩ := hf
    have a0 : (isAgg f0.type).run P w = .ok false w := by simp [isAgg, run_underlying u0]
    have a1 : (isAgg f1.type).run P w = .ok false w := by simp [isAgg, run_underlying u1]
    simp [Op.eqFields, n0, n1, o0, o1, part, a0, a1, run_equalIn_int, u0, u1]
    by_cases h1 : p = r <;> by_cases h2 : q = s <;> simp [h1, h2]
theorem rn_eql_pair (E : Fr a n e) {t t' t0 t1 : TypeId} {k0 k1 : IntKind} {fs : Array Field} {p q r s : Int} (ho : o.op = .binOp .eql t x y t') (hx : ev e x = some (.agg #[.int k0 p, .int k1 q])) (hy : ev e y = some (.agg #[.int k0 r, .int k1 s]))
    (ht : P.underlying t = some (.struct fs)) (hp : P.stoodInHeld t = false) (hm : P.eqGuardType P.depth t = false)
    (hf : fs.toList.map (fun f => (f.name == "_", f.type, f.offset)) = [(false, t0, 0), (false, t1, 1)]) (u0 : P.underlying t0 = some (.int k0)) (u1 : P.underlying t1 = some (.int k1)) : RunsTo P o a w (.bool (p == r && q == s)) w := by
  have h1 := run_eqGuard_agg (P := P) w .eql t x y #[.int k0 p, .int k1 q] #[.int k0 r, .int k1 s] hm
  have h2 : (binOp .eql t (.agg #[.int k0 p, .int k1 q]) (.agg #[.int k0 r, .int k1 s])).run P w = .ok (.bool (p == r && q == s)) w := by
    rw [run_eql_struct, equal_pair ht hp hf u0 u1]; rfl
  simp [RunsTo, execOp, ho, E.eval hx, E.eval hy, h1, h2]
theorem rn_neq_pair (E : Fr a n e) {t t' t0 t1 : TypeId} {k0 k1 : IntKind} {fs : Array Field} {p q r s : Int} (ho : o.op = .binOp .neq t x y t') (hx : ev e x = some (.agg #[.int k0 p, .int k1 q])) (hy : ev e y = some (.agg #[.int k0 r, .int k1 s]))
    (ht : P.underlying t = some (.struct fs)) (hp : P.stoodInHeld t = false) (hm : P.eqGuardType P.depth t = false)
    (hf : fs.toList.map (fun f => (f.name == "_", f.type, f.offset)) = [(false, t0, 0), (false, t1, 1)]) (u0 : P.underlying t0 = some (.int k0)) (u1 : P.underlying t1 = some (.int k1)) : RunsTo P o a w (.bool !(p == r && q == s)) w := by
  have h1 := run_eqGuard_agg (P := P) w .neq t x y #[.int k0 p, .int k1 q] #[.int k0 r, .int k1 s] hm
  have h2 : (binOp .neq t (.agg #[.int k0 p, .int k1 q]) (.agg #[.int k0 r, .int k1 s])).run P w = .ok (.bool !(p == r && q == s)) w := by
    rw [run_neq_struct, equal_pair ht hp hf u0 u1]; rfl
  simp [RunsTo, execOp, ho, E.eval hx, E.eval hy, h1, h2]

/-- A literal without elements: a block without cells. -/
theorem wp_bslice0 (E : Fr a n e) (S : St w0 As w Ls) {t el : TypeId} {d : Nat} {i : TypeInfo} (ho : o.op = .buildSlice t 0 #[]) (hd : o.dst = some d) (hn : d < n)
    (ht : P.underlying t = some (.slice el)) (hi : P.info? el = some i)
    (k : ∀ a' w' b, Fr a' n ((d, .slice (some ⟨b, 0, none⟩) 0 0) :: e) → St w0 As w' ([(b, cel [] el)] :: Ls) → K a' w') : o.wp P a w K Q := by
  have h : (Instr.buildSlice t 0 #[]).run P w = .ok (.slice (some ⟨w.heap.size, 0, none⟩) 0 0) (w.alloc (.cells #[] el)) := by
    simp [Instr.buildSlice, run_underlying ht, sizeOf, typeInfo, hi, Instr.fill, newRow]
    congr 2
    exact Array.eq_empty_of_size_eq_zero (by simp)
  have hr : RunsTo P o a w (.slice (some ⟨w.heap.size, 0, none⟩) 0 0) (w.alloc (.cells #[] el)) := by simp [RunsTo, execOp, ho, h]
  exact hr.wp (by rw [hd]; exact k _ _ w.heap.size (E.put hn _) (S.alloc _))

/-- Room for so many more, behind nothing. -/
theorem run_append_zeros (w : World) (t tx ty el : TypeId) (kk : IntKind) (i : TypeInfo) (zv : Value) (ht : P.underlying t = some (.slice el)) (htx : P.underlying tx = some (.int kk)) (hi : P.info? el = some i) (hz : i.zero = some zv) (m : Nat) (hm : 0 < m)
    (hsz : 0 < i.size) (h63 : m ≤ 9223372036854775807) (hb : m * i.bytes ≤ 140737488355328) :
    (Builtin.append_ #[t, tx] ty #[.slice none 0 0, .int kk m]).run P w = .ok (.slice (some ⟨w.heap.size, 0, none⟩) m (grownCap w m 0 el)) (w.drew.alloc (.cells (Builtin.zeroCells zv.cells m ++ Builtin.zeroCells zv.cells (grownCap w m 0 el - m)) el)) := by
  have hw : IntKind.i64.wrap (m : Int) = m := IntWalk.i64_in _ (by omega)
  have h1 : ¬ (281474976710656 < (m : Int) * (i.bytes : Int)) := by
    have h : ((m * i.bytes : Nat) : Int) ≤ 140737488355328 := by omega
    rw [Int.natCast_mul] at h; omega
  have h2 : ¬ m = 0 := by omega
  have h3 : ¬ i.size = 0 := by omega
  have h4 : ¬ (9223372036854775807 < (m : Int)) := by omega
  have h5 : ¬ (281474976710656 < Builtin.nextslicecap m 0 * i.bytes) := by have := growslice_fits (need := m) (old := 0) (bytes := i.bytes) hm hb; omega
  have h6 : ¬ ((m : Int) < 0) := by omega
  have h7 : ¬ m * i.size = 0 := Nat.ne_of_gt (Nat.mul_pos hm hsz)
  simp [Builtin.append_, h6, h7, run_underlying ht, run_underlying htx, sizeOf, typeInfo, zeroValue, hi, hz, hw, h1, h2, h3, h4, h5, Question.forced, newRow, grownCap, asInt, asIntOf, Builtin.firstCells]
theorem wp_appendz (E : Fr a n e) (S : St w0 As w Ls) {t tx T : TypeId} {d m s by' : Nat} {kk : IntKind} {q : Int} {i : TypeInfo} {zv : Value} (ho : o.op = .call { callee := .builtin .append, args := #[x, y], argTypes := #[t, tx] }) (hd : o.dst = some d) (hn : d < n)
    (hx : ev e x = some (.slice none 0 0)) (hy : ev e y = some (.int kk q)) (hq : q = (m : Int)) (ht : P.underlying t = some (.slice T)) (htx : P.underlying tx = some (.int kk)) (hi : P.info? T = some i) (hz : i.zero = some zv) (hsz : i.size = s) (hzs : zv.cells.size = s) (hbz : i.bytes = by')
    (hs0 : 0 < s) (hm : 0 < m) (h63 : m ≤ 9223372036854775807) (hb : m * by' ≤ 140737488355328)
    (k : ∀ a' w' g c l, Fr a' n ((d, .slice (some ⟨g, 0, none⟩) m c) :: e) → St w0 As w' ([(g, cel l T)] :: Ls) → m ≤ c → c ≤ maxLen → l.length = c * s → K a' w') : o.wp P a w K Q := by
  subst hq hsz hbz
  have hr := run_append_zeros (P := P) w t tx o.type T kk i zv ht htx hi hz m hm hs0 h63 hb
  have hrun : RunsTo P o a w (.slice (some ⟨w.heap.size, 0, none⟩) m (grownCap w m 0 T)) (w.drew.alloc (.cells (Builtin.zeroCells zv.cells m ++ Builtin.zeroCells zv.cells (grownCap w m 0 T - m)) T)) := by
    simp [RunsTo, execOp, ho, resolve, invoke, builtin, E.eval hx, E.eval hy, hr]
  have hge := grownCap_ge w m 0 T
  have h1 := S.drew.alloc (.cells (Builtin.zeroCells zv.cells m ++ Builtin.zeroCells zv.cells (grownCap w m 0 T - m)) T)
  have h2 : (Builtin.zeroCells zv.cells m ++ Builtin.zeroCells zv.cells (grownCap w m 0 T - m)).toList.length = grownCap w m 0 T * i.size := by
    simp only [Array.length_toList, Array.size_append, size_zeroCells, hzs, ← Nat.add_mul]
    congr 1
    omega
  exact hrun.wp (by rw [hd]; exact k _ _ w.heap.size (grownCap w m 0 T) (Builtin.zeroCells zv.cells m ++ Builtin.zeroCells zv.cells (grownCap w m 0 T - m)).toList (E.put hn _) (by rw [cel, Array.toArray_toList]; exact h1) hge (grownCap_le_maxLen w m 0 T (by simp only [maxLen]; omega)) h2)
theorem sliced_head (g c s : Nat) : sliced (some ⟨g, 0, none⟩) 0 0 c s = .slice (some ⟨g, 0, none⟩) 0 c := by
  simp [sliced, Addr.add_lit]
theorem buf_room {T : TypeId} {g c s : Nat} {l : List Value} (hc : c ≤ maxLen) (hl : l.length = c * s) : Buf [(g, cel l T)] T s (.slice (some ⟨g, 0, none⟩) 0 c) 0 [] :=
  ⟨by simp, by simp, .inr ⟨g, c, l, rfl, rfl, Nat.zero_le _, hc, by simpa using hl⟩⟩
end
end Go.Sl
