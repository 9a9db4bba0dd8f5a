/-
  The operations, one rule each: what the operation runs to, off what the frame is known to hold and what stands in the owned blocks.
-/
import Derived.Test.YtenhebjhoicpjaaSl
namespace Go.Sl

section
variable {P : Program} {a : Act} {w : World} {o : Oper} {n : Nat} {e : List (Nat × Value)} {x y z : Operand} {v u : Value}

theorem rn_move (E : Fr a n e) (ho : o.op = .move x) (hx : ev e x = some v) : RunsTo P o a w v w := by simp [RunsTo, execOp, ho, E.eval hx]
theorem rn_assign (E : Fr a n e) (ho : o.op = .assign x) (hx : ev e x = some v) : RunsTo P o a w v w := by simp [RunsTo, execOp, ho, E.eval hx]
theorem rn_pick_yes (E : Fr a n e) (ho : o.op = .pick z x y) (hz : ev e z = some (.bool true)) (hx : ev e x = some v) : RunsTo P o a w v w := by simp [RunsTo, execOp, ho, E.eval hx, E.eval hz, asBool]
theorem rn_pick_no (E : Fr a n e) (ho : o.op = .pick z x y) (hz : ev e z = some (.bool false)) (hy : ev e y = some v) : RunsTo P o a w v w := by simp [RunsTo, execOp, ho, E.eval hy, E.eval hz, asBool]
theorem rn_pick_yes' (E : Fr a n e) {b : Bool} (ho : o.op = .pick z x y) (hz : ev e z = some (.bool b)) (hb : b = true) (hx : ev e x = some v) : RunsTo P o a w v w := by subst hb; exact rn_pick_yes E ho hz hx
theorem rn_pick_no' (E : Fr a n e) {b : Bool} (ho : o.op = .pick z x y) (hz : ev e z = some (.bool b)) (hb : b = false) (hy : ev e y = some v) : RunsTo P o a w v w := by subst hb; exact rn_pick_no E ho hz hy

theorem rn_len (E : Fr a n e) {t el : TypeId} {ad : Option Addr} {l c : Nat} (ho : o.op = .call { callee := .builtin .len, args := #[x], argTypes := #[t] }) (hx : ev e x = some (.slice ad l c))
    (ht : P.underlying t = some (.slice el)) : RunsTo P o a w (.int .i64 l) w := by
  simp [RunsTo, execOp, ho, resolve, invoke, builtin, E.eval hx, Builtin.len_, run_underlying ht, goInt]
theorem rn_len_string (E : Fr a n e) {t : TypeId} {s : ByteArray} (ho : o.op = .call { callee := .builtin .len, args := #[x], argTypes := #[t] }) (hx : ev e x = some (.string s))
    (ht : P.underlying t = some .string) : RunsTo P o a w (.int .i64 s.size) w := by
  simp [RunsTo, execOp, ho, resolve, invoke, builtin, E.eval hx, Builtin.len_, run_underlying ht, goInt]
theorem rn_cap (E : Fr a n e) {t el : TypeId} {ad : Option Addr} {l c : Nat} (ho : o.op = .call { callee := .builtin .cap, args := #[x], argTypes := #[t] }) (hx : ev e x = some (.slice ad l c))
    (ht : P.underlying t = some (.slice el)) : RunsTo P o a w (.int .i64 c) w := by
  simp [RunsTo, execOp, ho, resolve, invoke, builtin, E.eval hx, Builtin.cap_, run_underlying ht, goInt]
theorem rn_max (E : Fr a n e) {ts : Array TypeId} {k j : IntKind} {p q : Int} (ho : o.op = .call { callee := .builtin .max, args := #[x, y], argTypes := ts }) (hx : ev e x = some (.int k p)) (hy : ev e y = some (.int j q)) :
    RunsTo P o a w (.int k (max p q)) w := by
  have h1 : (if p < q then q else p) = max p q := by omega
  simp [RunsTo, execOp, ho, resolve, invoke, builtin, E.eval hx, E.eval hy, Builtin.max_, Builtin.max2, h1]
theorem rn_min (E : Fr a n e) {ts : Array TypeId} {k j : IntKind} {p q : Int} (ho : o.op = .call { callee := .builtin .min, args := #[x, y], argTypes := ts }) (hx : ev e x = some (.int k p)) (hy : ev e y = some (.int j q)) :
    RunsTo P o a w (.int k (min p q)) w := by
  have h1 : (if q < p then q else p) = min p q := by omega
  simp [RunsTo, execOp, ho, resolve, invoke, builtin, E.eval hx, E.eval hy, Builtin.min_, Builtin.min2, h1]

theorem rn_bin (E : Fr a n e) {op : BinOp} {t t' : TypeId} {r : Value} (ho : o.op = .binOp op t x y t') (hx : ev e x = some v) (hy : ev e y = some u) (hg : eqGuard op t x y v u = pure ())
    (hr : (binOp op t v u).run P w = .ok r w) : RunsTo P o a w r w := by
  simp [RunsTo, execOp, ho, E.eval hx, E.eval hy, hg, hr]

section ints
variable {t t' : TypeId} {k j : IntKind} {p q r : Int}
theorem rn_add (E : Fr a n e) (ho : o.op = .binOp .add t x y t') (hx : ev e x = some (.int k p)) (hy : ev e y = some (.int k q)) (hr : k.wrap (p + q) = r) : RunsTo P o a w (.int k r) w :=
  rn_bin E ho hx hy (by simp [go_sem]) (by subst hr; simp [go_sem])
theorem rn_sub (E : Fr a n e) (ho : o.op = .binOp .sub t x y t') (hx : ev e x = some (.int k p)) (hy : ev e y = some (.int k q)) (hr : k.wrap (p - q) = r) : RunsTo P o a w (.int k r) w :=
  rn_bin E ho hx hy (by simp [go_sem]) (by subst hr; simp [go_sem])
theorem rn_mul (E : Fr a n e) (ho : o.op = .binOp .mul t x y t') (hx : ev e x = some (.int k p)) (hy : ev e y = some (.int k q)) (hr : k.wrap (p * q) = r) : RunsTo P o a w (.int k r) w :=
  rn_bin E ho hx hy (by simp [go_sem]) (by subst hr; simp [go_sem])
theorem rn_quo (E : Fr a n e) (ho : o.op = .binOp .quo t x y t') (hx : ev e x = some (.int k p)) (hy : ev e y = some (.int k q)) (h0 : q ≠ 0) (hr : k.wrap (p.tdiv q) = r) : RunsTo P o a w (.int k r) w :=
  rn_bin E ho hx hy (by simp [go_sem]) (by subst hr; simp [go_sem, h0])
theorem rn_rem (E : Fr a n e) (ho : o.op = .binOp .rem t x y t') (hx : ev e x = some (.int k p)) (hy : ev e y = some (.int k q)) (h0 : q ≠ 0) (hr : p.tmod q = r) : RunsTo P o a w (.int k r) w :=
  rn_bin E ho hx hy (by simp [go_sem]) (by subst hr; simp [go_sem, h0])
theorem rn_and (E : Fr a n e) (ho : o.op = .binOp .and t x y t') (hx : ev e x = some (.int k p)) (hy : ev e y = some (.int k q)) (hr : bits .and k p q = r) : RunsTo P o a w (.int k r) w :=
  rn_bin E ho hx hy (by simp [go_sem]) (by subst hr; simp [go_sem])
theorem rn_or (E : Fr a n e) (ho : o.op = .binOp .or t x y t') (hx : ev e x = some (.int k p)) (hy : ev e y = some (.int k q)) (hr : bits .or k p q = r) : RunsTo P o a w (.int k r) w :=
  rn_bin E ho hx hy (by simp [go_sem]) (by subst hr; simp [go_sem])
theorem rn_xor (E : Fr a n e) (ho : o.op = .binOp .xor t x y t') (hx : ev e x = some (.int k p)) (hy : ev e y = some (.int k q)) (hr : bits .xor k p q = r) : RunsTo P o a w (.int k r) w :=
  rn_bin E ho hx hy (by simp [go_sem]) (by subst hr; simp [go_sem])
theorem rn_shr (E : Fr a n e) (ho : o.op = .binOp .shr t x y t') (hx : ev e x = some (.int k p)) (hy : ev e y = some (.int j q)) (h0 : 0 ≤ q) (h1 : q ≤ k.bits) (hr : p / 2 ^ q.toNat = r) : RunsTo P o a w (.int k r) w :=
  rn_bin E ho hx hy (by simp [go_sem]) (by subst hr; simp [binOp_shr, shift_shr k j p q h0 h1])
theorem rn_shl (E : Fr a n e) (ho : o.op = .binOp .shl t x y t') (hx : ev e x = some (.int k p)) (hy : ev e y = some (.int j q)) (h0 : 0 ≤ q) (h1 : q ≤ k.bits) (hr : k.wrap (p * 2 ^ q.toNat) = r) : RunsTo P o a w (.int k r) w :=
  rn_bin E ho hx hy (by simp [go_sem]) (by subst hr; simp [binOp_shl, shift_shl k j p q h0 h1])
theorem rn_eql (E : Fr a n e) (ho : o.op = .binOp .eql t x y t') (hx : ev e x = some (.int k p)) (hy : ev e y = some (.int k q)) : RunsTo P o a w (.bool (p == q)) w :=
  rn_bin E ho hx hy (by simp [go_sem]) (by simp [go_sem])
theorem rn_neq (E : Fr a n e) (ho : o.op = .binOp .neq t x y t') (hx : ev e x = some (.int k p)) (hy : ev e y = some (.int k q)) : RunsTo P o a w (.bool (p != q)) w :=
  rn_bin E ho hx hy (by simp [go_sem]) (by simp [go_sem])
theorem rn_lss (E : Fr a n e) (ho : o.op = .binOp .lss t x y t') (hx : ev e x = some (.int k p)) (hy : ev e y = some (.int k q)) : RunsTo P o a w (.bool (decide (p < q))) w :=
  rn_bin E ho hx hy (by simp [go_sem]) (by simp [go_sem])
theorem rn_leq (E : Fr a n e) (ho : o.op = .binOp .leq t x y t') (hx : ev e x = some (.int k p)) (hy : ev e y = some (.int k q)) : RunsTo P o a w (.bool (decide (p ≤ q))) w :=
  rn_bin E ho hx hy (by simp [go_sem]) (by simp [go_sem])
theorem rn_gtr (E : Fr a n e) (ho : o.op = .binOp .gtr t x y t') (hx : ev e x = some (.int k p)) (hy : ev e y = some (.int k q)) : RunsTo P o a w (.bool (decide (q < p))) w :=
  rn_bin E ho hx hy (by simp [go_sem]) (by simp [go_sem])
theorem rn_geq (E : Fr a n e) (ho : o.op = .binOp .geq t x y t') (hx : ev e x = some (.int k p)) (hy : ev e y = some (.int k q)) : RunsTo P o a w (.bool (decide (q ≤ p))) w :=
  rn_bin E ho hx hy (by simp [go_sem]) (by simp [go_sem])
theorem rn_neg (E : Fr a n e) (ho : o.op = .unOp .neg t x) (hx : ev e x = some (.int k p)) (hr : k.wrap (-p) = r) : RunsTo P o a w (.int k r) w := by
  subst hr; simp [RunsTo, execOp, ho, E.eval hx, Op.unary, Op.intArith]
theorem rn_convert (E : Fr a n e) {dk : IntKind} {sd : TypeDesc} (ho : o.op = .convert t t' x) (hx : ev e x = some (.int k p)) (hs : P.underlying t = some sd) (hd : P.underlying t' = some (.int dk)) (hr : dk.wrap p = r) : RunsTo P o a w (.int dk r) w := by
  subst hr; simp [RunsTo, execOp, ho, E.eval hx, convert, run_underlying hs, run_underlying hd, Conv.intToInt]
end ints

theorem rn_not (E : Fr a n e) {t : TypeId} {b : Bool} (ho : o.op = .unOp .not t x) (hx : ev e x = some (.bool b)) : RunsTo P o a w (.bool !b) w := by
  simp [RunsTo, execOp, ho, E.eval hx, Op.unary]
/-- A text. -/
abbrev str (bs : List UInt8) : Value := .string ⟨bs.toArray⟩

theorem equalIn_bool {t : TypeId} (d : Nat) (b c : Bool) (ht : P.underlying t = some .bool) : (Op.equalIn (d + 1) t (.bool b) (.bool c)).run P w = .ok (b == c) w := by
  simp [Op.equalIn, run_underlying ht]
theorem equal_bool {t : TypeId} (b c : Bool) (ht : P.underlying t = some .bool) : (Op.equal t (.bool b) (.bool c)).run P w = .ok (b == c) w := equalIn_bool 9999 b c ht
theorem rn_eql_bool (E : Fr a n e) {t t' : TypeId} {b c : Bool} (ho : o.op = .binOp .eql t x y t') (hx : ev e x = some (.bool b)) (hy : ev e y = some (.bool c)) (ht : P.underlying t = some .bool) : RunsTo P o a w (.bool (b == c)) w :=
  rn_bin E ho hx hy (by simp [go_sem]) (by show ((do pure (.bool (← Op.equal t (.bool b) (.bool c))) : Sem Value)).run P w = _; rw [Sem.run_bind, equal_bool b c ht]; rfl)
theorem rn_neq_bool (E : Fr a n e) {t t' : TypeId} {b c : Bool} (ho : o.op = .binOp .neq t x y t') (hx : ev e x = some (.bool b)) (hy : ev e y = some (.bool c)) (ht : P.underlying t = some .bool) : RunsTo P o a w (.bool (b != c)) w :=
  rn_bin E ho hx hy (by simp [go_sem]) (by show ((do pure (.bool !(← Op.equal t (.bool b) (.bool c))) : Sem Value)).run P w = _; rw [Sem.run_bind, equal_bool b c ht]; rfl)
theorem beq_bytes (b c : List UInt8) : (b == c) = decide (b = c) := by
  by_cases h : b = c
  · simp [h]
  · simp [h]
theorem rn_eql_string (E : Fr a n e) {t t' : TypeId} {b c : List UInt8} (ho : o.op = .binOp .eql t x y t') (hx : ev e x = some (str b)) (hy : ev e y = some (str c)) : RunsTo P o a w (.bool (decide (b = c))) w :=
  rn_bin E ho hx hy (by simp [go_sem]) (by show (Op.stringOp .eql ⟨b.toArray⟩ ⟨c.toArray⟩).run P w = _; simp [Op.stringOp, beq_bytes])
theorem rn_neq_string (E : Fr a n e) {t t' : TypeId} {b c : List UInt8} (ho : o.op = .binOp .neq t x y t') (hx : ev e x = some (str b)) (hy : ev e y = some (str c)) : RunsTo P o a w (.bool (!decide (b = c))) w :=
  rn_bin E ho hx hy (by simp [go_sem]) (by show (Op.stringOp .neq ⟨b.toArray⟩ ⟨c.toArray⟩).run P w = _; simp [Op.stringOp, beq_bytes])
theorem equalIn_ptr_nil {t el : TypeId} (d : Nat) (ad : Option Addr) (ht : P.underlying t = some (.pointer el)) : (Op.equalIn (d + 1) t (.pointer ad) (.pointer none)).run P w = .ok ad.isNone w := by
  cases ad <;> simp [Op.equalIn, run_underlying ht]
theorem equal_ptr_nil {t el : TypeId} (ad : Option Addr) (ht : P.underlying t = some (.pointer el)) : (Op.equal t (.pointer ad) (.pointer none)).run P w = .ok ad.isNone w := equalIn_ptr_nil 9999 ad ht
theorem rn_eql_ptr_nil (E : Fr a n e) {t t' el : TypeId} {ad : Option Addr} (ho : o.op = .binOp .eql t x y t') (hx : ev e x = some (.pointer ad)) (hy : ev e y = some (.pointer none)) (ht : P.underlying t = some (.pointer el)) : RunsTo P o a w (.bool ad.isNone) w :=
  rn_bin E ho hx hy (by simp [go_sem]) (by show ((do pure (.bool (← Op.equal t (.pointer ad) (.pointer none))) : Sem Value)).run P w = _; rw [Sem.run_bind, equal_ptr_nil ad ht]; rfl)
theorem rn_neq_ptr_nil (E : Fr a n e) {t t' el : TypeId} {ad : Option Addr} (ho : o.op = .binOp .neq t x y t') (hx : ev e x = some (.pointer ad)) (hy : ev e y = some (.pointer none)) (ht : P.underlying t = some (.pointer el)) : RunsTo P o a w (.bool !ad.isNone) w :=
  rn_bin E ho hx hy (by simp [go_sem]) (by show ((do pure (.bool !(← Op.equal t (.pointer ad) (.pointer none))) : Sem Value)).run P w = _; rw [Sem.run_bind, equal_ptr_nil ad ht]; rfl)

theorem rn_nilCheck (E : Fr a n e) {ad : Addr} (ho : o.op = .nilCheck x) (hx : ev e x = some (.pointer (some ad))) : RunsTo P o a w (.pointer (some ad)) w := by
  simp [RunsTo, execOp, ho, E.eval hx]

/-- Where a field lies. -/
def fieldOff (P : Program) (s : TypeId) (f : Nat) : Option Nat :=
  match P.underlying s with
  | some (.struct fs) => match fs[f]? with
    | some fd => match P.info? fd.type with
      | some i => if i.size = 0 then none else some fd.offset
      | none => none
    | none => none
  | _ => none
theorem rn_fieldAddr (E : Fr a n e) {s : TypeId} {f off b q : Nat} (ho : o.op = .fieldAddr s x f) (hx : ev e x = some (.pointer (some ⟨b, off, none⟩))) (hf : fieldOff P s f = some q) :
    RunsTo P o a w (.pointer (some ⟨b, off + q, none⟩)) w := by
  unfold fieldOff at hf
  split at hf
  · rename_i fs hs
    split at hf
    · rename_i fd hfd
      split at hf
      · rename_i i hi
        split at hf
        · cases hf
        · rename_i hne
          cases hf
          simp [RunsTo, execOp, ho, E.eval hx, Instr.fieldAt, run_underlying hs, hfd, Instr.sureAddr, fieldPlace, sizeOf, typeInfo, hi, hne, Addr.add_lit]
      · cases hf
    · cases hf
  · cases hf

theorem rn_fieldAddr0 (E : Fr a n e) {s : TypeId} {f b q : Nat} (ho : o.op = .fieldAddr s x f) (hx : ev e x = some (.pointer (some ⟨b, 0, none⟩))) (hf : fieldOff P s f = some q) :
    RunsTo P o a w (.pointer (some ⟨b, q, none⟩)) w := by
  have h := rn_fieldAddr (w := w) E ho hx hf
  rwa [Nat.zero_add] at h

/-- A type of one cell. -/
def scalar (P : Program) (t : TypeId) : Bool :=
  match P.underlying t with
  | some (.struct _) | some (.array _ _) | none => false
  | some _ => true
theorem run_isAgg_scalar {t : TypeId} (h : scalar P t = true) : (isAgg t).run P w = .ok false w := by
  unfold scalar at h
  cases hd : P.underlying t with
  | none => simp [hd] at h
  | some d => cases d <;> first | (simp [hd] at h; done) | simp [isAgg, run_underlying hd]

theorem cell_at {b j : Nat} {cs : Array Value} {t : TypeId} {fr : Nat × Nat} (hb : w.heap[b]? = some (.cells cs t fr)) : w.cell? ⟨b, j, none⟩ = cs[j]? := cell_of_row w b j cs t fr hb

theorem rn_load (E : Fr a n e) {t T : TypeId} {b j : Nat} {l : List Value} {fr : Nat × Nat} (ho : o.op = .load t x) (hx : ev e x = some (.pointer (some ⟨b, j, none⟩))) (ht : scalar P t = true)
    (hb : w.heap[b]? = some (.cells l.toArray T fr)) (hv : l[j]? = some v) : RunsTo P o a w v w := by
  have h1 : w.cell? ⟨b, j, none⟩ = some v := by rw [cell_at hb, List.getElem?_toArray]; exact hv
  simp [RunsTo, execOp, ho, E.eval hx, Instr.loadAt, Instr.sureAddr, loadVar, run_isAgg_scalar ht, h1]

def aggSize (P : Program) (t : TypeId) : Option Nat :=
  match P.underlying t with
  | some (.struct _) | some (.array _ _) => (P.info? t).map (·.size)
  | _ => none
theorem run_isAgg_agg {t q : Nat} (h : aggSize P t = some q) : (isAgg t).run P w = .ok true w := by
  unfold aggSize at h
  cases hd : P.underlying t with
  | none => simp [hd] at h
  | some d => cases d <;> first | (simp [hd] at h; done) | simp [isAgg, run_underlying hd]
theorem info_agg {t q : Nat} (h : aggSize P t = some q) : (P.info? t).map (·.size) = some q := by
  unfold aggSize at h
  split at h <;> first | exact h | cases h
theorem run_sizeOf {t q : Nat} (h : (P.info? t).map (·.size) = some q) : (sizeOf t).run P w = .ok q w := by
  cases hi : P.info? t with
  | none => simp [hi] at h
  | some i => simp only [hi, Option.map_some, Option.some.injEq] at h; simp [sizeOf, typeInfo, hi, h]

theorem rn_load_agg (E : Fr a n e) {t T : TypeId} {b j q : Nat} {cs : Array Value} {fr : Nat × Nat} {vs : List Value} (ho : o.op = .load t x) (hx : ev e x = some (.pointer (some ⟨b, j, none⟩))) (ht : aggSize P t = some q)
    (hb : w.heap[b]? = some (.cells cs T fr)) (hl : vs.length = q) (hv : ∀ i u, vs[i]? = some u → cs[j + i]? = some u) : RunsTo P o a w (.agg vs.toArray) w := by
  subst hl
  have h1 : (loadCells ⟨b, j, none⟩ vs.length).run P w = .ok vs.toArray w :=
    run_loadCells_list w ⟨b, j, none⟩ vs fun i u hu => by
      rw [Addr.add_lit, cell_at hb]; exact hv i u hu
  simp [RunsTo, execOp, ho, E.eval hx, Instr.loadAt, Instr.sureAddr, loadVar, run_isAgg_agg ht, run_sizeOf (info_agg ht), h1]

theorem rn_indexAddr (E : Fr a n e) {t el : TypeId} {b off l c i s : Nat} {k : IntKind} {q : Int} (ho : o.op = .indexAddr t x y) (hx : ev e x = some (.slice (some ⟨b, off, none⟩) l c)) (hy : ev e y = some (.int k q))
    (ht : P.underlying t = some (.slice el)) (hs : (P.info? el).map (·.size) = some s) (hq : q = (i : Int)) (hi : i < l) : RunsTo P o a w (.pointer (some ⟨b, off + i * s, none⟩)) w := by
  subst hq
  simp [RunsTo, execOp, ho, E.eval hx, E.eval hy, Instr.indexAt, asIntOf, run_underlying ht, hi, run_sizeOf hs, Addr.add_lit]

theorem rn_indexAddr_array (E : Fr a n e) {t el : TypeId} {b off l i s : Nat} {k : IntKind} {q : Int} (ho : o.op = .indexAddr t x y) (hx : ev e x = some (.pointer (some ⟨b, off, none⟩))) (hy : ev e y = some (.int k q))
    (ht : P.underlying t = some (.array l el)) (hs : (P.info? el).map (·.size) = some s) (hq : q = (i : Int)) (hi : i < l) : RunsTo P o a w (.pointer (some ⟨b, off + i * s, none⟩)) w := by
  subst hq
  simp [RunsTo, execOp, ho, E.eval hx, E.eval hy, Instr.indexAt, Instr.sureAddr, asIntOf, run_underlying ht, hi, run_sizeOf hs, Addr.add_lit]

theorem rn_index_string (E : Fr a n e) {t : TypeId} {s : ByteArray} {i : Nat} {k : IntKind} {q : Int} {c : UInt8} (ho : o.op = .index t x y) (hx : ev e x = some (.string s)) (hy : ev e y = some (.int k q))
    (ht : P.underlying t = some .string) (hq : q = (i : Int)) (hi : s[i]? = some c) : RunsTo P o a w (.int .u8 c.toNat) w := by
  subst hq
  simp [RunsTo, execOp, ho, E.eval hx, E.eval hy, Instr.index, asIntOf, run_underlying ht, hi]

theorem rn_extract (E : Fr a n e) {i : Nat} {vs : List Value} (ho : o.op = .extract x i) (hx : ev e x = some (.tuple vs.toArray)) (hv : vs[i]? = some v) : RunsTo P o a w v w := by
  simp [RunsTo, execOp, ho, E.eval hx, Instr.extract, hv]

theorem rn_makeFunc (E : Fr a n e) {fn : Fn} {cs : List Operand} {vs : List Value} (ho : o.op = .makeFunc fn #[] cs.toArray) (hc : evs e cs = some vs) (hf : ∃ k, fn = .func k) : RunsTo P o a w (.func fn #[] vs.toArray) w := by
  obtain ⟨k, rfl⟩ := hf
  simp [RunsTo, execOp, ho, Instr.makeFunc, E.evals hc]

/-- The field of a struct at hand. -/
theorem rn_field (E : Fr a n e) {s : TypeId} {f q : Nat} {cs : Array Value} {fs : Array Field} {fd : Field} (ho : o.op = .field s x f) (hx : ev e x = some (.agg cs))
    (hs : P.underlying s = some (.struct fs)) (hf : fs[f]? = some fd) (ht : scalar P fd.type = true) (hq : fd.offset = q) (hv : cs[q]? = some v) : RunsTo P o a w v w := by
  subst hq
  simp [RunsTo, execOp, ho, E.eval hx, Instr.field, run_underlying hs, hf, part, asAgg, run_isAgg_scalar ht, hv]

end

section
variable {P : Program} {a : Act} {w : World} {o : Oper} {n : Nat} {e : List (Nat × Value)} {x y z : Operand} {v u : Value}
/-- A pointer and what it points at: new. -/
theorem rn_box (E : Fr a n e) {t : TypeId} (ho : o.op = .box t x) (hx : ev e x = some v) :
    RunsTo P o a w (.pointer (some ⟨w.heap.size, 0, none⟩)) (w.alloc (.cells v.cells t)) := by
  simp [RunsTo, execOp, ho, E.eval hx, Instr.box, newVar, newRow]
theorem rn_alloc (E : Fr a n e) {t : TypeId} {i : TypeInfo} {zv : Value} (ho : o.op = .alloc t) (hi : P.info? t = some i) (hz : i.zero = some zv) :
    RunsTo P o a w (.pointer (some ⟨w.heap.size, 0, none⟩)) (w.alloc (.cells zv.cells t)) := by
  have _ := E.nod
  simp [RunsTo, execOp, ho, Instr.alloc, newVar, newRow, zeroValue, typeInfo, hi, hz]
end
end Go.Sl
