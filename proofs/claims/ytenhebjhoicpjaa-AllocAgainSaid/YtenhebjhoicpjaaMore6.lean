/-
  Whole arrays: loads, stores, an array out of a slice; complements; memory of which only a list of chunks is known.
-/
import Derived.Test.YtenhebjhoicpjaaMore5
namespace Go.Sl
section
variable {P : Program} {a : Act} {o : Oper} {n : Nat} {e : List (Nat × Value)} {x y : Operand} {v u : Value} {K : Act → World → Prop} {Q : Exit → Act → World → Prop} {w0 w : World} {As Ls Rs : List Chunk} {A : Chunk}

/-- A chunk that is of no more use. -/
theorem St.tail (S : St w0 As w (A :: Ls)) : St w0 As w Ls := S.only (Bs := Ls) (Rs := [A]) (by
  unfold Sel
  exact (List.perm_append_comm (l₁ := [A]) (l₂ := Ls)))
theorem St.tail2 {B : Chunk} (S : St w0 As w (A :: B :: Ls)) : St w0 As w Ls := S.tail.tail
theorem St.tail3 {B C : Chunk} (S : St w0 As w (A :: B :: C :: Ls)) : St w0 As w Ls := S.tail.tail.tail

/-- A chunk taken out wherever it stands. -/
theorem St.del (S : St w0 As w Ls) (p : Ls.Perm (A :: Rs)) : St w0 As w Rs := (S.perm p).tail
/-- A call that has the chunks behind some others. -/
theorem St.under (pre : List Chunk) {w' : World} {Ls' : List Chunk} (S : St w0 As w (pre ++ Ls)) (t : Trs w w' Ls Ls') : St w0 As w' (pre ++ Ls') :=
  (S.call (Bs := Ls) (Rs := pre) (by unfold Sel; exact List.perm_append_comm) t).perm List.perm_append_comm

theorem rn_com (E : Fr a n e) {t : TypeId} {p r : Int} (ho : o.op = .unOp .xor t x) (hx : ev e x = some (.int .u32 p)) (hr : bits .xor .u32 4294967295 p = r) : RunsTo P o a w (.int .u32 r) w := by
  subst hr
  have h : (Op.unary .xor (.int .u32 p)).run P w = .ok (.int .u32 (bits .xor .u32 4294967295 p)) w := by rfl
  simp [RunsTo, execOp, ho, E.eval hx, h]

theorem rn_s2a (E : Fr a n e) {t el : TypeId} {l c m : Nat} {ad : Option Addr} (ho : o.op = .sliceToArrayPointer t x) (hx : ev e x = some (.slice ad l c)) (ht : P.underlying t = some (.array m el)) (hm : m ≤ l) : RunsTo P o a w (.pointer ad) w := by
  simp [RunsTo, execOp, ho, E.eval hx, Instr.arrayAt, run_underlying ht, Nat.not_lt.2 hm]

/-- The address of an element of a block that is an array of single cells. -/
theorem rn_ia0 (E : Fr a n e) {t el : TypeId} {b l i : Nat} {k : IntKind} {q : Int} (ho : o.op = .indexAddr t x y) (hx : ev e x = some (.pointer (some ⟨b, 0, none⟩))) (hy : ev e y = some (.int k q))
    (ht : P.underlying t = some (.array l el)) (hs : (P.info? el).map (·.size) = some 1) (hq : q = (i : Int)) (hi : i < l) : RunsTo P o a w (.pointer (some ⟨b, i, none⟩)) w := by
  have h := rn_indexAddr_array (P := P) (w := w) E ho hx hy ht hs hq hi
  rwa [Nat.zero_add, Nat.mul_one] at h

theorem blk_cell {b j : Nat} {l : List Value} {T : TypeId} {fr : Nat × Nat} (hb : w.heap[b]? = some (.cells l.toArray T fr)) (hj : l[j]? = some v) : w.cell? ⟨b, j, none⟩ = some v := by
  rw [cell_at hb]; simpa using hj

/-- A whole block is loaded. -/
theorem rn_load_all (E : Fr a n e) {t T : TypeId} {b q : Nat} {l : List Value} {fr : Nat × Nat} (ho : o.op = .load t x) (hx : ev e x = some (.pointer (some ⟨b, 0, none⟩))) (ht : aggSize P t = some q)
    (hb : w.heap[b]? = some (.cells l.toArray T fr)) (hl : l.length = q) : RunsTo P o a w (.agg l.toArray) w :=
  rn_load_blk E ho hx ht hb hl (by rw [List.drop_zero, List.take_length])

/-- A whole block is stored. -/
theorem wp_storeA (E : Fr a n e) (S : St w0 As w Ls) {t T : TypeId} {b : Nat} {l vs : List Value} (ho : o.op = .store t x y) (hd : o.dst = none) (hx : ev e x = some (.pointer (some ⟨b, 0, none⟩))) (hy : ev e y = some (.agg vs.toArray))
    (h1 : ∀ u ∈ vs, u.oneCell' = true) {q : Nat} (hs : (P.info? t).map (·.size) = some q) (hq : vs.length = q) (hp : Ls.Perm ([(b, cel l T)] :: Rs)) (hj : vs.length = l.length)
    (k : ∀ a' w', Fr a' n e → St w0 As w' ([(b, cel vs T)] :: Rs) → K a' w') : o.wp P a w K Q := by
  subst hq
  refine wp_storeN E S ho hd hx hy h1 hs hp (by omega) fun a' w' E' S' => k a' w' E' ?_
  rw [List.take_zero, List.nil_append, Nat.zero_add, hj, List.drop_length, List.append_nil] at S'
  exact S'
end
theorem u32s_one (l : List Int) : ∀ u ∈ l.map (Value.int .u32), u.oneCell' = true := fun u hu => by
  obtain ⟨z, -, rfl⟩ := List.mem_map.1 hu; rfl
end Go.Sl
