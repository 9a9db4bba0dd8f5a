/-
  More operations: slices put together, structs loaded out of slices.
-/
import Derived.Test.YtenhebjhoicpjaaWalk
import Derived.Great.BuildSlice
namespace Go.Sl

section
variable {P : Program} {Q : Exit → Act → World → Prop} {a : Act} {w0 w : World} {o : Oper} {n : Nat} {e : List (Nat × Value)} {x y : Operand} {v u : Value} {C : Chunk} {As Ls Rs : List Chunk} {K : Act → World → Prop}

/-- Ways that meet behind a piece of code. -/
def Joined (J : Act → World → Prop) (Q : Exit → Act → World → Prop) : Exit → Act → World → Prop
  | .normal, a, w => J a w
  | e, a, w => Q e a w
theorem wp_join (J : Act → World → Prop) {c : Code} (h : c.wp P (Joined J Q) a w) (k : ∀ a' w', J a' w' → Q .normal a' w') : c.wp P Q a w :=
  wp_mono h fun e a' w' h => by cases e <;> first | exact k _ _ h | exact h
theorem joined_here {J : Act → World → Prop} (h : J a w) : Joined J Q .normal a w := h
theorem joined_ret {J : Act → World → Prop} (h : Q .ret a w) : Joined J Q .ret a w := h
theorem joined_exit {J : Act → World → Prop} {i : Nat} (h : Q (.exit i) a w) : Joined J Q (.exit i) a w := h

theorem flat_rep (L : List Value) : ∀ (k i : Nat), i < k * L.length → (List.replicate k L).flatten[i]? = L[i % L.length]?
  | 0, i, h => by simp at h
  | k + 1, i, h => by
    rw [List.replicate_succ, List.flatten_cons]
    by_cases hi : i < L.length
    · rw [List.getElem?_append_left hi, Nat.mod_eq_of_lt hi]
    · rw [List.getElem?_append_right (by omega), flat_rep L k (i - L.length) (by rw [Nat.add_mul, Nat.one_mul] at h; omega), Nat.mod_eq_sub_mod (by omega : i ≥ L.length)]

theorem made_flat (z : Value) (k : Nat) : ((Array.range (k * z.cells.size)).map (z.cells[· % z.cells.size]!)) = ((List.replicate k z.cells.toList).flatten).toArray := by
  have hl : ((List.replicate k z.cells.toList).flatten).length = k * z.cells.size := by simp [List.length_flatten]
  apply Array.ext
  · simp [List.length_flatten]
  · intro i h1 h2
    have h3 : i < k * z.cells.size := by simpa using h1
    have h4 := flat_rep z.cells.toList k i (by simpa using h3)
    have h5 : i < ((List.replicate k z.cells.toList).flatten).length := by rw [hl]; exact h3
    rw [List.getElem?_eq_getElem h5] at h4
    have hpos : 0 < z.cells.size := by
      rcases Nat.eq_zero_or_pos z.cells.size with h | h
      · rw [h] at h3; omega
      · exact h
    have hm : i % z.cells.size < z.cells.size := Nat.mod_lt _ hpos
    have h6 : i % z.cells.toList.length < z.cells.toList.length := by simpa using hm
    rw [List.getElem?_eq_getElem h6] at h4
    have h7 := Option.some.inj h4
    simp only [Array.getElem_map, Array.getElem_range, List.getElem_toArray, h7]
    simp [hm]

/-- What only reads, taken where it stands. -/
theorem wp_take (E : Fr a n e) {d : Nat} (hr : RunsTo P o a w v w) (hd : o.dst = some d) (hn : d < n) (k : ∀ a', Fr a' n ((d, v) :: e) → K a' w) : o.wp P a w K Q :=
  hr.wp (by rw [hd]; exact k _ (E.put hn v))

/-- A slice put together: its cells. -/
theorem wp_bslice (E : Fr a n e) (S : St w0 As w Ls) {t el : TypeId} {d len : Nat} {i : TypeInfo} {zv : Value} {ps : List (Nat × Operand)} {qs : List (Nat × Value)} {cells : List Value} (ho : o.op = .buildSlice t len ps.toArray) (hd : o.dst = some d) (hn : d < n)
    (hq : evps e ps = some qs) (ht : P.underlying t = some (.slice el)) (hi : P.info? el = some i) (hz : i.zero = some zv) (hs : zv.cells.size = i.size) (hsm : (len * i.size ≤ 2 ^ 24 ∧ 0 < len * i.size))
    (hf : fillL (fun j => some (j * i.size, i.size)) (List.replicate len zv.cells.toList).flatten qs = some cells)
    (k : ∀ a' w' b, Fr a' n ((d, .slice (some ⟨b, 0, none⟩) len len) :: e) → St w0 As w' ([(b, cel cells el)] :: Ls) → K a' w') : o.wp P a w K Q := by
  refine Go.wp_buildSlice t el len ps.toArray ho cells.toArray i zv ht hi hz (by omega) (by omega) ?_ ?_
  · rw [← hs, made_flat]
    have h2 := E.evps hq
    have h3 : (ps.toArray.map fun x => match x with | (i, x) => (i, a.eval x)).toList = qs := by rw [List.map_toArray]; exact h2
    rw [h3, hs]
    exact fill_eq _ _ _ _ hf
  · rw [hd]; exact k _ _ w.heap.size (E.put hn _) (S.alloc _)

/-- A struct off cells that stand somewhere. -/
theorem rn_load_aggc (E : Fr a n e) {t : TypeId} {b j q : Nat} {vs : List Value} (ho : o.op = .load t x) (hx : ev e x = some (.pointer (some ⟨b, j, none⟩))) (ht : aggSize P t = some q) (hl : vs.length = q)
    (hv : ∀ i u, vs[i]? = some u → w.cell? ⟨b, j + i, none⟩ = some u) : RunsTo P o a w (.agg vs.toArray) w := by
  subst hl
  have h1 : (loadCells ⟨b, j, none⟩ vs.length).run P w = .ok vs.toArray w :=
    run_loadCells_list w ⟨b, j, none⟩ vs fun i u hu => by rw [Addr.add_lit]; exact hv i u hu
  simp [RunsTo, execOp, ho, E.eval hx, Instr.loadAt, Instr.sureAddr, loadVar, run_isAgg_agg ht, run_sizeOf (info_agg ht), h1]
/-- A struct off its own block. -/
theorem rn_load_blk (E : Fr a n e) {t T : TypeId} {b j q : Nat} {l vs : List Value} {fr : Nat × Nat} (ho : o.op = .load t x) (hx : ev e x = some (.pointer (some ⟨b, j, none⟩))) (ht : aggSize P t = some q)
    (hb : w.heap[b]? = some (.cells l.toArray T fr)) (hl : vs.length = q) (hv : (l.drop j).take vs.length = vs) : RunsTo P o a w (.agg vs.toArray) w :=
  rn_load_agg E ho hx ht hb hl fun i u hu => by
    have h1 := (List.getElem?_eq_some_iff.1 hu).1
    rw [← hv, List.getElem?_take_of_lt h1, List.getElem?_drop] at hu
    simpa using hu

theorem flat_len {α : Type} {lay : α → List Value} {s : Nat} {as : List α} (hl : ∀ a, (lay a).length = s) : (as.flatMap lay).length = as.length * s := by
  induction as with
  | nil => simp
  | cons a r ih => rw [List.flatMap_cons, List.length_append, ih, hl, List.length_cons, Nat.succ_mul, Nat.add_comm]
theorem flat_at {α : Type} {lay : α → List Value} {s : Nat} (hl : ∀ a, (lay a).length = s) : ∀ (as : List α) (i : Nat) (hi : i < as.length) (j : Nat) (u : Value), (lay as[i])[j]? = some u → (as.flatMap lay)[i * s + j]? = some u
  | a :: r, 0, _, j, u, h => by
    have : j < (lay a).length := (List.getElem?_eq_some_iff.1 h).1
    rw [List.flatMap_cons, Nat.zero_mul, Nat.zero_add, List.getElem?_append_left this]
    exact h
  | a :: r, i + 1, hi, j, u, h => by
    rw [List.flatMap_cons, List.getElem?_append_right (by rw [hl, Nat.succ_mul]; omega), hl, Nat.succ_mul, show i * s + s + j - s = i * s + j by omega]
    exact flat_at hl r i (by simpa using hi) j u h
/-- An element's cells. -/
theorem Rd.elem {α : Type} {lay : α → List Value} {s : Nat} (hl : ∀ a, (lay a).length = s) {as : List α} {m b off c : Nat} (h : Rd C s (.slice (some ⟨b, off, none⟩) m c) m (as.flatMap lay)) (hC : ∀ x ∈ C, w.heap[x.1]? = some x.2)
    {i : Nat} (hi : i < as.length) : ∀ j u, (lay as[i])[j]? = some u → w.cell? ⟨b, off + i * s + j, none⟩ = some u := fun j u hu => by
  rw [Nat.add_assoc]
  exact h.cells hC rfl _ _ (flat_at hl as i hi j u hu)

/-- An owned slice with something in it, opened and closed again. -/
theorem Buf.opened {T : TypeId} {s m : Nat} {xs : List Value} (h : Buf C T s v m xs) (hm : 0 < m) : ∃ g c r, v = .slice (some ⟨g, 0, none⟩) m c ∧ C = [(g, cel (xs ++ r) T)] ∧ m ≤ c ∧ c ≤ maxLen ∧ xs.length + r.length = c * s := by
  rcases h.2.2 with ⟨_, h0, _⟩ | ⟨g, c, r, hv, hC, hn, hc, hl⟩
  · omega
  · exact ⟨g, c, r, hv, hC, hn, hc, hl⟩
theorem Buf.cap_le {T : TypeId} {s m c l : Nat} {ad : Option Addr} {xs : List Value} (h : Buf C T s (.slice ad l c) m xs) : m ≤ c := by
  rcases h.2.2 with ⟨hv, h0, _⟩ | ⟨g, c', r, hv, _, hn, _⟩
  · omega
  · cases hv; exact hn
theorem buf_mk {T : TypeId} {g c s m : Nat} {xs r : List Value} (hx : xs.length = m * s) (h1 : ∀ u ∈ xs, u.oneCell' = true) (hn : m ≤ c) (hc : c ≤ maxLen) (hl : xs.length + r.length = c * s) :
    Buf [(g, cel (xs ++ r) T)] T s (.slice (some ⟨g, 0, none⟩) m c) m xs := ⟨hx, h1, .inr ⟨g, c, r, rfl, rfl, hn, hc, hl⟩⟩
theorem ints_one {k : IntKind} (zs : List Int) : ∀ u ∈ zs.map (Value.int k), u.oneCell' = true := fun u hu => by
  obtain ⟨z, _, rfl⟩ := List.mem_map.1 hu
  rfl
theorem byt_ints (bs : List UInt8) : byt bs = (bs.map fun b => (b.toNat : Int)).map (Value.int .u8) := by simp [byt, Function.comp_def]

/-- A block of so many elements, read. -/
theorem rd_cells {g s m : Nat} {xs : List Value} {T : TypeId} (hx : xs.length = m * s) (h1 : ∀ u ∈ xs, u.oneCell' = true) (hm : m ≤ 4611686018427387904) (c : Nat) : Rd [(g, cel xs T)] s (.slice (some ⟨g, 0, none⟩) m c) m xs :=
  ⟨hx, h1, by simp only [maxLen]; omega, .inr ⟨g, 0, c, _, T, (0, 0), rfl, List.mem_singleton.2 rfl, fun i u hu => by simpa using hu⟩⟩
end
end Go.Sl
