/-
  Arrays as slices, appends in place, parts of blocks.
-/
import Derived.Test.YtenhebjhoicpjaaMore6
import Derived.LaidEqlPtr
namespace Go.Sl
section
variable {P : Program} {a : Act} {o : Oper} {n : Nat} {e : List (Nat × Value)} {x y z : Operand} {w w0 : World} {u v : Value} {As Ls Rs : List Chunk} {K : Act → World → Prop} {Q : Exit → Act → World → Prop}
/-- All of an array, as a slice. -/
theorem rn_slice_arr (E : Fr a n e) {t el : TypeId} {b j m : Nat} (ho : o.op = .slice t x none none none) (hx : ev e x = some (.pointer (some ⟨b, j, none⟩))) (ht : P.underlying t = some (.array m el)) (hs : (P.info? el).map (·.size) = some 1) (hm : 0 < m) :
    RunsTo P o a w (.slice (some ⟨b, j, none⟩) m m) w := by
  have h0 : ¬ m = 0 := by omega
  simp [RunsTo, execOp, ho, E.eval hx, Instr.sliceAt, Instr.sureAddr, run_underlying ht, Instr.sliceBounds, run_sizeOf hs, h0, Addr.add_lit]
/-- A piece of a block is read. -/
theorem rd_part {g m : Nat} {T : TypeId} (pre xs post : List Value) (hx : xs.length = m) (h1 : ∀ u ∈ xs, u.oneCell' = true) (hm : m ≤ 4611686018427387904) (c : Nat) : Rd [(g, cel (pre ++ xs ++ post) T)] 1 (.slice (some ⟨g, pre.length, none⟩) m c) m xs :=
  ⟨by omega, h1, by simp only [maxLen]; omega, .inr ⟨g, pre.length, c, (pre ++ xs ++ post).toArray, T, _, rfl, List.Mem.head _, fun i u hu => by
    have hi := (List.getElem?_eq_some_iff.1 hu).1
    simp only [List.getElem?_toArray]
    rw [List.append_assoc, List.getElem?_append_right (by omega), Nat.add_sub_cancel_left, List.getElem?_append_left hi]; exact hu⟩⟩
/-- An append that has room: in place. -/
theorem wp_append_in (E : Fr a n e) (S : St w0 As w Ls) {t tx T : TypeId} {d m q c g s : Nat} {i : TypeInfo} {l ys : List Value} (ho : o.op = .call { callee := .builtin .append, args := #[x, y], argTypes := #[t, tx] }) (hd : o.dst = some d) (hn : d < n)
    (hx : ev e x = some (.slice (some ⟨g, 0, none⟩) q c)) (hy : ev e y = some u) (hp : Ls.Perm ([(g, cel l T)] :: Rs)) (hroom : q + m ≤ c) (hlen : (q + m) * s ≤ l.length) (hs : Src P s tx u m ys w)
    (ht : P.underlying t = some (.slice T)) (hi : P.info? T = some i) (hsz : i.size = s)
    (k : ∀ a' w', Fr a' n ((d, .slice (some ⟨g, 0, none⟩) (q + m) c) :: e) → St w0 As w' ([(g, cel (l.take (q * s) ++ ys ++ l.drop ((q + m) * s)) T)] :: Rs) → K a' w') : o.wp P a w K Q := by
  subst hsz
  have hyl : ys.length = m * i.size := hs.newsLen
  have hst := run_storeCells_at P g (q * i.size) T ys 0 l.toArray w (S.get hp) (by rw [hyl, Nat.add_zero, ← Nat.add_mul]; simpa using hlen) hs.one
  simp only [Nat.add_zero, hyl, ← Nat.add_mul] at hst
  have hrun : RunsTo P o a w (.slice (some ⟨g, 0, none⟩) (q + m) c) (w.setRow g (l.take (q * i.size) ++ ys ++ l.drop ((q + m) * i.size)).toArray) := by
    rcases hs.kind with ⟨e', hk⟩ | hk <;> simp [RunsTo, execOp, ho, resolve, invoke, builtin, E.eval hx, E.eval hy, Builtin.append_, run_underlying ht, run_underlying hk, sizeOf, typeInfo, hi, hs.len, hroom, hs.cells, Addr.add_lit, hst]
  refine hrun.wp ?_
  rw [hd]
  exact k _ _ (E.put hn _) (S.row hp)
end
section
variable {P : Program} {a : Act} {o : Oper} {n : Nat} {e : List (Nat × Value)} {x y : Operand} {w : World}
/-- A block that is in the memory. -/
def Bk (w : World) (b : Nat) : Prop := ∃ l T, w.heap[b]? = some (cel l T)
theorem equal_ptrs {t te : TypeId} {i j : Nat} {z : TypeInfo} (hp : P.underlying t = some (.pointer te)) (hte : P.info? te = some z) (hsz : z.size ≠ 0) (h : i = j ∨ (Bk w i ∧ Bk w j)) :
    (Op.equal t (ptr i) (ptr j)).run P w = .ok (decide (i = j)) w := by
  by_cases hij : i = j
  · subst hij
    simp only [decide_true]
    have key : ∀ d : Nat, (Op.equalIn (d + 1) t (.pointer (some ⟨i, 0, none⟩)) (.pointer (some ⟨i, 0, none⟩))).run P w = .ok true w := fun d => by
      simp [Op.equalIn, run_underlying hp, sizeOf, typeInfo, hte, run_sameAddr_same]
    exact key 9999
  · obtain ⟨⟨l1, T1, h1⟩, ⟨l2, T2, h2⟩⟩ := h.resolve_left hij
    have hne : (⟨i, 0, none⟩ : Addr) ≠ ⟨j, 0, none⟩ := fun q => hij (by cases q; rfl)
    have key : ∀ d : Nat, (Op.equalIn (d + 1) t (.pointer (some ⟨i, 0, none⟩)) (.pointer (some ⟨j, 0, none⟩))).run P w = .ok false w := fun d => by
      simp [Op.equalIn, run_underlying hp, sizeOf, typeInfo, hte, hsz, run_sameAddr_other w hne (show w.heap[(⟨i, 0, none⟩ : Addr).block]? = some (.cells l1.toArray T1 (0, 0)) from h1) (show w.heap[(⟨j, 0, none⟩ : Addr).block]? = some (.cells l2.toArray T2 (0, 0)) from h2)]
    rw [decide_eq_false hij]
    exact key 9999
theorem rn_eql_ptrs (E : Fr a n e) {t t' te : TypeId} {i j : Nat} {z : TypeInfo} (ho : o.op = .binOp .eql t x y t') (hx : ev e x = some (ptr i)) (hy : ev e y = some (ptr j)) (hp : P.underlying t = some (.pointer te)) (hte : P.info? te = some z) (hsz : z.size ≠ 0) (h : i = j ∨ (Bk w i ∧ Bk w j)) :
    RunsTo P o a w (.bool (decide (i = j))) w :=
  rn_bin E ho hx hy (by simp [go_sem]) (by show ((do pure (.bool (← Op.equal t (ptr i) (ptr j))) : Sem Value)).run P w = _; rw [Sem.run_bind, equal_ptrs hp hte hsz h]; rfl)
theorem rn_neq_ptrs (E : Fr a n e) {t t' te : TypeId} {i j : Nat} {z : TypeInfo} (ho : o.op = .binOp .neq t x y t') (hx : ev e x = some (ptr i)) (hy : ev e y = some (ptr j)) (hp : P.underlying t = some (.pointer te)) (hte : P.info? te = some z) (hsz : z.size ≠ 0) (h : i = j ∨ (Bk w i ∧ Bk w j)) :
    RunsTo P o a w (.bool !(decide (i = j))) w :=
  rn_bin E ho hx hy (by simp [go_sem]) (by show ((do pure (.bool !(← Op.equal t (ptr i) (ptr j))) : Sem Value)).run P w = _; rw [Sem.run_bind, equal_ptrs hp hte hsz h]; rfl)
end
/-- A piece of a slice, by its address. -/
theorem sliced_at {g lo hi c : Nat} (h : lo < c) : sliced (some ⟨g, 0, none⟩) lo hi c 1 = .slice (some ⟨g, lo, none⟩) (hi - lo) (c - lo) := by
  unfold sliced
  have : ¬ c = lo := by omega
  simp [this, Addr.add]
  try omega
/-- One piece fills all. -/
theorem fill_one {sz : Nat} {z vs : List Value} (hz : z.length = sz) (hv : vs.length = sz) : fillL (fun j => some (j * sz, sz)) (List.replicate 1 z).flatten [(0, .agg vs.toArray)] = some vs := by
  subst hz
  have h1 : (List.replicate 1 z).flatten = z := by simp [List.replicate]
  simp [fillL, h1, hv]
section
variable {w0 w : World} {As Ls L1 L2 L3 L4 L5 L6 : List Chunk} {A B C D F G : Chunk}
theorem St.front5 (S : St w0 As w Ls) (p : Ls.Perm (A :: L1)) (q : L1.Perm (B :: L2)) (r : L2.Perm (C :: L3)) (t : L3.Perm (D :: L4)) (u : L4.Perm (F :: L5)) : St w0 As w (A :: B :: C :: D :: F :: L5) := S.front4 p q r (t.trans (u.cons _))
theorem St.front6 (S : St w0 As w Ls) (p : Ls.Perm (A :: L1)) (q : L1.Perm (B :: L2)) (r : L2.Perm (C :: L3)) (t : L3.Perm (D :: L4)) (u : L4.Perm (F :: L5)) (v : L5.Perm (G :: L6)) : St w0 As w (A :: B :: C :: D :: F :: G :: L6) := S.front5 p q r t (u.trans (v.cons _))
end
section
variable {P : Program} {a : Act} {o : Oper} {n : Nat} {e : List (Nat × Value)} {x y : Operand} {w : World}
theorem rn_is00 (E : Fr a n e) {t el : TypeId} {b l c i : Nat} {k : IntKind} {q : Int} (ho : o.op = .indexAddr t x y) (hx : ev e x = some (.slice (some ⟨b, 0, none⟩) l c)) (hy : ev e y = some (.int k q))
    (ht : P.underlying t = some (.slice el)) (hs : (P.info? el).map (·.size) = some 1) (hq : q = (i : Int)) (hi : i < l) : RunsTo P o a w (.pointer (some ⟨b, i, none⟩)) w := by
  have h := rn_indexAddr (P := P) (w := w) E ho hx hy ht hs hq hi
  rwa [Nat.zero_add, Nat.mul_one] at h
end
end Go.Sl
