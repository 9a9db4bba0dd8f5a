/-
  Chunks opened and closed by an equation; ways back to one chunk.
-/
import Derived.Test.YtenhebjhoicpjaaMore2
namespace Go.Sl
section
variable {w0 w w' : World} {As Ls Rs Bs : List Chunk} {A B C D : Chunk}
theorem St.openE (S : St w0 As w (A :: Ls)) (h : A = B ++ C) : St w0 As w (B :: C :: Ls) := by subst h; exact S.split
theorem St.closeE (S : St w0 As w (B :: C :: Ls)) (h : A = B ++ C) : St w0 As w (A :: Ls) := by subst h; exact S.join
/-- A chunk opened wherever it stands. -/
theorem St.openP (S : St w0 As w Ls) (p : Ls.Perm (A :: Rs)) (h : A = B ++ C) : St w0 As w (B :: C :: Rs) := (S.perm p).openE h
theorem St.closeP {L1 L2 : List Chunk} (S : St w0 As w Ls) (p : Ls.Perm (B :: L1)) (q : L1.Perm (C :: L2)) (h : A = B ++ C) : St w0 As w (A :: L2) := by subst h; exact S.gather p q
theorem St.back (S : St w0 As w (A :: Ls)) : Trs w0 w As [A] := (S.only (Bs := [A]) (sel_cons pk1 (sel_nil _))).tr
theorem St.back2 (S : St w0 As w (A :: B :: Ls)) : Trs w0 w As [A, B] := (S.only (Bs := [A, B]) (sel_cons pk1 (sel_cons pk1 (sel_nil _)))).tr
theorem St.perm2 (S : St w0 As w (A :: B :: Ls)) : St w0 As w (B :: A :: Ls) := S.perm (List.Perm.swap _ _ _)
theorem St.rot3 (S : St w0 As w (A :: B :: C :: Ls)) : St w0 As w (B :: C :: A :: Ls) := S.perm2.perm ((List.Perm.swap _ _ _).cons _)
theorem St.front1 {L1 : List Chunk} (S : St w0 As w Ls) (p : Ls.Perm (A :: L1)) : St w0 As w (A :: L1) := S.perm p
theorem St.front2 {L1 L2 : List Chunk} (S : St w0 As w Ls) (p : Ls.Perm (A :: L1)) (q : L1.Perm (B :: L2)) : St w0 As w (A :: B :: L2) := S.perm (p.trans (q.cons _))
theorem St.front3 {L1 L2 L3 : List Chunk} (S : St w0 As w Ls) (p : Ls.Perm (A :: L1)) (q : L1.Perm (B :: L2)) (r : L2.Perm (C :: L3)) : St w0 As w (A :: B :: C :: L3) := S.front2 p (q.trans (r.cons _))
theorem St.front4 {L1 L2 L3 L4 : List Chunk} (S : St w0 As w Ls) (p : Ls.Perm (A :: L1)) (q : L1.Perm (B :: L2)) (r : L2.Perm (C :: L3)) (t : L3.Perm (D :: L4)) : St w0 As w (A :: B :: C :: D :: L4) := S.front3 p q (r.trans (t.cons _))
theorem St.trim (S : St w0 As w Ls) (s : Sel Ls Bs Rs) : St w0 As w Bs := S.only s
/-- The cells from a place on. -/
theorem cells_drop {w : World} {b q : Nat} {L : List Value} (h : ∀ j u, L[j]? = some u → w.cell? ⟨b, q + j, none⟩ = some u) (d : Nat) : ∀ j u, (L.drop d)[j]? = some u → w.cell? ⟨b, q + d + j, none⟩ = some u := fun j u hu => by
  rw [List.getElem?_drop] at hu
  rw [Nat.add_assoc]
  exact h _ _ hu
theorem flat_set {α : Type} {lay : α → List Value} {s : Nat} (hl : ∀ a, (lay a).length = s) (y : α) : ∀ (xs : List α) (i : Nat), i < xs.length → (xs.set i y).flatMap lay = (xs.flatMap lay).take (i * s) ++ lay y ++ (xs.flatMap lay).drop (i * s + s)
  | a :: r, 0, _ => by
    rw [List.set_cons_zero, List.flatMap_cons, List.flatMap_cons, Nat.zero_mul, List.take_zero, List.nil_append, Nat.zero_add, ← hl a, List.drop_left]
  | a :: r, i + 1, h => by
    have ih := flat_set hl y r i (by simpa using h)
    have ha := hl a
    rw [List.set_cons_succ, List.flatMap_cons, List.flatMap_cons, ih, Nat.succ_mul, Nat.add_comm (i * s) s, ← ha, List.take_length_add_append, Nat.add_assoc, List.drop_length_add_append]
    simp [Nat.add_comm]
/-- An element of an owned slice is stored. -/
theorem wp_elem {P : Program} {a : Act} {o : Oper} {n : Nat} {e : List (Nat × Value)} {x z : Operand} {v : Value} {K : Act → World → Prop} {Q : Exit → Act → World → Prop}
    (E : Fr a n e) (S : St w0 As w Ls) {α : Type} {lay : α → List Value} {y : α} {xs : List α} {t T : TypeId} {b j i s m c : Nat} (ho : o.op = .store t x z) (hd : o.dst = none) (hx : ev e x = some (.pointer (some ⟨b, j, none⟩))) (hy : ev e z = some v)
    (hv : v.cells = (lay y).toArray) (h1 : ∀ u ∈ lay y, u.oneCell' = true) (hs : (P.info? t).map (·.size) = some s) (hl : ∀ a, (lay a).length = s)
    (hB : Buf C T s (.slice (some ⟨b, 0, none⟩) m c) m (xs.flatMap lay)) (hp : Ls.Perm (C :: Rs)) (hi : i < xs.length) (hj : j = i * s)
    (k : ∀ a' w' C', Fr a' n e → Buf C' T s (.slice (some ⟨b, 0, none⟩) m c) m ((xs.set i y).flatMap lay) → St w0 As w' (C' :: Rs) → K a' w') : o.wp P a w K Q := by
  subst hj
  have hlen : (xs.flatMap lay).length = xs.length * s := flat_len hl
  have hm : xs.length * s = m * s := by rw [← hlen, hB.1]
  have hset := flat_set hl y xs i hi
  have hle : i * s + s ≤ xs.length * s := by
    have := Nat.mul_le_mul_right s (show i + 1 ≤ xs.length from hi)
    rwa [Nat.succ_mul] at this
  rcases hB.2.2 with ⟨h, _⟩ | ⟨g, c', r, h, rfl, hn, hc, hcs⟩
  · cases h
  · cases h
    have hr := run_storeVar (P := P) (w := w) (b := b) (j := i * s) (l := xs.flatMap lay ++ r) (vs := lay y) (t := t) (T := T) (v := v) (by rw [hl]; exact hs) hv h1 (S.get hp) (by rw [hl, List.length_append, hlen]; omega)
    have he : (xs.flatMap lay ++ r).take (i * s) ++ lay y ++ (xs.flatMap lay ++ r).drop (i * s + (lay y).length) = (xs.set i y).flatMap lay ++ r := by
      rw [hset, hl, List.take_append_of_le_length (by omega), List.drop_append_of_le_length (by omega)]
      simp
    rw [he] at hr
    refine Skips.wp (w' := w.setRow b ((xs.set i y).flatMap lay ++ r).toArray) ?_ ?_
    · unfold Skips
      simp [execOp, ho, E.eval hx, E.eval hy, Instr.storeAt, Instr.sureAddr, hr]
    · rw [hd]
      have hl2 : ((xs.set i y).flatMap lay).length = (xs.flatMap lay).length := by rw [flat_len hl, flat_len hl, List.length_set]
      refine k _ _ [(b, cel ((xs.set i y).flatMap lay ++ r) T)] (E.put0 _) ⟨by rw [hl2, hB.1], fun u hu => ?_, .inr ⟨b, _, r, rfl, rfl, hn, hc, by rw [hl2]; exact hcs⟩⟩ (S.row hp)
      obtain ⟨q, hq, hu⟩ := List.mem_flatMap.1 hu
      rcases List.mem_or_eq_of_mem_set hq with hq | hq
      · exact hB.2.1 u (List.mem_flatMap.2 ⟨q, hq, hu⟩)
      · rw [hq] at hu; exact h1 u hu

section
variable {P : Program} {ops : Array Oper} {a : Act} {rest : List Oper} {o : Oper} {n d : Nat} {e : List (Nat × Value)} {x g : Operand} {v : Value} {K : Act → World → Prop} {Q : Exit → Act → World → Prop}
/-- A method's value: its receiver stands first. -/
theorem rn_bound (E : Fr a n e) {fn : Fn} {cs : List Operand} {vs : List Value} (ho : o.op = .makeFunc fn cs.toArray #[]) (hc : evs e cs = some vs) (hf : ∃ k, fn = .func k) : RunsTo P o a w (.func fn vs.toArray #[]) w := by
  obtain ⟨k, rfl⟩ := hf
  simp [RunsTo, execOp, ho, Instr.makeFunc, E.evals hc]
theorem wp_callb (E : Fr a n e) {xs : List Operand} {ts : Array TypeId} {f : FuncId} {fn : Func} {vs fs : List Value} {R : Value → World → Prop} (hd : o.dst = some d) (hn : d < n)
    (ho : o.op = .call { callee := .value g, args := xs.toArray, argTypes := ts }) (hgv : ev e g = some (.func (.func f) fs.toArray #[]))
    (hf : P.funcs[f]? = some fn) (hb : fn.body.isSome = true) (hnm : (fn.name == "runtime.NumGoroutine") = false)
    (hx : evs e xs = some vs) (hc : Ret P f (fs ++ vs).toArray w R) (k : ∀ v w', R v w' → ∀ a', Fr a' n ((d, v) :: e) → K a' w') : o.wp P a w K Q := by
  unfold Oper.wp
  have hr : (execOp a.eval o).run P w = .ok (.enter f (fs ++ vs).toArray) w := by
    unfold execOp
    simp [ho, resolve, E.eval hgv, Deferred.ofValue, invoke, E.evals hx, run_callFunc hf hb hnm]
  rw [hr]
  refine Calls.mono hc ?_
  rintro en w' ⟨v, rfl, h⟩
  rw [hd]
  exact k v _ h _ (E.put hn v)
theorem list_callb (E : Fr a n e) (hg : o.guard = none) (hd : o.dst = some d) (hn : d < n) {xs : List Operand} {ts : Array TypeId} {f : FuncId} {fn : Func} {vs fs : List Value} {R : Value → World → Prop}
    (ho : o.op = .call { callee := .value g, args := xs.toArray, argTypes := ts }) (hgv : ev e g = some (.func (.func f) fs.toArray #[]))
    (hf : P.funcs[f]? = some fn) (hb : fn.body.isSome = true) (hnm : (fn.name == "runtime.NumGoroutine") = false) (hx : evs e xs = some vs)
    (hc : Ret P f (fs ++ vs).toArray w R) (k : ∀ v w', R v w' → ∀ a', Fr a' n ((d, v) :: e) → wpList P ops Q rest a' w') : wpList P ops Q (o :: rest) a w :=
  list_wp hg (wp_callb E hd hn ho hgv hf hb hnm hx hc k)
end
end
end Go.Sl
