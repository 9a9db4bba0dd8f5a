/-
  clear; chunks opened and closed as lists; bytes turned.
-/
import Derived.Test.YtenhebjhoicpjaaMore7
namespace Go.Sl
section
variable {P : Program} {a : Act} {o : Oper} {n : Nat} {e : List (Nat × Value)} {x y : Operand} {w w0 : World} {As Ls Rs : List Chunk} {K : Act → World → Prop} {Q : Exit → Act → World → Prop}
/-- All of a block is cleared. -/
theorem wp_clear (E : Fr a n e) (S : St w0 As w Ls) {t el T : TypeId} {g m c : Nat} {i : TypeInfo} {z : Value} {l : List Value} (ho : o.op = .call { callee := .builtin .clear, args := #[x], argTypes := #[t] }) (hd : o.dst = none)
    (hx : ev e x = some (.slice (some ⟨g, 0, none⟩) m c)) (ht : P.underlying t = some (.slice el)) (hi : P.info? el = some i) (hz : i.zero = some z) (hzc : z.cells = #[z]) (h1 : z.oneCell' = true) (hp : Ls.Perm ([(g, cel l T)] :: Rs)) (hl : l.length = m)
    (k : ∀ a' w', Fr a' n e → St w0 As w' ([(g, cel (List.replicate m z) T)] :: Rs) → K a' w') : o.wp P a w K Q := by
  have hzr : (Builtin.zeroCells z.cells m).toList = List.replicate m z := by
    rw [hzc]
    simp [Builtin.zeroCells]
    apply List.ext_getElem
    · simp
    · intro i h1 h2
      simp [Nat.mod_one]
  by_cases hm : m = 0
  · subst hm
    have hl0 : l = [] := List.eq_nil_of_length_eq_zero hl
    subst hl0
    have hrun : RunsTo P o a w (.tuple #[]) w := by
      simp [RunsTo, execOp, ho, resolve, invoke, builtin, E.eval hx, Builtin.clear_, run_underlying ht]
    refine hrun.wp ?_
    rw [hd]; exact k _ _ (E.put0 _) (S.perm hp)
  · obtain ⟨m, rfl⟩ : ∃ q, m = q + 1 := ⟨m - 1, by omega⟩
    have hst := run_storeCells_at P g 0 T (List.replicate (m + 1) z) 0 l.toArray w (S.get hp) (by simp [hl]) (by intro v hv; rw [List.eq_of_mem_replicate hv]; exact h1)
    simp only [Nat.add_zero, List.take_zero, List.nil_append, Nat.zero_add, List.length_replicate] at hst
    rw [show l.drop (m + 1) = [] by rw [← hl, List.drop_length], List.append_nil] at hst
    have hrun : RunsTo P o a w (.tuple #[]) (w.setRow g (List.replicate (m + 1) z).toArray) := by
      simp [RunsTo, execOp, ho, resolve, invoke, builtin, E.eval hx, Builtin.clear_, run_underlying ht, zeroValue, typeInfo, hi, hz, hzr, hst]
    refine hrun.wp ?_
    rw [hd]; exact k _ _ (E.put0 _) (S.row hp)
end
section
variable {w0 w w' : World} {As Ls Rs Bs Ms : List Chunk} {A B C D : Chunk}
theorem St.openF (S : St w0 As w (Ms.flatten :: Ls)) : St w0 As w (Ms ++ Ls) :=
  ⟨S.hp0, by have h := S.tr; unfold Trs at *; simpa [List.flatten_cons, List.flatten_append] using h⟩
theorem St.closeF (S : St w0 As w (Ms ++ Ls)) : St w0 As w (Ms.flatten :: Ls) :=
  ⟨S.hp0, by have h := S.tr; unfold Trs at *; simpa [List.flatten_cons, List.flatten_append] using h⟩
end
/-- What a block holds, in other words. -/
theorem St.cel {w0 w : World} {As Ls : List Chunk} {b : Nat} {l l' : List Value} {T : TypeId} (S : St w0 As w ([(b, Sl.cel l T)] :: Ls)) (h : l = l') : St w0 As w ([(b, Sl.cel l' T)] :: Ls) := h ▸ S
/-- Bytes turned by a mask. -/
def xorB : List UInt8 → List UInt8 → List UInt8
  | x :: xs, m :: ms => (x ^^^ m) :: xorB xs ms
  | [], _ => []
  | x :: xs, [] => x :: xs
theorem xorB_length : ∀ (xs ms : List UInt8), (xorB xs ms).length = xs.length
  | x :: xs, m :: ms => by simp [xorB, xorB_length xs ms]
  | [], ms => by cases ms <;> rfl
  | x :: xs, [] => rfl
theorem xorB_nil (xs : List UInt8) : xorB xs [] = xs := by cases xs <;> rfl
theorem xorB_get : ∀ (xs ms : List UInt8) (i : Nat) (x m : UInt8), xs[i]? = some x → ms[i]? = some m → (xorB xs ms)[i]? = some (x ^^^ m)
  | [], ms, i, x, m, h, _ => by simp at h
  | a :: xs, [], i, x, m, _, h => by simp at h
  | a :: xs, b :: ms, 0, x, m, h1, h2 => by simp at h1 h2; subst h1 h2; rfl
  | a :: xs, b :: ms, i + 1, x, m, h1, h2 => by simp at h1 h2; simp [xorB]; exact xorB_get xs ms i x m h1 h2
theorem xorB_past : ∀ (xs ms : List UInt8) (i : Nat), ms.length ≤ i → (xorB xs ms)[i]? = xs[i]?
  | [], ms, i, h => by cases ms <;> rfl
  | a :: xs, [], i, _ => rfl
  | a :: xs, b :: ms, 0, h => by simp at h
  | a :: xs, b :: ms, i + 1, h => by simp [xorB]; exact xorB_past xs ms i (by simpa using h)
theorem xorB_step {xs ms : List UInt8} {i : Nat} {x m : UInt8} (hx : xs[i]? = some x) (hm : ms[i]? = some m) : (xorB xs (ms.take i)).set i (x ^^^ m) = xorB xs (ms.take (i + 1)) := by
  have hi : i < ms.length := (List.getElem?_eq_some_iff.1 hm).1
  have hix : i < xs.length := (List.getElem?_eq_some_iff.1 hx).1
  apply List.ext_getElem?
  intro j
  rw [List.getElem?_set]
  by_cases hj : i = j
  · subst hj
    rw [if_pos rfl, if_pos (by rw [xorB_length]; exact hix)]
    exact (xorB_get xs _ i x m hx (by rw [List.getElem?_take_of_lt (by omega)]; exact hm)).symm
  · rw [if_neg hj]
    rcases Nat.lt_or_ge j i with c | c
    · rcases Nat.lt_or_ge j xs.length with d | d
      · rw [xorB_get xs (ms.take i) j xs[j] ms[j] (by simp) (by simp [c]), xorB_get xs (ms.take (i + 1)) j xs[j] ms[j] (by simp) (by rw [List.getElem?_take_of_lt (by omega)]; simp)]
      · rw [List.getElem?_eq_none (by rw [xorB_length]; exact d), List.getElem?_eq_none (by rw [xorB_length]; exact d)]
    · rw [xorB_past _ _ _ (by rw [List.length_take]; omega), xorB_past _ _ _ (by rw [List.length_take]; omega)]
theorem xor8 (x m : UInt8) : bits .xor .u8 (x.toNat : Int) (m.toNat : Int) = ((x ^^^ m).toNat : Int) := by
  have h2 : ∀ z : UInt8, (BitVec.ofInt 8 (z.toNat : Int)).toNat = z.toNat := fun z => by
    rw [BitVec.ofInt_natCast, BitVec.toNat_ofNat]; exact Nat.mod_eq_of_lt z.toNat_lt
  show IntKind.u8.wrap (((BitVec.ofInt 8 (x.toNat : Int) ^^^ BitVec.ofInt 8 (m.toNat : Int)).toNat : Nat) : Int) = _
  rw [BitVec.toNat_xor, h2, h2, ← UInt8.toNat_xor, IntKind.wrap_u8]
  have := (x ^^^ m).toNat_lt
  omega
end Go.Sl
