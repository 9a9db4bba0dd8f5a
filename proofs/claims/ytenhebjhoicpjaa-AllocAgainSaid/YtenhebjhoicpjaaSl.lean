/-
  A small separation-style logic over the model: which blocks a call owns and what it makes of them; what a frame is known to hold; the rules of control.
-/
import Derived.WalkKit
import Derived.Deep.LoopGhost
import Derived.OrdersHeld
import Derived.KernelRfl
namespace Go.Sl

/-- Blocks with what they hold. -/
abbrev Chunk := List (Nat × Obj)

/-- The blocks are there, no number twice. -/
def Own (w : World) (L : Chunk) : Prop := (L.map (·.1)).Nodup ∧ ∀ x ∈ L, w.heap[x.1]? = some x.2

theorem Own.perm {w : World} {L L' : Chunk} (h : Own w L) (p : L.Perm L') : Own w L' :=
  ⟨(p.map (·.1)).nodup_iff.1 h.1, fun x hx => h.2 x (p.mem_iff.2 hx)⟩

theorem Own.left {w : World} {A B : Chunk} (h : Own w (A ++ B)) : Own w A :=
  ⟨by have := h.1; rw [List.map_append, List.nodup_append] at this; exact this.1, fun x hx => h.2 x (List.mem_append_left _ hx)⟩

theorem Own.right {w : World} {A B : Chunk} (h : Own w (A ++ B)) : Own w B :=
  ⟨by have := h.1; rw [List.map_append, List.nodup_append] at this; exact this.2.1, fun x hx => h.2 x (List.mem_append_right _ hx)⟩

theorem Own.lt {w : World} {L : Chunk} (h : Own w L) {x : Nat × Obj} (hx : x ∈ L) : x.1 < w.heap.size := (Array.getElem?_eq_some_iff.1 (h.2 x hx)).1

theorem own_cons {w : World} {x : Nat × Obj} {L : Chunk} : Own w (x :: L) ↔ w.heap[x.1]? = some x.2 ∧ x.1 ∉ L.map (·.1) ∧ Own w L := by
  constructor
  · intro h
    have h1 := h.1
    simp only [List.map_cons, List.nodup_cons] at h1
    exact ⟨h.2 x (List.mem_cons_self ..), h1.1, h1.2, fun y hy => h.2 y (List.mem_cons_of_mem _ hy)⟩
  · rintro ⟨h1, h2, h3⟩
    refine ⟨by simp only [List.map_cons, List.nodup_cons]; exact ⟨h2, h3.1⟩, fun y hy => ?_⟩
    rcases List.mem_cons.1 hy with rfl | hy
    · exact h1
    · exact h3.2 y hy

theorem own_congr {w w' : World} {L : Chunk} (h : Own w L) (e : ∀ x ∈ L, w'.heap[x.1]? = w.heap[x.1]?) : Own w' L :=
  ⟨h.1, fun x hx => (e x hx).trans (h.2 x hx)⟩

/-- What a step does: of 'A' it makes 'B', and whatever else is owned stays. -/
structure Tr (w w' : World) (A B : Chunk) : Prop where
  os : w'.os = w.os
  tape : w'.tape = w.tape
  output : w'.output = w.output
  size : w.heap.size ≤ w'.heap.size
  own : ∀ R, Own w (A ++ R) → Own w' (B ++ R)

theorem Tr.refl (w : World) (A : Chunk) : Tr w w A A := ⟨rfl, rfl, rfl, Nat.le_refl _, fun _ h => h⟩
theorem Tr.trans {w w1 w2 : World} {A B C : Chunk} (h : Tr w w1 A B) (k : Tr w1 w2 B C) : Tr w w2 A C :=
  ⟨k.os.trans h.os, k.tape.trans h.tape, k.output.trans h.output, Nat.le_trans h.size k.size, fun R o => k.own R (h.own R o)⟩
theorem Tr.frame {w w' : World} {A B : Chunk} (h : Tr w w' A B) (F : Chunk) : Tr w w' (A ++ F) (B ++ F) :=
  ⟨h.os, h.tape, h.output, h.size, fun R o => by rw [List.append_assoc] at *; exact h.own _ o⟩
theorem Tr.perm {w w' : World} {A A' B B' : Chunk} (h : Tr w w' A B) (p : A'.Perm A) (q : B.Perm B') : Tr w w' A' B' :=
  ⟨h.os, h.tape, h.output, h.size, fun R o => (h.own R (o.perm (p.append_right R))).perm (q.append_right R)⟩
/-- What is no longer wanted is dropped. -/
theorem Tr.drop {w w' : World} {A B C : Chunk} (h : Tr w w' A (B ++ C)) : Tr w w' A B :=
  ⟨h.os, h.tape, h.output, h.size, fun R o => by
    have h1 := h.own R o
    have h2 : Own w' (C ++ (B ++ R)) := h1.perm (by
      rw [List.append_assoc]
      exact (List.perm_append_comm (l₁ := B) (l₂ := C ++ R)).trans (by rw [List.append_assoc]; exact (List.perm_append_comm (l₁ := R) (l₂ := B)).append_left C))
    exact h2.right⟩
theorem Tr.drew {w w' : World} {A B : Chunk} (h : Tr w w' A B) : Tr w w'.drew A B := ⟨h.os, h.tape, h.output, h.size, fun R o => h.own R o⟩
theorem Tr.pre {w w' : World} {A B : Chunk} (h : Tr w.drew w' A B) : Tr w w' A B := ⟨h.os, h.tape, h.output, h.size, fun R o => h.own R o⟩

theorem tr_alloc (w : World) (o : Obj) (A : Chunk) : Tr w (w.alloc o) A ((w.heap.size, o) :: A) :=
  ⟨rfl, rfl, rfl, by simp, fun R h => by
    refine own_cons.2 ⟨heap_alloc_new w o, fun hm => ?_, own_congr h fun x hx => heap_alloc_old w o (h.lt hx)⟩
    obtain ⟨x, hx, e⟩ := List.mem_map.1 hm
    have := h.lt hx
    dsimp only at e
    omega⟩

/-- A block's content turns. -/
theorem tr_block {w w' : World} {b : Nat} {o o' : Obj} (ho : w'.os = w.os) (ht : w'.tape = w.tape) (hu : w'.output = w.output) (hs : w'.heap.size = w.heap.size)
    (hb : w.heap[b]? = some o → w'.heap[b]? = some o') (hk : ∀ k, k ≠ b → w'.heap[k]? = w.heap[k]?) (A : Chunk) : Tr w w' ((b, o) :: A) ((b, o') :: A) :=
  ⟨ho, ht, hu, by omega, fun R h => by
    obtain ⟨h1, h2, h3⟩ := own_cons.1 h
    refine own_cons.2 ⟨hb h1, h2, own_congr h3 fun x hx => hk _ fun e => h2 ?_⟩
    rw [← e]
    exact List.mem_map.2 ⟨x, hx, rfl⟩⟩

/-- What is below and was not owned stays. -/
theorem Tr.keep {w w' : World} {A B : Chunk} (h : Tr w w' A B) (ha : Own w A) {k : Nat} {o : Obj} (hk : w.heap[k]? = some o) (hn : k ∉ A.map (·.1)) : w'.heap[k]? = some o := by
  have h1 : Own w (A ++ [(k, o)]) := by
    have : Own w ((k, o) :: A) := own_cons.2 ⟨hk, hn, ha⟩
    exact this.perm (by simpa using (List.perm_append_comm (l₁ := [(k, o)]) (l₂ := A)))
  have h2 := (h.own _ h1).right
  exact h2.2 (k, o) (List.mem_singleton.2 rfl)

/-! ### Many chunks -/

def Hp (w : World) (Ls : List Chunk) : Prop := Own w Ls.flatten
def Trs (w w' : World) (As Bs : List Chunk) : Prop := Tr w w' As.flatten Bs.flatten

theorem flatten_perm {As Bs : List Chunk} (p : As.Perm Bs) : As.flatten.Perm Bs.flatten := p.flatten

theorem Trs.refl (w : World) (As : List Chunk) : Trs w w As As := Tr.refl _ _
theorem Trs.drew {w w' : World} {As Bs : List Chunk} (h : Trs w w' As Bs) : Trs w w'.drew As Bs := Tr.drew h
theorem Trs.trans {w w1 w2 : World} {As Bs Cs : List Chunk} (h : Trs w w1 As Bs) (k : Trs w1 w2 Bs Cs) : Trs w w2 As Cs := Tr.trans h k

/-- 'As' are among 'Ls', 'Rs' are the others. -/
def Sel (Ls As Rs : List Chunk) : Prop := Ls.Perm (As ++ Rs)
theorem sel_nil (Ls : List Chunk) : Sel Ls [] Ls := List.Perm.refl _
theorem sel_cons {Ls As Rs Ls' : List Chunk} {A : Chunk} (h : Ls.Perm (A :: Ls')) (k : Sel Ls' As Rs) : Sel Ls (A :: As) Rs := h.trans (k.cons A)
theorem pick_head (A : Chunk) (Ls : List Chunk) : (A :: Ls).Perm (A :: Ls) := List.Perm.refl _
theorem pick_tail {A B : Chunk} {Ls Rs : List Chunk} (h : Ls.Perm (A :: Rs)) : (B :: Ls).Perm (A :: B :: Rs) := (h.cons B).trans (List.Perm.swap A B Rs)

theorem Trs.call {w0 w w' : World} {As Ls Bs Cs Rs : List Chunk} (T : Trs w0 w As Ls) (s : Sel Ls Bs Rs) (t : Trs w w' Bs Cs) : Trs w0 w' As (Cs ++ Rs) := by
  have h1 : Tr w w' (Bs.flatten ++ Rs.flatten) (Cs.flatten ++ Rs.flatten) := Tr.frame t _
  refine Tr.trans (Tr.perm T (List.Perm.refl _) ?_) (Tr.perm h1 (List.Perm.refl _) ?_)
  · rw [← List.flatten_append]; exact flatten_perm s
  · rw [List.flatten_append]

theorem Trs.only {w w' : World} {As Ls Bs Rs : List Chunk} (T : Trs w w' As Ls) (s : Sel Ls Bs Rs) : Trs w w' As Bs := by
  refine Tr.drop (C := Rs.flatten) (Tr.perm T (List.Perm.refl _) ?_)
  rw [← List.flatten_append]; exact flatten_perm s

theorem Hp.sel {w : World} {Ls As Rs : List Chunk} (h : Hp w Ls) (s : Sel Ls As Rs) : Hp w As := by
  have h1 : Own w (As.flatten ++ Rs.flatten) := by rw [← List.flatten_append]; exact Own.perm h (flatten_perm s)
  exact h1.left

/-- The state of a walk: it began at 'w0' owning 'As', it stands at 'w' owning 'Ls'. -/
structure St (w0 : World) (As : List Chunk) (w : World) (Ls : List Chunk) : Prop where
  hp0 : Hp w0 As
  tr : Trs w0 w As Ls

section
variable {w0 w w' : World} {As Ls Bs Cs Rs : List Chunk}
theorem St.begin (h : Hp w As) : St w As w As := ⟨h, Trs.refl _ _⟩
theorem St.hp (S : St w0 As w Ls) : Hp w Ls := by
  have h := S.tr.own [] (by rw [List.append_nil]; exact S.hp0)
  rw [List.append_nil] at h
  exact h
theorem St.call (S : St w0 As w Ls) (s : Sel Ls Bs Rs) (t : Trs w w' Bs Cs) : St w0 As w' (Cs ++ Rs) := ⟨S.hp0, S.tr.call s t⟩
theorem St.call1 {C : Chunk} (S : St w0 As w Ls) (s : Sel Ls Bs Rs) (t : Trs w w' Bs [C]) : St w0 As w' (C :: Rs) := S.call s t
theorem St.call2 {C D : Chunk} (S : St w0 As w Ls) (s : Sel Ls Bs Rs) (t : Trs w w' Bs [C, D]) : St w0 As w' (C :: D :: Rs) := S.call s t
theorem St.call3 {C D F : Chunk} (S : St w0 As w Ls) (s : Sel Ls Bs Rs) (t : Trs w w' Bs [C, D, F]) : St w0 As w' (C :: D :: F :: Rs) := S.call s t
theorem St.call0 (S : St w0 As w Ls) (s : Sel Ls Bs Rs) (t : Trs w w' Bs []) : St w0 As w' Rs := S.call s t
/-- A callee that owns nothing and hands back nothing of its own. -/
theorem St.quiet (S : St w0 As w Ls) (t : Trs w w' [] []) : St w0 As w' Ls := S.call (sel_nil _) t
theorem St.fresh {C : Chunk} (S : St w0 As w Ls) (t : Trs w w' [] [C]) : St w0 As w' (C :: Ls) := S.call (sel_nil _) t
theorem St.drew (S : St w0 As w Ls) : St w0 As w.drew Ls := ⟨S.hp0, S.tr.drew⟩
theorem St.only (S : St w0 As w Ls) (s : Sel Ls Bs Rs) : St w0 As w Bs := ⟨S.hp0, S.tr.only s⟩
theorem St.perm (S : St w0 As w Ls) (p : Ls.Perm Bs) : St w0 As w Bs := ⟨S.hp0, Tr.perm S.tr (List.Perm.refl _) (flatten_perm p)⟩
theorem St.all (S : St w0 As w Ls) (t : Trs w w' Ls Bs) : St w0 As w' Bs := ⟨S.hp0, S.tr.trans t⟩
/-- Two chunks as one, one as two. -/
theorem St.split {A B : Chunk} (S : St w0 As w ((A ++ B) :: Ls)) : St w0 As w (A :: B :: Ls) :=
  ⟨S.hp0, by have h := S.tr; unfold Trs at *; simpa [List.flatten_cons, List.append_assoc] using h⟩
theorem St.join {A B : Chunk} (S : St w0 As w (A :: B :: Ls)) : St w0 As w ((A ++ B) :: Ls) :=
  ⟨S.hp0, by have h := S.tr; unfold Trs at *; simpa [List.flatten_cons, List.append_assoc] using h⟩
theorem St.gather {A B : Chunk} {L1 L2 : List Chunk} (S : St w0 As w Ls) (h1 : Ls.Perm (A :: L1)) (h2 : L1.Perm (B :: L2)) : St w0 As w ((A ++ B) :: L2) :=
  (S.perm (h1.trans (h2.cons A))).join
theorem St.dropNil (S : St w0 As w ([] :: Ls)) : St w0 As w Ls := ⟨S.hp0, by have h := S.tr; unfold Trs at *; simpa using h⟩
theorem St.addNil (S : St w0 As w Ls) : St w0 As w ([] :: Ls) := ⟨S.hp0, by have h := S.tr; unfold Trs at *; simpa using h⟩
theorem St.alloc (S : St w0 As w Ls) (o : Obj) : St w0 As (w.alloc o) ([(w.heap.size, o)] :: Ls) :=
  ⟨S.hp0, Tr.trans S.tr (by simpa using tr_alloc w o Ls.flatten)⟩
theorem St.block {b : Nat} {o o' : Obj} {F : World} (S : St w0 As w Ls) (hp : Ls.Perm ([(b, o)] :: Rs))
    (ho : F.os = w.os) (ht : F.tape = w.tape) (hu : F.output = w.output) (hs : F.heap.size = w.heap.size)
    (hb : w.heap[b]? = some o → F.heap[b]? = some o') (hk : ∀ k, k ≠ b → F.heap[k]? = w.heap[k]?) : St w0 As F ([(b, o')] :: Rs) :=
  ⟨S.hp0, Tr.trans (Tr.perm S.tr (List.Perm.refl _) (flatten_perm hp)) (by simpa using tr_block ho ht hu hs hb hk Rs.flatten)⟩
end

/-- The chunks' blocks stand in this world (nothing is said of numbers met twice): what reading wants. -/
def Stab (Ls : List Chunk) (w : World) : Prop := ∀ C ∈ Ls, ∀ x ∈ C, w.heap[x.1]? = some x.2

theorem Hp.stab {w : World} {Ls : List Chunk} (h : Hp w Ls) : Stab Ls w := fun C hC x hx => h.2 x (List.mem_flatten.2 ⟨C, hC, hx⟩)
theorem St.stab {w0 w : World} {As Ls : List Chunk} (S : St w0 As w Ls) : Stab Ls w := S.hp.stab
theorem Stab.at {Ls : List Chunk} {w : World} {C : Chunk} (h : Stab Ls w) (hC : C ∈ Ls) : ∀ x ∈ C, w.heap[x.1]? = some x.2 := h C hC
theorem Stab.one {Ls : List Chunk} {w : World} {b : Nat} {o : Obj} (h : Stab Ls w) (hC : [(b, o)] ∈ Ls) : w.heap[b]? = some o := h _ hC (b, o) (List.mem_singleton.2 rfl)
theorem Stab.sub {Ls Ms : List Chunk} {w : World} (h : Stab Ls w) (hs : ∀ C ∈ Ms, C ∈ Ls) : Stab Ms w := fun C hC => h C (hs C hC)
theorem Stab.sel {Ls As Rs : List Chunk} {w : World} (h : Stab Ls w) (s : Sel Ls As Rs) : Stab As w := fun C hC => h C (s.mem_iff.2 (List.mem_append_left _ hC))
theorem Stab.drew {Ls : List Chunk} {w : World} (h : Stab Ls w) : Stab Ls w.drew := h

/-! ### What the frame holds -/

def lk : List (Nat × Value) → Nat → Option Value
  | [], _ => none
  | (i, v) :: r, k => bif Nat.beq i k then some v else lk r k

structure Fr (a : Act) (n : Nat) (e : List (Nat × Value)) : Prop where
  size : a.tmps.size = n
  nod : a.defers = []
  get : ∀ k v, lk e k = some v → a.tmps[k]? = some v

def ev (e : List (Nat × Value)) : Operand → Option Value
  | .tmp t => lk e t
  | .const v => some v
  | .global g => some (.pointer (some ⟨g, 0, none⟩))
  | .func f => some (.func (.func f) #[] #[])

section
variable {a : Act} {n : Nat} {e : List (Nat × Value)}
theorem Fr.eval (E : Fr a n e) {x : Operand} {v : Value} (h : ev e x = some v) : a.eval x = v := by
  cases x with
  | tmp t => have := E.get t v h; simp [Act.eval, Array.getD_eq_getD_getElem?, this]
  | const u => simpa [ev, Act.eval] using h
  | global g => simpa [ev, Act.eval] using h
  | func f => simpa [ev, Act.eval] using h

theorem Fr.put (E : Fr a n e) {d : Nat} (hd : d < n) (v : Value) : Fr (a.put (some d) v) n ((d, v) :: e) := by
  refine ⟨by simp [Act.put, E.size], by simpa [Act.put] using E.nod, fun k u h => ?_⟩
  simp only [lk] at h
  cases hb : Nat.beq d k with
  | true =>
    have hk : d = k := Nat.eq_of_beq_eq_true hb
    subst hk
    simp only [hb, cond_true] at h
    cases h
    simp [Act.put, E.size, hd]
  | false =>
    have hk : d ≠ k := fun h' => by subst h'; simp at hb
    simp only [hb, cond_false] at h
    simp [Act.put, hk, E.get k u h]

theorem Fr.put0 (E : Fr a n e) (v : Value) : Fr (a.put none v) n e := E

/-- Only some slots are still wanted. -/
theorem Fr.keep (E : Fr a n e) {e' : List (Nat × Value)} (h : ∀ x ∈ e', lk e x.1 = some x.2) : Fr a n e' := by
  refine ⟨E.size, E.nod, ?_⟩
  intro k v hk
  have : (k, v) ∈ e' := by
    clear h
    induction e' with
    | nil => simp [lk] at hk
    | cons x r ih =>
      obtain ⟨i, u⟩ := x
      simp only [lk] at hk
      cases hb : Nat.beq i k with
      | true =>
        simp only [hb, cond_true] at hk
        cases hk
        rw [Nat.eq_of_beq_eq_true hb]
        exact List.mem_cons_self ..
      | false =>
        simp only [hb, cond_false] at hk
        exact List.mem_cons_of_mem _ (ih hk)
  exact E.get k v (h (k, v) this)

theorem keep_nil {e : List (Nat × Value)} : ∀ x ∈ ([] : List (Nat × Value)), lk e x.1 = some x.2 := fun _ h => by cases h
theorem keep_cons {e r : List (Nat × Value)} {k : Nat} {v : Value} (h : lk e k = some v) (hr : ∀ x ∈ r, lk e x.1 = some x.2) : ∀ x ∈ (k, v) :: r, lk e x.1 = some x.2 := by
  intro x hx
  rcases List.mem_cons.1 hx with rfl | hx
  · exact h
  · exact hr x hx
end

/-! ### Entering and leaving -/

section
variable {P : Program} {f : FuncId} {fn : Func} {c : Code} {w : World} {R : Ending → World → Prop}

theorem fr_enter (n : Nat) (args : Array Value) (e : List (Nat × Value)) (hn : args.size ≤ n) (he : ∀ k v, lk e k = some v → args[k]? = some v) :
    Fr { tmps := args ++ Array.replicate (n - args.size) undef, defers := [] } n e :=
  ⟨by simp; omega, rfl, fun k v h => by
    have h1 := he k v h
    have : k < args.size := (Array.getElem?_eq_some_iff.1 h1).1
    simp only [Array.getElem?_append, this, if_true]
    exact h1⟩

theorem enter_any (n : Nat) (args : Array Value) (e : List (Nat × Value)) (hf : P.funcs[f]? = some fn) (hb : fn.body = some c) (hn : fn.ntmps = n) (hs : args.size ≤ n)
    (he : ∀ k v, lk e k = some v → args[k]? = some v) (h : ∀ a, Fr a n e → c.wp P (bodyPost P fn R) a w) : Calls P f args w R :=
  calls_of_wp hf hb (by subst hn; exact h _ (fr_enter _ args e hs he))

theorem enter0 (n : Nat) (hf : P.funcs[f]? = some fn) (hb : fn.body = some c) (hn : fn.ntmps = n)
    (h : ∀ a, Fr a n [] → c.wp P (bodyPost P fn R) a w) : Calls P f #[] w R :=
  enter_any n #[] _ hf hb hn (Nat.zero_le _) (fun k v h => by simp [lk] at h) h
theorem lk_args (e : List (Nat × Value)) (args : Array Value) (h : ∀ x ∈ e, args[x.1]? = some x.2) : ∀ k v, lk e k = some v → args[k]? = some v := by
  intro k v hk
  induction e with
  | nil => simp [lk] at hk
  | cons x r ih =>
    obtain ⟨i, u⟩ := x
    simp only [lk] at hk
    cases hb : Nat.beq i k with
    | true =>
      simp only [hb, cond_true] at hk
      cases hk
      rw [← Nat.eq_of_beq_eq_true hb]
      exact h (i, _) (List.mem_cons_self ..)
    | false =>
      simp only [hb, cond_false] at hk
      exact ih (fun y hy => h y (List.mem_cons_of_mem _ hy)) hk
theorem enter1 (n : Nat) {x0 : Value} (hf : P.funcs[f]? = some fn) (hb : fn.body = some c) (hn : fn.ntmps = n) (hs : 1 ≤ n)
    (h : ∀ a, Fr a n [(0, x0)] → c.wp P (bodyPost P fn R) a w) : Calls P f #[x0] w R :=
  enter_any n _ _ hf hb hn hs (lk_args _ _ (by simp)) h
theorem enter2 (n : Nat) {x0 x1 : Value} (hf : P.funcs[f]? = some fn) (hb : fn.body = some c) (hn : fn.ntmps = n) (hs : 2 ≤ n)
    (h : ∀ a, Fr a n [(0, x0), (1, x1)] → c.wp P (bodyPost P fn R) a w) : Calls P f #[x0, x1] w R :=
  enter_any n _ _ hf hb hn hs (lk_args _ _ (by simp)) h
theorem enter3 (n : Nat) {x0 x1 x2 : Value} (hf : P.funcs[f]? = some fn) (hb : fn.body = some c) (hn : fn.ntmps = n) (hs : 3 ≤ n)
    (h : ∀ a, Fr a n [(0, x0), (1, x1), (2, x2)] → c.wp P (bodyPost P fn R) a w) : Calls P f #[x0, x1, x2] w R :=
  enter_any n _ _ hf hb hn hs (lk_args _ _ (by simp)) h
theorem enter4 (n : Nat) {x0 x1 x2 x3 : Value} (hf : P.funcs[f]? = some fn) (hb : fn.body = some c) (hn : fn.ntmps = n) (hs : 4 ≤ n)
    (h : ∀ a, Fr a n [(0, x0), (1, x1), (2, x2), (3, x3)] → c.wp P (bodyPost P fn R) a w) : Calls P f #[x0, x1, x2, x3] w R :=
  enter_any n _ _ hf hb hn hs (lk_args _ _ (by simp)) h
theorem enter5 (n : Nat) {x0 x1 x2 x3 x4 : Value} (hf : P.funcs[f]? = some fn) (hb : fn.body = some c) (hn : fn.ntmps = n) (hs : 5 ≤ n)
    (h : ∀ a, Fr a n [(0, x0), (1, x1), (2, x2), (3, x3), (4, x4)] → c.wp P (bodyPost P fn R) a w) : Calls P f #[x0, x1, x2, x3, x4] w R :=
  enter_any n _ _ hf hb hn hs (lk_args _ _ (by simp)) h

variable {a : Act} {n : Nat} {e : List (Nat × Value)}
theorem ret0 (E : Fr a n e) (hr : fn.results = #[]) (h : R (.returned (.tuple #[])) w) : bodyPost P fn R .ret a w :=
  ⟨E.nod, _, results_none hr _ _ _, h⟩
theorem end0 (E : Fr a n e) (hr : fn.results = #[]) (h : R (.returned (.tuple #[])) w) : bodyPost P fn R .normal a w :=
  ⟨E.nod, _, results_none hr _ _ _, h⟩
theorem ret1 (E : Fr a n e) {t : Nat} {v : Value} (hr : fn.results = #[.tmp t]) (hv : lk e t = some v) (h : R (.returned v) w) : bodyPost P fn R .ret a w :=
  ⟨E.nod, v, by rw [results_tmp hr, Array.getD_eq_getD_getElem?, E.get t v hv]; rfl, h⟩
theorem ret2 (E : Fr a n e) {t s : Nat} {v x : Value} (hr : fn.results = #[.tmp t, .tmp s]) (hv : lk e t = some v) (hx : lk e s = some x) (h : R (.returned (.tuple #[v, x])) w) :
    bodyPost P fn R .ret a w :=
  ⟨E.nod, .tuple #[v, x], by rw [results_tmp2 hr, Array.getD_eq_getD_getElem?, Array.getD_eq_getD_getElem?, E.get t v hv, E.get s x hx]; rfl, h⟩
theorem ret3 (E : Fr a n e) {t s u : Nat} {v x y : Value} (hr : fn.results = #[.tmp t, .tmp s, .tmp u]) (hv : lk e t = some v) (hx : lk e s = some x) (hy : lk e u = some y)
    (h : R (.returned (.tuple #[v, x, y])) w) : bodyPost P fn R .ret a w :=
  ⟨E.nod, .tuple #[v, x, y], by
    have h1 := E.get t v hv
    have h2 := E.get s x hx
    have h3 := E.get u y hy
    simp [results, hr, h1, h2, h3], h⟩
end

/-! ### Control -/

section
variable {P : Program} {Q : Exit → Act → World → Prop} {a : Act} {w : World} {K : Act → World → Prop} {n : Nat} {e : List (Nat × Value)}
theorem then_normal (h : K a w) : Exit.then K Q .normal a w := h
theorem then_k {Y : Act → World → Prop} (hK : ∀ a w, Y a w → K a w) (h : Y a w) : Exit.then K Q .normal a w := hK _ _ h
theorem then_ret (h : Q .ret a w) : Exit.then K Q .ret a w := h
theorem then_exit {i : Nat} (h : Q (.exit i) a w) : Exit.then K Q (.exit i) a w := h
theorem then_panic {c : List PanicEntry} (h : Q (.panic c) a w) : Exit.then K Q (.panic c) a w := h
theorem in_normal {i : Nat} (h : Q .normal a w) : Exit.inBlock i Q .normal a w := h
theorem in_ret {i : Nat} (h : Q .ret a w) : Exit.inBlock i Q .ret a w := h
theorem in_exit {i : Nat} (h : Q .normal a w) : Exit.inBlock i Q (.exit i) a w := by simpa [Exit.inBlock] using h
theorem in_exit_ne {i j : Nat} (hne : (j == i) = false) (h : Q (.exit j) a w) : Exit.inBlock i Q (.exit j) a w := by
  have : j ≠ i := by simpa using hne
  simpa [Exit.inBlock, this] using h
theorem if_bool (E : Fr a n e) {c : Operand} {x y : Code} {b : Bool} (hc : ev e c = some (.bool b)) (ht : b = true → x.wp P Q a w) (hf : b = false → y.wp P Q a w) : (Code.cond c x y).wp P Q a w :=
  wp_cond_split (E.eval hc) ht hf
theorem if_true' (E : Fr a n e) {c : Operand} {x y : Code} {b : Bool} (hc : ev e c = some (.bool b)) (hb : b = true) (ht : x.wp P Q a w) : (Code.cond c x y).wp P Q a w :=
  wp_cond_split (E.eval hc) (fun _ => ht) (fun h => by rw [hb] at h; cases h)
theorem if_false' (E : Fr a n e) {c : Operand} {x y : Code} {b : Bool} (hc : ev e c = some (.bool b)) (hb : b = false) (hf : y.wp P Q a w) : (Code.cond c x y).wp P Q a w :=
  wp_cond_split (E.eval hc) (fun h => by rw [hb] at h; cases h) (fun _ => hf)
end

/-! ### Operations in order -/

/-- An operation runs to a value. -/
def RunsTo (P : Program) (o : Oper) (a : Act) (w : World) (v : Value) (w' : World) : Prop := (execOp a.eval o).run P w = .ok (.value v) w'

section
variable {P : Program} {ops : Array Oper} {Q : Exit → Act → World → Prop} {a : Act} {w w' : World} {rest : List Oper} {o : Oper} {n d : Nat} {e : List (Nat × Value)} {v : Value}

theorem RunsTo.wp (h : RunsTo P o a w v w') {K : Act → World → Prop} (k : K (a.put o.dst v) w') : o.wp P a w K Q := by
  unfold Oper.wp
  rw [h]
  exact k

theorem list_wp (hg : o.guard = none) (h : o.wp P a w (wpList P ops Q rest) Q) : wpList P ops Q (o :: rest) a w := by
  unfold wpList
  rw [if_pos (by simp [Region.wanted, hg])]
  exact .inl h

theorem list_pure (E : Fr a n e) (hg : o.guard = none) (hd : o.dst = some d) (hn : d < n) (hr : RunsTo P o a w v w)
    (k : ∀ a', Fr a' n ((d, v) :: e) → wpList P ops Q rest a' w) : wpList P ops Q (o :: rest) a w :=
  list_wp hg (hr.wp (by rw [hd]; exact k _ (E.put hn v)))

theorem list_to (E : Fr a n e) (hg : o.guard = none) (hd : o.dst = some d) (hn : d < n) (hr : RunsTo P o a w v w')
    (k : ∀ a', Fr a' n ((d, v) :: e) → wpList P ops Q rest a' w') : wpList P ops Q (o :: rest) a w :=
  list_wp hg (hr.wp (by rw [hd]; exact k _ (E.put hn v)))

theorem list_bare (E : Fr a n e) (hg : o.guard = none) (hd : o.dst = none) (hr : RunsTo P o a w v w')
    (k : ∀ a', Fr a' n e → wpList P ops Q rest a' w') : wpList P ops Q (o :: rest) a w :=
  list_wp hg (hr.wp (by rw [hd]; exact k _ (E.put0 v)))

/-- What yields nothing (a store). -/
def Skips (P : Program) (o : Oper) (a : Act) (w w' : World) : Prop := (execOp a.eval o).run P w = .ok .skip w'

theorem list_skip (E : Fr a n e) (hg : o.guard = none) (hd : o.dst = none) (hr : Skips P o a w w')
    (k : ∀ a', Fr a' n e → wpList P ops Q rest a' w') : wpList P ops Q (o :: rest) a w :=
  list_wp hg (by unfold Oper.wp; rw [hr]; show wpList P ops Q rest (a.put o.dst undef) w'; rw [hd]; exact k _ (E.put0 _))

/-- The guard as the frame has it: a slot of a Bool. -/
theorem wanted_eq (E : Fr a n e) {j t : Nat} {want b : Bool} {oj : Oper} (hg : o.guard = some (j, want)) (hj : ops[j]? = some oj) (ht : oj.dst = some t) (hb : lk e t = some (.bool b)) :
    Region.wanted o (yielded ops a.tmps) = (b == want) := by
  have h1 := E.get t _ hb
  simp only [Region.wanted, hg, yielded, hj, Option.bind_some, ht]
  simp [h1]

theorem list_guard_yes (E : Fr a n e) {j t : Nat} {want b : Bool} {oj : Oper} (hg : o.guard = some (j, want)) (hj : ops[j]? = some oj) (ht : oj.dst = some t) (hb : lk e t = some (.bool b)) (hbw : b = want)
    (hd : o.dst = some d) (hn : d < n) (hr : RunsTo P o a w v w)
    (k : ∀ a', Fr a' n ((d, v) :: e) → wpList P ops Q rest a' w) : wpList P ops Q (o :: rest) a w := by
  unfold wpList
  rw [wanted_eq E hg hj ht hb, hbw]
  simp only [BEq.rfl, if_true]
  exact .inl (hr.wp (by rw [hd]; exact k _ (E.put hn v)))

theorem list_guard_wp (E : Fr a n e) {j t : Nat} {want b : Bool} {oj : Oper} (hg : o.guard = some (j, want)) (hj : ops[j]? = some oj) (ht : oj.dst = some t) (hb : lk e t = some (.bool b)) (hbw : b = want)
    (h : o.wp P a w (wpList P ops Q rest) Q) : wpList P ops Q (o :: rest) a w := by
  unfold wpList
  rw [wanted_eq E hg hj ht hb, hbw]
  simp only [BEq.rfl, if_true]
  exact .inl h

theorem wanted_undef (E : Fr a n e) {j t : Nat} {want : Bool} {oj : Oper} (hg : o.guard = some (j, want)) (hj : ops[j]? = some oj) (ht : oj.dst = some t) (hb : lk e t = some undef) :
    Region.wanted o (yielded ops a.tmps) = false := by
  have h1 := E.get t _ hb
  simp only [Region.wanted, hg, yielded, hj, Option.bind_some, ht]
  simp [h1, undef]
theorem list_guard_undef (E : Fr a n e) {j t : Nat} {want : Bool} {oj : Oper} (hg : o.guard = some (j, want)) (hj : ops[j]? = some oj) (ht : oj.dst = some t) (hb : lk e t = some undef)
    (hd : o.dst = some d) (hn : d < n)
    (k : ∀ a', Fr a' n ((d, undef) :: e) → wpList P ops Q rest a' w) : wpList P ops Q (o :: rest) a w := by
  unfold wpList
  rw [wanted_undef E hg hj ht hb]
  simp only [Bool.false_eq_true, if_false]
  rw [hd]; exact k _ (E.put hn undef)

theorem list_guard_no (E : Fr a n e) {j t : Nat} {want b : Bool} {oj : Oper} (hg : o.guard = some (j, want)) (hj : ops[j]? = some oj) (ht : oj.dst = some t) (hb : lk e t = some (.bool b)) (hbw : b = !want)
    (hd : o.dst = some d) (hn : d < n)
    (k : ∀ a', Fr a' n ((d, undef) :: e) → wpList P ops Q rest a' w) : wpList P ops Q (o :: rest) a w := by
  unfold wpList
  rw [wanted_eq E hg hj ht hb, hbw]
  have : ((!want) == want) = false := by cases want <;> rfl
  simp only [this, Bool.false_eq_true, if_false]
  rw [hd]
  exact k _ (E.put hn undef)

theorem region_list {id : Nat} {l : List Oper} (h : wpList P l.toArray Q l a w) : (Code.region id l.toArray false).wp P Q a w := wp_region_lit h
end

/-! ### Regions that draw their order: what only reads is taken as early as may be, what acts comes one by one; the last that acts may break what the others read, if all that read stand ahead of it by the edges -/

/-- 'i' stands ahead of 'j' by the edges. -/
def ahead (ops : Array Oper) : Nat → Nat → Nat → Bool
  | 0, _, _ => false
  | fuel + 1, i, j => match ops[j]? with
    | none => false
    | some o => o.after.any fun e => Region.binds .any e && (e.on == i || ahead ops fuel i e.on)

/-- The listed are closed downward. -/
def Closed (ops : Array Oper) (listed : Array Bool) : Prop := ∀ j o, ops[j]? = some o → listed.getD j false = true → ∀ e ∈ o.after, Region.binds .any e = true → listed.getD e.on false = true

theorem Closed.ahead {ops : Array Oper} {listed : Array Bool} (h : Closed ops listed) {i : Nat} (hi : listed.getD i false = false) : ∀ (fuel j : Nat), ahead ops fuel i j = true → listed.getD j false = false
  | 0, _, ha => by simp [Sl.ahead] at ha
  | fuel + 1, j, ha => by
    unfold Sl.ahead at ha
    split at ha
    · cases ha
    · rename_i o ho
      rw [Array.any_eq_true'] at ha
      obtain ⟨e, he, hb⟩ := ha
      simp only [Bool.and_eq_true, Bool.or_eq_true, beq_iff_eq] at hb
      cases hj : listed.getD j false with
      | false => rfl
      | true =>
        have h1 := h j o ho hj e he hb.1
        rcases hb.2 with h2 | h2
        · rw [h2, hi] at h1; cases h1
        · rw [h.ahead hi fuel e.on h2] at h1; cases h1

theorem Closed.set {ops : Array Oper} {listed : Array Bool} (h : Closed ops listed) {i : Nat} (hi : i ∈ Region.ready .any ops listed) : Closed ops (listed.setIfInBounds i true) := by
  intro j o ho hj e he hb
  obtain ⟨_, oi, hoi, hall⟩ := mem_ready.1 hi
  by_cases hij : i = j
  · subst hij
    rw [ho] at hoi; cases hoi
    exact getD_set_true (hall e he hb)
  · rw [getD_set_ne false hij] at hj
    exact getD_set_true (h j o ho hj e he hb)

section
variable {P : Program} {ops : Array Oper} {Q : Exit → Act → World → Prop} {S : World → Prop} {js : Nat}

/-- What holds of the world while the region runs. -/
def SS (S : World → Prop) (js : Nat) (listed : Array Bool) (w : World) : Prop := listed.getD js false = true ∨ S w

def wpAnyM (P : Program) (ops : Array Oper) (Q : Exit → Act → World → Prop) (S : World → Prop) (js : Nat) : Nat → Array Bool → Act → World → Prop
  | 0, listed, a, w => Region.ready .any ops listed = [] ∧ Q .normal a w
  | fuel + 1, listed, a, w => (Region.ready .any ops listed = [] → Q .normal a w) ∧
    ∀ i ∈ Region.ready .any ops listed, wpOp P ops Q i (fun a' w' => SS S js (listed.setIfInBounds i true) w' ∧ wpAnyM P ops Q S js fuel (listed.setIfInBounds i true) a' w') a w

theorem wpAny_of_M : ∀ (fuel : Nat) (listed : Array Bool) (a : Act) (w : World), wpAnyM P ops Q S js fuel listed a w → wpAny P .any ops Q fuel listed a w
  | 0, _, _, _, h => h
  | fuel + 1, _, _, _, h => ⟨h.1, fun i hi => wpOp_mono (fun _ _ h' => wpAny_of_M fuel _ _ _ h'.2) (h.2 i hi)⟩

/-- What an operation may count on: 'S' if it stands ahead of the one that may break it, else nothing. -/
def Counts (S : World → Prop) (b : Bool) (w : World) : Prop := b = true → S w

theorem unlisted_of_ready {listed : Array Bool} {i : Nat} (h : i ∈ Region.ready .any ops listed) : listed.getD i false = false := by
  have h0 := (mem_ready.1 h).1
  rcases Nat.lt_or_ge i listed.size with h' | h'
  · simpa [h'] using h0
  · simp [Array.getD, Nat.not_lt.2 h']

/-- An operation that only reads may be taken first. -/
theorem wpAnyM_first {i : Nat} {oi : Oper} {v : Value} {b : Bool} {fz : Nat} (hi : ops[i]? = some oi) (hsel : ∀ (j : Nat) (o : Oper) cs c, ops[j]? = some o → o.op ≠ .select cs c)
    (hQ : ∀ c a w, Q (.panic c) (a.put oi.dst v) w → Q (.panic c) a w) (hb : b = true → ahead ops fz i js = true ∨ js = ops.size) (hij : js ≠ i) :
    ∀ (fuel : Nat) (listed : Array Bool) (a : Act) (w : World), listed.size = ops.size → Closed ops listed →
      (∀ j oj, ops[j]? = some oj → j ≠ i → listed.getD j true = false → (∀ e ∈ oj.after, Region.binds .any e = true → e.on ≠ i) → oi.apart ops oj = true) →
      i ∈ Region.ready .any ops listed → YieldsIf P ops (Counts S b) oi v a → SS S js listed w →
      wpAnyM P ops Q S js fuel (listed.setIfInBounds i true) (a.put oi.dst v) w → wpAnyM P ops Q S js (fuel + 1) listed a w := by
  have counts : ∀ {listed : Array Bool} {w : World}, listed.size = ops.size → Closed ops listed → i ∈ Region.ready .any ops listed → SS S js listed w → Counts S b w := by
    intro listed w hz hc hr hS hbt
    rcases hS with h | h
    · rcases hb hbt with hb | hb
      · rw [hc.ahead (unlisted_of_ready hr) fz js hb] at h; cases h
      · simp [Array.getD, hb, hz] at h
    · exact h
  intro fuel
  induction fuel with
  | zero =>
    intro listed a w hz hc _ hr hy hS H
    refine ⟨fun h => (by rw [h] at hr; cases hr), fun j hj => ?_⟩
    by_cases hji : j = i
    · subst hji
      refine hy.wpOp hi (counts hz hc hr hS) ⟨?_, H⟩
      rcases hS with h | h
      · exact .inl (getD_set_true h)
      · exact .inr h
    · have := ready_mono hj hji
      rw [H.1] at this
      cases this
  | succ fuel ih =>
    intro listed a w hz hc hfree hr hy hS H
    refine ⟨fun h => (by rw [h] at hr; cases hr), fun j hj => ?_⟩
    by_cases hji : j = i
    · subst hji
      refine hy.wpOp hi (counts hz hc hr hS) ⟨?_, H⟩
      rcases hS with h | h
      · exact .inl (getD_set_true h)
      · exact .inr h
    · have h1 := H.2 j (ready_mono hj hji)
      obtain ⟨hjun, oj, hoj, hall⟩ := mem_ready.1 hj
      have hnot : ∀ e ∈ oj.after, Region.binds .any e = true → e.on ≠ i := fun e he hbd heq => by
        have h1 := hall e he hbd
        rw [heq, unlisted_of_ready hr] at h1
        cases h1
      have h2 := wpOp_putIf hoj (hfree j oj hoj hji hjun hnot) (fun cs c => hsel i oi cs c hi) (fun cs c => hsel j oj cs c hoj) hQ hy h1
      have hfree' : ∀ k ok, ops[k]? = some ok → k ≠ i → (listed.setIfInBounds j true).getD k true = false →
          (∀ e ∈ ok.after, Region.binds .any e = true → e.on ≠ i) → oi.apart ops ok = true := fun k ok hk hki hun hno => by
        refine hfree k ok hk hki ?_ hno
        by_cases hjk : j = k
        · subst hjk; exact hjun
        · rw [getD_set_ne true hjk] at hun; exact hun
      have hr' := ready_mono hr (Ne.symm hji)
      refine wpOp_mono (fun a' w' h3 => ?_) h2
      have hS' : SS S js (listed.setIfInBounds j true) w' := by
        rcases h3.2.1 with h | h
        · refine .inl ?_
          rw [Array.setIfInBounds_comm _ _ (Ne.symm hji), getD_set_ne false (Ne.symm hij)] at h
          exact h
        · exact .inr h
      refine ⟨hS', ih (listed.setIfInBounds j true) a' w' (by simpa using hz) (hc.set hj) hfree' hr' h3.1 hS' ?_⟩
      rw [Array.setIfInBounds_comm _ _ hji]
      exact h3.2.2
end

/-- An order; a fork where two that act are ready at once. -/
inductive Ordr where
  | nil
  | cons (x : Nat × Nat) (r : Ordr)
  | fork (i : Nat) (r : Ordr) (j : Nat) (q : Ordr)
  | fork3 (i : Nat) (r : Ordr) (j : Nat) (q : Ordr) (l : Nat) (s : Ordr)
def Ordr.ofL : List (Nat × Nat) → Ordr
  | [] => .nil
  | x :: r => .cons x (ofL r)
def Ordr.len : Ordr → Nat
  | .nil => 0
  | .cons _ r => r.len + 1
  | .fork _ r _ _ => r.len + 1
  | .fork3 _ r _ _ _ _ => r.len + 1

/-- Whether 'ord' is an order that every order amounts to. Kinds: 0: taken, counting on S; 1: acts, S holds behind it; 2: taken, in whatever world; 3: acts, S need not hold behind it (the first such, and all that act behind it). -/
def mixB (ops : Array Oper) (js : Nat) : Ordr → Array Bool → Bool
  | .nil, listed => (Region.ready .any ops listed).isEmpty
  | .cons (i, 0) r, listed => (Region.ready .any ops listed).contains i && Region.free .any ops listed i && js != i && (ahead ops ops.size i js || js == ops.size) && mixB ops js r (listed.setIfInBounds i true)
  | .cons (i, 2) r, listed => (Region.ready .any ops listed).contains i && Region.free .any ops listed i && js != i && mixB ops js r (listed.setIfInBounds i true)
  | .cons (i, 1) r, listed => (Region.ready .any ops listed == [i]) && js != i && mixB ops js r (listed.setIfInBounds i true)
  | .cons (i, 3) r, listed => (Region.ready .any ops listed == [i]) && (js == i || listed.getD js false) && mixB ops js r (listed.setIfInBounds i true)
  | .fork i r j q, listed => (Region.ready .any ops listed == [i, j]) && js != i && js != j && r.len == q.len && mixB ops js r (listed.setIfInBounds i true) && mixB ops js q (listed.setIfInBounds j true)
  | .fork3 i r j q l t, listed => (Region.ready .any ops listed == [i, j, l]) && js != i && js != j && js != l && r.len == q.len && r.len == t.len && mixB ops js r (listed.setIfInBounds i true) && mixB ops js q (listed.setIfInBounds j true) && mixB ops js t (listed.setIfInBounds l true)
  | .cons _ _, _ => false

def lastAct (n : Nat) : Ordr → Nat
  | .nil => n
  | .cons (i, 3) _ => i
  | .cons _ r => lastAct n r
  | .fork _ r _ _ => lastAct n r
  | .fork3 _ r _ _ _ _ => lastAct n r
def mixAll (ops : Array Oper) (ord : Ordr) : Bool := Region.noSelect ops && (ord.len == ops.size) && mixB ops (lastAct ops.size ord) ord (Array.replicate ops.size false)

/-- The walk along that order. -/
def wpMix (P : Program) (ops : Array Oper) (S : World → Prop) (Q : Exit → Act → World → Prop) : Ordr → Act → World → Prop
  | .nil, a, w => Q .normal a w
  | .cons (i, 0) r, a, w => ∃ o, ops[i]? = some o ∧
      ((Region.wanted o (yielded ops a.tmps) = true ∧ ∃ v, (∀ w', S w' → RunsTo P o a w' v w') ∧ wpMix P ops S Q r (a.put o.dst v) w) ∨
       (Region.wanted o (yielded ops a.tmps) = false ∧ wpMix P ops S Q r (a.put o.dst undef) w))
  | .cons (i, 2) r, a, w => ∃ o, ops[i]? = some o ∧
      ((Region.wanted o (yielded ops a.tmps) = true ∧ ∃ v, (∀ w', RunsTo P o a w' v w') ∧ wpMix P ops S Q r (a.put o.dst v) w) ∨
       (Region.wanted o (yielded ops a.tmps) = false ∧ wpMix P ops S Q r (a.put o.dst undef) w))
  | .cons (i, 1) r, a, w => ∃ o, ops[i]? = some o ∧
      ((Region.wanted o (yielded ops a.tmps) = true ∧ o.wp P a w (fun a' w' => S w' ∧ wpMix P ops S Q r a' w') Q) ∨
       (Region.wanted o (yielded ops a.tmps) = false ∧ S w ∧ wpMix P ops S Q r (a.put o.dst undef) w))
  | .cons (i, 3) r, a, w => ∃ o, ops[i]? = some o ∧
      ((Region.wanted o (yielded ops a.tmps) = true ∧ o.wp P a w (fun a' w' => wpMix P ops S Q r a' w') Q) ∨
       (Region.wanted o (yielded ops a.tmps) = false ∧ wpMix P ops S Q r (a.put o.dst undef) w))
  | .fork i r j q, a, w => (∃ o, ops[i]? = some o ∧
      ((Region.wanted o (yielded ops a.tmps) = true ∧ o.wp P a w (fun a' w' => S w' ∧ wpMix P ops S Q r a' w') Q) ∨
       (Region.wanted o (yielded ops a.tmps) = false ∧ S w ∧ wpMix P ops S Q r (a.put o.dst undef) w))) ∧
      (∃ o, ops[j]? = some o ∧
      ((Region.wanted o (yielded ops a.tmps) = true ∧ o.wp P a w (fun a' w' => S w' ∧ wpMix P ops S Q q a' w') Q) ∨
       (Region.wanted o (yielded ops a.tmps) = false ∧ S w ∧ wpMix P ops S Q q (a.put o.dst undef) w)))
  | .fork3 i r j q l t, a, w => (∃ o, ops[i]? = some o ∧
      ((Region.wanted o (yielded ops a.tmps) = true ∧ o.wp P a w (fun a' w' => S w' ∧ wpMix P ops S Q r a' w') Q) ∨
       (Region.wanted o (yielded ops a.tmps) = false ∧ S w ∧ wpMix P ops S Q r (a.put o.dst undef) w))) ∧
      (∃ o, ops[j]? = some o ∧
      ((Region.wanted o (yielded ops a.tmps) = true ∧ o.wp P a w (fun a' w' => S w' ∧ wpMix P ops S Q q a' w') Q) ∨
       (Region.wanted o (yielded ops a.tmps) = false ∧ S w ∧ wpMix P ops S Q q (a.put o.dst undef) w))) ∧
      (∃ o, ops[l]? = some o ∧
      ((Region.wanted o (yielded ops a.tmps) = true ∧ o.wp P a w (fun a' w' => S w' ∧ wpMix P ops S Q t a' w') Q) ∨
       (Region.wanted o (yielded ops a.tmps) = false ∧ S w ∧ wpMix P ops S Q t (a.put o.dst undef) w)))
  | .cons _ _, _, _ => False

/-- No way out but the straight one. -/
def Straight (Q : Exit → Act → World → Prop) : Exit → Act → World → Prop
  | .normal, a, w => Q .normal a w
  | _, _, _ => False
theorem Straight.imp {Q : Exit → Act → World → Prop} : ∀ e a w, Straight Q e a w → Q e a w := fun e a w h => by
  cases e <;> first | exact h | exact h.elim

theorem mix_any {P : Program} {ops : Array Oper} {S : World → Prop} {Q : Exit → Act → World → Prop} {js : Nat} (hs : Region.noSelect ops = true) :
    ∀ (ord : Ordr) (listed : Array Bool) (a : Act) (w : World), mixB ops js ord listed = true → listed.size = ops.size → Closed ops listed → SS S js listed w → wpMix P ops S (Straight Q) ord a w →
      wpAnyM P ops (Straight Q) S js ord.len listed a w
  | .nil, listed, a, w, hB, _, _, _, h => by
    have : Region.ready .any ops listed = [] := by simpa [mixB] using hB
    exact ⟨this, h⟩
  | .cons (i, 0) r, listed, a, w, hB, hz, hc, hS, h => by
    simp only [mixB, Bool.and_eq_true, Bool.or_eq_true, beq_iff_eq, bne_iff_ne] at hB
    obtain ⟨⟨⟨⟨h1, h2⟩, hji⟩, hah⟩, h3⟩ := hB
    have hr : i ∈ Region.ready .any ops listed := by simpa using h1
    obtain ⟨o, ho, hw⟩ := h
    have hS2 : SS S js (listed.setIfInBounds i true) w := hS.imp (fun h => getD_set_true h) id
    rcases hw with ⟨hw, v, hv, hk⟩ | ⟨hw, hk⟩
    · exact wpAnyM_first (b := true) (fz := ops.size) ho (Region.noSelect_spec hs) (fun c a w h => h) (fun _ => hah) hji _ listed a w hz hc (Region.free_spec ho h2) hr (.inl ⟨hw, fun w' hw' => hv w' (hw' rfl)⟩) hS (mix_any hs r _ _ _ h3 (by simpa using hz) (hc.set hr) hS2 hk)
    · exact wpAnyM_first (b := true) (fz := ops.size) ho (Region.noSelect_spec hs) (fun c a w h => h) (fun _ => hah) hji _ listed a w hz hc (Region.free_spec ho h2) hr (.inr ⟨hw, rfl⟩) hS (mix_any hs r _ _ _ h3 (by simpa using hz) (hc.set hr) hS2 hk)
  | .cons (i, 2) r, listed, a, w, hB, hz, hc, hS, h => by
    simp only [mixB, Bool.and_eq_true, bne_iff_ne] at hB
    obtain ⟨⟨⟨h1, h2⟩, hji⟩, h3⟩ := hB
    have hr : i ∈ Region.ready .any ops listed := by simpa using h1
    obtain ⟨o, ho, hw⟩ := h
    have hS2 : SS S js (listed.setIfInBounds i true) w := hS.imp (fun h => getD_set_true h) id
    rcases hw with ⟨hw, v, hv, hk⟩ | ⟨hw, hk⟩
    · exact wpAnyM_first (b := false) (fz := 0) ho (Region.noSelect_spec hs) (fun c a w h => h) (fun h => by cases h) hji _ listed a w hz hc (Region.free_spec ho h2) hr (.inl ⟨hw, fun w' _ => hv w'⟩) hS (mix_any hs r _ _ _ h3 (by simpa using hz) (hc.set hr) hS2 hk)
    · exact wpAnyM_first (b := false) (fz := 0) ho (Region.noSelect_spec hs) (fun c a w h => h) (fun h => by cases h) hji _ listed a w hz hc (Region.free_spec ho h2) hr (.inr ⟨hw, rfl⟩) hS (mix_any hs r _ _ _ h3 (by simpa using hz) (hc.set hr) hS2 hk)
  | .cons (i, 1) r, listed, a, w, hB, hz, hc, hS, h => by
    simp only [mixB, Bool.and_eq_true, beq_iff_eq, bne_iff_ne] at hB
    obtain ⟨⟨h1, hji⟩, h3⟩ := hB
    have hr : i ∈ Region.ready .any ops listed := by rw [h1]; simp
    obtain ⟨o, ho, hw⟩ := h
    refine ⟨fun h0 => by rw [h0] at hr; (cases hr), fun j hj => ?_⟩
    rw [h1] at hj
    have hji' : j = i := by simpa using hj
    subst hji'
    unfold wpOp
    simp only [ho]
    rcases hw with ⟨hw, hk⟩ | ⟨hw, hS', hk⟩
    · rw [if_pos hw]
      exact .inl (Oper.wp_mono (fun a' w' h' => ⟨.inr h'.1, mix_any hs r _ _ _ h3 (by simpa using hz) (hc.set hr) (.inr h'.1) h'.2⟩) hk)
    · rw [if_neg (by rw [hw]; decide)]
      exact ⟨.inr hS', mix_any hs r _ _ _ h3 (by simpa using hz) (hc.set hr) (.inr hS') hk⟩
  | .cons (i, 3) r, listed, a, w, hB, hz, hc, hS, h => by
    simp only [mixB, Bool.and_eq_true, Bool.or_eq_true, beq_iff_eq] at hB
    obtain ⟨⟨h1, hji⟩, h3⟩ := hB
    have hr : i ∈ Region.ready .any ops listed := by rw [h1]; simp
    obtain ⟨o, ho, hw⟩ := h
    have hlt : i < ops.size := (Array.getElem?_eq_some_iff.1 ho).1
    have hdone : (listed.setIfInBounds i true).getD js false = true := by
      rcases hji with hji | hji
      · rw [hji]; simp [Array.getD, hz, hlt]
      · exact getD_set_true hji
    refine ⟨fun h0 => by rw [h0] at hr; (cases hr), fun j hj => ?_⟩
    rw [h1] at hj
    have hji' : j = i := by simpa using hj
    subst hji'
    unfold wpOp
    simp only [ho]
    rcases hw with ⟨hw, hk⟩ | ⟨hw, hk⟩
    · rw [if_pos hw]
      exact .inl (Oper.wp_mono (fun a' w' h' => ⟨.inl hdone, mix_any hs r _ _ _ h3 (by simpa using hz) (hc.set hr) (.inl hdone) h'⟩) hk)
    · rw [if_neg (by rw [hw]; decide)]
      exact ⟨.inl hdone, mix_any hs r _ _ _ h3 (by simpa using hz) (hc.set hr) (.inl hdone) hk⟩
  | .fork i r j q, listed, a, w, hB, hz, hc, hS, h => by
    simp only [mixB, Bool.and_eq_true, beq_iff_eq, bne_iff_ne] at hB
    obtain ⟨⟨⟨⟨⟨h1, hji⟩, hjj⟩, hlen⟩, h3⟩, h4⟩ := hB
    have hri : i ∈ Region.ready .any ops listed := by rw [h1]; simp
    have hrj : j ∈ Region.ready .any ops listed := by rw [h1]; simp
    obtain ⟨⟨o, ho, hw⟩, o2, ho2, hw2⟩ := h
    refine ⟨fun h0 => by rw [h0] at hri; (cases hri), fun k hk => ?_⟩
    rw [h1] at hk
    simp only [List.mem_cons, List.not_mem_nil, or_false] at hk
    rcases hk with rfl | rfl
    · unfold wpOp
      simp only [ho]
      rcases hw with ⟨hw, hk⟩ | ⟨hw, hS', hk⟩
      · rw [if_pos hw]
        exact .inl (Oper.wp_mono (fun a' w' h' => ⟨.inr h'.1, mix_any hs r _ _ _ h3 (by simpa using hz) (hc.set hri) (.inr h'.1) h'.2⟩) hk)
      · rw [if_neg (by rw [hw]; decide)]
        exact ⟨.inr hS', mix_any hs r _ _ _ h3 (by simpa using hz) (hc.set hri) (.inr hS') hk⟩
    · unfold wpOp
      simp only [ho2, Ordr.len]
      rw [hlen]
      rcases hw2 with ⟨hw, hk⟩ | ⟨hw, hS', hk⟩
      · rw [if_pos hw]
        exact .inl (Oper.wp_mono (fun a' w' h' => ⟨.inr h'.1, mix_any hs q _ _ _ h4 (by simpa using hz) (hc.set hrj) (.inr h'.1) h'.2⟩) hk)
      · rw [if_neg (by rw [hw]; decide)]
        exact ⟨.inr hS', mix_any hs q _ _ _ h4 (by simpa using hz) (hc.set hrj) (.inr hS') hk⟩
  | .fork3 i r j q l t, listed, a, w, hB, hz, hc, hS, h => by
    simp only [mixB, Bool.and_eq_true, beq_iff_eq, bne_iff_ne] at hB
    obtain ⟨⟨⟨⟨⟨⟨⟨⟨h1, hji⟩, hjj⟩, hjl⟩, hlen⟩, hlen2⟩, h3⟩, h4⟩, h5⟩ := hB
    have hri : i ∈ Region.ready .any ops listed := by rw [h1]; simp
    have hrj : j ∈ Region.ready .any ops listed := by rw [h1]; simp
    have hrl : l ∈ Region.ready .any ops listed := by rw [h1]; simp
    obtain ⟨⟨o, ho, hw⟩, ⟨o2, ho2, hw2⟩, o3, ho3, hw3⟩ := h
    refine ⟨fun h0 => by rw [h0] at hri; (cases hri), fun k hk => ?_⟩
    rw [h1] at hk
    simp only [List.mem_cons, List.not_mem_nil, or_false] at hk
    rcases hk with rfl | rfl | rfl
    · unfold wpOp
      simp only [ho]
      rcases hw with ⟨hw, hk⟩ | ⟨hw, hS', hk⟩
      · rw [if_pos hw]
        exact .inl (Oper.wp_mono (fun a' w' h' => ⟨.inr h'.1, mix_any hs r _ _ _ h3 (by simpa using hz) (hc.set hri) (.inr h'.1) h'.2⟩) hk)
      · rw [if_neg (by rw [hw]; decide)]
        exact ⟨.inr hS', mix_any hs r _ _ _ h3 (by simpa using hz) (hc.set hri) (.inr hS') hk⟩
    · unfold wpOp
      simp only [ho2, Ordr.len]
      rw [hlen]
      rcases hw2 with ⟨hw, hk⟩ | ⟨hw, hS', hk⟩
      · rw [if_pos hw]
        exact .inl (Oper.wp_mono (fun a' w' h' => ⟨.inr h'.1, mix_any hs q _ _ _ h4 (by simpa using hz) (hc.set hrj) (.inr h'.1) h'.2⟩) hk)
      · rw [if_neg (by rw [hw]; decide)]
        exact ⟨.inr hS', mix_any hs q _ _ _ h4 (by simpa using hz) (hc.set hrj) (.inr hS') hk⟩
    · unfold wpOp
      simp only [ho3, Ordr.len]
      rw [hlen2]
      rcases hw3 with ⟨hw, hk⟩ | ⟨hw, hS', hk⟩
      · rw [if_pos hw]
        exact .inl (Oper.wp_mono (fun a' w' h' => ⟨.inr h'.1, mix_any hs t _ _ _ h5 (by simpa using hz) (hc.set hrl) (.inr h'.1) h'.2⟩) hk)
      · rw [if_neg (by rw [hw]; decide)]
        exact ⟨.inr hS', mix_any hs t _ _ _ h5 (by simpa using hz) (hc.set hrl) (.inr hS') hk⟩
  | .cons (i, k + 4) r, listed, a, w, hB, _, _, _, _ => by simp [mixB] at hB

theorem region_mix' {P : Program} {id : Nat} {l : List Oper} {Q : Exit → Act → World → Prop} {a : Act} {w : World} (ord : Ordr) (S : World → Prop)
    (hm : P.follows .mixedOrders = true) (hB : mixAll l.toArray ord = true) (hS : S w.drew) (h : wpMix P l.toArray S (Straight Q) ord a w.drew) : (Code.region id l.toArray true).wp P Q a w := by
  simp only [mixAll, Bool.and_eq_true, beq_iff_eq] at hB
  obtain ⟨⟨h1, h2⟩, h3⟩ := hB
  have h4 := mix_any (js := lastAct l.toArray.size ord) (S := S) h1 ord _ a w.drew h3 (by simp) (fun j o _ hj => by simp [Array.getD] at hj) (.inr hS) h
  rw [h2] at h4
  exact wp_mono (wp_region_any hm (wpAny_of_M _ _ _ _ h4)) Straight.imp

section
variable {P : Program} {ops : Array Oper} {Q : Exit → Act → World → Prop} {a : Act} {w w' : World} {o : Oper} {n d i : Nat} {e : List (Nat × Value)} {v : Value} {Ms : List Chunk} {r : Ordr}

theorem mix_pure (E : Fr a n e) (hi : ops[i]? = some o) (hg : o.guard = none) (hd : o.dst = some d) (hn : d < n) (hr : ∀ w', Stab Ms w' → RunsTo P o a w' v w')
    (k : ∀ a', Fr a' n ((d, v) :: e) → wpMix P ops (Stab Ms) (Straight Q) r a' w) : wpMix P ops (Stab Ms) (Straight Q) (.cons (i, 0) r) a w :=
  ⟨o, hi, .inl ⟨by simp [Region.wanted, hg], v, hr, by rw [hd]; exact k _ (E.put hn v)⟩⟩
theorem mix_free (E : Fr a n e) (hi : ops[i]? = some o) (hg : o.guard = none) (hd : o.dst = some d) (hn : d < n) (hr : ∀ w', RunsTo P o a w' v w')
    (k : ∀ a', Fr a' n ((d, v) :: e) → wpMix P ops (Stab Ms) (Straight Q) r a' w) : wpMix P ops (Stab Ms) (Straight Q) (.cons (i, 2) r) a w :=
  ⟨o, hi, .inl ⟨by simp [Region.wanted, hg], v, hr, by rw [hd]; exact k _ (E.put hn v)⟩⟩

theorem mix_guard_yes (E : Fr a n e) (hi : ops[i]? = some o) {j t : Nat} {want b : Bool} {oj : Oper} (hg : o.guard = some (j, want)) (hj : ops[j]? = some oj) (ht : oj.dst = some t) (hb : lk e t = some (.bool b)) (hbw : b = want)
    (hd : o.dst = some d) (hn : d < n) (hr : ∀ w', Stab Ms w' → RunsTo P o a w' v w')
    (k : ∀ a', Fr a' n ((d, v) :: e) → wpMix P ops (Stab Ms) (Straight Q) r a' w) : wpMix P ops (Stab Ms) (Straight Q) (.cons (i, 0) r) a w :=
  ⟨o, hi, .inl ⟨by rw [wanted_eq E hg hj ht hb, hbw]; simp, v, hr, by rw [hd]; exact k _ (E.put hn v)⟩⟩
theorem mix_guard_free (E : Fr a n e) (hi : ops[i]? = some o) {j t : Nat} {want b : Bool} {oj : Oper} (hg : o.guard = some (j, want)) (hj : ops[j]? = some oj) (ht : oj.dst = some t) (hb : lk e t = some (.bool b)) (hbw : b = want)
    (hd : o.dst = some d) (hn : d < n) (hr : ∀ w', RunsTo P o a w' v w')
    (k : ∀ a', Fr a' n ((d, v) :: e) → wpMix P ops (Stab Ms) (Straight Q) r a' w) : wpMix P ops (Stab Ms) (Straight Q) (.cons (i, 2) r) a w :=
  ⟨o, hi, .inl ⟨by rw [wanted_eq E hg hj ht hb, hbw]; simp, v, hr, by rw [hd]; exact k _ (E.put hn v)⟩⟩

theorem mix_guard_no (E : Fr a n e) (hi : ops[i]? = some o) {j t : Nat} {want b : Bool} {oj : Oper} (hg : o.guard = some (j, want)) (hj : ops[j]? = some oj) (ht : oj.dst = some t) (hb : lk e t = some (.bool b)) (hbw : b = !want)
    (hd : o.dst = some d) (hn : d < n)
    (k : ∀ a', Fr a' n ((d, undef) :: e) → wpMix P ops (Stab Ms) (Straight Q) r a' w) : wpMix P ops (Stab Ms) (Straight Q) (.cons (i, 0) r) a w :=
  ⟨o, hi, .inr ⟨by rw [wanted_eq E hg hj ht hb, hbw]; cases want <;> rfl, by rw [hd]; exact k _ (E.put hn undef)⟩⟩
theorem mix_guard_no2 (E : Fr a n e) (hi : ops[i]? = some o) {j t : Nat} {want b : Bool} {oj : Oper} (hg : o.guard = some (j, want)) (hj : ops[j]? = some oj) (ht : oj.dst = some t) (hb : lk e t = some (.bool b)) (hbw : b = !want)
    (hd : o.dst = some d) (hn : d < n)
    (k : ∀ a', Fr a' n ((d, undef) :: e) → wpMix P ops (Stab Ms) (Straight Q) r a' w) : wpMix P ops (Stab Ms) (Straight Q) (.cons (i, 2) r) a w :=
  ⟨o, hi, .inr ⟨by rw [wanted_eq E hg hj ht hb, hbw]; cases want <;> rfl, by rw [hd]; exact k _ (E.put hn undef)⟩⟩

theorem mix_guard_undef (E : Fr a n e) (hi : ops[i]? = some o) {j t : Nat} {want : Bool} {oj : Oper} (hg : o.guard = some (j, want)) (hj : ops[j]? = some oj) (ht : oj.dst = some t) (hb : lk e t = some undef)
    (hd : o.dst = some d) (hn : d < n)
    (k : ∀ a', Fr a' n ((d, undef) :: e) → wpMix P ops (Stab Ms) (Straight Q) r a' w) : wpMix P ops (Stab Ms) (Straight Q) (.cons (i, 0) r) a w :=
  ⟨o, hi, .inr ⟨wanted_undef E hg hj ht hb, by rw [hd]; exact k _ (E.put hn undef)⟩⟩
theorem mix_guard_undef2 (E : Fr a n e) (hi : ops[i]? = some o) {j t : Nat} {want : Bool} {oj : Oper} (hg : o.guard = some (j, want)) (hj : ops[j]? = some oj) (ht : oj.dst = some t) (hb : lk e t = some undef)
    (hd : o.dst = some d) (hn : d < n)
    (k : ∀ a', Fr a' n ((d, undef) :: e) → wpMix P ops (Stab Ms) (Straight Q) r a' w) : wpMix P ops (Stab Ms) (Straight Q) (.cons (i, 2) r) a w :=
  ⟨o, hi, .inr ⟨wanted_undef E hg hj ht hb, by rw [hd]; exact k _ (E.put hn undef)⟩⟩
theorem mix_guard_undef_act (E : Fr a n e) (hi : ops[i]? = some o) {j t : Nat} {want : Bool} {oj : Oper} (hg : o.guard = some (j, want)) (hj : ops[j]? = some oj) (ht : oj.dst = some t) (hb : lk e t = some undef)
    (hd : o.dst = some d) (hn : d < n) (hS : Stab Ms w)
    (k : ∀ a', Fr a' n ((d, undef) :: e) → wpMix P ops (Stab Ms) (Straight Q) r a' w) : wpMix P ops (Stab Ms) (Straight Q) (.cons (i, 1) r) a w :=
  ⟨o, hi, .inr ⟨wanted_undef E hg hj ht hb, hS, by rw [hd]; exact k _ (E.put hn undef)⟩⟩
theorem mix_guard_undef_last (E : Fr a n e) (hi : ops[i]? = some o) {j t : Nat} {want : Bool} {oj : Oper} (hg : o.guard = some (j, want)) (hj : ops[j]? = some oj) (ht : oj.dst = some t) (hb : lk e t = some undef)
    (hd : o.dst = some d) (hn : d < n)
    (k : ∀ a', Fr a' n ((d, undef) :: e) → wpMix P ops (Stab Ms) (Straight Q) r a' w) : wpMix P ops (Stab Ms) (Straight Q) (.cons (i, 3) r) a w :=
  ⟨o, hi, .inr ⟨wanted_undef E hg hj ht hb, by rw [hd]; exact k _ (E.put hn undef)⟩⟩

theorem mix_act (hi : ops[i]? = some o) (hg : o.guard = none) (h : o.wp P a w (fun a' w' => Stab Ms w' ∧ wpMix P ops (Stab Ms) (Straight Q) r a' w') (Straight Q)) :
    wpMix P ops (Stab Ms) (Straight Q) (.cons (i, 1) r) a w :=
  ⟨o, hi, .inl ⟨by simp [Region.wanted, hg], h⟩⟩
theorem mix_last (hi : ops[i]? = some o) (hg : o.guard = none) (h : o.wp P a w (fun a' w' => wpMix P ops (Stab Ms) (Straight Q) r a' w') (Straight Q)) :
    wpMix P ops (Stab Ms) (Straight Q) (.cons (i, 3) r) a w :=
  ⟨o, hi, .inl ⟨by simp [Region.wanted, hg], h⟩⟩

theorem mix_guard_act (E : Fr a n e) (hi : ops[i]? = some o) {j t : Nat} {want b : Bool} {oj : Oper} (hg : o.guard = some (j, want)) (hj : ops[j]? = some oj) (ht : oj.dst = some t) (hb : lk e t = some (.bool b)) (hbw : b = want)
    (h : o.wp P a w (fun a' w' => Stab Ms w' ∧ wpMix P ops (Stab Ms) (Straight Q) r a' w') (Straight Q)) :
    wpMix P ops (Stab Ms) (Straight Q) (.cons (i, 1) r) a w :=
  ⟨o, hi, .inl ⟨by rw [wanted_eq E hg hj ht hb, hbw]; simp, h⟩⟩
theorem mix_guard_last (E : Fr a n e) (hi : ops[i]? = some o) {j t : Nat} {want b : Bool} {oj : Oper} (hg : o.guard = some (j, want)) (hj : ops[j]? = some oj) (ht : oj.dst = some t) (hb : lk e t = some (.bool b)) (hbw : b = want)
    (h : o.wp P a w (fun a' w' => wpMix P ops (Stab Ms) (Straight Q) r a' w') (Straight Q)) :
    wpMix P ops (Stab Ms) (Straight Q) (.cons (i, 3) r) a w :=
  ⟨o, hi, .inl ⟨by rw [wanted_eq E hg hj ht hb, hbw]; simp, h⟩⟩

theorem mix_guard_no_act (E : Fr a n e) (hi : ops[i]? = some o) {j t : Nat} {want b : Bool} {oj : Oper} (hg : o.guard = some (j, want)) (hj : ops[j]? = some oj) (ht : oj.dst = some t) (hb : lk e t = some (.bool b)) (hbw : b = !want)
    (hd : o.dst = some d) (hn : d < n) (hS : Stab Ms w)
    (k : ∀ a', Fr a' n ((d, undef) :: e) → wpMix P ops (Stab Ms) (Straight Q) r a' w) : wpMix P ops (Stab Ms) (Straight Q) (.cons (i, 1) r) a w :=
  ⟨o, hi, .inr ⟨by rw [wanted_eq E hg hj ht hb, hbw]; cases want <;> rfl, hS, by rw [hd]; exact k _ (E.put hn undef)⟩⟩
theorem mix_guard_no_last (E : Fr a n e) (hi : ops[i]? = some o) {j t : Nat} {want b : Bool} {oj : Oper} (hg : o.guard = some (j, want)) (hj : ops[j]? = some oj) (ht : oj.dst = some t) (hb : lk e t = some (.bool b)) (hbw : b = !want)
    (hd : o.dst = some d) (hn : d < n)
    (k : ∀ a', Fr a' n ((d, undef) :: e) → wpMix P ops (Stab Ms) (Straight Q) r a' w) : wpMix P ops (Stab Ms) (Straight Q) (.cons (i, 3) r) a w :=
  ⟨o, hi, .inr ⟨by rw [wanted_eq E hg hj ht hb, hbw]; cases want <;> rfl, by rw [hd]; exact k _ (E.put hn undef)⟩⟩
end

/-! ### Calls -/

section
variable {P : Program} {Q : Exit → Act → World → Prop} {a : Act} {w : World} {o : Oper} {n : Nat} {e : List (Nat × Value)} {K : Act → World → Prop}

/-- The arguments as the frame has them. -/
def evs (e : List (Nat × Value)) : List Operand → Option (List Value)
  | [] => some []
  | x :: r => match ev e x, evs e r with
    | some v, some vs => some (v :: vs)
    | _, _ => none

theorem Fr.evals (E : Fr a n e) : ∀ {xs : List Operand} {vs : List Value}, evs e xs = some vs → xs.map a.eval = vs
  | [], vs, h => by simp only [evs, Option.some.injEq] at h; subst h; rfl
  | x :: r, vs, h => by
    simp only [evs] at h
    split at h
    · rename_i v us h1 h2
      cases h
      rw [List.map_cons, E.eval h1, E.evals h2]
    · cases h

theorem run_callFunc {f : FuncId} {fn : Func} {args : Array Value} (hf : P.funcs[f]? = some fn) (hb : fn.body.isSome = true) (hnm : (fn.name == "runtime.NumGoroutine") = false) :
    (callFunc f args).run P w = .ok (.enter f args) w := by
  have h1 : ¬ fn.name = "runtime.NumGoroutine" := by simpa using hnm
  have h2 : ¬ fn.body = none := by intro h; rw [h] at hb; cases hb
  simp [callFunc, hf, h1, h2]

/-- A call of a Go function by its contract. -/
theorem wp_call (E : Fr a n e) {g : Operand} {xs : List Operand} {ts : Array TypeId} {f : FuncId} {cap : Array Value} {fn : Func} {vs : List Value}
    (ho : o.op = .call { callee := .value g, args := xs.toArray, argTypes := ts }) (hgv : ev e g = some (.func (.func f) #[] cap))
    (hf : P.funcs[f]? = some fn) (hb : fn.body.isSome = true) (hnm : (fn.name == "runtime.NumGoroutine") = false)
    (hx : evs e xs = some vs) (hc : Calls P f (vs.toArray ++ cap) w fun en w' => ∃ v, en = .returned v ∧ K (a.put o.dst v) w') : o.wp P a w K Q := by
  unfold Oper.wp
  have hr : (execOp a.eval o).run P w = .ok (.enter f (vs.toArray ++ cap)) w := by
    unfold execOp
    simp [ho, resolve, E.eval hgv, Deferred.ofValue, invoke, E.evals hx, run_callFunc hf hb hnm]
  rw [hr]
  refine hc.mono ?_
  rintro en w' ⟨v, rfl, h⟩
  exact h
end

end Go.Sl
