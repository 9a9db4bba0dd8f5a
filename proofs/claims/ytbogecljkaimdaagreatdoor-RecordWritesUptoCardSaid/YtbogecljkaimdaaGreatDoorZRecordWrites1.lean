/-
  Texts put together (1).
-/
import Derived.Test.YtbogecljkaimdaaGreatDoorCards
import Derived.Test.YtbogecljkaimdaaGreatDoorProg
import Derived.Test.YtbogecljkaimdaaGreatDoorRows
import Derived.Test.YtbogecljkaimdaaGreatDoorTie
import Derived.WalkKit
import Derived.Deep.LoopGhost
import Derived.OrdersHeld
import Derived.KernelRfl
import Derived.Deep.AppendSrc
import Derived.Laws.OwnMore
import Derived.Lib.ConvBytes
import Derived.IntWalk
import Derived.Great.BuildSlice
import Derived.Laws.StructEq
import Derived.LaidEqlPtr
import Derived.MapKept
import Derived.Carry
import Derived.Lib.Bytealg
import Derived.Scope
import Derived.ProofKit
import Derived.OpenShut
import Derived.SizedLaws
import Derived.Deep.Slices
import Derived.MakeChecks
import Derived.FnData
import Derived.Deep.DeepHandedRow
import Derived.Lay
import Derived.JoinedCond
import Derived.LaidMore
import Derived.SevenTiedAt
namespace Go.Sl
abbrev zAw := List (Nat × Obj)
def Own (w : World) (L : zAw) : Prop := (L.map (·.1)).Nodup ∧ ∀ x ∈ L, w.heap[x.1]? = some x.2
theorem Own.perm {w : World} {L L' : zAw} (h : Own w L) (p : L.Perm L') : Own w L' :=
  ⟨(p.map (·.1)).nodup_iff.1 h.1, fun x hx => h.2 x (p.mem_iff.2 hx)⟩
theorem Own.left {w : World} {A B : zAw} (h : Own w (A ++ B)) : Own w A :=
  ⟨by have := h.1; rw [List.map_append, List.nodup_append] at this; exact this.1, fun x hx => h.2 x (List.mem_append_left _ hx)⟩
theorem Own.right {w : World} {A B : zAw} (h : Own w (A ++ B)) : Own w B :=
  ⟨by have := h.1; rw [List.map_append, List.nodup_append] at this; exact this.2.1, fun x hx => h.2 x (List.mem_append_right _ hx)⟩
theorem Own.lt {w : World} {L : zAw} (h : Own w L) {x : Nat × Obj} (hx : x ∈ L) : x.1 < w.heap.size := (Array.getElem?_eq_some_iff.1 (h.2 x hx)).1
theorem zJg {w : World} {x : Nat × Obj} {L : zAw} : Own w (x :: L) ↔ w.heap[x.1]? = some x.2 ∧ x.1 ∉ L.map (·.1) ∧ Own w L := by
  constructor
  · intro h
    have h1 := h.1
    simp only [List.map_cons, List.nodup_cons] at h1
    exact ⟨h.2 x (List.mem_cons_self ..), h1.1, h1.2, fun y hy => h.2 y (List.mem_cons_of_mem _ hy)⟩
  · rintro ⟨h1, h2, h3⟩
    refine ⟨by simp only [List.map_cons, List.nodup_cons]; exact ⟨h2, h3.1⟩, fun y hy => ?_⟩
    rcases List.mem_cons.1 hy with rfl | hy
    · exact h1
    · exact h3.2 y hy
theorem own_congr {w w' : World} {L : zAw} (h : Own w L) (e : ∀ x ∈ L, w'.heap[x.1]? = w.heap[x.1]?) : Own w' L :=
  ⟨h.1, fun x hx => (e x hx).trans (h.2 x hx)⟩
structure Tr (w w' : World) (A B : zAw) : Prop where
  os : w'.os = w.os
  tape : w'.tape = w.tape
  output : w'.output = w.output
  size : w.heap.size ≤ w'.heap.size
  own : ∀ R, Own w (A ++ R) → Own w' (B ++ R)
theorem Tr.refl (w : World) (A : zAw) : Tr w w A A := ⟨rfl, rfl, rfl, Nat.le_refl _, fun _ h => h⟩
theorem Tr.trans {w w1 w2 : World} {A B C : zAw} (h : Tr w w1 A B) (k : Tr w1 w2 B C) : Tr w w2 A C :=
  ⟨k.os.trans h.os, k.tape.trans h.tape, k.output.trans h.output, Nat.le_trans h.size k.size, fun R o => k.own R (h.own R o)⟩
theorem Tr.frame {w w' : World} {A B : zAw} (h : Tr w w' A B) (F : zAw) : Tr w w' (A ++ F) (B ++ F) :=
  ⟨h.os, h.tape, h.output, h.size, fun R o => by rw [List.append_assoc] at *; exact h.own _ o⟩
theorem Tr.perm {w w' : World} {A A' B B' : zAw} (h : Tr w w' A B) (p : A'.Perm A) (q : B.Perm B') : Tr w w' A' B' :=
  ⟨h.os, h.tape, h.output, h.size, fun R o => (h.own R (o.perm (p.append_right R))).perm (q.append_right R)⟩
theorem Tr.drop {w w' : World} {A B C : zAw} (h : Tr w w' A (B ++ C)) : Tr w w' A B :=
  ⟨h.os, h.tape, h.output, h.size, fun R o => by
    have h1 := h.own R o
    have h2 : Own w' (C ++ (B ++ R)) := h1.perm (by
      rw [List.append_assoc]
      exact (List.perm_append_comm (l₁ := B) (l₂ := C ++ R)).trans (by rw [List.append_assoc]; exact (List.perm_append_comm (l₁ := R) (l₂ := B)).append_left C))
    exact h2.right⟩
theorem Tr.drew {w w' : World} {A B : zAw} (h : Tr w w' A B) : Tr w w'.drew A B := ⟨h.os, h.tape, h.output, h.size, fun R o => h.own R o⟩
theorem Tr.pre {w w' : World} {A B : zAw} (h : Tr w.drew w' A B) : Tr w w' A B := ⟨h.os, h.tape, h.output, h.size, fun R o => h.own R o⟩
theorem tr_alloc (w : World) (o : Obj) (A : zAw) : Tr w (w.alloc o) A ((w.heap.size, o) :: A) :=
  ⟨rfl, rfl, rfl, by simp, fun R h => by
    refine zJg.2 ⟨heap_alloc_new w o, fun hm => ?_, own_congr h fun x hx => heap_alloc_old w o (h.lt hx)⟩
    obtain ⟨x, hx, e⟩ := List.mem_map.1 hm
    have := h.lt hx
    dsimp only at e
    omega⟩
theorem tr_block {w w' : World} {b : Nat} {o o' : Obj} (ho : w'.os = w.os) (ht : w'.tape = w.tape) (hu : w'.output = w.output) (hs : w'.heap.size = w.heap.size)
    (hb : w.heap[b]? = some o → w'.heap[b]? = some o') (hk : ∀ k, k ≠ b → w'.heap[k]? = w.heap[k]?) (A : zAw) : Tr w w' ((b, o) :: A) ((b, o') :: A) :=
  ⟨ho, ht, hu, by omega, fun R h => by
    obtain ⟨h1, h2, h3⟩ := zJg.1 h
    refine zJg.2 ⟨hb h1, h2, own_congr h3 fun x hx => hk _ fun e => h2 ?_⟩
    rw [← e]
    exact List.mem_map.2 ⟨x, hx, rfl⟩⟩
theorem Tr.keep {w w' : World} {A B : zAw} (h : Tr w w' A B) (ha : Own w A) {k : Nat} {o : Obj} (hk : w.heap[k]? = some o) (hn : k ∉ A.map (·.1)) : w'.heap[k]? = some o := by
  have h1 : Own w (A ++ [(k, o)]) := by
    have : Own w ((k, o) :: A) := zJg.2 ⟨hk, hn, ha⟩
    exact this.perm (by simpa using (List.perm_append_comm (l₁ := [(k, o)]) (l₂ := A)))
  have h2 := (h.own _ h1).right
  exact h2.2 (k, o) (List.mem_singleton.2 rfl)
def Hp (w : World) (Ls : List zAw) : Prop := Own w Ls.flatten
def Trs (w w' : World) (As Bs : List zAw) : Prop := Tr w w' As.flatten Bs.flatten
theorem zEx {As Bs : List zAw} (p : As.Perm Bs) : As.flatten.Perm Bs.flatten := p.flatten
theorem Trs.refl (w : World) (As : List zAw) : Trs w w As As := Tr.refl _ _
theorem Trs.drew {w w' : World} {As Bs : List zAw} (h : Trs w w' As Bs) : Trs w w'.drew As Bs := Tr.drew h
theorem Trs.trans {w w1 w2 : World} {As Bs Cs : List zAw} (h : Trs w w1 As Bs) (k : Trs w1 w2 Bs Cs) : Trs w w2 As Cs := Tr.trans h k
def Sel (Ls As Rs : List zAw) : Prop := Ls.Perm (As ++ Rs)
theorem zAu (Ls : List zAw) : Sel Ls [] Ls := List.Perm.refl _
theorem zAl {Ls As Rs Ls' : List zAw} {A : zAw} (h : Ls.Perm (A :: Ls')) (k : Sel Ls' As Rs) : Sel Ls (A :: As) Rs := h.trans (k.cons A)
theorem zJo (A : zAw) (Ls : List zAw) : (A :: Ls).Perm (A :: Ls) := List.Perm.refl _
theorem zAc {A B : zAw} {Ls Rs : List zAw} (h : Ls.Perm (A :: Rs)) : (B :: Ls).Perm (A :: B :: Rs) := (h.cons B).trans (List.Perm.swap A B Rs)
theorem Trs.call {w0 w w' : World} {As Ls Bs Cs Rs : List zAw} (T : Trs w0 w As Ls) (s : Sel Ls Bs Rs) (t : Trs w w' Bs Cs) : Trs w0 w' As (Cs ++ Rs) := by
  have h1 : Tr w w' (Bs.flatten ++ Rs.flatten) (Cs.flatten ++ Rs.flatten) := Tr.frame t _
  refine Tr.trans (Tr.perm T (List.Perm.refl _) ?_) (Tr.perm h1 (List.Perm.refl _) ?_)
  · rw [← List.flatten_append]; exact zEx s
  · rw [List.flatten_append]
theorem Trs.only {w w' : World} {As Ls Bs Rs : List zAw} (T : Trs w w' As Ls) (s : Sel Ls Bs Rs) : Trs w w' As Bs := by
  refine Tr.drop (C := Rs.flatten) (Tr.perm T (List.Perm.refl _) ?_)
  rw [← List.flatten_append]; exact zEx s
theorem Hp.sel {w : World} {Ls As Rs : List zAw} (h : Hp w Ls) (s : Sel Ls As Rs) : Hp w As := by
  have h1 : Own w (As.flatten ++ Rs.flatten) := by rw [← List.flatten_append]; exact Own.perm h (zEx s)
  exact h1.left
structure St (w0 : World) (As : List zAw) (w : World) (Ls : List zAw) : Prop where
  hp0 : Hp w0 As
  tr : Trs w0 w As Ls
section
variable {w0 w w' : World} {As Ls Bs Cs Rs : List zAw}
theorem St.begin (h : Hp w As) : St w As w As := ⟨h, Trs.refl _ _⟩
theorem St.hp (S : St w0 As w Ls) : Hp w Ls := by
  have h := S.tr.own [] (by rw [List.append_nil]; exact S.hp0)
  rw [List.append_nil] at h
  exact h
theorem St.call (S : St w0 As w Ls) (s : Sel Ls Bs Rs) (t : Trs w w' Bs Cs) : St w0 As w' (Cs ++ Rs) := ⟨S.hp0, S.tr.call s t⟩
theorem St.call1 {C : zAw} (S : St w0 As w Ls) (s : Sel Ls Bs Rs) (t : Trs w w' Bs [C]) : St w0 As w' (C :: Rs) := S.call s t
theorem St.call2 {C D : zAw} (S : St w0 As w Ls) (s : Sel Ls Bs Rs) (t : Trs w w' Bs [C, D]) : St w0 As w' (C :: D :: Rs) := S.call s t
theorem St.call3 {C D F : zAw} (S : St w0 As w Ls) (s : Sel Ls Bs Rs) (t : Trs w w' Bs [C, D, F]) : St w0 As w' (C :: D :: F :: Rs) := S.call s t
theorem St.quiet (S : St w0 As w Ls) (t : Trs w w' [] []) : St w0 As w' Ls := S.call (zAu _) t
theorem St.fresh {C : zAw} (S : St w0 As w Ls) (t : Trs w w' [] [C]) : St w0 As w' (C :: Ls) := S.call (zAu _) t
theorem St.drew (S : St w0 As w Ls) : St w0 As w.drew Ls := ⟨S.hp0, S.tr.drew⟩
theorem St.only (S : St w0 As w Ls) (s : Sel Ls Bs Rs) : St w0 As w Bs := ⟨S.hp0, S.tr.only s⟩
theorem St.perm (S : St w0 As w Ls) (p : Ls.Perm Bs) : St w0 As w Bs := ⟨S.hp0, Tr.perm S.tr (List.Perm.refl _) (zEx p)⟩
theorem St.all (S : St w0 As w Ls) (t : Trs w w' Ls Bs) : St w0 As w' Bs := ⟨S.hp0, S.tr.trans t⟩
theorem St.split {A B : zAw} (S : St w0 As w ((A ++ B) :: Ls)) : St w0 As w (A :: B :: Ls) :=
  ⟨S.hp0, by have h := S.tr; unfold Trs at *; simpa [List.flatten_cons, List.append_assoc] using h⟩
theorem St.join {A B : zAw} (S : St w0 As w (A :: B :: Ls)) : St w0 As w ((A ++ B) :: Ls) :=
  ⟨S.hp0, by have h := S.tr; unfold Trs at *; simpa [List.flatten_cons, List.append_assoc] using h⟩
theorem St.gather {A B : zAw} {L1 L2 : List zAw} (S : St w0 As w Ls) (h1 : Ls.Perm (A :: L1)) (h2 : L1.Perm (B :: L2)) : St w0 As w ((A ++ B) :: L2) :=
  (S.perm (h1.trans (h2.cons A))).join
theorem St.addNil (S : St w0 As w Ls) : St w0 As w ([] :: Ls) := ⟨S.hp0, by have h := S.tr; unfold Trs at *; simpa using h⟩
theorem St.alloc (S : St w0 As w Ls) (o : Obj) : St w0 As (w.alloc o) ([(w.heap.size, o)] :: Ls) :=
  ⟨S.hp0, Tr.trans S.tr (by simpa using tr_alloc w o Ls.flatten)⟩
theorem St.block {b : Nat} {o o' : Obj} {F : World} (S : St w0 As w Ls) (hp : Ls.Perm ([(b, o)] :: Rs))
    (ho : F.os = w.os) (ht : F.tape = w.tape) (hu : F.output = w.output) (hs : F.heap.size = w.heap.size)
    (hb : w.heap[b]? = some o → F.heap[b]? = some o') (hk : ∀ k, k ≠ b → F.heap[k]? = w.heap[k]?) : St w0 As F ([(b, o')] :: Rs) :=
  ⟨S.hp0, Tr.trans (Tr.perm S.tr (List.Perm.refl _) (zEx hp)) (by simpa using tr_block ho ht hu hs hb hk Rs.flatten)⟩
end
def Stab (Ls : List zAw) (w : World) : Prop := ∀ C ∈ Ls, ∀ x ∈ C, w.heap[x.1]? = some x.2
theorem Hp.stab {w : World} {Ls : List zAw} (h : Hp w Ls) : Stab Ls w := fun C hC x hx => h.2 x (List.mem_flatten.2 ⟨C, hC, hx⟩)
theorem St.stab {w0 w : World} {As Ls : List zAw} (S : St w0 As w Ls) : Stab Ls w := S.hp.stab
theorem Stab.at {Ls : List zAw} {w : World} {C : zAw} (h : Stab Ls w) (hC : C ∈ Ls) : ∀ x ∈ C, w.heap[x.1]? = some x.2 := h C hC
theorem Stab.one {Ls : List zAw} {w : World} {b : Nat} {o : Obj} (h : Stab Ls w) (hC : [(b, o)] ∈ Ls) : w.heap[b]? = some o := h _ hC (b, o) (List.mem_singleton.2 rfl)
theorem Stab.sub {Ls Ms : List zAw} {w : World} (h : Stab Ls w) (hs : ∀ C ∈ Ms, C ∈ Ls) : Stab Ms w := fun C hC => h C (hs C hC)
theorem Stab.sel {Ls As Rs : List zAw} {w : World} (h : Stab Ls w) (s : Sel Ls As Rs) : Stab As w := fun C hC => h C (s.mem_iff.2 (List.mem_append_left _ hC))
theorem Stab.drew {Ls : List zAw} {w : World} (h : Stab Ls w) : Stab Ls w.drew := h
def lk : List (Nat × Value) → Nat → Option Value
  | [], _ => none
  | (i, v) :: r, k => bif Nat.beq i k then some v else lk r k
structure Fr (a : Act) (n : Nat) (e : List (Nat × Value)) : Prop where
  size : a.tmps.size = n
  nod : a.defers = []
  get : ∀ k v, lk e k = some v → a.tmps[k]? = some v
def ev (e : List (Nat × Value)) : Operand → Option Value
  | .tmp t => lk e t
  | .const v => some v
  | .global g => some (.pointer (some ⟨g, 0, none⟩))
  | .func f => some (.func (.func f) #[] #[])
section
variable {a : Act} {n : Nat} {e : List (Nat × Value)}
theorem Fr.eval (E : Fr a n e) {x : Operand} {v : Value} (h : ev e x = some v) : a.eval x = v := by
  cases x with
  | tmp t => have := E.get t v h; simp [Act.eval, Array.getD_eq_getD_getElem?, this]
  | const u => simpa [ev, Act.eval] using h
  | global g => simpa [ev, Act.eval] using h
  | func f => simpa [ev, Act.eval] using h
theorem Fr.put (E : Fr a n e) {d : Nat} (hd : d < n) (v : Value) : Fr (a.put (some d) v) n ((d, v) :: e) := by
  refine ⟨by simp [Act.put, E.size], by simpa [Act.put] using E.nod, fun k u h => ?_⟩
  simp only [lk] at h
  cases hb : Nat.beq d k with
  | true =>
    have hk : d = k := Nat.eq_of_beq_eq_true hb
    subst hk
    simp only [hb, cond_true] at h
    cases h
    simp [Act.put, E.size, hd]
  | false =>
    have hk : d ≠ k := fun h' => by subst h'; simp at hb
    simp only [hb, cond_false] at h
    simp [Act.put, hk, E.get k u h]
theorem Fr.put0 (E : Fr a n e) (v : Value) : Fr (a.put none v) n e := E
theorem Fr.keep (E : Fr a n e) {e' : List (Nat × Value)} (h : ∀ x ∈ e', lk e x.1 = some x.2) : Fr a n e' := by
  refine ⟨E.size, E.nod, ?_⟩
  intro k v hk
  have : (k, v) ∈ e' := by
    clear h
    induction e' with
    | nil => simp [lk] at hk
    | cons x r ih =>
      obtain ⟨i, u⟩ := x
      simp only [lk] at hk
      cases hb : Nat.beq i k with
      | true =>
        simp only [hb, cond_true] at hk
        cases hk
        rw [Nat.eq_of_beq_eq_true hb]
        exact List.mem_cons_self ..
      | false =>
        simp only [hb, cond_false] at hk
        exact List.mem_cons_of_mem _ (ih hk)
  exact E.get k v (h (k, v) this)
theorem zAm {e : List (Nat × Value)} : ∀ x ∈ ([] : List (Nat × Value)), lk e x.1 = some x.2 := fun _ h => by cases h
theorem zAa {e r : List (Nat × Value)} {k : Nat} {v : Value} (h : lk e k = some v) (hr : ∀ x ∈ r, lk e x.1 = some x.2) : ∀ x ∈ (k, v) :: r, lk e x.1 = some x.2 := by
  intro x hx
  rcases List.mem_cons.1 hx with rfl | hx
  · exact h
  · exact hr x hx
end
section
variable {P : Program} {f : FuncId} {fn : Func} {c : Code} {w : World} {R : Ending → World → Prop}
theorem fr_enter (n : Nat) (args : Array Value) (e : List (Nat × Value)) (hn : args.size ≤ n) (he : ∀ k v, lk e k = some v → args[k]? = some v) :
    Fr { tmps := args ++ Array.replicate (n - args.size) undef, defers := [] } n e :=
  ⟨by simp; omega, rfl, fun k v h => by
    have h1 := he k v h
    have : k < args.size := (Array.getElem?_eq_some_iff.1 h1).1
    simp only [Array.getElem?_append, this, if_true]
    exact h1⟩
theorem zGs (n : Nat) (args : Array Value) (e : List (Nat × Value)) (hf : P.funcs[f]? = some fn) (hb : fn.body = some c) (hn : fn.ntmps = n) (hs : args.size ≤ n)
    (he : ∀ k v, lk e k = some v → args[k]? = some v) (h : ∀ a, Fr a n e → c.wp P (bodyPost P fn R) a w) : Calls P f args w R :=
  calls_of_wp hf hb (by subst hn; exact h _ (fr_enter _ args e hs he))
theorem enter0 (n : Nat) (hf : P.funcs[f]? = some fn) (hb : fn.body = some c) (hn : fn.ntmps = n)
    (h : ∀ a, Fr a n [] → c.wp P (bodyPost P fn R) a w) : Calls P f #[] w R :=
  zGs n #[] _ hf hb hn (Nat.zero_le _) (fun k v h => by simp [lk] at h) h
theorem lk_args (e : List (Nat × Value)) (args : Array Value) (h : ∀ x ∈ e, args[x.1]? = some x.2) : ∀ k v, lk e k = some v → args[k]? = some v := by
  intro k v hk
  induction e with
  | nil => simp [lk] at hk
  | cons x r ih =>
    obtain ⟨i, u⟩ := x
    simp only [lk] at hk
    cases hb : Nat.beq i k with
    | true =>
      simp only [hb, cond_true] at hk
      cases hk
      rw [← Nat.eq_of_beq_eq_true hb]
      exact h (i, _) (List.mem_cons_self ..)
    | false =>
      simp only [hb, cond_false] at hk
      exact ih (fun y hy => h y (List.mem_cons_of_mem _ hy)) hk
theorem zCu (n : Nat) {x0 : Value} (hf : P.funcs[f]? = some fn) (hb : fn.body = some c) (hn : fn.ntmps = n) (hs : 1 ≤ n)
    (h : ∀ a, Fr a n [(0, x0)] → c.wp P (bodyPost P fn R) a w) : Calls P f #[x0] w R :=
  zGs n _ _ hf hb hn hs (lk_args _ _ (by simp)) h
theorem zCl (n : Nat) {x0 x1 : Value} (hf : P.funcs[f]? = some fn) (hb : fn.body = some c) (hn : fn.ntmps = n) (hs : 2 ≤ n)
    (h : ∀ a, Fr a n [(0, x0), (1, x1)] → c.wp P (bodyPost P fn R) a w) : Calls P f #[x0, x1] w R :=
  zGs n _ _ hf hb hn hs (lk_args _ _ (by simp)) h
theorem zFy (n : Nat) {x0 x1 x2 : Value} (hf : P.funcs[f]? = some fn) (hb : fn.body = some c) (hn : fn.ntmps = n) (hs : 3 ≤ n)
    (h : ∀ a, Fr a n [(0, x0), (1, x1), (2, x2)] → c.wp P (bodyPost P fn R) a w) : Calls P f #[x0, x1, x2] w R :=
  zGs n _ _ hf hb hn hs (lk_args _ _ (by simp)) h
theorem enter4 (n : Nat) {x0 x1 x2 x3 : Value} (hf : P.funcs[f]? = some fn) (hb : fn.body = some c) (hn : fn.ntmps = n) (hs : 4 ≤ n)
    (h : ∀ a, Fr a n [(0, x0), (1, x1), (2, x2), (3, x3)] → c.wp P (bodyPost P fn R) a w) : Calls P f #[x0, x1, x2, x3] w R :=
  zGs n _ _ hf hb hn hs (lk_args _ _ (by simp)) h
variable {a : Act} {n : Nat} {e : List (Nat × Value)}
theorem end0 (E : Fr a n e) (hr : fn.results = #[]) (h : R (.returned (.tuple #[])) w) : bodyPost P fn R .normal a w :=
  ⟨E.nod, _, results_none hr _ _ _, h⟩
theorem ret1 (E : Fr a n e) {t : Nat} {v : Value} (hr : fn.results = #[.tmp t]) (hv : lk e t = some v) (h : R (.returned v) w) : bodyPost P fn R .ret a w :=
  ⟨E.nod, v, by rw [results_tmp hr, Array.getD_eq_getD_getElem?, E.get t v hv]; rfl, h⟩
theorem ret2 (E : Fr a n e) {t s : Nat} {v x : Value} (hr : fn.results = #[.tmp t, .tmp s]) (hv : lk e t = some v) (hx : lk e s = some x) (h : R (.returned (.tuple #[v, x])) w) :
    bodyPost P fn R .ret a w :=
  ⟨E.nod, .tuple #[v, x], by rw [results_tmp2 hr, Array.getD_eq_getD_getElem?, Array.getD_eq_getD_getElem?, E.get t v hv, E.get s x hx]; rfl, h⟩
end
section
variable {P : Program} {Q : Exit → Act → World → Prop} {a : Act} {w : World} {K : Act → World → Prop} {n : Nat} {e : List (Nat × Value)}
theorem zBj (h : K a w) : Exit.then K Q .normal a w := h
theorem zAf {Y : Act → World → Prop} (hK : ∀ a w, Y a w → K a w) (h : Y a w) : Exit.then K Q .normal a w := hK _ _ h
theorem zAy (h : Q .ret a w) : Exit.then K Q .ret a w := h
theorem zBa {i : Nat} (h : Q (.exit i) a w) : Exit.then K Q (.exit i) a w := h
theorem zBe {i : Nat} (h : Q .normal a w) : Exit.inBlock i Q .normal a w := h
theorem zCj {i : Nat} (h : Q .ret a w) : Exit.inBlock i Q .ret a w := h
theorem zCg {i : Nat} (h : Q .normal a w) : Exit.inBlock i Q (.exit i) a w := by simpa [Exit.inBlock] using h
theorem zBh (E : Fr a n e) {c : Operand} {x y : Code} {b : Bool} (hc : ev e c = some (.bool b)) (ht : b = true → x.wp P Q a w) (hf : b = false → y.wp P Q a w) : (Code.cond c x y).wp P Q a w :=
  wp_cond_split (E.eval hc) ht hf
theorem zCe (E : Fr a n e) {c : Operand} {x y : Code} {b : Bool} (hc : ev e c = some (.bool b)) (hb : b = true) (ht : x.wp P Q a w) : (Code.cond c x y).wp P Q a w :=
  wp_cond_split (E.eval hc) (fun _ => ht) (fun h => by rw [hb] at h; cases h)
theorem zDd (E : Fr a n e) {c : Operand} {x y : Code} {b : Bool} (hc : ev e c = some (.bool b)) (hb : b = false) (hf : y.wp P Q a w) : (Code.cond c x y).wp P Q a w :=
  wp_cond_split (E.eval hc) (fun h => by rw [hb] at h; cases h) (fun _ => hf)
end
def zBf (P : Program) (o : Oper) (a : Act) (w : World) (v : Value) (w' : World) : Prop := (execOp a.eval o).run P w = .ok (.value v) w'
section
variable {P : Program} {ops : Array Oper} {Q : Exit → Act → World → Prop} {a : Act} {w w' : World} {rest : List Oper} {o : Oper} {n d : Nat} {e : List (Nat × Value)} {v : Value}
theorem zBf.wp (h : zBf P o a w v w') {K : Act → World → Prop} (k : K (a.put o.dst v) w') : o.wp P a w K Q := by
  unfold Oper.wp
  rw [h]
  exact k
theorem zAo (hg : o.guard = none) (h : o.wp P a w (wpList P ops Q rest) Q) : wpList P ops Q (o :: rest) a w := by
  unfold wpList
  rw [if_pos (by simp [Region.wanted, hg])]
  exact .inl h
theorem list_pure (E : Fr a n e) (hg : o.guard = none) (hd : o.dst = some d) (hn : d < n) (hr : zBf P o a w v w)
    (k : ∀ a', Fr a' n ((d, v) :: e) → wpList P ops Q rest a' w) : wpList P ops Q (o :: rest) a w :=
  zAo hg (hr.wp (by rw [hd]; exact k _ (E.put hn v)))
def Skips (P : Program) (o : Oper) (a : Act) (w w' : World) : Prop := (execOp a.eval o).run P w = .ok .skip w'
theorem zFl (E : Fr a n e) {j t : Nat} {want b : Bool} {oj : Oper} (hg : o.guard = some (j, want)) (hj : ops[j]? = some oj) (ht : oj.dst = some t) (hb : lk e t = some (.bool b)) :
    Region.wanted o (yielded ops a.tmps) = (b == want) := by
  have h1 := E.get t _ hb
  simp only [Region.wanted, hg, yielded, hj, Option.bind_some, ht]
  simp [h1]
theorem zKu (E : Fr a n e) {j t : Nat} {want b : Bool} {oj : Oper} (hg : o.guard = some (j, want)) (hj : ops[j]? = some oj) (ht : oj.dst = some t) (hb : lk e t = some (.bool b)) (hbw : b = want)
    (hd : o.dst = some d) (hn : d < n) (hr : zBf P o a w v w)
    (k : ∀ a', Fr a' n ((d, v) :: e) → wpList P ops Q rest a' w) : wpList P ops Q (o :: rest) a w := by
  unfold wpList
  rw [zFl E hg hj ht hb, hbw]
  simp only [BEq.rfl, if_true]
  exact .inl (hr.wp (by rw [hd]; exact k _ (E.put hn v)))
theorem zBx (E : Fr a n e) {j t : Nat} {want b : Bool} {oj : Oper} (hg : o.guard = some (j, want)) (hj : ops[j]? = some oj) (ht : oj.dst = some t) (hb : lk e t = some (.bool b)) (hbw : b = want)
    (h : o.wp P a w (wpList P ops Q rest) Q) : wpList P ops Q (o :: rest) a w := by
  unfold wpList
  rw [zFl E hg hj ht hb, hbw]
  simp only [BEq.rfl, if_true]
  exact .inl h
theorem zIv (E : Fr a n e) {j t : Nat} {want : Bool} {oj : Oper} (hg : o.guard = some (j, want)) (hj : ops[j]? = some oj) (ht : oj.dst = some t) (hb : lk e t = some undef) :
    Region.wanted o (yielded ops a.tmps) = false := by
  have h1 := E.get t _ hb
  simp only [Region.wanted, hg, yielded, hj, Option.bind_some, ht]
  simp [h1, undef]
theorem zJd (E : Fr a n e) {j t : Nat} {want : Bool} {oj : Oper} (hg : o.guard = some (j, want)) (hj : ops[j]? = some oj) (ht : oj.dst = some t) (hb : lk e t = some undef)
    (hd : o.dst = some d) (hn : d < n)
    (k : ∀ a', Fr a' n ((d, undef) :: e) → wpList P ops Q rest a' w) : wpList P ops Q (o :: rest) a w := by
  unfold wpList
  rw [zIv E hg hj ht hb]
  simp only [Bool.false_eq_true, if_false]
  rw [hd]; exact k _ (E.put hn undef)
theorem list_guard_no (E : Fr a n e) {j t : Nat} {want b : Bool} {oj : Oper} (hg : o.guard = some (j, want)) (hj : ops[j]? = some oj) (ht : oj.dst = some t) (hb : lk e t = some (.bool b)) (hbw : b = !want)
    (hd : o.dst = some d) (hn : d < n)
    (k : ∀ a', Fr a' n ((d, undef) :: e) → wpList P ops Q rest a' w) : wpList P ops Q (o :: rest) a w := by
  unfold wpList
  rw [zFl E hg hj ht hb, hbw]
  have : ((!want) == want) = false := by cases want <;> rfl
  simp only [this, Bool.false_eq_true, if_false]
  rw [hd]
  exact k _ (E.put hn undef)
theorem zAb {id : Nat} {l : List Oper} (h : wpList P l.toArray Q l a w) : (Code.region id l.toArray false).wp P Q a w := wp_region_lit h
end
def ahead (ops : Array Oper) : Nat → Nat → Nat → Bool
  | 0, _, _ => false
  | fuel + 1, i, j => match ops[j]? with
    | none => false
    | some o => o.after.any fun e => Region.binds .any e && (e.on == i || ahead ops fuel i e.on)
def zIw (ops : Array Oper) (listed : Array Bool) : Prop := ∀ j o, ops[j]? = some o → listed.getD j false = true → ∀ e ∈ o.after, Region.binds .any e = true → listed.getD e.on false = true
theorem zIw.ahead {ops : Array Oper} {listed : Array Bool} (h : zIw ops listed) {i : Nat} (hi : listed.getD i false = false) : ∀ (fuel j : Nat), ahead ops fuel i j = true → listed.getD j false = false
  | 0, _, ha => by simp [Sl.ahead] at ha
  | fuel + 1, j, ha => by
    unfold Sl.ahead at ha
    split at ha
    · cases ha
    · rename_i o ho
      rw [Array.any_eq_true'] at ha
      obtain ⟨e, he, hb⟩ := ha
      simp only [Bool.and_eq_true, Bool.or_eq_true, beq_iff_eq] at hb
      cases hj : listed.getD j false with
      | false => rfl
      | true =>
        have h1 := h j o ho hj e he hb.1
        rcases hb.2 with h2 | h2
        · rw [h2, hi] at h1; cases h1
        · rw [h.ahead hi fuel e.on h2] at h1; cases h1
theorem zIw.set {ops : Array Oper} {listed : Array Bool} (h : zIw ops listed) {i : Nat} (hi : i ∈ Region.ready .any ops listed) : zIw ops (listed.setIfInBounds i true) := by
  intro j o ho hj e he hb
  obtain ⟨_, oi, hoi, hall⟩ := mem_ready.1 hi
  by_cases hij : i = j
  · subst hij
    rw [ho] at hoi; cases hoi
    exact getD_set_true (hall e he hb)
  · rw [getD_set_ne false hij] at hj
    exact getD_set_true (h j o ho hj e he hb)
section
variable {P : Program} {ops : Array Oper} {Q : Exit → Act → World → Prop} {S : World → Prop} {js : Nat}
def SS (S : World → Prop) (js : Nat) (listed : Array Bool) (w : World) : Prop := listed.getD js false = true ∨ S w
def wpAnyM (P : Program) (ops : Array Oper) (Q : Exit → Act → World → Prop) (S : World → Prop) (js : Nat) : Nat → Array Bool → Act → World → Prop
  | 0, listed, a, w => Region.ready .any ops listed = [] ∧ Q .normal a w
  | fuel + 1, listed, a, w => (Region.ready .any ops listed = [] → Q .normal a w) ∧
    ∀ i ∈ Region.ready .any ops listed, wpOp P ops Q i (fun a' w' => SS S js (listed.setIfInBounds i true) w' ∧ wpAnyM P ops Q S js fuel (listed.setIfInBounds i true) a' w') a w
theorem zKx : ∀ (fuel : Nat) (listed : Array Bool) (a : Act) (w : World), wpAnyM P ops Q S js fuel listed a w → wpAny P .any ops Q fuel listed a w
  | 0, _, _, _, h => h
  | fuel + 1, _, _, _, h => ⟨h.1, fun i hi => wpOp_mono (fun _ _ h' => zKx fuel _ _ _ h'.2) (h.2 i hi)⟩
def Counts (S : World → Prop) (b : Bool) (w : World) : Prop := b = true → S w
theorem zFz {listed : Array Bool} {i : Nat} (h : i ∈ Region.ready .any ops listed) : listed.getD i false = false := by
  have h0 := (mem_ready.1 h).1
  rcases Nat.lt_or_ge i listed.size with h' | h'
  · simpa [h'] using h0
  · simp [Array.getD, Nat.not_lt.2 h']
theorem zFs {i : Nat} {oi : Oper} {v : Value} {b : Bool} {fz : Nat} (hi : ops[i]? = some oi) (hsel : ∀ (j : Nat) (o : Oper) cs c, ops[j]? = some o → o.op ≠ .select cs c)
    (hQ : ∀ c a w, Q (.panic c) (a.put oi.dst v) w → Q (.panic c) a w) (hb : b = true → ahead ops fz i js = true ∨ js = ops.size) (hij : js ≠ i) :
    ∀ (fuel : Nat) (listed : Array Bool) (a : Act) (w : World), listed.size = ops.size → zIw ops listed →
      (∀ j oj, ops[j]? = some oj → j ≠ i → listed.getD j true = false → (∀ e ∈ oj.after, Region.binds .any e = true → e.on ≠ i) → oi.apart ops oj = true) →
      i ∈ Region.ready .any ops listed → YieldsIf P ops (Counts S b) oi v a → SS S js listed w →
      wpAnyM P ops Q S js fuel (listed.setIfInBounds i true) (a.put oi.dst v) w → wpAnyM P ops Q S js (fuel + 1) listed a w := by
  have counts : ∀ {listed : Array Bool} {w : World}, listed.size = ops.size → zIw ops listed → i ∈ Region.ready .any ops listed → SS S js listed w → Counts S b w := by
    intro listed w hz hc hr hS hbt
    rcases hS with h | h
    · rcases hb hbt with hb | hb
      · rw [hc.ahead (zFz hr) fz js hb] at h; cases h
      · simp [Array.getD, hb, hz] at h
    · exact h
  intro fuel
  induction fuel with
  | zero =>
    intro listed a w hz hc _ hr hy hS H
    refine ⟨fun h => (by rw [h] at hr; cases hr), fun j hj => ?_⟩
    by_cases hji : j = i
    · subst hji
      refine hy.wpOp hi (counts hz hc hr hS) ⟨?_, H⟩
      rcases hS with h | h
      · exact .inl (getD_set_true h)
      · exact .inr h
    · have := ready_mono hj hji
      rw [H.1] at this
      cases this
  | succ fuel ih =>
    intro listed a w hz hc hfree hr hy hS H
    refine ⟨fun h => (by rw [h] at hr; cases hr), fun j hj => ?_⟩
    by_cases hji : j = i
    · subst hji
      refine hy.wpOp hi (counts hz hc hr hS) ⟨?_, H⟩
      rcases hS with h | h
      · exact .inl (getD_set_true h)
      · exact .inr h
    · have h1 := H.2 j (ready_mono hj hji)
      obtain ⟨hjun, oj, hoj, hall⟩ := mem_ready.1 hj
      have hnot : ∀ e ∈ oj.after, Region.binds .any e = true → e.on ≠ i := fun e he hbd heq => by
        have h1 := hall e he hbd
        rw [heq, zFz hr] at h1
        cases h1
      have h2 := wpOp_putIf hoj (hfree j oj hoj hji hjun hnot) (fun cs c => hsel i oi cs c hi) (fun cs c => hsel j oj cs c hoj) hQ hy h1
      have hfree' : ∀ k ok, ops[k]? = some ok → k ≠ i → (listed.setIfInBounds j true).getD k true = false →
          (∀ e ∈ ok.after, Region.binds .any e = true → e.on ≠ i) → oi.apart ops ok = true := fun k ok hk hki hun hno => by
        refine hfree k ok hk hki ?_ hno
        by_cases hjk : j = k
        · subst hjk; exact hjun
        · rw [getD_set_ne true hjk] at hun; exact hun
      have hr' := ready_mono hr (Ne.symm hji)
      refine wpOp_mono (fun a' w' h3 => ?_) h2
      have hS' : SS S js (listed.setIfInBounds j true) w' := by
        rcases h3.2.1 with h | h
        · refine .inl ?_
          rw [Array.setIfInBounds_comm _ _ (Ne.symm hji), getD_set_ne false (Ne.symm hij)] at h
          exact h
        · exact .inr h
      refine ⟨hS', ih (listed.setIfInBounds j true) a' w' (by simpa using hz) (hc.set hj) hfree' hr' h3.1 hS' ?_⟩
      rw [Array.setIfInBounds_comm _ _ hji]
      exact h3.2.2
end
inductive Ordr where
  | nil
  | cons (x : Nat × Nat) (r : Ordr)
  | fork (i : Nat) (r : Ordr) (j : Nat) (q : Ordr)
  | fork3 (i : Nat) (r : Ordr) (j : Nat) (q : Ordr) (l : Nat) (s : Ordr)
def Ordr.ofL : List (Nat × Nat) → Ordr
  | [] => .nil
  | x :: r => .cons x (ofL r)
def Ordr.len : Ordr → Nat
  | .nil => 0
  | .cons _ r => r.len + 1
  | .fork _ r _ _ => r.len + 1
  | .fork3 _ r _ _ _ _ => r.len + 1
def mixB (ops : Array Oper) (js : Nat) : Ordr → Array Bool → Bool
  | .nil, listed => (Region.ready .any ops listed).isEmpty
  | .cons (i, 0) r, listed => (Region.ready .any ops listed).contains i && Region.free .any ops listed i && js != i && (ahead ops ops.size i js || js == ops.size) && mixB ops js r (listed.setIfInBounds i true)
  | .cons (i, 2) r, listed => (Region.ready .any ops listed).contains i && Region.free .any ops listed i && js != i && mixB ops js r (listed.setIfInBounds i true)
  | .cons (i, 1) r, listed => (Region.ready .any ops listed == [i]) && js != i && mixB ops js r (listed.setIfInBounds i true)
  | .cons (i, 3) r, listed => (Region.ready .any ops listed == [i]) && js == i && mixB ops js r (listed.setIfInBounds i true)
  | .fork i r j q, listed => (Region.ready .any ops listed == [i, j]) && js != i && js != j && r.len == q.len && mixB ops js r (listed.setIfInBounds i true) && mixB ops js q (listed.setIfInBounds j true)
  | .fork3 i r j q l t, listed => (Region.ready .any ops listed == [i, j, l]) && js != i && js != j && js != l && r.len == q.len && r.len == t.len && mixB ops js r (listed.setIfInBounds i true) && mixB ops js q (listed.setIfInBounds j true) && mixB ops js t (listed.setIfInBounds l true)
  | .cons _ _, _ => false
def zJp (n : Nat) : Ordr → Nat
  | .nil => n
  | .cons (i, 3) _ => i
  | .cons _ r => zJp n r
  | .fork _ r _ _ => zJp n r
  | .fork3 _ r _ _ _ _ => zJp n r
def mixAll (ops : Array Oper) (ord : Ordr) : Bool := Region.noSelect ops && (ord.len == ops.size) && mixB ops (zJp ops.size ord) ord (Array.replicate ops.size false)
def zDh (P : Program) (ops : Array Oper) (S : World → Prop) (Q : Exit → Act → World → Prop) : Ordr → Act → World → Prop
  | .nil, a, w => Q .normal a w
  | .cons (i, 0) r, a, w => ∃ o, ops[i]? = some o ∧
      ((Region.wanted o (yielded ops a.tmps) = true ∧ ∃ v, (∀ w', S w' → zBf P o a w' v w') ∧ zDh P ops S Q r (a.put o.dst v) w) ∨
       (Region.wanted o (yielded ops a.tmps) = false ∧ zDh P ops S Q r (a.put o.dst undef) w))
  | .cons (i, 2) r, a, w => ∃ o, ops[i]? = some o ∧
      ((Region.wanted o (yielded ops a.tmps) = true ∧ ∃ v, (∀ w', zBf P o a w' v w') ∧ zDh P ops S Q r (a.put o.dst v) w) ∨
       (Region.wanted o (yielded ops a.tmps) = false ∧ zDh P ops S Q r (a.put o.dst undef) w))
  | .cons (i, 1) r, a, w => ∃ o, ops[i]? = some o ∧
      ((Region.wanted o (yielded ops a.tmps) = true ∧ o.wp P a w (fun a' w' => S w' ∧ zDh P ops S Q r a' w') Q) ∨
       (Region.wanted o (yielded ops a.tmps) = false ∧ S w ∧ zDh P ops S Q r (a.put o.dst undef) w))
  | .cons (i, 3) r, a, w => ∃ o, ops[i]? = some o ∧
      ((Region.wanted o (yielded ops a.tmps) = true ∧ o.wp P a w (fun a' w' => zDh P ops S Q r a' w') Q) ∨
       (Region.wanted o (yielded ops a.tmps) = false ∧ zDh P ops S Q r (a.put o.dst undef) w))
  | .fork i r j q, a, w => (∃ o, ops[i]? = some o ∧
      ((Region.wanted o (yielded ops a.tmps) = true ∧ o.wp P a w (fun a' w' => S w' ∧ zDh P ops S Q r a' w') Q) ∨
       (Region.wanted o (yielded ops a.tmps) = false ∧ S w ∧ zDh P ops S Q r (a.put o.dst undef) w))) ∧
      (∃ o, ops[j]? = some o ∧
      ((Region.wanted o (yielded ops a.tmps) = true ∧ o.wp P a w (fun a' w' => S w' ∧ zDh P ops S Q q a' w') Q) ∨
       (Region.wanted o (yielded ops a.tmps) = false ∧ S w ∧ zDh P ops S Q q (a.put o.dst undef) w)))
  | .fork3 i r j q l t, a, w => (∃ o, ops[i]? = some o ∧
      ((Region.wanted o (yielded ops a.tmps) = true ∧ o.wp P a w (fun a' w' => S w' ∧ zDh P ops S Q r a' w') Q) ∨
       (Region.wanted o (yielded ops a.tmps) = false ∧ S w ∧ zDh P ops S Q r (a.put o.dst undef) w))) ∧
      (∃ o, ops[j]? = some o ∧
      ((Region.wanted o (yielded ops a.tmps) = true ∧ o.wp P a w (fun a' w' => S w' ∧ zDh P ops S Q q a' w') Q) ∨
       (Region.wanted o (yielded ops a.tmps) = false ∧ S w ∧ zDh P ops S Q q (a.put o.dst undef) w))) ∧
      (∃ o, ops[l]? = some o ∧
      ((Region.wanted o (yielded ops a.tmps) = true ∧ o.wp P a w (fun a' w' => S w' ∧ zDh P ops S Q t a' w') Q) ∨
       (Region.wanted o (yielded ops a.tmps) = false ∧ S w ∧ zDh P ops S Q t (a.put o.dst undef) w)))
  | .cons _ _, _, _ => False
def zCf (Q : Exit → Act → World → Prop) : Exit → Act → World → Prop
  | .normal, a, w => Q .normal a w
  | _, _, _ => False
theorem zCf.imp {Q : Exit → Act → World → Prop} : ∀ e a w, zCf Q e a w → Q e a w := fun e a w h => by
  cases e <;> first | exact h | exact h.elim
theorem zDv {P : Program} {ops : Array Oper} {S : World → Prop} {Q : Exit → Act → World → Prop} {js : Nat} (hs : Region.noSelect ops = true) :
    ∀ (ord : Ordr) (listed : Array Bool) (a : Act) (w : World), mixB ops js ord listed = true → listed.size = ops.size → zIw ops listed → SS S js listed w → zDh P ops S (zCf Q) ord a w →
      wpAnyM P ops (zCf Q) S js ord.len listed a w
  | .nil, listed, a, w, hB, _, _, _, h => by
    have : Region.ready .any ops listed = [] := by simpa [mixB] using hB
    exact ⟨this, h⟩
  | .cons (i, 0) r, listed, a, w, hB, hz, hc, hS, h => by
    simp only [mixB, Bool.and_eq_true, Bool.or_eq_true, beq_iff_eq, bne_iff_ne] at hB
    obtain ⟨⟨⟨⟨h1, h2⟩, hji⟩, hah⟩, h3⟩ := hB
    have hr : i ∈ Region.ready .any ops listed := by simpa using h1
    obtain ⟨o, ho, hw⟩ := h
    have hS2 : SS S js (listed.setIfInBounds i true) w := hS.imp (fun h => getD_set_true h) id
    rcases hw with ⟨hw, v, hv, hk⟩ | ⟨hw, hk⟩
    · exact zFs (b := true) (fz := ops.size) ho (Region.noSelect_spec hs) (fun c a w h => h) (fun _ => hah) hji _ listed a w hz hc (Region.free_spec ho h2) hr (.inl ⟨hw, fun w' hw' => hv w' (hw' rfl)⟩) hS (zDv hs r _ _ _ h3 (by simpa using hz) (hc.set hr) hS2 hk)
    · exact zFs (b := true) (fz := ops.size) ho (Region.noSelect_spec hs) (fun c a w h => h) (fun _ => hah) hji _ listed a w hz hc (Region.free_spec ho h2) hr (.inr ⟨hw, rfl⟩) hS (zDv hs r _ _ _ h3 (by simpa using hz) (hc.set hr) hS2 hk)
  | .cons (i, 2) r, listed, a, w, hB, hz, hc, hS, h => by
    simp only [mixB, Bool.and_eq_true, bne_iff_ne] at hB
    obtain ⟨⟨⟨h1, h2⟩, hji⟩, h3⟩ := hB
    have hr : i ∈ Region.ready .any ops listed := by simpa using h1
    obtain ⟨o, ho, hw⟩ := h
    have hS2 : SS S js (listed.setIfInBounds i true) w := hS.imp (fun h => getD_set_true h) id
    rcases hw with ⟨hw, v, hv, hk⟩ | ⟨hw, hk⟩
    · exact zFs (b := false) (fz := 0) ho (Region.noSelect_spec hs) (fun c a w h => h) (fun h => by cases h) hji _ listed a w hz hc (Region.free_spec ho h2) hr (.inl ⟨hw, fun w' _ => hv w'⟩) hS (zDv hs r _ _ _ h3 (by simpa using hz) (hc.set hr) hS2 hk)
    · exact zFs (b := false) (fz := 0) ho (Region.noSelect_spec hs) (fun c a w h => h) (fun h => by cases h) hji _ listed a w hz hc (Region.free_spec ho h2) hr (.inr ⟨hw, rfl⟩) hS (zDv hs r _ _ _ h3 (by simpa using hz) (hc.set hr) hS2 hk)
  | .cons (i, 1) r, listed, a, w, hB, hz, hc, hS, h => by
    simp only [mixB, Bool.and_eq_true, beq_iff_eq, bne_iff_ne] at hB
    obtain ⟨⟨h1, hji⟩, h3⟩ := hB
    have hr : i ∈ Region.ready .any ops listed := by rw [h1]; simp
    obtain ⟨o, ho, hw⟩ := h
    refine ⟨fun h0 => by rw [h0] at hr; (cases hr), fun j hj => ?_⟩
    rw [h1] at hj
    have hji' : j = i := by simpa using hj
    subst hji'
    unfold wpOp
    simp only [ho]
    rcases hw with ⟨hw, hk⟩ | ⟨hw, hS', hk⟩
    · rw [if_pos hw]
      exact .inl (Oper.wp_mono (fun a' w' h' => ⟨.inr h'.1, zDv hs r _ _ _ h3 (by simpa using hz) (hc.set hr) (.inr h'.1) h'.2⟩) hk)
    · rw [if_neg (by rw [hw]; decide)]
      exact ⟨.inr hS', zDv hs r _ _ _ h3 (by simpa using hz) (hc.set hr) (.inr hS') hk⟩
  | .cons (i, 3) r, listed, a, w, hB, hz, hc, hS, h => by
    simp only [mixB, Bool.and_eq_true, beq_iff_eq] at hB
    obtain ⟨⟨h1, hji⟩, h3⟩ := hB
    have hr : i ∈ Region.ready .any ops listed := by rw [h1]; simp
    obtain ⟨o, ho, hw⟩ := h
    have hlt : i < ops.size := (Array.getElem?_eq_some_iff.1 ho).1
    have hdone : (listed.setIfInBounds i true).getD js false = true := by
      rw [hji]; simp [Array.getD, hz, hlt]
    refine ⟨fun h0 => by rw [h0] at hr; (cases hr), fun j hj => ?_⟩
    rw [h1] at hj
    have hji' : j = i := by simpa using hj
    subst hji'
    unfold wpOp
    simp only [ho]
    rcases hw with ⟨hw, hk⟩ | ⟨hw, hk⟩
    · rw [if_pos hw]
      exact .inl (Oper.wp_mono (fun a' w' h' => ⟨.inl hdone, zDv hs r _ _ _ h3 (by simpa using hz) (hc.set hr) (.inl hdone) h'⟩) hk)
    · rw [if_neg (by rw [hw]; decide)]
      exact ⟨.inl hdone, zDv hs r _ _ _ h3 (by simpa using hz) (hc.set hr) (.inl hdone) hk⟩
  | .fork i r j q, listed, a, w, hB, hz, hc, hS, h => by
    simp only [mixB, Bool.and_eq_true, beq_iff_eq, bne_iff_ne] at hB
    obtain ⟨⟨⟨⟨⟨h1, hji⟩, hjj⟩, hlen⟩, h3⟩, h4⟩ := hB
    have hri : i ∈ Region.ready .any ops listed := by rw [h1]; simp
    have hrj : j ∈ Region.ready .any ops listed := by rw [h1]; simp
    obtain ⟨⟨o, ho, hw⟩, o2, ho2, hw2⟩ := h
    refine ⟨fun h0 => by rw [h0] at hri; (cases hri), fun k hk => ?_⟩
    rw [h1] at hk
    simp only [List.mem_cons, List.not_mem_nil, or_false] at hk
    rcases hk with rfl | rfl
    · unfold wpOp
      simp only [ho]
      rcases hw with ⟨hw, hk⟩ | ⟨hw, hS', hk⟩
      · rw [if_pos hw]
        exact .inl (Oper.wp_mono (fun a' w' h' => ⟨.inr h'.1, zDv hs r _ _ _ h3 (by simpa using hz) (hc.set hri) (.inr h'.1) h'.2⟩) hk)
      · rw [if_neg (by rw [hw]; decide)]
        exact ⟨.inr hS', zDv hs r _ _ _ h3 (by simpa using hz) (hc.set hri) (.inr hS') hk⟩
    · unfold wpOp
      simp only [ho2, Ordr.len]
      rw [hlen]
      rcases hw2 with ⟨hw, hk⟩ | ⟨hw, hS', hk⟩
      · rw [if_pos hw]
        exact .inl (Oper.wp_mono (fun a' w' h' => ⟨.inr h'.1, zDv hs q _ _ _ h4 (by simpa using hz) (hc.set hrj) (.inr h'.1) h'.2⟩) hk)
      · rw [if_neg (by rw [hw]; decide)]
        exact ⟨.inr hS', zDv hs q _ _ _ h4 (by simpa using hz) (hc.set hrj) (.inr hS') hk⟩
  | .fork3 i r j q l t, listed, a, w, hB, hz, hc, hS, h => by
    simp only [mixB, Bool.and_eq_true, beq_iff_eq, bne_iff_ne] at hB
    obtain ⟨⟨⟨⟨⟨⟨⟨⟨h1, hji⟩, hjj⟩, hjl⟩, hlen⟩, hlen2⟩, h3⟩, h4⟩, h5⟩ := hB
    have hri : i ∈ Region.ready .any ops listed := by rw [h1]; simp
    have hrj : j ∈ Region.ready .any ops listed := by rw [h1]; simp
    have hrl : l ∈ Region.ready .any ops listed := by rw [h1]; simp
    obtain ⟨⟨o, ho, hw⟩, ⟨o2, ho2, hw2⟩, o3, ho3, hw3⟩ := h
    refine ⟨fun h0 => by rw [h0] at hri; (cases hri), fun k hk => ?_⟩
    rw [h1] at hk
    simp only [List.mem_cons, List.not_mem_nil, or_false] at hk
    rcases hk with rfl | rfl | rfl
    · unfold wpOp
      simp only [ho]
      rcases hw with ⟨hw, hk⟩ | ⟨hw, hS', hk⟩
      · rw [if_pos hw]
        exact .inl (Oper.wp_mono (fun a' w' h' => ⟨.inr h'.1, zDv hs r _ _ _ h3 (by simpa using hz) (hc.set hri) (.inr h'.1) h'.2⟩) hk)
      · rw [if_neg (by rw [hw]; decide)]
        exact ⟨.inr hS', zDv hs r _ _ _ h3 (by simpa using hz) (hc.set hri) (.inr hS') hk⟩
    · unfold wpOp
      simp only [ho2, Ordr.len]
      rw [hlen]
      rcases hw2 with ⟨hw, hk⟩ | ⟨hw, hS', hk⟩
      · rw [if_pos hw]
        exact .inl (Oper.wp_mono (fun a' w' h' => ⟨.inr h'.1, zDv hs q _ _ _ h4 (by simpa using hz) (hc.set hrj) (.inr h'.1) h'.2⟩) hk)
      · rw [if_neg (by rw [hw]; decide)]
        exact ⟨.inr hS', zDv hs q _ _ _ h4 (by simpa using hz) (hc.set hrj) (.inr hS') hk⟩
    · unfold wpOp
      simp only [ho3, Ordr.len]
      rw [hlen2]
      rcases hw3 with ⟨hw, hk⟩ | ⟨hw, hS', hk⟩
      · rw [if_pos hw]
        exact .inl (Oper.wp_mono (fun a' w' h' => ⟨.inr h'.1, zDv hs t _ _ _ h5 (by simpa using hz) (hc.set hrl) (.inr h'.1) h'.2⟩) hk)
      · rw [if_neg (by rw [hw]; decide)]
        exact ⟨.inr hS', zDv hs t _ _ _ h5 (by simpa using hz) (hc.set hrl) (.inr hS') hk⟩
  | .cons (i, k + 4) r, listed, a, w, hB, _, _, _, _ => by simp [mixB] at hB
theorem zJq {P : Program} {id : Nat} {l : List Oper} {Q : Exit → Act → World → Prop} {a : Act} {w : World} (ord : Ordr) (S : World → Prop)
    (hm : P.follows .mixedOrders = true) (hB : mixAll l.toArray ord = true) (hS : S w.drew) (h : zDh P l.toArray S (zCf Q) ord a w.drew) : (Code.region id l.toArray true).wp P Q a w := by
  simp only [mixAll, Bool.and_eq_true, beq_iff_eq] at hB
  obtain ⟨⟨h1, h2⟩, h3⟩ := hB
  have h4 := zDv (js := zJp l.toArray.size ord) (S := S) h1 ord _ a w.drew h3 (by simp) (fun j o _ hj => by simp [Array.getD] at hj) (.inr hS) h
  rw [h2] at h4
  exact wp_mono (wp_region_any hm (zKx _ _ _ _ h4)) zCf.imp
section
variable {P : Program} {ops : Array Oper} {Q : Exit → Act → World → Prop} {a : Act} {w w' : World} {o : Oper} {n d i : Nat} {e : List (Nat × Value)} {v : Value} {Ms : List zAw} {r : Ordr}
theorem mix_pure (E : Fr a n e) (hi : ops[i]? = some o) (hg : o.guard = none) (hd : o.dst = some d) (hn : d < n) (hr : ∀ w', Stab Ms w' → zBf P o a w' v w')
    (k : ∀ a', Fr a' n ((d, v) :: e) → zDh P ops (Stab Ms) (zCf Q) r a' w) : zDh P ops (Stab Ms) (zCf Q) (.cons (i, 0) r) a w :=
  ⟨o, hi, .inl ⟨by simp [Region.wanted, hg], v, hr, by rw [hd]; exact k _ (E.put hn v)⟩⟩
theorem zDi (E : Fr a n e) (hi : ops[i]? = some o) (hg : o.guard = none) (hd : o.dst = some d) (hn : d < n) (hr : ∀ w', zBf P o a w' v w')
    (k : ∀ a', Fr a' n ((d, v) :: e) → zDh P ops (Stab Ms) (zCf Q) r a' w) : zDh P ops (Stab Ms) (zCf Q) (.cons (i, 2) r) a w :=
  ⟨o, hi, .inl ⟨by simp [Region.wanted, hg], v, hr, by rw [hd]; exact k _ (E.put hn v)⟩⟩
theorem zAz (E : Fr a n e) (hi : ops[i]? = some o) {j t : Nat} {want b : Bool} {oj : Oper} (hg : o.guard = some (j, want)) (hj : ops[j]? = some oj) (ht : oj.dst = some t) (hb : lk e t = some (.bool b)) (hbw : b = want)
    (hd : o.dst = some d) (hn : d < n) (hr : ∀ w', Stab Ms w' → zBf P o a w' v w')
    (k : ∀ a', Fr a' n ((d, v) :: e) → zDh P ops (Stab Ms) (zCf Q) r a' w) : zDh P ops (Stab Ms) (zCf Q) (.cons (i, 0) r) a w :=
  ⟨o, hi, .inl ⟨by rw [zFl E hg hj ht hb, hbw]; simp, v, hr, by rw [hd]; exact k _ (E.put hn v)⟩⟩
theorem zCa (E : Fr a n e) (hi : ops[i]? = some o) {j t : Nat} {want b : Bool} {oj : Oper} (hg : o.guard = some (j, want)) (hj : ops[j]? = some oj) (ht : oj.dst = some t) (hb : lk e t = some (.bool b)) (hbw : b = !want)
    (hd : o.dst = some d) (hn : d < n)
    (k : ∀ a', Fr a' n ((d, undef) :: e) → zDh P ops (Stab Ms) (zCf Q) r a' w) : zDh P ops (Stab Ms) (zCf Q) (.cons (i, 0) r) a w :=
  ⟨o, hi, .inr ⟨by rw [zFl E hg hj ht hb, hbw]; cases want <;> rfl, by rw [hd]; exact k _ (E.put hn undef)⟩⟩
theorem zDl (E : Fr a n e) (hi : ops[i]? = some o) {j t : Nat} {want : Bool} {oj : Oper} (hg : o.guard = some (j, want)) (hj : ops[j]? = some oj) (ht : oj.dst = some t) (hb : lk e t = some undef)
    (hd : o.dst = some d) (hn : d < n)
    (k : ∀ a', Fr a' n ((d, undef) :: e) → zDh P ops (Stab Ms) (zCf Q) r a' w) : zDh P ops (Stab Ms) (zCf Q) (.cons (i, 0) r) a w :=
  ⟨o, hi, .inr ⟨zIv E hg hj ht hb, by rw [hd]; exact k _ (E.put hn undef)⟩⟩
theorem zDm (hi : ops[i]? = some o) (hg : o.guard = none) (h : o.wp P a w (fun a' w' => Stab Ms w' ∧ zDh P ops (Stab Ms) (zCf Q) r a' w') (zCf Q)) :
    zDh P ops (Stab Ms) (zCf Q) (.cons (i, 1) r) a w :=
  ⟨o, hi, .inl ⟨by simp [Region.wanted, hg], h⟩⟩
theorem zCt (hi : ops[i]? = some o) (hg : o.guard = none) (h : o.wp P a w (fun a' w' => zDh P ops (Stab Ms) (zCf Q) r a' w') (zCf Q)) :
    zDh P ops (Stab Ms) (zCf Q) (.cons (i, 3) r) a w :=
  ⟨o, hi, .inl ⟨by simp [Region.wanted, hg], h⟩⟩
theorem zIb (E : Fr a n e) (hi : ops[i]? = some o) {j t : Nat} {want b : Bool} {oj : Oper} (hg : o.guard = some (j, want)) (hj : ops[j]? = some oj) (ht : oj.dst = some t) (hb : lk e t = some (.bool b)) (hbw : b = want)
    (h : o.wp P a w (fun a' w' => Stab Ms w' ∧ zDh P ops (Stab Ms) (zCf Q) r a' w') (zCf Q)) :
    zDh P ops (Stab Ms) (zCf Q) (.cons (i, 1) r) a w :=
  ⟨o, hi, .inl ⟨by rw [zFl E hg hj ht hb, hbw]; simp, h⟩⟩
theorem zFc (E : Fr a n e) (hi : ops[i]? = some o) {j t : Nat} {want b : Bool} {oj : Oper} (hg : o.guard = some (j, want)) (hj : ops[j]? = some oj) (ht : oj.dst = some t) (hb : lk e t = some (.bool b)) (hbw : b = !want)
    (hd : o.dst = some d) (hn : d < n) (hS : Stab Ms w)
    (k : ∀ a', Fr a' n ((d, undef) :: e) → zDh P ops (Stab Ms) (zCf Q) r a' w) : zDh P ops (Stab Ms) (zCf Q) (.cons (i, 1) r) a w :=
  ⟨o, hi, .inr ⟨by rw [zFl E hg hj ht hb, hbw]; cases want <;> rfl, hS, by rw [hd]; exact k _ (E.put hn undef)⟩⟩
end
section
variable {P : Program} {Q : Exit → Act → World → Prop} {a : Act} {w : World} {o : Oper} {n : Nat} {e : List (Nat × Value)} {K : Act → World → Prop}
def evs (e : List (Nat × Value)) : List Operand → Option (List Value)
  | [] => some []
  | x :: r => match ev e x, evs e r with
    | some v, some vs => some (v :: vs)
    | _, _ => none
theorem Fr.evals (E : Fr a n e) : ∀ {xs : List Operand} {vs : List Value}, evs e xs = some vs → xs.map a.eval = vs
  | [], vs, h => by simp only [evs, Option.some.injEq] at h; subst h; rfl
  | x :: r, vs, h => by
    simp only [evs] at h
    split at h
    · rename_i v us h1 h2
      cases h
      rw [List.map_cons, E.eval h1, E.evals h2]
    · cases h
theorem run_callFunc {f : FuncId} {fn : Func} {args : Array Value} (hf : P.funcs[f]? = some fn) (hb : fn.body.isSome = true) (hnm : (fn.name == "runtime.NumGoroutine") = false) :
    (callFunc f args).run P w = .ok (.enter f args) w := by
  have h1 : ¬ fn.name = "runtime.NumGoroutine" := by simpa using hnm
  have h2 : ¬ fn.body = none := by intro h; rw [h] at hb; cases hb
  simp [callFunc, hf, h1, h2]
theorem wp_call (E : Fr a n e) {g : Operand} {xs : List Operand} {ts : Array TypeId} {f : FuncId} {cap : Array Value} {fn : Func} {vs : List Value}
    (ho : o.op = .call { callee := .value g, args := xs.toArray, argTypes := ts }) (hgv : ev e g = some (.func (.func f) #[] cap))
    (hf : P.funcs[f]? = some fn) (hb : fn.body.isSome = true) (hnm : (fn.name == "runtime.NumGoroutine") = false)
    (hx : evs e xs = some vs) (hc : Calls P f (vs.toArray ++ cap) w fun en w' => ∃ v, en = .returned v ∧ K (a.put o.dst v) w') : o.wp P a w K Q := by
  unfold Oper.wp
  have hr : (execOp a.eval o).run P w = .ok (.enter f (vs.toArray ++ cap)) w := by
    unfold execOp
    simp [ho, resolve, E.eval hgv, Deferred.ofValue, invoke, E.evals hx, run_callFunc hf hb hnm]
  rw [hr]
  refine hc.mono ?_
  rintro en w' ⟨v, rfl, h⟩
  exact h
end
section
variable {P : Program} {ops : Array Oper} {Q : Exit → Act → World → Prop} {a : Act} {w w' : World} {rest : List Oper} {o : Oper} {n d i : Nat} {e : List (Nat × Value)} {v : Value} {Ms : List zAw} {r : Ordr}
theorem zp (E : Fr a n e) (hr : zBf P o a w v w) (k : ∀ a', Fr a' n ((d, v) :: e) → wpList P ops Q rest a' w) (hg : o.guard = none := by rfl) (hd : o.dst = some d := by rfl) (hn : d < n := by decide) : wpList P ops Q (o :: rest) a w := list_pure E hg hd hn hr k
theorem zy (E : Fr a n e) {j t : Nat} {want b : Bool} {oj : Oper} (hbw : b = want) (hr : zBf P o a w v w) (k : ∀ a', Fr a' n ((d, v) :: e) → wpList P ops Q rest a' w) (hg : o.guard = some (j, want) := by rfl) (hj : ops[j]? = some oj := by rfl) (ht : oj.dst = some t := by rfl) (hb : lk e t = some (.bool b) := by rfl)
    (hd : o.dst = some d := by rfl) (hn : d < n := by decide) : wpList P ops Q (o :: rest) a w := zKu E hg hj ht hb hbw hd hn hr k
theorem zn (E : Fr a n e) {j t : Nat} {want b : Bool} {oj : Oper} (hbw : b = !want) (k : ∀ a', Fr a' n ((d, undef) :: e) → wpList P ops Q rest a' w) (hg : o.guard = some (j, want) := by rfl) (hj : ops[j]? = some oj := by rfl) (ht : oj.dst = some t := by rfl) (hb : lk e t = some (.bool b) := by rfl)
    (hd : o.dst = some d := by rfl) (hn : d < n := by decide) : wpList P ops Q (o :: rest) a w := list_guard_no E hg hj ht hb hbw hd hn k
theorem zu (E : Fr a n e) {j t : Nat} {want : Bool} {oj : Oper} (k : ∀ a', Fr a' n ((d, undef) :: e) → wpList P ops Q rest a' w) (hg : o.guard = some (j, want) := by rfl) (hj : ops[j]? = some oj := by rfl) (ht : oj.dst = some t := by rfl) (hb : lk e t = some undef := by rfl)
    (hd : o.dst = some d := by rfl) (hn : d < n := by decide) : wpList P ops Q (o :: rest) a w := zJd E hg hj ht hb hd hn k
theorem zm (E : Fr a n e) (hi : ops[i]? = some o) (hr : ∀ w', Stab Ms w' → zBf P o a w' v w') (k : ∀ a', Fr a' n ((d, v) :: e) → zDh P ops (Stab Ms) (zCf Q) r a' w) (hg : o.guard = none := by rfl) (hd : o.dst = some d := by rfl) (hn : d < n := by decide) : zDh P ops (Stab Ms) (zCf Q) (.cons (i, 0) r) a w := mix_pure E hi hg hd hn hr k
end
end Go.Sl
namespace Go.Sl
section
variable {P : Program} {a : Act} {w : World} {o : Oper} {n : Nat} {e : List (Nat × Value)} {x y z : Operand} {v u : Value}
theorem zAe (E : Fr a n e) (ho : o.op = .move x) (hx : ev e x = some v) : zBf P o a w v w := by simp [zBf, execOp, ho, E.eval hx]
theorem zAd (E : Fr a n e) (ho : o.op = .assign x) (hx : ev e x = some v) : zBf P o a w v w := by simp [zBf, execOp, ho, E.eval hx]
theorem rn_pick_yes (E : Fr a n e) (ho : o.op = .pick z x y) (hz : ev e z = some (.bool true)) (hx : ev e x = some v) : zBf P o a w v w := by simp [zBf, execOp, ho, E.eval hx, E.eval hz, asBool]
theorem rn_pick_no (E : Fr a n e) (ho : o.op = .pick z x y) (hz : ev e z = some (.bool false)) (hy : ev e y = some v) : zBf P o a w v w := by simp [zBf, execOp, ho, E.eval hy, E.eval hz, asBool]
theorem zAk (E : Fr a n e) {b : Bool} (ho : o.op = .pick z x y) (hz : ev e z = some (.bool b)) (hb : b = true) (hx : ev e x = some v) : zBf P o a w v w := by subst hb; exact rn_pick_yes E ho hz hx
theorem zAi (E : Fr a n e) {b : Bool} (ho : o.op = .pick z x y) (hz : ev e z = some (.bool b)) (hb : b = false) (hy : ev e y = some v) : zBf P o a w v w := by subst hb; exact rn_pick_no E ho hz hy
theorem zBu (E : Fr a n e) {t el : TypeId} {ad : Option Addr} {l c : Nat} (ho : o.op = .call { callee := .builtin .len, args := #[x], argTypes := #[t] }) (hx : ev e x = some (.slice ad l c))
    (ht : P.underlying t = some (.slice el)) : zBf P o a w (.int .i64 l) w := by
  simp [zBf, execOp, ho, resolve, invoke, builtin, E.eval hx, Builtin.len_, run_underlying ht, goInt]
theorem zAq (E : Fr a n e) {t : TypeId} {s : ByteArray} (ho : o.op = .call { callee := .builtin .len, args := #[x], argTypes := #[t] }) (hx : ev e x = some (.string s))
    (ht : P.underlying t = some .string) : zBf P o a w (.int .i64 s.size) w := by
  simp [zBf, execOp, ho, resolve, invoke, builtin, E.eval hx, Builtin.len_, run_underlying ht, goInt]
theorem rn_max (E : Fr a n e) {ts : Array TypeId} {k j : IntKind} {p q : Int} (ho : o.op = .call { callee := .builtin .max, args := #[x, y], argTypes := ts }) (hx : ev e x = some (.int k p)) (hy : ev e y = some (.int j q)) :
    zBf P o a w (.int k (max p q)) w := by
  have h1 : (if p < q then q else p) = max p q := by omega
  simp [zBf, execOp, ho, resolve, invoke, builtin, E.eval hx, E.eval hy, Builtin.max_, Builtin.max2, h1]
theorem rn_min (E : Fr a n e) {ts : Array TypeId} {k j : IntKind} {p q : Int} (ho : o.op = .call { callee := .builtin .min, args := #[x, y], argTypes := ts }) (hx : ev e x = some (.int k p)) (hy : ev e y = some (.int j q)) :
    zBf P o a w (.int k (min p q)) w := by
  have h1 : (if q < p then q else p) = min p q := by omega
  simp [zBf, execOp, ho, resolve, invoke, builtin, E.eval hx, E.eval hy, Builtin.min_, Builtin.min2, h1]
theorem zEd (E : Fr a n e) {op : BinOp} {t t' : TypeId} {r : Value} (ho : o.op = .binOp op t x y t') (hx : ev e x = some v) (hy : ev e y = some u) (hg : eqGuard op t x y v u = pure ())
    (hr : (binOp op t v u).run P w = .ok r w) : zBf P o a w r w := by
  simp [zBf, execOp, ho, E.eval hx, E.eval hy, hg, hr]
section ints
variable {t t' : TypeId} {k j : IntKind} {p q r : Int}
theorem zBt (E : Fr a n e) (ho : o.op = .binOp .add t x y t') (hx : ev e x = some (.int k p)) (hy : ev e y = some (.int k q)) (hr : k.wrap (p + q) = r) : zBf P o a w (.int k r) w :=
  zEd E ho hx hy (by simp [go_sem]) (by subst hr; simp [go_sem])
theorem zEe (E : Fr a n e) (ho : o.op = .binOp .sub t x y t') (hx : ev e x = some (.int k p)) (hy : ev e y = some (.int k q)) (hr : k.wrap (p - q) = r) : zBf P o a w (.int k r) w :=
  zEd E ho hx hy (by simp [go_sem]) (by subst hr; simp [go_sem])
theorem zFm (E : Fr a n e) (ho : o.op = .binOp .mul t x y t') (hx : ev e x = some (.int k p)) (hy : ev e y = some (.int k q)) (hr : k.wrap (p * q) = r) : zBf P o a w (.int k r) w :=
  zEd E ho hx hy (by simp [go_sem]) (by subst hr; simp [go_sem])
theorem rn_quo (E : Fr a n e) (ho : o.op = .binOp .quo t x y t') (hx : ev e x = some (.int k p)) (hy : ev e y = some (.int k q)) (h0 : q ≠ 0) (hr : k.wrap (p.tdiv q) = r) : zBf P o a w (.int k r) w :=
  zEd E ho hx hy (by simp [go_sem]) (by subst hr; simp [go_sem, h0])
theorem rn_rem (E : Fr a n e) (ho : o.op = .binOp .rem t x y t') (hx : ev e x = some (.int k p)) (hy : ev e y = some (.int k q)) (h0 : q ≠ 0) (hr : p.tmod q = r) : zBf P o a w (.int k r) w :=
  zEd E ho hx hy (by simp [go_sem]) (by subst hr; simp [go_sem, h0])
theorem zGt (E : Fr a n e) (ho : o.op = .binOp .and t x y t') (hx : ev e x = some (.int k p)) (hy : ev e y = some (.int k q)) (hr : bits .and k p q = r) : zBf P o a w (.int k r) w :=
  zEd E ho hx hy (by simp [go_sem]) (by subst hr; simp [go_sem])
theorem zHt (E : Fr a n e) (ho : o.op = .binOp .or t x y t') (hx : ev e x = some (.int k p)) (hy : ev e y = some (.int k q)) (hr : bits .or k p q = r) : zBf P o a w (.int k r) w :=
  zEd E ho hx hy (by simp [go_sem]) (by subst hr; simp [go_sem])
theorem zEv (E : Fr a n e) (ho : o.op = .binOp .xor t x y t') (hx : ev e x = some (.int k p)) (hy : ev e y = some (.int k q)) (hr : bits .xor k p q = r) : zBf P o a w (.int k r) w :=
  zEd E ho hx hy (by simp [go_sem]) (by subst hr; simp [go_sem])
theorem zHp (E : Fr a n e) (ho : o.op = .binOp .shr t x y t') (hx : ev e x = some (.int k p)) (hy : ev e y = some (.int j q)) (h0 : 0 ≤ q) (h1 : q ≤ k.bits) (hr : p / 2 ^ q.toNat = r) : zBf P o a w (.int k r) w :=
  zEd E ho hx hy (by simp [go_sem]) (by subst hr; simp [binOp_shr, shift_shr k j p q h0 h1])
theorem zFt (E : Fr a n e) (ho : o.op = .binOp .shl t x y t') (hx : ev e x = some (.int k p)) (hy : ev e y = some (.int j q)) (h0 : 0 ≤ q) (h1 : q ≤ k.bits) (hr : k.wrap (p * 2 ^ q.toNat) = r) : zBf P o a w (.int k r) w :=
  zEd E ho hx hy (by simp [go_sem]) (by subst hr; simp [binOp_shl, shift_shl k j p q h0 h1])
theorem zCc (E : Fr a n e) (ho : o.op = .binOp .eql t x y t') (hx : ev e x = some (.int k p)) (hy : ev e y = some (.int k q)) : zBf P o a w (.bool (p == q)) w :=
  zEd E ho hx hy (by simp [go_sem]) (by simp [go_sem])
theorem zDa (E : Fr a n e) (ho : o.op = .binOp .neq t x y t') (hx : ev e x = some (.int k p)) (hy : ev e y = some (.int k q)) : zBf P o a w (.bool (p != q)) w :=
  zEd E ho hx hy (by simp [go_sem]) (by simp [go_sem])
theorem zCk (E : Fr a n e) (ho : o.op = .binOp .lss t x y t') (hx : ev e x = some (.int k p)) (hy : ev e y = some (.int k q)) : zBf P o a w (.bool (decide (p < q))) w :=
  zEd E ho hx hy (by simp [go_sem]) (by simp [go_sem])
theorem zDx (E : Fr a n e) (ho : o.op = .binOp .leq t x y t') (hx : ev e x = some (.int k p)) (hy : ev e y = some (.int k q)) : zBf P o a w (.bool (decide (p ≤ q))) w :=
  zEd E ho hx hy (by simp [go_sem]) (by simp [go_sem])
theorem zDt (E : Fr a n e) (ho : o.op = .binOp .gtr t x y t') (hx : ev e x = some (.int k p)) (hy : ev e y = some (.int k q)) : zBf P o a w (.bool (decide (q < p))) w :=
  zEd E ho hx hy (by simp [go_sem]) (by simp [go_sem])
theorem zDy (E : Fr a n e) (ho : o.op = .binOp .geq t x y t') (hx : ev e x = some (.int k p)) (hy : ev e y = some (.int k q)) : zBf P o a w (.bool (decide (q ≤ p))) w :=
  zEd E ho hx hy (by simp [go_sem]) (by simp [go_sem])
theorem rn_neg (E : Fr a n e) (ho : o.op = .unOp .neg t x) (hx : ev e x = some (.int k p)) (hr : k.wrap (-p) = r) : zBf P o a w (.int k r) w := by
  subst hr; simp [zBf, execOp, ho, E.eval hx, Op.unary, Op.intArith]
theorem zBg (E : Fr a n e) {dk : IntKind} {sd : TypeDesc} (ho : o.op = .convert t t' x) (hx : ev e x = some (.int k p)) (hs : P.underlying t = some sd) (hd : P.underlying t' = some (.int dk)) (hr : dk.wrap p = r) : zBf P o a w (.int dk r) w := by
  subst hr; simp [zBf, execOp, ho, E.eval hx, convert, run_underlying hs, run_underlying hd, Conv.intToInt]
end ints
theorem zDe (E : Fr a n e) {t : TypeId} {b : Bool} (ho : o.op = .unOp .not t x) (hx : ev e x = some (.bool b)) : zBf P o a w (.bool !b) w := by
  simp [zBf, execOp, ho, E.eval hx, Op.unary]
abbrev str (bs : List UInt8) : Value := .string ⟨bs.toArray⟩
theorem equalIn_bool {t : TypeId} (d : Nat) (b c : Bool) (ht : P.underlying t = some .bool) : (Op.equalIn (d + 1) t (.bool b) (.bool c)).run P w = .ok (b == c) w := by
  simp [Op.equalIn, run_underlying ht]
theorem zKy {t : TypeId} (b c : Bool) (ht : P.underlying t = some .bool) : (Op.equal t (.bool b) (.bool c)).run P w = .ok (b == c) w := equalIn_bool 9999 b c ht
theorem zBb (E : Fr a n e) {t t' : TypeId} {b c : Bool} (ho : o.op = .binOp .eql t x y t') (hx : ev e x = some (.bool b)) (hy : ev e y = some (.bool c)) (ht : P.underlying t = some .bool) : zBf P o a w (.bool (b == c)) w :=
  zEd E ho hx hy (by simp [go_sem]) (by show ((do pure (.bool (← Op.equal t (.bool b) (.bool c))) : Sem Value)).run P w = _; rw [Sem.run_bind, zKy b c ht]; rfl)
theorem zBs (E : Fr a n e) {t t' : TypeId} {b c : Bool} (ho : o.op = .binOp .neq t x y t') (hx : ev e x = some (.bool b)) (hy : ev e y = some (.bool c)) (ht : P.underlying t = some .bool) : zBf P o a w (.bool (b != c)) w :=
  zEd E ho hx hy (by simp [go_sem]) (by show ((do pure (.bool !(← Op.equal t (.bool b) (.bool c))) : Sem Value)).run P w = _; rw [Sem.run_bind, zKy b c ht]; rfl)
theorem zJr (b c : List UInt8) : (b == c) = decide (b = c) := by
  by_cases h : b = c
  · simp [h]
  · simp [h]
theorem zAt (E : Fr a n e) {t t' : TypeId} {b c : List UInt8} (ho : o.op = .binOp .eql t x y t') (hx : ev e x = some (str b)) (hy : ev e y = some (str c)) : zBf P o a w (.bool (decide (b = c))) w :=
  zEd E ho hx hy (by simp [go_sem]) (by show (Op.stringOp .eql ⟨b.toArray⟩ ⟨c.toArray⟩).run P w = _; simp [Op.stringOp, zJr])
theorem zBl (E : Fr a n e) {t t' : TypeId} {b c : List UInt8} (ho : o.op = .binOp .neq t x y t') (hx : ev e x = some (str b)) (hy : ev e y = some (str c)) : zBf P o a w (.bool (!decide (b = c))) w :=
  zEd E ho hx hy (by simp [go_sem]) (by show (Op.stringOp .neq ⟨b.toArray⟩ ⟨c.toArray⟩).run P w = _; simp [Op.stringOp, zJr])
theorem zJs {t el : TypeId} (d : Nat) (ad : Option Addr) (ht : P.underlying t = some (.pointer el)) : (Op.equalIn (d + 1) t (.pointer ad) (.pointer none)).run P w = .ok ad.isNone w := by
  cases ad <;> simp [Op.equalIn, run_underlying ht]
theorem zIc {t el : TypeId} (ad : Option Addr) (ht : P.underlying t = some (.pointer el)) : (Op.equal t (.pointer ad) (.pointer none)).run P w = .ok ad.isNone w := zJs 9999 ad ht
theorem zAs (E : Fr a n e) {t t' el : TypeId} {ad : Option Addr} (ho : o.op = .binOp .eql t x y t') (hx : ev e x = some (.pointer ad)) (hy : ev e y = some (.pointer none)) (ht : P.underlying t = some (.pointer el)) : zBf P o a w (.bool ad.isNone) w :=
  zEd E ho hx hy (by simp [go_sem]) (by show ((do pure (.bool (← Op.equal t (.pointer ad) (.pointer none))) : Sem Value)).run P w = _; rw [Sem.run_bind, zIc ad ht]; rfl)
theorem zBi (E : Fr a n e) {t t' el : TypeId} {ad : Option Addr} (ho : o.op = .binOp .neq t x y t') (hx : ev e x = some (.pointer ad)) (hy : ev e y = some (.pointer none)) (ht : P.underlying t = some (.pointer el)) : zBf P o a w (.bool !ad.isNone) w :=
  zEd E ho hx hy (by simp [go_sem]) (by show ((do pure (.bool !(← Op.equal t (.pointer ad) (.pointer none))) : Sem Value)).run P w = _; rw [Sem.run_bind, zIc ad ht]; rfl)
theorem zBm (E : Fr a n e) {ad : Addr} (ho : o.op = .nilCheck x) (hx : ev e x = some (.pointer (some ad))) : zBf P o a w (.pointer (some ad)) w := by
  simp [zBf, execOp, ho, E.eval hx]
def fieldOff (P : Program) (s : TypeId) (f : Nat) : Option Nat :=
  match P.underlying s with
  | some (.struct fs) => match fs[f]? with
    | some fd => match P.info? fd.type with
      | some i => if i.size = 0 then none else some fd.offset
      | none => none
    | none => none
  | _ => none
theorem zAh (E : Fr a n e) {s : TypeId} {f off b q : Nat} (ho : o.op = .fieldAddr s x f) (hx : ev e x = some (.pointer (some ⟨b, off, none⟩))) (hf : fieldOff P s f = some q) :
    zBf P o a w (.pointer (some ⟨b, off + q, none⟩)) w := by
  unfold fieldOff at hf
  split at hf
  · rename_i fs hs
    split at hf
    · rename_i fd hfd
      split at hf
      · rename_i i hi
        split at hf
        · cases hf
        · rename_i hne
          cases hf
          simp [zBf, execOp, ho, E.eval hx, Instr.fieldAt, run_underlying hs, hfd, Instr.sureAddr, fieldPlace, sizeOf, typeInfo, hi, hne, Addr.add_lit]
      · cases hf
    · cases hf
  · cases hf
theorem zAg (E : Fr a n e) {s : TypeId} {f b q : Nat} (ho : o.op = .fieldAddr s x f) (hx : ev e x = some (.pointer (some ⟨b, 0, none⟩))) (hf : fieldOff P s f = some q) :
    zBf P o a w (.pointer (some ⟨b, q, none⟩)) w := by
  have h := zAh (w := w) E ho hx hf
  rwa [Nat.zero_add] at h
def zKz (P : Program) (t : TypeId) : Bool :=
  match P.underlying t with
  | some (.struct _) | some (.array _ _) | none => false
  | some _ => true
theorem zEm {t : TypeId} (h : zKz P t = true) : (isAgg t).run P w = .ok false w := by
  unfold zKz at h
  cases hd : P.underlying t with
  | none => simp [hd] at h
  | some d => cases d <;> first | (simp [hd] at h; done) | simp [isAgg, run_underlying hd]
theorem zHu {b j : Nat} {cs : Array Value} {t : TypeId} {fr : Nat × Nat} (hb : w.heap[b]? = some (.cells cs t fr)) : w.cell? ⟨b, j, none⟩ = cs[j]? := cell_of_row w b j cs t fr hb
theorem zAn (E : Fr a n e) {t T : TypeId} {b j : Nat} {l : List Value} {fr : Nat × Nat} (ho : o.op = .load t x) (hx : ev e x = some (.pointer (some ⟨b, j, none⟩))) (ht : zKz P t = true)
    (hb : w.heap[b]? = some (.cells l.toArray T fr)) (hv : l[j]? = some v) : zBf P o a w v w := by
  have h1 : w.cell? ⟨b, j, none⟩ = some v := by rw [zHu hb, List.getElem?_toArray]; exact hv
  simp [zBf, execOp, ho, E.eval hx, Instr.loadAt, Instr.sureAddr, loadVar, zEm ht, h1]
def zEn (P : Program) (t : TypeId) : Option Nat :=
  match P.underlying t with
  | some (.struct _) | some (.array _ _) => (P.info? t).map (·.size)
  | _ => none
theorem zGh {t q : Nat} (h : zEn P t = some q) : (isAgg t).run P w = .ok true w := by
  unfold zEn at h
  cases hd : P.underlying t with
  | none => simp [hd] at h
  | some d => cases d <;> first | (simp [hd] at h; done) | simp [isAgg, run_underlying hd]
theorem info_agg {t q : Nat} (h : zEn P t = some q) : (P.info? t).map (·.size) = some q := by
  unfold zEn at h
  split at h <;> first | exact h | cases h
theorem zDk {t q : Nat} (h : (P.info? t).map (·.size) = some q) : (sizeOf t).run P w = .ok q w := by
  cases hi : P.info? t with
  | none => simp [hi] at h
  | some i => simp only [hi, Option.map_some, Option.some.injEq] at h; simp [sizeOf, typeInfo, hi, h]
theorem rn_load_agg (E : Fr a n e) {t T : TypeId} {b j q : Nat} {cs : Array Value} {fr : Nat × Nat} {vs : List Value} (ho : o.op = .load t x) (hx : ev e x = some (.pointer (some ⟨b, j, none⟩))) (ht : zEn P t = some q)
    (hb : w.heap[b]? = some (.cells cs T fr)) (hl : vs.length = q) (hv : ∀ i u, vs[i]? = some u → cs[j + i]? = some u) : zBf P o a w (.agg vs.toArray) w := by
  subst hl
  have h1 : (loadCells ⟨b, j, none⟩ vs.length).run P w = .ok vs.toArray w :=
    run_loadCells_list w ⟨b, j, none⟩ vs fun i u hu => by
      rw [Addr.add_lit, zHu hb]; exact hv i u hu
  simp [zBf, execOp, ho, E.eval hx, Instr.loadAt, Instr.sureAddr, loadVar, zGh ht, zDk (info_agg ht), h1]
theorem zBq (E : Fr a n e) {t el : TypeId} {b off l c i s : Nat} {k : IntKind} {q : Int} (ho : o.op = .indexAddr t x y) (hx : ev e x = some (.slice (some ⟨b, off, none⟩) l c)) (hy : ev e y = some (.int k q))
    (ht : P.underlying t = some (.slice el)) (hs : (P.info? el).map (·.size) = some s) (hq : q = (i : Int)) (hi : i < l) : zBf P o a w (.pointer (some ⟨b, off + i * s, none⟩)) w := by
  subst hq
  simp [zBf, execOp, ho, E.eval hx, E.eval hy, Instr.indexAt, asIntOf, run_underlying ht, hi, zDk hs, Addr.add_lit]
theorem zBd (E : Fr a n e) {t el : TypeId} {b off l i s : Nat} {k : IntKind} {q : Int} (ho : o.op = .indexAddr t x y) (hx : ev e x = some (.pointer (some ⟨b, off, none⟩))) (hy : ev e y = some (.int k q))
    (ht : P.underlying t = some (.array l el)) (hs : (P.info? el).map (·.size) = some s) (hq : q = (i : Int)) (hi : i < l) : zBf P o a w (.pointer (some ⟨b, off + i * s, none⟩)) w := by
  subst hq
  simp [zBf, execOp, ho, E.eval hx, E.eval hy, Instr.indexAt, Instr.sureAddr, asIntOf, run_underlying ht, hi, zDk hs, Addr.add_lit]
theorem zEg (E : Fr a n e) {t : TypeId} {s : ByteArray} {i : Nat} {k : IntKind} {q : Int} {c : UInt8} (ho : o.op = .index t x y) (hx : ev e x = some (.string s)) (hy : ev e y = some (.int k q))
    (ht : P.underlying t = some .string) (hq : q = (i : Int)) (hi : s[i]? = some c) : zBf P o a w (.int .u8 c.toNat) w := by
  subst hq
  simp [zBf, execOp, ho, E.eval hx, E.eval hy, Instr.index, asIntOf, run_underlying ht, hi]
theorem zBr (E : Fr a n e) {i : Nat} {vs : List Value} (ho : o.op = .extract x i) (hx : ev e x = some (.tuple vs.toArray)) (hv : vs[i]? = some v) : zBf P o a w v w := by
  simp [zBf, execOp, ho, E.eval hx, Instr.extract, hv]
theorem zEo (E : Fr a n e) {fn : Fn} {cs : List Operand} {vs : List Value} (ho : o.op = .makeFunc fn #[] cs.toArray) (hc : evs e cs = some vs) (hf : ∃ k, fn = .func k) : zBf P o a w (.func fn #[] vs.toArray) w := by
  obtain ⟨k, rfl⟩ := hf
  simp [zBf, execOp, ho, Instr.makeFunc, E.evals hc]
theorem rn_field (E : Fr a n e) {s : TypeId} {f q : Nat} {cs : Array Value} {fs : Array Field} {fd : Field} (ho : o.op = .field s x f) (hx : ev e x = some (.agg cs))
    (hs : P.underlying s = some (.struct fs)) (hf : fs[f]? = some fd) (ht : zKz P fd.type = true) (hq : fd.offset = q) (hv : cs[q]? = some v) : zBf P o a w v w := by
  subst hq
  simp [zBf, execOp, ho, E.eval hx, Instr.field, run_underlying hs, hf, part, asAgg, zEm ht, hv]
end
section
variable {P : Program} {a : Act} {w : World} {o : Oper} {n : Nat} {e : List (Nat × Value)} {x y z : Operand} {v u : Value}
theorem rn_box (E : Fr a n e) {t : TypeId} (ho : o.op = .box t x) (hx : ev e x = some v) :
    zBf P o a w (.pointer (some ⟨w.heap.size, 0, none⟩)) (w.alloc (.cells v.cells t)) := by
  simp [zBf, execOp, ho, E.eval hx, Instr.box, newVar, newRow]
theorem rn_alloc (E : Fr a n e) {t : TypeId} {i : TypeInfo} {zv : Value} (ho : o.op = .alloc t) (hi : P.info? t = some i) (hz : i.zero = some zv) :
    zBf P o a w (.pointer (some ⟨w.heap.size, 0, none⟩)) (w.alloc (.cells zv.cells t)) := by
  have _ := E.nod
  simp [zBf, execOp, ho, Instr.alloc, newVar, newRow, zeroValue, typeInfo, hi, hz]
end
end Go.Sl
namespace Go.Sl
abbrev cel (l : List Value) (T : TypeId) : Obj := .cells l.toArray T (0, 0)
def Rd (C : zAw) (s : Nat) (v : Value) (n : Nat) (xs : List Value) : Prop :=
  xs.length = n * s ∧ (∀ u ∈ xs, u.oneCell' = true) ∧ n ≤ maxLen ∧
    ((n = 0 ∧ ∃ ad c, v = .slice ad 0 c) ∨
     ∃ b off c l T fr, v = .slice (some ⟨b, off, none⟩) n c ∧ (b, .cells l T fr) ∈ C ∧ ∀ i u, xs[i]? = some u → l[off + i]? = some u)
def Buf (C : zAw) (T : TypeId) (s : Nat) (v : Value) (n : Nat) (xs : List Value) : Prop :=
  xs.length = n * s ∧ (∀ u ∈ xs, u.oneCell' = true) ∧
    ((v = .slice none 0 0 ∧ n = 0 ∧ C = []) ∨
     ∃ g c r, v = .slice (some ⟨g, 0, none⟩) n c ∧ C = [(g, cel (xs ++ r) T)] ∧ n ≤ c ∧ c ≤ maxLen ∧ xs.length + r.length = c * s)
section
variable {C D : zAw} {s n m : Nat} {v y : Value} {xs ys : List Value} {T : TypeId}
theorem Buf.nil (T : TypeId) (s : Nat) : Buf [] T s (.slice none 0 0) 0 [] := ⟨by simp, by simp, .inl ⟨rfl, rfl, rfl⟩⟩
theorem Buf.slice (h : Buf C T s v n xs) : ∃ ad c, v = .slice ad n c := by
  rcases h.2.2 with ⟨rfl, rfl, _⟩ | ⟨g, c, r, rfl, _⟩
  · exact ⟨none, 0, rfl⟩
  · exact ⟨_, c, rfl⟩
theorem Rd.slice (h : Rd C s v n xs) : ∃ ad c, v = .slice ad n c := by
  rcases h.2.2.2 with ⟨rfl, ad, c, rfl⟩ | ⟨b, off, c, l, T, fr, rfl, _⟩
  · exact ⟨ad, c, rfl⟩
  · exact ⟨_, c, rfl⟩
theorem Buf.rd (h : Buf C T s v n xs) : Rd C s v n xs := by
  refine ⟨h.1, h.2.1, ?_, ?_⟩
  · rcases h.2.2 with ⟨_, rfl, _⟩ | ⟨g, c, r, _, _, hn, hc, _⟩
    · simp [maxLen]
    · omega
  · rcases h.2.2 with ⟨rfl, rfl, _⟩ | ⟨g, c, r, rfl, rfl, hn, hc, _⟩
    · exact .inl ⟨rfl, none, 0, rfl⟩
    · refine .inr ⟨g, 0, c, _, T, (0, 0), rfl, List.mem_singleton.2 rfl, fun i u hu => ?_⟩
      have hi : i < xs.length := (List.getElem?_eq_some_iff.1 hu).1
      simp [hi, List.getElem?_append]
      exact (List.getElem?_eq_some_iff.1 hu).2
theorem Rd.sub (h : Rd C s v n xs) (hs : ∀ x ∈ C, x ∈ D) : Rd D s v n xs := by
  refine ⟨h.1, h.2.1, h.2.2.1, ?_⟩
  rcases h.2.2.2 with h0 | ⟨b, off, c, l, T, fr, rfl, hm, hc⟩
  · exact .inl h0
  · exact .inr ⟨b, off, c, l, T, fr, rfl, hs _ hm, hc⟩
theorem Rd.nil (C : zAw) (s : Nat) : Rd C s (.slice none 0 0) 0 [] := ⟨by simp, by simp, by simp [maxLen], .inl ⟨rfl, none, 0, rfl⟩⟩
theorem Rd.cells {w : World} (h : Rd C s v n xs) (hC : ∀ x ∈ C, w.heap[x.1]? = some x.2) {b off c : Nat} (hv : v = .slice (some ⟨b, off, none⟩) n c) : ∀ i u, xs[i]? = some u → w.cell? ⟨b, off + i, none⟩ = some u := by
  intro i u hu
  rcases h.2.2.2 with ⟨rfl, ad, c', _⟩ | ⟨b', off', c', l, T, fr, rfl, hm, hc⟩
  · have := h.1
    simp at this
    subst this
    simp at hu
  · cases hv
    rw [zHu (hC _ hm)]
    exact hc i u hu
theorem Rd.src {P : Program} {w : World} {tx e' : TypeId} (h : Rd C s v n xs) (hC : ∀ x ∈ C, w.heap[x.1]? = some x.2) (hk : P.underlying tx = some (.slice e')) : Src P s tx v n xs w := by
  rcases h.2.2.2 with ⟨rfl, ad, c, rfl⟩ | ⟨b, off, c, l, T, fr, rfl, hm, hc⟩
  · have h0 : xs = [] := List.eq_nil_of_length_eq_zero (by simpa using h.1)
    subst h0
    cases ad with
    | none => exact Src.ofNil w hk c
    | some ad => exact Src.ofSlice w hk ad 0 c [] (by simp) (by simp) (by simp)
  · exact Src.ofSlice w hk ⟨b, off, none⟩ n c xs h.1 (fun j u hu => by rw [Addr.add_lit]; exact h.cells hC rfl j u hu) h.2.1
end
section
variable {P : Program} {a : Act} {w w0 : World} {o : Oper} {n : Nat} {e : List (Nat × Value)} {x y z : Operand} {v u : Value} {As Ls Rs : List zAw} {K : Act → World → Prop} {Q : Exit → Act → World → Prop}
theorem Skips.wp {w' : World} (h : Skips P o a w w') (k : K (a.put o.dst undef) w') : o.wp P a w K Q := by
  unfold Oper.wp; rw [h]; exact k
theorem zIx {b j : Nat} {l vs : List Value} {t T : TypeId} {v : Value} (hs : (P.info? t).map (·.size) = some vs.length) (hv : v.cells = vs.toArray) (h1 : ∀ u ∈ vs, u.oneCell' = true)
    (hb : w.heap[b]? = some (cel l T)) (hj : j + vs.length ≤ l.length) :
    (storeVar t ⟨b, j, none⟩ v).run P w = .ok () (w.setRow b (l.take j ++ vs ++ l.drop (j + vs.length)).toArray) := by
  have hst := run_storeCells_at P b j T vs 0 l.toArray w hb (by simpa using hj) h1
  simp only [Nat.add_zero] at hst
  simp [storeVar, hv, zDk hs, hst]
theorem St.row {b : Nat} {l l' : List Value} {T : TypeId} (S : St w0 As w Ls) (hp : Ls.Perm ([(b, cel l T)] :: Rs)) : St w0 As (w.setRow b l'.toArray) ([(b, cel l' T)] :: Rs) :=
  S.block hp rfl rfl rfl (by simp) (fun h => setRow_heap w b _ _ T (0, 0) h) (fun k hk => setRow_other w b k _ hk)
theorem St.get {b : Nat} {ob : Obj} (S : St w0 As w Ls) (hp : Ls.Perm ([(b, ob)] :: Rs)) : w.heap[b]? = some ob :=
  S.stab.one (hp.mem_iff.2 (List.mem_cons_self ..))
theorem zBp (E : Fr a n e) (S : St w0 As w Ls) {t T : TypeId} {b j : Nat} {l : List Value} (ho : o.op = .store t x y) (hd : o.dst = none) (hx : ev e x = some (.pointer (some ⟨b, j, none⟩))) (hy : ev e y = some v)
    (h1 : v.oneCell' = true) (hs : (P.info? t).map (·.size) = some 1) (hp : Ls.Perm ([(b, cel l T)] :: Rs)) (hj : j < l.length)
    (k : ∀ a' w', Fr a' n e → St w0 As w' ([(b, cel (l.set j v) T)] :: Rs) → K a' w') : o.wp P a w K Q := by
  have hc : v.cells = [v].toArray := by cases v <;> first | rfl | (simp [Value.oneCell'] at h1)
  have hr := zIx (P := P) (w := w) (j := j) (vs := [v]) (v := v) hs hc (by simpa using h1) (S.get hp) (by simp; omega)
  have e1 : l.take j ++ [v] ++ l.drop (j + 1) = l.set j v := by rw [List.set_eq_take_append_cons_drop, if_pos hj]; simp
  refine Skips.wp (w' := w.setRow b (l.set j v).toArray) ?_ (by rw [hd]; exact k _ _ (E.put0 _) (S.row hp))
  unfold Skips
  simp only [List.length_singleton, e1] at hr
  simp [execOp, ho, E.eval hx, E.eval hy, Instr.storeAt, Instr.sureAddr, hr]
theorem zBk (E : Fr a n e) (S : St w0 As w Ls) {t T : TypeId} {b j : Nat} {l vs : List Value} (ho : o.op = .store t x y) (hd : o.dst = none) (hx : ev e x = some (.pointer (some ⟨b, j, none⟩))) (hy : ev e y = some (.agg vs.toArray))
    (h1 : ∀ u ∈ vs, u.oneCell' = true) (hs : (P.info? t).map (·.size) = some vs.length) (hp : Ls.Perm ([(b, cel l T)] :: Rs)) (hj : j + vs.length ≤ l.length)
    (k : ∀ a' w', Fr a' n e → St w0 As w' ([(b, cel (l.take j ++ vs ++ l.drop (j + vs.length)) T)] :: Rs) → K a' w') : o.wp P a w K Q := by
  have hr := zIx (P := P) (w := w) (j := j) (vs := vs) (v := .agg vs.toArray) hs rfl h1 (S.get hp) hj
  refine Skips.wp (w' := w.setRow b (l.take j ++ vs ++ l.drop (j + vs.length)).toArray) ?_ (by rw [hd]; exact k _ _ (E.put0 _) (S.row hp))
  unfold Skips
  simp [execOp, ho, E.eval hx, E.eval hy, Instr.storeAt, Instr.sureAddr, hr]
theorem zCm (E : Fr a n e) (S : St w0 As w Ls) {t : TypeId} {d : Nat} {vs : List Value} (ho : o.op = .box t x) (hd : o.dst = some d) (hn : d < n) (hx : ev e x = some v) (hv : v.cells = vs.toArray)
    (k : ∀ a' w' b, Fr a' n ((d, .pointer (some ⟨b, 0, none⟩)) :: e) → St w0 As w' ([(b, cel vs t)] :: Ls) → K a' w') : o.wp P a w K Q :=
  (rn_box E ho hx).wp (by rw [hd]; exact k _ _ w.heap.size (E.put hn _) (by rw [hv]; exact S.alloc _))
theorem zBy (E : Fr a n e) (S : St w0 As w Ls) {t : TypeId} {d : Nat} {i : TypeInfo} {zv : Value} {vs : List Value} (ho : o.op = .alloc t) (hd : o.dst = some d) (hn : d < n) (hi : P.info? t = some i) (hz : i.zero = some zv) (hv : zv.cells = vs.toArray)
    (k : ∀ a' w' b, Fr a' n ((d, .pointer (some ⟨b, 0, none⟩)) :: e) → St w0 As w' ([(b, cel vs t)] :: Ls) → K a' w') : o.wp P a w K Q :=
  (rn_alloc E ho hi hz).wp (by rw [hd]; exact k _ _ w.heap.size (E.put hn _) (by rw [hv]; exact S.alloc _))
theorem zeros_one (z : Value) (k : Nat) : madeCells #[z] (k * 1) = (List.replicate k z).toArray := by
  apply Array.ext
  · simp [madeCells]
  · intro i h1 h2
    simp [madeCells, Nat.mod_one]
def zeros (z : Array Value) (k : Nat) : List Value := (madeCells z k).toList
theorem wp_makeSlice (E : Fr a n e) (S : St w0 As w Ls) {t el : TypeId} {d k : Nat} {i : TypeInfo} {zv : Value} {kl kc : IntKind} {q r : Int} (ho : o.op = .makeSlice t x y) (hd : o.dst = some d) (hn : d < n)
    (hx : ev e x = some (.int kl q)) (hy : ev e y = some (.int kc r)) (hq : q = (k : Int)) (hr : r = (k : Int))
    (ht : P.underlying t = some (.slice el)) (hi : P.info? el = some i) (hz : i.zero = some zv) (h1 : ∀ u ∈ zeros zv.cells (k * i.size), u.oneCell' = true) (hb : i.bytes * k ≤ 281474976710656) (h63 : k ≤ maxLen)
    (kk : ∀ a' w' v' C, Fr a' n ((d, v') :: e) → St w0 As w' (C :: Ls) → Buf C el i.size v' k (zeros zv.cells (k * i.size)) → (∃ g, v' = .slice (some ⟨g, 0, none⟩) k k) → K a' w') : o.wp P a w K Q := by
  subst hq hr
  have h63' : (k : Int) ≤ 9223372036854775807 := by simp only [maxLen] at h63; omega
  have hb' : (i.bytes : Int) * (k : Int) ≤ 281474976710656 := by
    have h : ((i.bytes * k : Nat) : Int) ≤ 281474976710656 := by omega
    rwa [Int.natCast_mul] at h
  have hr := run_make (P := P) w t el i zv ht hi hz kl kc k k (by omega) (Int.le_refl _) hb' h63'
  simp only [Int.toNat_natCast] at hr
  have hrun : zBf P o a w (.slice (some ⟨w.heap.size, 0, none⟩) k k) (w.alloc (.cells (madeCells zv.cells (k * i.size)) el)) := by
    simp [zBf, execOp, ho, E.eval hx, E.eval hy, hr]
  refine hrun.wp ?_
  rw [hd]
  refine kk _ _ _ [(w.heap.size, .cells (madeCells zv.cells (k * i.size)) el)] (E.put hn _) (S.alloc _) ?_ ⟨_, rfl⟩
  have hlen : (zeros zv.cells (k * i.size)).length = k * i.size := by simp [zeros, madeCells]
  exact ⟨hlen, h1, .inr ⟨w.heap.size, k, [], rfl, by simp [zeros], Nat.le_refl _, h63, by simp [hlen]⟩⟩
theorem Trs.row {b : Nat} {l l' : List Value} {T : TypeId} : Trs w (w.setRow b l'.toArray) [[(b, cel l T)]] [[(b, cel l' T)]] := by
  unfold Trs
  simp only [List.flatten_cons, List.flatten_nil, List.append_nil]
  exact tr_block (w := w) (w' := w.setRow b l'.toArray) rfl rfl rfl (by simp) (fun h => setRow_heap w b _ _ T (0, 0) h) (fun k hk => setRow_other w b k _ hk) []
theorem zKv {C : zAw} {T t tx ty : TypeId} {i : TypeInfo} {zv : Value} {m : Nat} {xs ys : List Value} (hB : Buf C T i.size v n xs) (hC : ∀ x ∈ C, w.heap[x.1]? = some x.2) (hs : Src P i.size tx u m ys w)
    (ht : P.underlying t = some (.slice T)) (hi : P.info? T = some i) (hz : i.zero = some zv) (hzs : zv.cells.size = i.size)
    (h63 : n + m ≤ maxLen) (hby : (n + m) * i.bytes ≤ 140737488355328) :
    ∃ v' w' C', (Builtin.append_ #[t, tx] ty #[v, u]).run P w = .ok v' w' ∧ Buf C' T i.size v' (n + m) (xs ++ ys) ∧ Trs w w' [C] [C'] := by
  have hlen : (xs ++ ys).length = (n + m) * i.size := by rw [List.length_append, hB.1, hs.newsLen, Nat.add_mul]
  have hone : ∀ z ∈ xs ++ ys, z.oneCell' = true := fun z hz => by
    rcases List.mem_append.1 hz with h | h
    · exact hB.2.1 z h
    · exact hs.one z h
  have h63' : ((n + m : Nat) : Int) ≤ 9223372036854775807 := by simp only [maxLen] at h63; omega
  have grown : ∀ (old : Nat) (C : zAw), old < n + m →
      Buf [(w.heap.size, .cells ((xs ++ ys).toArray ++ Builtin.zeroCells zv.cells (grownCap w (n + m) old T - (n + m))) T)] T i.size (.slice (some ⟨w.heap.size, 0, none⟩) (n + m) (grownCap w (n + m) old T)) (n + m) (xs ++ ys) ∧
      Trs w (w.drew.alloc (.cells ((xs ++ ys).toArray ++ Builtin.zeroCells zv.cells (grownCap w (n + m) old T - (n + m))) T)) [C] [[(w.heap.size, .cells ((xs ++ ys).toArray ++ Builtin.zeroCells zv.cells (grownCap w (n + m) old T - (n + m))) T)]] := by
    intro old C ho
    have hge := grownCap_ge w (n + m) old T
    have hcm : grownCap w (n + m) old T ≤ maxLen := grownCap_le_maxLen w (n + m) old T h63
    refine ⟨⟨hlen, hone, .inr ⟨w.heap.size, _, (Builtin.zeroCells zv.cells (grownCap w (n + m) old T - (n + m))).toList, rfl, ?_, hge, hcm, ?_⟩⟩, ?_⟩
    · simp [cel]
    · rw [hlen]
      simp only [Array.length_toList, size_zeroCells, hzs, ← Nat.add_mul]
      congr 1
      omega
    · unfold Trs
      simp only [List.flatten_cons, List.flatten_nil, List.append_nil]
      have h1 := tr_alloc w.drew (.cells ((xs ++ ys).toArray ++ Builtin.zeroCells zv.cells (grownCap w (n + m) old T - (n + m))) T) C
      exact Tr.drop (C := C) (Tr.pre h1)
  rcases hB.2.2 with ⟨rfl, rfl, rfl⟩ | ⟨g, c, r, rfl, rfl, hnc, hcm, hcs⟩
  · have hx : xs = [] := List.eq_nil_of_length_eq_zero (by simpa using hB.1)
    subst hx
    by_cases hm : m = 0
    · subst hm
      have hy : ys = [] := List.eq_nil_of_length_eq_zero (by simpa using hs.newsLen)
      subst hy
      refine ⟨.slice none 0 0, w, [], ?_, by simpa using Buf.nil T i.size, Trs.refl _ _⟩
      rcases hs.kind with ⟨e', hk⟩ | hk <;> simp [Builtin.append_, run_underlying ht, run_underlying hk, sizeOf, typeInfo, hi, hs.len, hs.cells]
    · have hr := run_append_grow_src (P := P) w t tx ty T i zv ht hi hz none 0 0 [] (run_firstCells_none w.drew i.size 0 0 0) u m ys hs (by omega) h63' (growslice_fits (by omega) hby)
      obtain ⟨h1, h2⟩ := grown 0 [] (by omega)
      exact ⟨_, _, _, hr, h1, h2⟩
  · have hg : w.heap[g]? = some (cel (xs ++ r) T) := hC _ (List.mem_singleton.2 rfl)
    by_cases hroom : n + m ≤ c
    · have hfit : n * i.size + ys.length ≤ (xs ++ r).length := by
        rw [hs.newsLen, ← Nat.add_mul, List.length_append, hcs]; exact Nat.mul_le_mul_right _ hroom
      have hst := run_storeCells_at P g (n * i.size) T ys 0 (xs ++ r).toArray w hg (by simpa using hfit) hs.one
      simp only [Nat.add_zero] at hst
      have e1 : (xs ++ r).take (n * i.size) ++ ys ++ (xs ++ r).drop (n * i.size + ys.length) = xs ++ ys ++ r.drop ys.length := by
        rw [← hB.1, List.take_left, ← List.drop_drop, List.drop_left]
      rw [e1] at hst
      refine ⟨.slice (some ⟨g, 0, none⟩) (n + m) c, w.setRow g (xs ++ ys ++ r.drop ys.length).toArray, [(g, cel (xs ++ ys ++ r.drop ys.length) T)], ?_, ⟨hlen, hone, .inr ⟨g, c, r.drop ys.length, rfl, rfl, hroom, hcm, ?_⟩⟩, Trs.row⟩
      · rcases hs.kind with ⟨e', hk⟩ | hk <;> simp [Builtin.append_, run_underlying ht, run_underlying hk, sizeOf, typeInfo, hi, hs.len, hroom, hs.cells, Addr.add_lit, hst]
      · have := hB.1
        rw [List.length_append] at hfit ⊢
        rw [List.length_drop]
        omega
    · have hold : (Builtin.firstCells i.size n (.slice (some ⟨g, 0, none⟩) n c)).run P w.drew = .ok xs.toArray w.drew :=
        run_firstCells_some w.drew i.size n ⟨g, 0, none⟩ n c xs hB.1 fun j z hz => by
          rw [Addr.add_lit, World.cell?_drew, zHu hg]
          have hj : j < xs.length := (List.getElem?_eq_some_iff.1 hz).1
          simp only [Nat.zero_add, List.getElem?_toArray, List.getElem?_append_left hj]
          exact hz
      have hr := run_append_grow_src (P := P) w t tx ty T i zv ht hi hz (some ⟨g, 0, none⟩) n c xs hold u m ys hs (by omega) h63' (growslice_fits (by omega) hby)
      obtain ⟨h1, h2⟩ := grown c [(g, cel (xs ++ r) T)] (by omega)
      exact ⟨_, _, _, hr, h1, h2⟩
theorem zCn (E : Fr a n e) (S : St w0 As w Ls) {C : zAw} {t tx T : TypeId} {d m q s by' : Nat} {i : TypeInfo} {zv : Value} {xs ys : List Value} (ho : o.op = .call { callee := .builtin .append, args := #[x, y], argTypes := #[t, tx] }) (hd : o.dst = some d) (hn : d < n)
    (hx : ev e x = some v) (hy : ev e y = some u) (hB : Buf C T s v q xs) (hp : Ls.Perm (C :: Rs)) (hs : Src P s tx u m ys w)
    (ht : P.underlying t = some (.slice T)) (hi : P.info? T = some i) (hz : i.zero = some zv) (hsz : i.size = s) (hzs : zv.cells.size = s) (hbz : i.bytes = by')
    (h63 : q + m ≤ maxLen) (hby : (q + m) * by' ≤ 140737488355328)
    (k : ∀ a' w' v' C', Fr a' n ((d, v') :: e) → St w0 As w' (C' :: Rs) → Buf C' T s v' (q + m) (xs ++ ys) → K a' w') : o.wp P a w K Q := by
  subst hsz hbz
  have hC : ∀ x ∈ C, w.heap[x.1]? = some x.2 := S.stab.at (hp.mem_iff.2 (List.mem_cons_self ..))
  obtain ⟨v', w', C', hr, hB', hT⟩ := zKv (P := P) (w := w) (ty := o.type) hB hC hs ht hi hz hzs h63 hby
  have hrun : zBf P o a w v' w' := by
    simp [zBf, execOp, ho, resolve, invoke, builtin, E.eval hx, E.eval hy, hr]
  refine hrun.wp ?_
  rw [hd]
  exact k _ _ v' C' (E.put hn _) ((S.perm hp).call1 (zAl (zJo _ _) (zAu _)) hT) hB'
theorem zJh (E : Fr a n e) (S : St w0 As w Ls) {t el : TypeId} {d k by' : Nat} {i : TypeInfo} {zv : Value} {kl kc : IntKind} {q r : Int} (ho : o.op = .makeSlice t x y) (hd : o.dst = some d) (hn : d < n)
    (hx : ev e x = some (.int kl q)) (hy : ev e y = some (.int kc r)) (hq : q = (k : Int)) (hr : r = (k : Int))
    (ht : P.underlying t = some (.slice el)) (hi : P.info? el = some i) (hz : i.zero = some zv) (hsz : i.size = 1) (hzv : zv.cells = #[zv]) (h1 : zv.oneCell' = true) (hbz : i.bytes = by') (hb : by' * k ≤ 281474976710656) (h63 : k ≤ maxLen)
    (kk : ∀ a' w' g, Fr a' n ((d, .slice (some ⟨g, 0, none⟩) k k) :: e) → St w0 As w' ([(g, cel (List.replicate k zv) el)] :: Ls) → K a' w') : o.wp P a w K Q := by
  subst hbz
  have hz1 : zeros zv.cells (k * i.size) = List.replicate k zv := by
    have h := zeros_one zv k
    unfold zeros
    rw [hsz, hzv, h]
  refine wp_makeSlice E S ho hd hn hx hy hq hr ht hi hz ?_ hb h63 ?_
  · rw [hz1]; intro u hu; rw [(List.mem_replicate.1 hu).2]; exact h1
  · intro a' w' v' C E' S' hB hv
    obtain ⟨g, rfl⟩ := hv
    rw [hz1] at hB
    rcases hB.2.2 with ⟨h, _⟩ | ⟨g', c, r, h, hC, hc, _, hl⟩
    · cases h
    · cases h
      have : r = [] := by
        refine List.eq_nil_of_length_eq_zero ?_
        rw [hsz] at hl; simp at hl; exact List.length_eq_zero_iff.2 hl
      subst this
      subst hC
      rw [List.append_nil] at S'
      exact kk a' w' g E' S'
theorem wp_copy (E : Fr a n e) (S : St w0 As w Ls) {t tx el T : TypeId} {d b j dl dc m : Nat} {l ys : List Value} (ho : o.op = .call { callee := .builtin .copy, args := #[x, y], argTypes := #[t, tx] }) (hd : o.dst = some d) (hn : d < n)
    (hx : ev e x = some (.slice (some ⟨b, j, none⟩) dl dc)) (hy : ev e y = some u) (hp : Ls.Perm ([(b, cel l T)] :: Rs)) (hs : ∀ k, k ≤ m → Src P 1 tx u m ys w ∧ (Builtin.firstCells 1 k u).run P w = .ok (ys.take k).toArray w)
    (ht : P.underlying t = some (.slice el)) (h1 : (P.info? el).map (·.size) = some 1) (hfit : j + min m dl ≤ l.length)
    (k : ∀ a' w', Fr a' n ((d, .int .i64 (min m dl : Nat)) :: e) → St w0 As w' ([(b, cel (l.take j ++ ys.take (min m dl) ++ l.drop (j + min m dl)) T)] :: Rs) → K a' w') : o.wp P a w K Q := by
  have hq := (hs (min m dl) (Nat.min_le_left _ _)).2
  have hsrc := (hs 0 (Nat.zero_le _)).1
  have hyl : (ys.take (min m dl)).length = min m dl := by have := hsrc.newsLen; simp; omega
  have hone : ∀ z ∈ ys.take (min m dl), z.oneCell' = true := fun z hz => hsrc.one z (List.mem_of_mem_take hz)
  have hst := run_storeCells_at P b j T (ys.take (min m dl)) 0 l.toArray w (S.get hp) (by rw [hyl]; simpa using hfit) hone
  simp only [Nat.add_zero, hyl] at hst
  have hrun : zBf P o a w (.int .i64 (min m dl : Nat)) (w.setRow b (l.take j ++ ys.take (min m dl) ++ l.drop (j + min m dl)).toArray) := by
    have hm : Nat.min m dl = min m dl := rfl
    simp [zBf, execOp, ho, resolve, invoke, builtin, E.eval hx, E.eval hy, Builtin.copy_, run_underlying ht, hsrc.len, zDk h1, hm, hq, hst, goInt]
  refine hrun.wp ?_
  rw [hd]
  exact k _ _ (E.put hn _) (S.row hp)
end
end Go.Sl
namespace Go.Sl
section
variable {A B1 B2 B3 B4 B5 B6 B7 B8 B9 B10 B11 B12 B13 B14 B15 : zAw} {L : List zAw}
theorem pk1 : (A :: L).Perm (A :: L) := zJo _ _
theorem pk2 : (B1 :: A :: L).Perm (A :: B1 :: L) := zAc pk1
theorem pk3 : (B1 :: B2 :: A :: L).Perm (A :: B1 :: B2 :: L) := zAc pk2
theorem mm1 : A ∈ A :: L := List.Mem.head _
end
abbrev ptr (p : Nat) : Value := .pointer (some ⟨p, 0, none⟩)
theorem hp_nil (w : World) : Hp w [] := ⟨by simp, by simp⟩
section
variable {x y : Nat} {z : Int}
theorem wa1 (h : x + y < 9223372036854775808) : IntKind.i64.wrap ((x : Int) + (y : Int)) = ((x + y : Nat) : Int) := by rw [IntWalk.i64_in _ (by omega)]; omega
theorem zCh (h : x + y < 9223372036854775808) : IntKind.i64.wrap ((x : Int) + (OfNat.ofNat y : Int)) = ((x + y : Nat) : Int) := wa1 h
theorem wa_lit2 (h : x + y < 9223372036854775808) : IntKind.i64.wrap ((OfNat.ofNat x : Int) + (y : Int)) = ((x + y : Nat) : Int) := wa1 h
theorem ws1 (h : y ≤ x) (h' : x < 9223372036854775808) : IntKind.i64.wrap ((x : Int) - (y : Int)) = ((x - y : Nat) : Int) := by rw [IntWalk.i64_in _ (by omega)]; omega
theorem zFu (h : y ≤ x) (h' : x < 9223372036854775808) : IntKind.i64.wrap ((x : Int) - (OfNat.ofNat y : Int)) = ((x - y : Nat) : Int) := ws1 h h'
theorem wm1 (h : x * y < 9223372036854775808) : IntKind.i64.wrap ((x : Int) * (y : Int)) = ((x * y : Nat) : Int) := by
  have h2 : ((x * y : Nat) : Int) < 9223372036854775808 := by omega
  rw [Int.natCast_mul] at h2
  rw [IntWalk.i64_in _ ⟨by have : (0 : Int) ≤ (x : Int) * (y : Int) := by rw [← Int.natCast_mul]; omega
                           omega, by omega⟩, Int.natCast_mul]
theorem zGr (h : x * y < 9223372036854775808) : IntKind.i64.wrap ((OfNat.ofNat x : Int) * (y : Int)) = ((x * y : Nat) : Int) := wm1 h
theorem zFd (h : x * y < 18446744073709551616) : IntKind.u64.wrap ((OfNat.ofNat x : Int) * (y : Int)) = ((x * y : Nat) : Int) := by
  rw [show ((OfNat.ofNat x : Int) * (y : Int)) = ((x * y : Nat) : Int) from (Int.natCast_mul x y).symm]
  exact IntWalk.u64_in _ (by omega)
theorem wq_litu (h' : x < 18446744073709551616) : IntKind.u64.wrap (((x : Int)).tdiv (OfNat.ofNat y : Int)) = ((x / y : Nat) : Int) := by
  have e : ((x : Int)).tdiv (OfNat.ofNat y : Int) = ((x / y : Nat) : Int) := by
    show ((x : Int)).tdiv (y : Int) = _
    rw [Int.tdiv_eq_ediv_of_nonneg (by omega)]; rfl
  have h2 := Nat.div_le_self x y
  rw [e]
  generalize x / y = q at *
  exact IntWalk.u64_in _ (by omega)
theorem wq_lit (h' : x < 9223372036854775808) : IntKind.i64.wrap (((x : Int)).tdiv (OfNat.ofNat y : Int)) = ((x / y : Nat) : Int) := by
  have e : ((x : Int)).tdiv (OfNat.ofNat y : Int) = ((x / y : Nat) : Int) := by
    show ((x : Int)).tdiv (y : Int) = _
    rw [Int.tdiv_eq_ediv_of_nonneg (by omega)]; rfl
  have h2 := Nat.div_le_self x y
  rw [e]
  generalize x / y = q at *
  exact IntWalk.i64_in _ (by omega)
theorem wr_lit : ((x : Int)).tmod (OfNat.ofNat y : Int) = ((x % y : Nat) : Int) := by
  show ((x : Int)).tmod (y : Int) = _
  rw [Int.tmod_eq_emod_of_nonneg (by omega)]; rfl
theorem zFe (h : x < 9223372036854775808) : IntKind.i64.wrap (x : Int) = (x : Int) := IntWalk.i64_in _ (by omega)
theorem zDz (h : x < 18446744073709551616) : IntKind.u64.wrap (x : Int) = (x : Int) := IntWalk.u64_in _ (by omega)
theorem w_in (h : -9223372036854775808 ≤ z ∧ z ≤ 9223372036854775807) : IntKind.i64.wrap z = z := IntWalk.i64_in _ h
theorem zBw (h : 0 ≤ z ∧ z ≤ 18446744073709551615) : IntKind.u64.wrap z = z := IntWalk.u64_in _ h
theorem wn_in (h : -9223372036854775807 ≤ z ∧ z ≤ 9223372036854775807) : IntKind.i64.wrap (-z) = -z := IntWalk.i64_in _ (by omega)
theorem wu8 (b : UInt8) : IntKind.u64.wrap (b.toNat : Int) = (b.toNat : Int) := IntWalk.u64_in _ (by have := b.toNat_lt; omega)
theorem w8 (n : Nat) : IntKind.u8.wrap (n : Int) = ((UInt8.ofNat n).toNat : Int) := by rw [IntKind.wrap_u8]; simp
end
section
theorem shlu {x j : Nat} (h : x * 2 ^ j < 18446744073709551616) : IntKind.u64.wrap ((x : Int) * 2 ^ ((j : Nat) : Int).toNat) = ((x * 2 ^ j : Nat) : Int) := by
  have e : ((x : Int) * 2 ^ ((j : Nat) : Int).toNat) = ((x * 2 ^ j : Nat) : Int) := by simp
  rw [e]; exact zDz h
theorem shru {x j : Nat} : ((x : Int) / 2 ^ ((j : Nat) : Int).toNat) = ((x / 2 ^ j : Nat) : Int) := by simp
theorem oru {p q j : Nat} (hp : p < 2 ^ j) (h : p + q * 2 ^ j < 18446744073709551616) : bits .or .u64 (p : Int) ((q * 2 ^ j : Nat) : Int) = ((p + q * 2 ^ j : Nat) : Int) := by
  have h1 : p ||| q * 2 ^ j = p + q * 2 ^ j := by
    rw [Nat.or_comm, Nat.mul_comm, ← Nat.two_pow_add_eq_or_of_lt hp, Nat.add_comm]
  have h2 : ∀ z : Nat, z < 18446744073709551616 → (BitVec.ofInt 64 (z : Int)).toNat = z := fun z hz => by
    rw [BitVec.ofInt_natCast, BitVec.toNat_ofNat]; exact Nat.mod_eq_of_lt hz
  show IntKind.u64.wrap (((BitVec.ofInt 64 (p : Int) ||| BitVec.ofInt 64 ((q * 2 ^ j : Nat) : Int)).toNat : Nat) : Int) = _
  rw [BitVec.toNat_or, h2 p (by omega), h2 _ (by omega), h1]
  exact zDz h
end
theorem mkb {k : Nat} (h : k ≤ 281474976710656) : 1 * k ≤ 281474976710656 := by omega
theorem mkb8 {k : Nat} (h : k ≤ 35184372088832) : 8 * k ≤ 281474976710656 := by omega
theorem mkbn {b s k : Nat} (hb : b = s) (h : s * k ≤ 281474976710656) : b * k ≤ 281474976710656 := by subst hb; exact h
theorem n1 {p : Prop} [Decidable p] (h : decide p = true) : p := of_decide_eq_true h
theorem n2 {p : Prop} [Decidable p] (h : decide p = false) : ¬ p := of_decide_eq_false h
theorem n3 {p q : Int} (h : (p == q) = true) : p = q := by simpa using h
theorem n4 {p q : Int} (h : (p == q) = false) : p ≠ q := by simpa using h
theorem n5 {p q : Int} (h : (p != q) = true) : p ≠ q := by simpa using h
theorem n6 {p q : Int} (h : (p != q) = false) : p = q := by simpa using h
class Nrm (p : Prop) (q : outParam Prop) : Prop where
  nrm : p → q
instance (priority := 10) nrm0 {p : Prop} : Nrm p p := ⟨id⟩
instance nrm1 {p : Prop} [Decidable p] : Nrm (decide p = true) p := ⟨n1⟩
instance nrm2 {p : Prop} [Decidable p] : Nrm (decide p = false) (¬ p) := ⟨n2⟩
instance nrm3 {p q : Int} : Nrm ((p == q) = true) (p = q) := ⟨n3⟩
instance nrm4 {p q : Int} : Nrm ((p == q) = false) (p ≠ q) := ⟨n4⟩
instance nrm5 {p q : Int} : Nrm ((p != q) = true) (p ≠ q) := ⟨n5⟩
instance nrm6 {p q : Int} : Nrm ((p != q) = false) (p = q) := ⟨n6⟩
section
variable {a : Act} {n : Nat} {e : List (Nat × Value)} {t : Nat} {b : Bool} {G : Prop}
theorem zAr (_ : Fr a n e) (_ : lk e t = some (.bool b)) (h1 : b = true → G) (h2 : b = false → G) : G := by
  cases b
  · exact h2 rfl
  · exact h1 rfl
theorem zCx (_ : Fr a n e) (_ : lk e t = some (.bool b)) (hb : b = true) (h : b = true → G) : G := h hb
theorem zJt (_ : Fr a n e) (_ : lk e t = some (.bool b)) (hb : b = false) (h : b = false → G) : G := h hb
end
section
variable {P : Program} {id : Nat} {l : List Oper} {ops : Array Oper} {Q : Exit → Act → World → Prop} {a : Act} {w w0 : World} {As Ls : List zAw}
theorem zDp (S : St w0 As w Ls) (ord : Ordr) (Ms : List zAw) (hM : ∀ {w' : World}, Stab Ls w' → Stab Ms w') (hm : P.follows .mixedOrders = true) (hB : mixAll l.toArray ord = true)
    (k : ∀ w', St w0 As w' Ls → zDh P l.toArray (Stab Ms) (zCf Q) ord a w') : (Code.region id l.toArray true).wp P Q a w := zJq ord (Stab Ms) hm hB (hM S.drew.stab) (k _ S.drew)
theorem zCb (S : St w0 As w Ls) (ord : Ordr) (hm : P.follows .mixedOrders = true) (hB : mixAll l.toArray ord = true)
    (k : ∀ w', St w0 As w' Ls → zDh P l.toArray (Stab Ls) (zCf Q) ord a w') : (Code.region id l.toArray true).wp P Q a w := zJq ord (Stab Ls) hm hB S.drew.stab (k _ S.drew)
theorem zBz {S : World → Prop} (h : Q .normal a w) : zDh P ops S (zCf Q) .nil a w := h
end
def Ret (P : Program) (f : FuncId) (args : Array Value) (w : World) (R : Value → World → Prop) : Prop := Calls P f args w fun e w' => ∃ v, e = .returned v ∧ R v w'
theorem Ret.mono {P : Program} {f : FuncId} {args : Array Value} {w : World} {R R' : Value → World → Prop} (h : Ret P f args w R) (k : ∀ v w', R v w' → R' v w') : Ret P f args w R' :=
  Calls.mono h fun _ _ ⟨v, he, hr⟩ => ⟨v, he, k v _ hr⟩
section
variable {P : Program} {ops : Array Oper} {Q : Exit → Act → World → Prop} {a : Act} {w w' : World} {rest : List Oper} {o : Oper} {n d i : Nat} {e : List (Nat × Value)} {Ms : List zAw} {r : Ordr}
  {g : Operand} {xs : List Operand} {ts : Array TypeId} {f : FuncId} {fn : Func} {vs cap : List Value} {R : Value → World → Prop} {K : Act → World → Prop}
theorem zCo (E : Fr a n e) (hd : o.dst = some d) (hn : d < n) (ho : o.op = .call { callee := .value (.func f), args := xs.toArray, argTypes := ts })
    (hf : P.funcs[f]? = some fn) (hb : fn.body.isSome = true) (hnm : (fn.name == "runtime.NumGoroutine") = false) (hx : evs e xs = some vs)
    (hc : Ret P f vs.toArray w R) (k : ∀ v w', R v w' → ∀ a', Fr a' n ((d, v) :: e) → K a' w') : o.wp P a w K Q := by
  refine wp_call E ho (g := .func f) (cap := #[]) rfl hf hb hnm hx ?_
  rw [Array.append_empty]
  exact Calls.mono hc fun _ _ ⟨v, he, hr⟩ => ⟨v, he, by rw [hd]; exact k v _ hr _ (E.put hn v)⟩
theorem zJu (E : Fr a n e) (hd : o.dst = some d) (hn : d < n) (ho : o.op = .call { callee := .value g, args := xs.toArray, argTypes := ts }) (hgv : ev e g = some (.func (.func f) #[] cap.toArray))
    (hf : P.funcs[f]? = some fn) (hb : fn.body.isSome = true) (hnm : (fn.name == "runtime.NumGoroutine") = false) (hx : evs e xs = some vs)
    (hc : Ret P f (vs ++ cap).toArray w R) (k : ∀ v w', R v w' → ∀ a', Fr a' n ((d, v) :: e) → K a' w') : o.wp P a w K Q := by
  refine wp_call E ho hgv hf hb hnm hx ?_
  rw [List.append_toArray]
  exact Calls.mono hc fun _ _ ⟨v, he, hr⟩ => ⟨v, he, by rw [hd]; exact k v _ hr _ (E.put hn v)⟩
theorem zAp (E : Fr a n e) (hg : o.guard = none) (hd : o.dst = some d) (hn : d < n) (ho : o.op = .call { callee := .value (.func f), args := xs.toArray, argTypes := ts })
    (hf : P.funcs[f]? = some fn) (hb : fn.body.isSome = true) (hnm : (fn.name == "runtime.NumGoroutine") = false) (hx : evs e xs = some vs)
    (hc : Ret P f vs.toArray w R) (k : ∀ v w', R v w' → ∀ a', Fr a' n ((d, v) :: e) → wpList P ops Q rest a' w') : wpList P ops Q (o :: rest) a w :=
  zAo hg (zCo E hd hn ho hf hb hnm hx hc k)
theorem zCy (E : Fr a n e) (hg : o.guard = none) (hd : o.dst = some d) (hn : d < n) (ho : o.op = .call { callee := .value g, args := xs.toArray, argTypes := ts }) (hgv : ev e g = some (.func (.func f) #[] cap.toArray))
    (hf : P.funcs[f]? = some fn) (hb : fn.body.isSome = true) (hnm : (fn.name == "runtime.NumGoroutine") = false) (hx : evs e xs = some vs)
    (hc : Ret P f (vs ++ cap).toArray w R) (k : ∀ v w', R v w' → ∀ a', Fr a' n ((d, v) :: e) → wpList P ops Q rest a' w') : wpList P ops Q (o :: rest) a w :=
  zAo hg (zJu E hd hn ho hgv hf hb hnm hx hc k)
theorem zCd (E : Fr a n e) (hi : ops[i]? = some o) (hg : o.guard = none) (hd : o.dst = some d) (hn : d < n) (ho : o.op = .call { callee := .value (.func f), args := xs.toArray, argTypes := ts })
    (hf : P.funcs[f]? = some fn) (hb : fn.body.isSome = true) (hnm : (fn.name == "runtime.NumGoroutine") = false) (hx : evs e xs = some vs)
    (hc : Ret P f vs.toArray w R) (k : ∀ v w', R v w' → ∀ a', Fr a' n ((d, v) :: e) → Stab Ms w' ∧ zDh P ops (Stab Ms) (zCf Q) r a' w') : zDh P ops (Stab Ms) (zCf Q) (.cons (i, 1) r) a w :=
  zDm hi hg (zCo E hd hn ho hf hb hnm hx hc k)
theorem zId (E : Fr a n e) (hi : ops[i]? = some o) (hg : o.guard = none) (hd : o.dst = some d) (hn : d < n) (ho : o.op = .call { callee := .value (.func f), args := xs.toArray, argTypes := ts })
    (hf : P.funcs[f]? = some fn) (hb : fn.body.isSome = true) (hnm : (fn.name == "runtime.NumGoroutine") = false) (hx : evs e xs = some vs)
    (hc : Ret P f vs.toArray w R) (k : ∀ v w', R v w' → ∀ a', Fr a' n ((d, v) :: e) → zDh P ops (Stab Ms) (zCf Q) r a' w') : zDh P ops (Stab Ms) (zCf Q) (.cons (i, 3) r) a w :=
  zCt hi hg (zCo E hd hn ho hf hb hnm hx hc k)
theorem mix_callc3 (E : Fr a n e) (hi : ops[i]? = some o) (hg : o.guard = none) (hd : o.dst = some d) (hn : d < n) (ho : o.op = .call { callee := .value g, args := xs.toArray, argTypes := ts }) (hgv : ev e g = some (.func (.func f) #[] cap.toArray))
    (hf : P.funcs[f]? = some fn) (hb : fn.body.isSome = true) (hnm : (fn.name == "runtime.NumGoroutine") = false) (hx : evs e xs = some vs)
    (hc : Ret P f (vs ++ cap).toArray w R) (k : ∀ v w', R v w' → ∀ a', Fr a' n ((d, v) :: e) → zDh P ops (Stab Ms) (zCf Q) r a' w') : zDh P ops (Stab Ms) (zCf Q) (.cons (i, 3) r) a w :=
  zCt hi hg (zJu E hd hn ho hgv hf hb hnm hx hc k)
end
def byt (bs : List UInt8) : List Value := bs.map fun b => .int .u8 b.toNat
theorem zEi (bs : List UInt8) : (byt bs).length = bs.length := by simp [byt]
theorem byt_one (bs : List UInt8) : ∀ u ∈ byt bs, u.oneCell' = true := by intro u hu; obtain ⟨b, _, rfl⟩ := List.mem_map.1 hu; rfl
theorem zJv (bs : List UInt8) {i : Nat} (h : i < bs.length) : (byt bs)[i]? = some (.int .u8 (bs[i].toNat)) := by simp [byt, h]
theorem zDq (xs ys : List UInt8) : byt (xs ++ ys) = byt xs ++ byt ys := by simp [byt]
theorem zHe (k : Nat) (xs : List UInt8) : (byt xs).take k = byt (xs.take k) := by simp [byt, List.map_take]
theorem zJi (k : Nat) (xs : List UInt8) : (byt xs).drop k = byt (xs.drop k) := by simp [byt, List.map_drop]
section
variable {P : Program} {a : Act} {w : World} {o : Oper} {n : Nat} {e : List (Nat × Value)} {x y z : Operand} {v u : Value} {C : zAw}
theorem zAx (E : Fr a n e) {t : TypeId} {bs : List UInt8} (ho : o.op = .call { callee := .builtin .len, args := #[x], argTypes := #[t] }) (hx : ev e x = some (str bs))
    (ht : P.underlying t = some .string) : zBf P o a w (.int .i64 bs.length) w := by
  have h := zAq (w := w) E ho hx ht
  simpa [ByteArray.size] using h
theorem src_str {tx : TypeId} (hk : P.underlying tx = some .string) (bs : List UInt8) (w : World) : Src P 1 tx (str bs) bs.length (byt bs) w := by
  have h := Src.ofString w hk (⟨bs.toArray⟩ : ByteArray)
  have e1 : byteCells ⟨bs.toArray⟩ = byt bs := by simp [byteCells, byt]
  have e2 : (⟨bs.toArray⟩ : ByteArray).size = bs.length := by simp [ByteArray.size]
  rwa [e1, e2] at h
theorem zAj (E : Fr a n e) {t : TypeId} {b j : Nat} (ho : o.op = .load t x) (hx : ev e x = some (.pointer (some ⟨b, j, none⟩))) (ht : zKz P t = true)
    (hc : w.cell? ⟨b, j, none⟩ = some v) : zBf P o a w v w := by
  simp [zBf, execOp, ho, E.eval hx, Instr.loadAt, Instr.sureAddr, loadVar, zEm ht, hc]
theorem zBo (E : Fr a n e) {t el : TypeId} {b off l c i : Nat} {k : IntKind} {q : Int} (ho : o.op = .indexAddr t x y) (hx : ev e x = some (.slice (some ⟨b, off, none⟩) l c)) (hy : ev e y = some (.int k q))
    (ht : P.underlying t = some (.slice el)) (hs : (P.info? el).map (·.size) = some 1) (hq : q = (i : Int)) (hi : i < l) : zBf P o a w (.pointer (some ⟨b, off + i, none⟩)) w := by
  have h := zBq (w := w) E ho hx hy ht hs hq hi
  rwa [Nat.mul_one] at h
theorem zCi (E : Fr a n e) {t t' el : TypeId} {bs : List UInt8} (ho : o.op = .convert t t' x) (hx : ev e x = some v) (ht : P.underlying t = some (.slice el)) (hel : P.underlying el = some (.int .u8)) (hd : P.underlying t' = some .string)
    (hR : Rd C 1 v bs.length (byt bs)) (hC : ∀ x ∈ C, w.heap[x.1]? = some x.2) : zBf P o a w (str bs) w := by
  have key : (convert t t' v).run P w = .ok (str bs) w := by
    have hsrc := hR.src (P := P) (w := w) (tx := t) (e' := el) hC ht
    obtain ⟨ad, c, rfl⟩ := hR.slice
    cases ad with
    | none =>
      rcases hR.2.2.2 with ⟨h0, _⟩ | ⟨b, off, c', l, T, fr, h, _⟩
      · have : bs = [] := List.eq_nil_of_length_eq_zero h0
        subst this
        rw [run_convert_bytes_nil w t el ht hel _ c t' hd]; rfl
      · cases h
    | some ad =>
      have h1 := hsrc.cells
      simp only [Builtin.firstCells, Nat.mul_one] at h1
      have h2 : (loadCells ad bs.length).run P w = .ok ((bs.map fun b => (b.toNat : Int)).map (Value.int .u8)).toArray w := by
        rw [h1]; simp [byt, Function.comp_def]
      rw [run_convert_bytes_string w t t' el (some ad) bs.length c ht hel hd, run_bytesToString w ad bs.length c _ h2]
      congr 2
      have h3 : ∀ (bs : List UInt8) (s : ByteArray), (bs.map fun b => (b.toNat : Int)).foldl (fun r n => r.push (UInt8.ofNat n.toNat)) s = ⟨s.data ++ bs.toArray⟩ := by
        intro bs
        induction bs with
        | nil => intro s; simp
        | cons b r ih =>
          intro s
          simp only [List.map_cons, List.foldl_cons, ih]
          congr 1
          simp [ByteArray.push]
      rw [h3]
      simp [ByteArray.empty, ByteArray.emptyWithCapacity]; rfl
  simp [zBf, execOp, ho, E.eval hx, key]
theorem Rd.piece {s m : Nat} {xs : List Value} (h : Rd C s v m xs) {ad : Option Addr} {c : Nat} (hv : v = .slice ad m c) {lo hi mx : Nat} (h1 : lo ≤ hi) (h2 : hi ≤ m) (h3 : hi ≤ mx) :
    Rd C s (sliced ad lo hi mx s) (hi - lo) ((xs.drop (lo * s)).take ((hi - lo) * s)) := by
  subst hv
  have hl : ((xs.drop (lo * s)).take ((hi - lo) * s)).length = (hi - lo) * s := by
    rw [List.length_take, List.length_drop, h.1, ← Nat.sub_mul]
    exact Nat.min_eq_left (Nat.mul_le_mul_right _ (by omega))
  refine ⟨hl, fun u hu => h.2.1 u (List.mem_of_mem_drop (List.mem_of_mem_take hu)), by have := h.2.2.1; omega, ?_⟩
  by_cases h0 : hi - lo = 0
  · refine .inl ⟨h0, ?_⟩
    simp only [sliced, h0]
    exact ⟨_, _, rfl⟩
  · rcases h.2.2.2 with ⟨rfl, _⟩ | ⟨b, off, c', l, T, fr, hv, hm, hc⟩
    · omega
    · cases hv
      refine .inr ⟨b, off + lo * s, mx - lo, l, T, fr, by simp [sliced, show ¬ mx = lo by omega, Addr.add_lit], hm, fun i u hu => ?_⟩
      have hi' : i < (hi - lo) * s := by
        have := (List.getElem?_eq_some_iff.1 hu).1
        rw [hl] at this; exact this
      rw [List.getElem?_take_of_lt hi', List.getElem?_drop] at hu
      rw [Nat.add_assoc]
      exact hc _ _ hu
theorem Rd.cut {s m : Nat} {xs : List Value} {ad : Option Addr} {c lo hi : Nat} (h : Rd C s (.slice ad m c) m xs) (h1 : lo ≤ hi) (h2 : hi ≤ m) (h3 : hi ≤ c) :
    ∃ ad2 c2, sliced ad lo hi c s = .slice ad2 (hi - lo) c2 ∧ Rd C s (.slice ad2 (hi - lo) c2) (hi - lo) ((xs.drop (lo * s)).take ((hi - lo) * s)) :=
  ⟨_, _, rfl, h.piece rfl h1 h2 h3⟩
theorem Rd.addr {s m c : Nat} {ad : Option Addr} {xs : List Value} (h : Rd C s (.slice ad m c) m xs) (hm : 0 < m) : ∃ b off, ad = some ⟨b, off, none⟩ := by
  rcases h.2.2.2 with ⟨rfl, _⟩ | ⟨b, off, c', l, T, fr, hv, _⟩
  · omega
  · cases hv; exact ⟨b, off, rfl⟩
theorem Rd.byte {m b off c : Nat} {bs : List UInt8} (h : Rd C 1 (.slice (some ⟨b, off, none⟩) m c) m (byt bs)) (hC : ∀ x ∈ C, w.heap[x.1]? = some x.2) {i : Nat} (hi : i < bs.length) :
    w.cell? ⟨b, off + i, none⟩ = some (.int .u8 (bs[i].toNat)) := h.cells hC rfl i _ (zJv bs hi)
theorem Rd.copySrc {P : Program} {tx e' : TypeId} {m : Nat} {xs : List Value} (h : Rd C 1 v m xs) (hC : ∀ x ∈ C, w.heap[x.1]? = some x.2) (hk : P.underlying tx = some (.slice e')) :
    ∀ k, k ≤ m → Src P 1 tx v m xs w ∧ (Builtin.firstCells 1 k v).run P w = .ok (xs.take k).toArray w := by
  intro k hkm
  have hs := h.src (P := P) hC hk
  refine ⟨hs, ?_⟩
  rcases h.2.2.2 with ⟨rfl, ad, c, rfl⟩ | ⟨b, off, c, l, T, fr, rfl, hm, hc⟩
  · have h0 : xs = [] := List.eq_nil_of_length_eq_zero (by simpa using h.1)
    subst h0
    have hk0 : k = 0 := by omega
    subst hk0
    exact hs.cells
  · have hl : (xs.take k).length = k * 1 := by rw [List.length_take, h.1]; omega
    exact run_firstCells_some w 1 k ⟨b, off, none⟩ _ c (xs.take k) hl fun j u hu => by
      have hj : j < k := by have := (List.getElem?_eq_some_iff.1 hu).1; rw [hl] at this; omega
      rw [List.getElem?_take_of_lt hj] at hu
      rw [Addr.add_lit]
      exact h.cells hC rfl j u hu
theorem copy_all {k : Nat} {l ys : List Value} {m d : Nat} (h : ys.length = m ∧ l.length = m ∧ d = m ∧ k = 0) : l.take k ++ ys.take (min m d) ++ l.drop (k + min m d) = ys := by
  obtain ⟨rfl, h2, rfl, rfl⟩ := h
  simp [h2]
theorem zGi (E : Fr a n e) {t el : TypeId} {s l c lo hi : Nat} {ad : Option Addr} {k1 k2 : IntKind} {q r : Int} (ho : o.op = .slice t x (some y) (some z) none) (hx : ev e x = some (.slice ad l c)) (hy : ev e y = some (.int k1 q)) (hz : ev e z = some (.int k2 r))
    (ht : P.underlying t = some (.slice el)) (hs : (P.info? el).map (·.size) = some s) (hq : q = (lo : Int)) (hr : r = (hi : Int)) (h1 : lo ≤ hi) (h2 : hi ≤ c) : zBf P o a w (sliced ad lo hi c s) w := by
  subst hq hr
  have e1 : P.elem t = el := by simp [Program.elem, ht]
  have := Go.run_slice_lh (P := P) w t ad l c (by rw [e1]; exact ht) k1 k2 (lo : Int) (hi : Int) (by omega) (by omega) (by omega)
  rw [e1, zDk hs] at this
  simp [zBf, execOp, ho, E.eval hx, E.eval hy, E.eval hz, run_sliceAt_slice w t _ _ _ _ (by rw [e1]; exact ht), this]
theorem zGa (E : Fr a n e) {t el : TypeId} {s l c hi : Nat} {ad : Option Addr} {k2 : IntKind} {r : Int} (ho : o.op = .slice t x none (some z) none) (hx : ev e x = some (.slice ad l c)) (hz : ev e z = some (.int k2 r))
    (ht : P.underlying t = some (.slice el)) (hs : (P.info? el).map (·.size) = some s) (hr : r = (hi : Int)) (h2 : hi ≤ c) : zBf P o a w (sliced ad 0 hi c s) w := by
  subst hr
  have e1 : P.elem t = el := by simp [Program.elem, ht]
  have := Go.run_slice_h (P := P) w t ad l c (by rw [e1]; exact ht) k2 (hi : Int) (by omega) (by omega)
  rw [e1, zDk hs] at this
  simp [zBf, execOp, ho, E.eval hx, E.eval hz, run_sliceAt_slice w t _ _ _ _ (by rw [e1]; exact ht), this]
theorem rn_slice_l (E : Fr a n e) {t el : TypeId} {s l c lo : Nat} {ad : Option Addr} {k1 : IntKind} {q : Int} (ho : o.op = .slice t x (some y) none none) (hx : ev e x = some (.slice ad l c)) (hy : ev e y = some (.int k1 q))
    (ht : P.underlying t = some (.slice el)) (hs : (P.info? el).map (·.size) = some s) (hq : q = (lo : Int)) (h1 : lo ≤ l) : zBf P o a w (sliced ad lo l c s) w := by
  subst hq
  have e1 : P.elem t = el := by simp [Program.elem, ht]
  have := Go.run_slice_l (P := P) w t ad l c (by rw [e1]; exact ht) k1 (lo : Int) (by omega) (by omega)
  rw [e1, zDk hs] at this
  simp [zBf, execOp, ho, E.eval hx, E.eval hy, run_sliceAt_slice w t _ _ _ _ (by rw [e1]; exact ht), this]
def evps (e : List (Nat × Value)) : List (Nat × Operand) → Option (List (Nat × Value))
  | [] => some []
  | (i, x) :: r => match ev e x, evps e r with
    | some v, some vs => some ((i, v) :: vs)
    | _, _ => none
theorem Fr.evps (E : Fr a n e) : ∀ {xs : List (Nat × Operand)} {vs : List (Nat × Value)}, Sl.evps e xs = some vs → xs.map (fun p => (p.1, a.eval p.2)) = vs
  | [], vs, h => by simp only [Sl.evps, Option.some.injEq] at h; subst h; rfl
  | (i, x) :: r, vs, h => by
    simp only [Sl.evps] at h
    split at h
    · rename_i v us h1 h2
      cases h
      rw [List.map_cons, E.eval h1, E.evps h2]
    · cases h
def fillL (place : Nat → Option (Nat × Nat)) : List Value → List (Nat × Value) → Option (List Value)
  | cs, [] => some cs
  | cs, (i, v) :: r => match place i with
    | none => none
    | some (off, size) => match v with
      | .agg vs => if vs.toList.length = size ∧ off + vs.toList.length ≤ cs.length then fillL place (cs.take off ++ vs.toList ++ cs.drop (off + vs.toList.length)) r else none
      | v => if size = 1 ∧ off + 1 ≤ cs.length then fillL place (cs.set off v) r else none
theorem fold_set (off : Nat) : ∀ (vs : List Value) (j : Nat) (cs : Array Value), off + j + vs.length ≤ cs.size →
    (vs.zipIdx j).foldl (fun cs (c, j) => cs.setIfInBounds (off + j) c) cs = (cs.toList.take (off + j) ++ vs ++ cs.toList.drop (off + j + vs.length)).toArray
  | [], j, cs, _ => by simp
  | v :: r, j, cs, h => by
    simp only [List.length_cons] at h
    rw [List.zipIdx_cons, List.foldl_cons, fold_set off r (j + 1) _ (by simp; omega)]
    apply congrArg List.toArray
    simp only [Array.toList_setIfInBounds, List.length_cons]
    have h1 : off + j < cs.toList.length := by simp; omega
    rw [List.set_eq_take_append_cons_drop, if_pos h1]
    rw [show off + (j + 1) = (cs.toList.take (off + j)).length + 1 by simp; omega, List.take_append]
    simp only [Nat.add_sub_cancel_left, List.take_succ_cons, List.take_zero]
    rw [List.take_of_length_le (by omega)]
    have h2 : (cs.toList.take (off + j)).length = off + j := by simp; omega
    rw [h2, show off + j + 1 + r.length = (cs.toList.take (off + j)).length + (r.length + 1) by rw [h2]; omega, List.drop_append, List.drop_of_length_le (by omega)]
    simp only [h2, List.append_assoc, List.cons_append, List.nil_append, List.nil_append]
    rw [show off + j + (r.length + 1) - (off + j) = r.length + 1 by omega, List.drop_succ_cons, List.drop_drop]
    congr 4
    omega
theorem zJw (place : Nat → Option (Nat × Nat)) : ∀ (qs : List (Nat × Value)) (cs out : List Value), fillL place cs qs = some out → Instr.fill place cs.toArray qs = some out.toArray
  | [], cs, out, h => by simp only [fillL, Option.some.injEq] at h; subst h; rfl
  | (i, v) :: r, cs, out, h => by
    unfold fillL at h
    unfold Instr.fill
    cases hp : place i with
    | none => simp [hp] at h
    | some q =>
      obtain ⟨off, size⟩ := q
      simp only [hp] at h ⊢
      by_cases hag : ∃ vs, v = .agg vs
      · obtain ⟨vs, rfl⟩ := hag
        simp only at h
        split at h
        · rename_i hc
          obtain ⟨h1, h2⟩ := hc
          simp only [Array.length_toList] at h1 h2
          rw [if_neg (by simp [Value.cells, h1]; omega)]
          have e1 : (Value.agg vs).cells.zipIdx.foldl (fun cs (c, j) => cs.setIfInBounds (off + j) c) cs.toArray = (cs.take off ++ vs.toList ++ cs.drop (off + vs.toList.length)).toArray := by
            have := fold_set off vs.toList 0 cs.toArray (by simpa using h2)
            rw [← Array.foldl_toList]
            simpa [Value.cells] using this
          rw [e1]
          exact zJw place r _ out h
        · cases h
      · have hv : v.cells = #[v] := by cases v <;> first | rfl | exact absurd ⟨_, rfl⟩ hag
        have h' : (if size = 1 ∧ off + 1 ≤ cs.length then fillL place (cs.set off v) r else none) = some out := by
          cases v <;> first | exact h | exact absurd ⟨_, rfl⟩ hag
        split at h'
        · rename_i hc
          obtain ⟨rfl, h2⟩ := hc
          rw [if_neg (by simp [hv]; omega), hv]
          have e1 : (#[v] : Array Value).zipIdx.foldl (fun cs (c, j) => cs.setIfInBounds (off + j) c) cs.toArray = (cs.set off v).toArray := by simp
          rw [e1]
          exact zJw place r _ out h'
        · cases h'
def builtL (P : Program) (t : TypeId) (qs : List (Nat × Value)) : Option (List Value) :=
  match P.info? t, P.underlying t with
  | some it, some (.array _ el) =>
    match it.zero, P.info? el with
    | some zv, some ie => fillL (fun i => some (i * ie.size, ie.size)) zv.cells.toList qs
    | _, _ => none
  | some it, some (.struct fields) =>
    match it.zero, fields.toList.mapM (fun f => (P.info? f.type).map fun i => (f.offset, i.size)) with
    | some zv, some places => fillL (places[·]?) zv.cells.toList qs
    | _, _ => none
  | _, _ => none
theorem built_eq {t : TypeId} {qs : List (Nat × Value)} {cs : List Value} (h : builtL P t qs = some cs) : P.built t qs = some cs.toArray := by
  unfold builtL at h
  unfold Program.built
  split at h
  · rename_i it n el h1 h2
    simp only [h1, h2]
    split at h
    · rename_i zv ie h3 h4
      simp only [h3, h4]
      simpa using zJw _ qs _ _ h
    · cases h
  · rename_i it fs h1 h2
    simp only [h1, h2]
    split at h
    · rename_i zv pl h3 h4
      simp only [h3, h4]
      have := zJw _ qs _ _ h
      simpa using this
    · cases h
  · cases h
theorem zCv (E : Fr a n e) {t : TypeId} {ps : List (Nat × Operand)} {qs : List (Nat × Value)} {cells : List Value} (ho : o.op = .build t ps.toArray) (hq : evps e ps = some qs)
    (hr : builtL P t qs = some cells) : zBf P o a w (.agg cells.toArray) w := by
  have h := run_build w t qs.toArray cells.toArray (by simpa using built_eq hr)
  have h2 := E.evps hq
  simp only [zBf, execOp, ho, List.map_toArray, Sem.run_bind]
  rw [show (ps.map fun x => match x with | (i, x) => (i, a.eval x)) = qs from h2, h]
  rfl
end
end Go.Sl
namespace Go.Sl
section
variable {P : Program} {Q : Exit → Act → World → Prop} {a : Act} {w0 w : World} {o : Oper} {n : Nat} {e : List (Nat × Value)} {x y : Operand} {v u : Value} {C : zAw} {As Ls Rs : List zAw} {K : Act → World → Prop}
def Joined (J : Act → World → Prop) (Q : Exit → Act → World → Prop) : Exit → Act → World → Prop
  | .normal, a, w => J a w
  | e, a, w => Q e a w
theorem zEc (J : Act → World → Prop) {c : Code} (h : c.wp P (Joined J Q) a w) (k : ∀ a' w', J a' w' → Q .normal a' w') : c.wp P Q a w :=
  wp_mono h fun e a' w' h => by cases e <;> first | exact k _ _ h | exact h
theorem zAv {J : Act → World → Prop} (h : J a w) : Joined J Q .normal a w := h
theorem flat_rep (L : List Value) : ∀ (k i : Nat), i < k * L.length → (List.replicate k L).flatten[i]? = L[i % L.length]?
  | 0, i, h => by simp at h
  | k + 1, i, h => by
    rw [List.replicate_succ, List.flatten_cons]
    by_cases hi : i < L.length
    · rw [List.getElem?_append_left hi, Nat.mod_eq_of_lt hi]
    · rw [List.getElem?_append_right (by omega), flat_rep L k (i - L.length) (by rw [Nat.add_mul, Nat.one_mul] at h; omega), Nat.mod_eq_sub_mod (by omega : i ≥ L.length)]
theorem made_flat (z : Value) (k : Nat) : ((Array.range (k * z.cells.size)).map (z.cells[· % z.cells.size]!)) = ((List.replicate k z.cells.toList).flatten).toArray := by
  have hl : ((List.replicate k z.cells.toList).flatten).length = k * z.cells.size := by simp [List.length_flatten]
  apply Array.ext
  · simp [List.length_flatten]
  · intro i h1 h2
    have h3 : i < k * z.cells.size := by simpa using h1
    have h4 := flat_rep z.cells.toList k i (by simpa using h3)
    have h5 : i < ((List.replicate k z.cells.toList).flatten).length := by rw [hl]; exact h3
    rw [List.getElem?_eq_getElem h5] at h4
    have hpos : 0 < z.cells.size := by
      rcases Nat.eq_zero_or_pos z.cells.size with h | h
      · rw [h] at h3; omega
      · exact h
    have hm : i % z.cells.size < z.cells.size := Nat.mod_lt _ hpos
    have h6 : i % z.cells.toList.length < z.cells.toList.length := by simpa using hm
    rw [List.getElem?_eq_getElem h6] at h4
    have h7 := Option.some.inj h4
    simp only [Array.getElem_map, Array.getElem_range, List.getElem_toArray, h7]
    simp [hm]
theorem zGj (E : Fr a n e) {d : Nat} (hr : zBf P o a w v w) (hd : o.dst = some d) (hn : d < n) (k : ∀ a', Fr a' n ((d, v) :: e) → K a' w) : o.wp P a w K Q :=
  hr.wp (by rw [hd]; exact k _ (E.put hn v))
theorem zDn (E : Fr a n e) (S : St w0 As w Ls) {t el : TypeId} {d len : Nat} {i : TypeInfo} {zv : Value} {ps : List (Nat × Operand)} {qs : List (Nat × Value)} {cells : List Value} (ho : o.op = .buildSlice t len ps.toArray) (hd : o.dst = some d) (hn : d < n)
    (hq : evps e ps = some qs) (ht : P.underlying t = some (.slice el)) (hi : P.info? el = some i) (hz : i.zero = some zv) (hs : zv.cells.size = i.size) (hsm : (len * i.size ≤ 2 ^ 24 ∧ 0 < len * i.size))
    (hf : fillL (fun j => some (j * i.size, i.size)) (List.replicate len zv.cells.toList).flatten qs = some cells)
    (k : ∀ a' w' b, Fr a' n ((d, .slice (some ⟨b, 0, none⟩) len len) :: e) → St w0 As w' ([(b, cel cells el)] :: Ls) → K a' w') : o.wp P a w K Q := by
  refine Go.wp_buildSlice t el len ps.toArray ho cells.toArray i zv ht hi hz (by omega) (by omega) ?_ ?_
  · rw [← hs, made_flat]
    have h2 := E.evps hq
    have h3 : (ps.toArray.map fun x => match x with | (i, x) => (i, a.eval x)).toList = qs := by rw [List.map_toArray]; exact h2
    rw [h3, hs]
    exact zJw _ _ _ _ hf
  · rw [hd]; exact k _ _ w.heap.size (E.put hn _) (S.alloc _)
theorem zEh (E : Fr a n e) {t : TypeId} {b j q : Nat} {vs : List Value} (ho : o.op = .load t x) (hx : ev e x = some (.pointer (some ⟨b, j, none⟩))) (ht : zEn P t = some q) (hl : vs.length = q)
    (hv : ∀ i u, vs[i]? = some u → w.cell? ⟨b, j + i, none⟩ = some u) : zBf P o a w (.agg vs.toArray) w := by
  subst hl
  have h1 : (loadCells ⟨b, j, none⟩ vs.length).run P w = .ok vs.toArray w :=
    run_loadCells_list w ⟨b, j, none⟩ vs fun i u hu => by rw [Addr.add_lit]; exact hv i u hu
  simp [zBf, execOp, ho, E.eval hx, Instr.loadAt, Instr.sureAddr, loadVar, zGh ht, zDk (info_agg ht), h1]
theorem zBn (E : Fr a n e) {t T : TypeId} {b j q : Nat} {l vs : List Value} {fr : Nat × Nat} (ho : o.op = .load t x) (hx : ev e x = some (.pointer (some ⟨b, j, none⟩))) (ht : zEn P t = some q)
    (hb : w.heap[b]? = some (.cells l.toArray T fr)) (hl : vs.length = q) (hv : (l.drop j).take vs.length = vs) : zBf P o a w (.agg vs.toArray) w :=
  rn_load_agg E ho hx ht hb hl fun i u hu => by
    have h1 := (List.getElem?_eq_some_iff.1 hu).1
    rw [← hv, List.getElem?_take_of_lt h1, List.getElem?_drop] at hu
    simpa using hu
theorem flat_at {α : Type} {lay : α → List Value} {s : Nat} (hl : ∀ a, (lay a).length = s) : ∀ (asx : List α) (i : Nat) (hi : i < asx.length) (j : Nat) (u : Value), (lay asx[i])[j]? = some u → (asx.flatMap lay)[i * s + j]? = some u
  | a :: r, 0, _, j, u, h => by
    have : j < (lay a).length := (List.getElem?_eq_some_iff.1 h).1
    rw [List.flatMap_cons, Nat.zero_mul, Nat.zero_add, List.getElem?_append_left this]
    exact h
  | a :: r, i + 1, hi, j, u, h => by
    rw [List.flatMap_cons, List.getElem?_append_right (by rw [hl, Nat.succ_mul]; omega), hl, Nat.succ_mul, show i * s + s + j - s = i * s + j by omega]
    exact flat_at hl r i (by simpa using hi) j u h
theorem Rd.elem {α : Type} {lay : α → List Value} {s : Nat} (hl : ∀ a, (lay a).length = s) {asx : List α} {m b off c : Nat} (h : Rd C s (.slice (some ⟨b, off, none⟩) m c) m (asx.flatMap lay)) (hC : ∀ x ∈ C, w.heap[x.1]? = some x.2)
    {i : Nat} (hi : i < asx.length) : ∀ j u, (lay asx[i])[j]? = some u → w.cell? ⟨b, off + i * s + j, none⟩ = some u := fun j u hu => by
  rw [Nat.add_assoc]
  exact h.cells hC rfl _ _ (flat_at hl asx i hi j u hu)
theorem Buf.cap_le {T : TypeId} {s m c l : Nat} {ad : Option Addr} {xs : List Value} (h : Buf C T s (.slice ad l c) m xs) : m ≤ c := by
  rcases h.2.2 with ⟨hv, h0, _⟩ | ⟨g, c', r, hv, _, hn, _⟩
  · omega
  · cases hv; exact hn
theorem buf_mk {T : TypeId} {g c s m : Nat} {xs r : List Value} (hx : xs.length = m * s) (h1 : ∀ u ∈ xs, u.oneCell' = true) (hn : m ≤ c) (hc : c ≤ maxLen) (hl : xs.length + r.length = c * s) :
    Buf [(g, cel (xs ++ r) T)] T s (.slice (some ⟨g, 0, none⟩) m c) m xs := ⟨hx, h1, .inr ⟨g, c, r, rfl, rfl, hn, hc, hl⟩⟩
theorem zFf {g s m : Nat} {xs : List Value} {T : TypeId} (hx : xs.length = m * s) (h1 : ∀ u ∈ xs, u.oneCell' = true) (hm : m ≤ 4611686018427387904) (c : Nat) : Rd [(g, cel xs T)] s (.slice (some ⟨g, 0, none⟩) m c) m xs :=
  ⟨hx, h1, by simp only [maxLen]; omega, .inr ⟨g, 0, c, _, T, (0, 0), rfl, List.mem_singleton.2 rfl, fun i u hu => by simpa using hu⟩⟩
end
end Go.Sl
namespace Go.Sl
section
variable {P : Program} {Q : Exit → Act → World → Prop} {a : Act} {w0 w : World} {o : Oper} {n : Nat} {e : List (Nat × Value)} {x y z u : Operand} {v : Value} {C : zAw} {As Ls Rs : List zAw} {K : Act → World → Prop}
theorem rn_slice_hm (E : Fr a n e) {t el : TypeId} {s l c hi mx : Nat} {ad : Option Addr} {k2 k3 : IntKind} {r q : Int} (ho : o.op = .slice t x none (some z) (some u)) (hx : ev e x = some (.slice ad l c)) (hz : ev e z = some (.int k2 r)) (hu : ev e u = some (.int k3 q))
    (ht : P.underlying t = some (.slice el)) (hs : (P.info? el).map (·.size) = some s) (hr : r = (hi : Int)) (hq : q = (mx : Int)) (h1 : hi ≤ mx) (h2 : mx ≤ c) : zBf P o a w (sliced ad 0 hi mx s) w := by
  subst hr hq
  have e1 : P.elem t = el := by simp [Program.elem, ht]
  have := Go.run_slice_hm (P := P) w t ad l c (by rw [e1]; exact ht) k2 k3 (hi : Int) (mx : Int) (by omega) (by omega) (by omega)
  rw [e1, zDk hs] at this
  simp [zBf, execOp, ho, E.eval hx, E.eval hz, E.eval hu, run_sliceAt_slice w t _ _ _ _ (by rw [e1]; exact ht), this]
theorem equal_pair {t t0 t1 : TypeId} {k0 k1 : IntKind} {fs : Array Field} (ht : P.underlying t = some (.struct fs)) (hp : P.stoodInHeld t = false)
    (hf : fs.toList.map (fun f => (f.name == "_", f.type, f.offset)) = [(false, t0, 0), (false, t1, 1)]) (u0 : P.underlying t0 = some (.int k0)) (u1 : P.underlying t1 = some (.int k1)) (p q r s : Int) :
    (Op.equalIn 10000 t (.agg #[.int k0 p, .int k1 q]) (.agg #[.int k0 r, .int k1 s])).run P w = .ok (p == r && q == s) w := by
  have hS : P.underlying t = some (.struct (P.fieldsOf t)) := by simp [Program.fieldsOf, ht]
  have hfs : P.fieldsOf t = fs := by simp [Program.fieldsOf, ht]
  rw [show (10000 : Nat) = 9999 + 1 from rfl, run_equalIn_agg w 9999 t _ _ hS hp, hfs]
  generalize fs.toList = l at hf
  have hl : l.length = 2 := by simpa using congrArg List.length hf
  match l, hl, hf with
  | [f0, f1], _, hf =>
    simp only [List.map_cons, List.map_nil, List.cons.injEq, Prod.mk.injEq, beq_eq_false_iff_ne, ne_eq, and_true] at hf
    obtain ⟨⟨n0, rfl, o0⟩, n1, rfl, o1⟩ := hf
    have a0 : (isAgg f0.type).run P w = .ok false w := by simp [isAgg, run_underlying u0]
    have a1 : (isAgg f1.type).run P w = .ok false w := by simp [isAgg, run_underlying u1]
    simp [Op.eqFields, n0, n1, o0, o1, part, a0, a1, run_equalIn_int, u0, u1]
    by_cases h1 : p = r <;> by_cases h2 : q = s <;> simp [h1, h2]
theorem zJx (E : Fr a n e) {t t' t0 t1 : TypeId} {k0 k1 : IntKind} {fs : Array Field} {p q r s : Int} (ho : o.op = .binOp .eql t x y t') (hx : ev e x = some (.agg #[.int k0 p, .int k1 q])) (hy : ev e y = some (.agg #[.int k0 r, .int k1 s]))
    (ht : P.underlying t = some (.struct fs)) (hp : P.stoodInHeld t = false) (hm : P.eqGuardType P.depth t = false)
    (hf : fs.toList.map (fun f => (f.name == "_", f.type, f.offset)) = [(false, t0, 0), (false, t1, 1)]) (u0 : P.underlying t0 = some (.int k0)) (u1 : P.underlying t1 = some (.int k1)) : zBf P o a w (.bool (p == r && q == s)) w := by
  have h1 := run_eqGuard_agg (P := P) w .eql t x y #[.int k0 p, .int k1 q] #[.int k0 r, .int k1 s] hm
  have h2 : (binOp .eql t (.agg #[.int k0 p, .int k1 q]) (.agg #[.int k0 r, .int k1 s])).run P w = .ok (.bool (p == r && q == s)) w := by
    rw [run_eql_struct, equal_pair ht hp hf u0 u1]; rfl
  simp [zBf, execOp, ho, E.eval hx, E.eval hy, h1, h2]
end
end Go.Sl
namespace Go.Sl
section
variable {w0 w w' : World} {As Ls Rs Bs : List zAw} {A B C D : zAw}
theorem St.perm2 (S : St w0 As w (A :: B :: Ls)) : St w0 As w (B :: A :: Ls) := S.perm (List.Perm.swap _ _ _)
theorem St.rot3 (S : St w0 As w (A :: B :: C :: Ls)) : St w0 As w (B :: C :: A :: Ls) := S.perm2.perm ((List.Perm.swap _ _ _).cons _)
theorem St.front1 {L1 : List zAw} (S : St w0 As w Ls) (p : Ls.Perm (A :: L1)) : St w0 As w (A :: L1) := S.perm p
theorem St.front2 {L1 L2 : List zAw} (S : St w0 As w Ls) (p : Ls.Perm (A :: L1)) (q : L1.Perm (B :: L2)) : St w0 As w (A :: B :: L2) := S.perm (p.trans (q.cons _))
theorem St.front3 {L1 L2 L3 : List zAw} (S : St w0 As w Ls) (p : Ls.Perm (A :: L1)) (q : L1.Perm (B :: L2)) (r : L2.Perm (C :: L3)) : St w0 As w (A :: B :: C :: L3) := S.front2 p (q.trans (r.cons _))
theorem St.front4 {L1 L2 L3 L4 : List zAw} (S : St w0 As w Ls) (p : Ls.Perm (A :: L1)) (q : L1.Perm (B :: L2)) (r : L2.Perm (C :: L3)) (t : L3.Perm (D :: L4)) : St w0 As w (A :: B :: C :: D :: L4) := S.front3 p q (r.trans (t.cons _))
section
variable {P : Program} {ops : Array Oper} {a : Act} {rest : List Oper} {o : Oper} {n d : Nat} {e : List (Nat × Value)} {x g : Operand} {v : Value} {K : Act → World → Prop} {Q : Exit → Act → World → Prop}
end
end
end Go.Sl
namespace Go.Sl
def zEy (P : Program) (t : TypeId) : Bool :=
  match P.underlying t with
  | some (.struct _) | some (.array _ _) => true
  | _ => false
def zHl (P : Program) (t : TypeId) (us : List Value) : Option Value :=
  bif zEy P t then some (.agg us.toArray) else match us with
    | [u] => some u
    | _ => none
def eqFs (P : Program) (F : TypeId → List Value → List Value → Option Bool) : List Field → List Value → List Value → Option Bool
  | [], _, _ => some true
  | f :: r, us, vs => bif f.name == "_" then none else match P.info? f.type with
    | none => none
    | some i => bif Nat.blt us.length (f.offset + i.size) || Nat.blt vs.length (f.offset + i.size) then none else
      match F f.type ((us.drop f.offset).take i.size) ((vs.drop f.offset).take i.size) with
      | none => none
      | some p => match r with
        | [] => some p
        | r => match eqFs P F r us vs with
          | none => none
          | some q => some (p && q)
def zFn (P : Program) : Nat → TypeId → List Value → List Value → Option Bool
  | 0, _, _, _ => none
  | d + 1, t, us, vs => match P.underlying t with
    | some (.int _) => match us, vs with
      | [.int k a], [.int k' b] => if k = k' then some (a == b) else none
      | _, _ => none
    | some .bool => match us, vs with
      | [.bool a], [.bool b] => some (a == b)
      | _, _ => none
    | some (.struct fs) => eqFs P (zFn P d) fs.toList us vs
    | _ => none
def zLa (P : Program) : Nat → TypeId → Bool
  | 0, _ => false
  | d + 1, t => match P.underlying t with
    | some (.struct fs) => !P.stoodInHeld t && fs.toList.all fun f => zLa P d f.type
    | _ => true
section
variable {P : Program}
theorem isAgg_of {t : TypeId} (w : World) (h : P.underlying t ≠ none) : (isAgg t).run P w = .ok (zEy P t) w := by
  unfold zEy
  cases hd : P.underlying t with
  | none => exact absurd hd h
  | some d => cases d <;> simp [isAgg, run_underlying hd]
theorem run_part {t : TypeId} {i : TypeInfo} (w : World) (hi : P.info? t = some i) (hu : P.underlying t ≠ none) {us : List Value} {off : Nat} {v : Value} (hl : off + i.size ≤ us.length)
    (hv : zHl P t ((us.drop off).take i.size) = some v) : (part t us.toArray off).run P w = .ok v w := by
  unfold part
  rw [Sem.run_bind, isAgg_of w hu, Result.andThen_ok]
  unfold zHl at hv
  cases hb : zEy P t with
  | true =>
    simp only [hb, cond_true, Option.some.injEq] at hv
    subst hv
    simp only [if_true, Sem.run_bind, zDk (P := P) (w := w) (t := t) (q := i.size) (by rw [hi]; rfl), Result.andThen_ok, Sem.run_pure]
    congr 2
    apply Array.ext'
    simp [List.extract_toArray, List.extract_eq_take_drop]
  | false =>
    simp only [hb, cond_false] at hv
    split at hv
    · rename_i u hu2
      cases hv
      have h0 : us[off]? = some v := by
        have h1 : ((us.drop off).take i.size)[0]? = some v := by rw [hu2]; rfl
        rw [List.getElem?_take] at h1
        split at h1
        · rw [List.getElem?_drop] at h1; exact h1
        · cases h1
      simp [h0]
    · cases hv
theorem eqCells_shape {d : Nat} {t : TypeId} {us vs : List Value} {r : Bool} (h : zFn P d t us vs = some r) : P.underlying t ≠ none ∧ (∃ u, zHl P t us = some u) ∧ ∃ v, zHl P t vs = some v := by
  cases d with
  | zero => cases h
  | succ d =>
    unfold zFn at h
    split at h
    · rename_i hu
      refine ⟨by rw [hu]; simp, ?_⟩
      have hb : zEy P t = false := by simp [zEy, hu]
      split at h
      · simp [zHl, hb]
      · cases h
    · rename_i hu
      refine ⟨by rw [hu]; simp, ?_⟩
      have hb : zEy P t = false := by simp [zEy, hu]
      split at h
      · simp [zHl, hb]
      · cases h
    · rename_i fs hu
      have hb : zEy P t = true := by simp [zEy, hu]
      exact ⟨by rw [hu]; simp, by simp [zHl, hb]⟩
    · cases h
theorem run_eqFs {D d : Nat} {F : TypeId → List Value → List Value → Option Bool} (hF : F = zFn P d) (w : World)
    (ih : ∀ t us vs r u v, zFn P d t us vs = some r → zLa P d t = true → zHl P t us = some u → zHl P t vs = some v → (Op.equalIn D t u v).run P w = .ok r w) :
    ∀ (fs : List Field) (us vs : List Value) (r : Bool), eqFs P F fs us vs = some r → (∀ f ∈ fs, zLa P d f.type = true) → (Op.eqFields D us.toArray vs.toArray fs).run P w = .ok r w
  | [], us, vs, r, h, _ => by
    simp only [eqFs, Option.some.injEq] at h
    subst h
    simp [Op.eqFields]
  | f :: fs, us, vs, r, h, hh => by
    subst hF
    unfold eqFs at h
    cases hn : (f.name == "_") with
    | true => simp [hn] at h
    | false =>
      simp only [hn, cond_false] at h
      have hne : f.name ≠ "_" := by simpa using hn
      cases hi : P.info? f.type with
      | none => simp [hi] at h
      | some i =>
        simp only [hi] at h
        cases hl : (Nat.blt us.length (f.offset + i.size) || Nat.blt vs.length (f.offset + i.size)) with
        | true => simp [hl] at h
        | false =>
          simp only [hl, cond_false] at h
          have hl1 : f.offset + i.size ≤ us.length ∧ f.offset + i.size ≤ vs.length := by
            simp only [Bool.or_eq_false_iff] at hl
            have h1 := hl.1
            have h2 := hl.2
            rw [← Bool.not_eq_true, Nat.blt_eq] at h1 h2
            omega
          cases hp : zFn P d f.type ((us.drop f.offset).take i.size) ((vs.drop f.offset).take i.size) with
          | none => simp [hp] at h
          | some p =>
            simp only [hp] at h
            obtain ⟨hu, ⟨u, hu1⟩, v, hv1⟩ := eqCells_shape hp
            have e1 := run_part w hi hu hl1.1 hu1
            have e2 := run_part w hi hu hl1.2 hv1
            have e3 := ih _ _ _ _ _ _ hp (hh f (List.mem_cons_self ..)) hu1 hv1
            have hrun : (Op.eqFields D us.toArray vs.toArray (f :: fs)).run P w = (if (!p) = true then (pure false : Sem Bool) else Op.eqFields D us.toArray vs.toArray fs).run P w := by
              simp only [Op.eqFields, if_pos hne, Sem.run_bind, e1, Result.andThen_ok, e2, e3]
            rw [hrun]
            have hrest : ∀ q, eqFs P (zFn P d) fs us vs = some q → (Op.eqFields D us.toArray vs.toArray fs).run P w = .ok q w := fun q hq =>
              run_eqFs rfl w ih fs us vs q hq fun g hg => hh g (List.mem_cons_of_mem _ hg)
            cases fs with
            | nil =>
              simp only [Option.some.injEq] at h
              subst h
              cases p
              · simp
              · simp only [Bool.not_true, Bool.false_eq_true, if_false]; exact hrest true rfl
            | cons g gs =>
              simp only at h
              cases hq : eqFs P (zFn P d) (g :: gs) us vs with
              | none => simp [hq] at h
              | some q =>
                simp only [hq, Option.some.injEq] at h
                subst h
                cases p
                · simp
                · simp only [Bool.not_true, Bool.false_eq_true, if_false, Bool.true_and]; exact hrest q hq
theorem zJy (w : World) : ∀ (d j : Nat) (t : TypeId) (us vs : List Value) (r : Bool) (u v : Value), zFn P d t us vs = some r → zLa P d t = true → zHl P t us = some u → zHl P t vs = some v →
    (Op.equalIn (d + j) t u v).run P w = .ok r w
  | 0, _, _, _, _, _, _, _, h, _, _, _ => by cases h
  | d + 1, j, t, us, vs, r, u, v, h, hh, hu, hv => by
    unfold zFn at h
    rw [show d + 1 + j = (d + j) + 1 by omega]
    split at h
    · rename_i k0 hk
      have hb : zEy P t = false := by simp [zEy, hk]
      split at h
      · rename_i k a k' b
        simp only [zHl, hb, cond_false, Option.some.injEq] at hu hv
        subst hu hv
        split at h
        · rename_i hkk
          subst hkk
          cases h
          exact run_equalIn_int w (d + j) t _ _ _ _ hk
        · cases h
      · cases h
    · rename_i hk
      have hb : zEy P t = false := by simp [zEy, hk]
      split at h
      · rename_i a b
        simp only [zHl, hb, cond_false, Option.some.injEq] at hu hv
        subst hu hv
        cases h
        exact run_equalIn_bool' w (d + j) t _ _ hk
      · cases h
    · rename_i fs hk
      have hb : zEy P t = true := by simp [zEy, hk]
      simp only [zHl, hb, cond_true, Option.some.injEq] at hu hv
      subst hu hv
      unfold zLa at hh
      rw [hk] at hh
      simp only [Bool.and_eq_true, Bool.not_eq_true', List.all_eq_true] at hh
      have hS : P.underlying t = some (.struct (P.fieldsOf t)) := by simp [Program.fieldsOf, hk]
      have hfs : P.fieldsOf t = fs := by simp [Program.fieldsOf, hk]
      rw [run_equalIn_agg w (d + j) t _ _ hS hh.1, hfs]
      exact run_eqFs rfl w (fun t us vs r u v h1 h2 h3 h4 => zJy w d j t us vs r u v h1 h2 h3 h4) fs.toList us vs r h hh.2
    · cases h
end
section
variable {P : Program} {a : Act} {w : World} {o : Oper} {n : Nat} {e : List (Nat × Value)} {x y : Operand}
theorem zIy (E : Fr a n e) {t t' : TypeId} {us vs : List Value} {r : Bool} (ho : o.op = .binOp .eql t x y t') (hx : ev e x = some (.agg us.toArray)) (hy : ev e y = some (.agg vs.toArray))
    (hr : zFn P 8 t us vs = some r) (hh : zLa P 8 t = true) (hm : P.eqGuardType P.depth t = false) (ha : zEy P t = true) : zBf P o a w (.bool r) w := by
  have h1 := run_eqGuard_agg (P := P) w .eql t x y us.toArray vs.toArray hm
  have h3 := zJy w 8 9992 t us vs r _ _ hr hh (by simp only [zHl, ha, cond_true]; rfl) (by simp only [zHl, ha, cond_true]; rfl)
  have h2 : (binOp .eql t (.agg us.toArray) (.agg vs.toArray)).run P w = .ok (.bool r) w := by
    rw [run_eql_struct, h3]; rfl
  simp [zBf, execOp, ho, E.eval hx, E.eval hy, h1, h2]
end
section
variable {P : Program} {fn : Func} {a : Act} {w : World} {n : Nat} {e : List (Nat × Value)} {R : Ending → World → Prop} {t s b : Nat} {ty T : TypeId} {fr : Nat × Nat} {vs : List Value} {x : Value}
theorem zEj (hb : w.heap[b]? = some (.cells vs.toArray T fr)) (hs : zEn P ty = some vs.length) : (loadVar ty ⟨b, 0, none⟩).run P w = .ok (.agg vs.toArray) w := by
  have h2 : (loadCells ⟨b, 0, none⟩ vs.length).run P w = .ok vs.toArray w :=
    run_loadCells_list w ⟨b, 0, none⟩ vs fun i u hu => by rw [Addr.add_lit, zHu hb]; simpa using hu
  simp [loadVar, zGh hs, zDk (info_agg hs), h2]
theorem zIe (E : Fr a n e) (hr : fn.results = #[.cell t ty]) (hp : lk e t = some (.pointer (some ⟨b, 0, none⟩))) (hb : w.heap[b]? = some (.cells vs.toArray T fr)) (hs : zEn P ty = some vs.length)
    (h : R (.returned (.agg vs.toArray)) w) : bodyPost P fn R .ret a w :=
  ⟨E.nod, .agg vs.toArray, by
    have h1 := zEj (P := P) hb hs
    have h2 := E.get t _ hp
    simp [results, hr, h2, asAddr, h1], h⟩
theorem ret_ct (E : Fr a n e) (hr : fn.results = #[.cell t ty, .tmp s]) (hp : lk e t = some (.pointer (some ⟨b, 0, none⟩))) (hx : lk e s = some x) (hb : w.heap[b]? = some (.cells vs.toArray T fr)) (hs : zEn P ty = some vs.length)
    (h : R (.returned (.tuple #[.agg vs.toArray, x])) w) : bodyPost P fn R .ret a w :=
  ⟨E.nod, .tuple #[.agg vs.toArray, x], by
    have h1 := zEj (P := P) hb hs
    have h2 := E.get t _ hp
    have h3 := E.get s _ hx
    simp [results, hr, h2, h3, asAddr, h1], h⟩
end
theorem zIz {P : Program} {a : Act} {w : World} {o : Oper} {n : Nat} {e : List (Nat × Value)} {x y : Operand} (E : Fr a n e) {t el : TypeId} {l i : Nat} {k : IntKind} {q : Int} {cs : Array Value} {v : Value}
    (ho : o.op = .index t x y) (hx : ev e x = some (.agg cs)) (hy : ev e y = some (.int k q)) (ht : P.underlying t = some (.array l el)) (h1 : zKz P el = true) (hs : (P.info? el).map (·.size) = some 1)
    (hq : q = (i : Int)) (hi : i < l) (hv : cs[i]? = some v) : zBf P o a w v w := by
  subst hq
  simp [zBf, execOp, ho, E.eval hx, E.eval hy, Instr.index, asIntOf, run_underlying ht, hi, zDk hs, part, zEm h1, hv]
theorem Buf.addr {C : zAw} {T : TypeId} {s m c : Nat} {ad : Option Addr} {xs : List Value} (h : Buf C T s (.slice ad m c) m xs) (hm : 0 < m) : ∃ g, ad = some ⟨g, 0, none⟩ := by
  rcases h.2.2 with ⟨h, h0, _⟩ | ⟨g, c', r, h, _⟩
  · omega
  · cases h; exact ⟨g, rfl⟩
theorem wp_elem1 {P : Program} {a : Act} {o : Oper} {n : Nat} {e : List (Nat × Value)} {x z : Operand} {v : Value} {K : Act → World → Prop} {Q : Exit → Act → World → Prop} {w0 w : World} {As Ls Rs : List zAw} {C : zAw}
    (E : Fr a n e) (S : St w0 As w Ls) {xs : List Value} {t T : TypeId} {b j i m c s : Nat} (ho : o.op = .store t x z) (hd : o.dst = none) (hx : ev e x = some (.pointer (some ⟨b, j, none⟩))) (hy : ev e z = some v)
    (h1 : v.oneCell' = true) (hs : (P.info? t).map (·.size) = some 1)
    (hB : Buf C T s (.slice (some ⟨b, 0, none⟩) m c) m xs) (hp : Ls.Perm (C :: Rs)) (hi : i < xs.length) (hj : j = i)
    (k : ∀ a' w' C', Fr a' n e → Buf C' T s (.slice (some ⟨b, 0, none⟩) m c) m (xs.set i v) → St w0 As w' (C' :: Rs) → K a' w') : o.wp P a w K Q := by
  subst hj
  rcases hB.2.2 with ⟨h, _⟩ | ⟨g, c', r, h, rfl, hn, hc, hcs⟩
  · cases h
  · cases h
    refine zBp E S ho hd hx hy h1 hs hp (by rw [List.length_append]; omega) ?_
    intro a' w' E' S'
    rw [List.set_append, if_pos hi] at S'
    refine k a' w' _ E' ⟨by rw [List.length_set]; exact hB.1, fun u hu => ?_, .inr ⟨b, _, r, rfl, rfl, hn, hc, by rw [List.length_set]; exact hcs⟩⟩ S'
    rcases List.mem_or_eq_of_mem_set hu with hu | hu
    · exact hB.2.1 u hu
    · rw [hu]; exact h1
end Go.Sl
namespace Go.Sl
section
variable {P : Program} {a : Act} {o : Oper} {n : Nat} {e : List (Nat × Value)} {x y : Operand} {v u : Value} {K : Act → World → Prop} {Q : Exit → Act → World → Prop} {w0 w : World} {As Ls Rs : List zAw} {A : zAw}
theorem St.tail (S : St w0 As w (A :: Ls)) : St w0 As w Ls := S.only (Bs := Ls) (Rs := [A]) (by
  unfold Sel
  exact (List.perm_append_comm (l₁ := [A]) (l₂ := Ls)))
theorem St.tail2 {B : zAw} (S : St w0 As w (A :: B :: Ls)) : St w0 As w Ls := S.tail.tail
theorem St.tail3 {B C : zAw} (S : St w0 As w (A :: B :: C :: Ls)) : St w0 As w Ls := S.tail.tail.tail
theorem St.del (S : St w0 As w Ls) (p : Ls.Perm (A :: Rs)) : St w0 As w Rs := (S.perm p).tail
theorem St.under (pre : List zAw) {w' : World} {Ls' : List zAw} (S : St w0 As w (pre ++ Ls)) (t : Trs w w' Ls Ls') : St w0 As w' (pre ++ Ls') :=
  (S.call (Bs := Ls) (Rs := pre) (by unfold Sel; exact List.perm_append_comm) t).perm List.perm_append_comm
theorem rn_com (E : Fr a n e) {t : TypeId} {p r : Int} (ho : o.op = .unOp .xor t x) (hx : ev e x = some (.int .u32 p)) (hr : bits .xor .u32 4294967295 p = r) : zBf P o a w (.int .u32 r) w := by
  subst hr
  have h : (Op.unary .xor (.int .u32 p)).run P w = .ok (.int .u32 (bits .xor .u32 4294967295 p)) w := by rfl
  simp [zBf, execOp, ho, E.eval hx, h]
theorem rn_s2a (E : Fr a n e) {t el : TypeId} {l c m : Nat} {ad : Option Addr} (ho : o.op = .sliceToArrayPointer t x) (hx : ev e x = some (.slice ad l c)) (ht : P.underlying t = some (.array m el)) (hm : m ≤ l) : zBf P o a w (.pointer ad) w := by
  simp [zBf, execOp, ho, E.eval hx, Instr.arrayAt, run_underlying ht, Nat.not_lt.2 hm]
theorem zCp (E : Fr a n e) {t el : TypeId} {b l i : Nat} {k : IntKind} {q : Int} (ho : o.op = .indexAddr t x y) (hx : ev e x = some (.pointer (some ⟨b, 0, none⟩))) (hy : ev e y = some (.int k q))
    (ht : P.underlying t = some (.array l el)) (hs : (P.info? el).map (·.size) = some 1) (hq : q = (i : Int)) (hi : i < l) : zBf P o a w (.pointer (some ⟨b, i, none⟩)) w := by
  have h := zBd (P := P) (w := w) E ho hx hy ht hs hq hi
  rwa [Nat.zero_add, Nat.mul_one] at h
theorem zCw {b j : Nat} {l : List Value} {T : TypeId} {fr : Nat × Nat} (hb : w.heap[b]? = some (.cells l.toArray T fr)) (hj : l[j]? = some v) : w.cell? ⟨b, j, none⟩ = some v := by
  rw [zHu hb]; simpa using hj
theorem zFo (E : Fr a n e) {t T : TypeId} {b q : Nat} {l : List Value} {fr : Nat × Nat} (ho : o.op = .load t x) (hx : ev e x = some (.pointer (some ⟨b, 0, none⟩))) (ht : zEn P t = some q)
    (hb : w.heap[b]? = some (.cells l.toArray T fr)) (hl : l.length = q) : zBf P o a w (.agg l.toArray) w :=
  zBn E ho hx ht hb hl (by rw [List.drop_zero, List.take_length])
theorem zGb (E : Fr a n e) (S : St w0 As w Ls) {t T : TypeId} {b : Nat} {l vs : List Value} (ho : o.op = .store t x y) (hd : o.dst = none) (hx : ev e x = some (.pointer (some ⟨b, 0, none⟩))) (hy : ev e y = some (.agg vs.toArray))
    (h1 : ∀ u ∈ vs, u.oneCell' = true) {q : Nat} (hs : (P.info? t).map (·.size) = some q) (hq : vs.length = q) (hp : Ls.Perm ([(b, cel l T)] :: Rs)) (hj : vs.length = l.length)
    (k : ∀ a' w', Fr a' n e → St w0 As w' ([(b, cel vs T)] :: Rs) → K a' w') : o.wp P a w K Q := by
  subst hq
  refine zBk E S ho hd hx hy h1 hs hp (by omega) fun a' w' E' S' => k a' w' E' ?_
  rw [List.take_zero, List.nil_append, Nat.zero_add, hj, List.drop_length, List.append_nil] at S'
  exact S'
end
theorem zIf (l : List Int) : ∀ u ∈ l.map (Value.int .u32), u.oneCell' = true := fun u hu => by
  obtain ⟨z, -, rfl⟩ := List.mem_map.1 hu; rfl
end Go.Sl
namespace Go.Sl
section
variable {P : Program} {a : Act} {o : Oper} {n : Nat} {e : List (Nat × Value)} {x y : Operand} {w w0 : World} {As Ls Rs : List zAw} {K : Act → World → Prop} {Q : Exit → Act → World → Prop}
end
section
variable {w0 w w' : World} {As Ls Rs Bs Ms : List zAw} {A B C D : zAw}
end
theorem St.cel {w0 w : World} {As Ls : List zAw} {b : Nat} {l l' : List Value} {T : TypeId} (S : St w0 As w ([(b, Sl.cel l T)] :: Ls)) (h : l = l') : St w0 As w ([(b, Sl.cel l' T)] :: Ls) := h ▸ S
end Go.Sl
namespace Go.Sl
section
variable {P : Program} {a : Act} {o : Oper} {n : Nat} {e : List (Nat × Value)} {x y z : Operand} {w w0 : World} {v : Value} {As Ls Rs : List zAw} {K : Act → World → Prop} {Q : Exit → Act → World → Prop}
theorem zFv {kt : TypeId} {k : IntKind} {q : Int} {b : Bool} (hk : P.underlying kt = some (.int k)) : (Instr.checkKey b 10000 kt (.int k q)).run P w = .ok () w :=
  Go.MapKept.run_checkKey (n := 9999) hk (by simp [Go.MapKept.IsKey]) b
theorem zFw (E : Fr a n e) {t kt et : TypeId} {r i clock : Nat} {es : Array MapEntry} {k : IntKind} {q : Int} (ho : o.op = .lookup t x y true) (hx : ev e x = some (.map (some r))) (hy : ev e y = some (.int k q)) (ht : P.underlying t = some (.map kt et)) (hk : P.underlying kt = some (.int k))
    (hb : w.heap[r]? = some (.map es clock)) (hf : Instr.findNow (.int k) (.int k q) es.toList 0 = some (some (i, v))) : zBf P o a w (.tuple #[v, .bool true]) w := by
  simp [zBf, execOp, ho, E.eval hx, E.eval hy, Instr.lookup, run_underlying ht, Go.MapKept.run_getObj_map hb, zFv hk, Go.MapKept.run_findKey hk hf]
theorem zFg (E : Fr a n e) {t kt et : TypeId} {r clock : Nat} {es : Array MapEntry} {k : IntKind} {q : Int} {ti : TypeInfo} (ho : o.op = .lookup t x y true) (hx : ev e x = some (.map (some r))) (hy : ev e y = some (.int k q)) (ht : P.underlying t = some (.map kt et)) (hk : P.underlying kt = some (.int k))
    (hi : P.info? et = some ti) (hz : ti.zero = some v) (hb : w.heap[r]? = some (.map es clock)) (hf : Instr.findNow (.int k) (.int k q) es.toList 0 = some none) : zBf P o a w (.tuple #[v, .bool false]) w := by
  simp [zBf, execOp, ho, E.eval hx, E.eval hy, Instr.lookup, run_underlying ht, Go.MapKept.run_getObj_map hb, zFv hk, Go.MapKept.run_findKey hk hf, zeroValue, typeInfo, hi, hz]
theorem rn_lookup1 (E : Fr a n e) {t kt et : TypeId} {r i clock : Nat} {es : Array MapEntry} {k : IntKind} {q : Int} (ho : o.op = .lookup t x y false) (hx : ev e x = some (.map (some r))) (hy : ev e y = some (.int k q)) (ht : P.underlying t = some (.map kt et)) (hk : P.underlying kt = some (.int k))
    (hb : w.heap[r]? = some (.map es clock)) (hf : Instr.findNow (.int k) (.int k q) es.toList 0 = some (some (i, v))) : zBf P o a w v w := by
  simp [zBf, execOp, ho, E.eval hx, E.eval hy, Instr.lookup, run_underlying ht, Go.MapKept.run_getObj_map hb, zFv hk, Go.MapKept.run_findKey hk hf]
theorem wp_makeMap (E : Fr a n e) (S : St w0 As w Ls) {t : TypeId} {d : Nat} (ho : o.op = .makeMap t none) (hd : o.dst = some d) (hn : d < n)
    (k : ∀ a' w' b, Fr a' n ((d, .map (some b)) :: e) → St w0 As w' ([(b, .map #[] 0)] :: Ls) → K a' w') : o.wp P a w K Q := by
  have hrun : zBf P o a w (.map (some w.heap.size)) (w.alloc (.map #[] 0)) := by
    have _ := E.nod
    simp [zBf, execOp, ho, Go.RowKit.run_makeMap]
  exact hrun.wp (by rw [hd]; exact k _ _ w.heap.size (E.put hn _) (S.alloc _))
theorem zHq {r : Nat} {ob ob' : Obj} (S : St w0 As w Ls) (hp : Ls.Perm ([(r, ob)] :: Rs)) : St w0 As { w with heap := w.heap.setIfInBounds r ob' } ([(r, ob')] :: Rs) :=
  S.block hp rfl rfl rfl (by simp) (fun h => by have := (Array.getElem?_eq_some_iff.1 h).1; simp [this]) (fun k hk => by simp [Ne.symm hk])
theorem zFp (E : Fr a n e) (S : St w0 As w Ls) {t kt et : TypeId} {r clock : Nat} {es : Array MapEntry} {k : IntKind} {q : Int} (ho : o.op = .mapUpdate t x y z ∨ o.op = .insert t x y z) (hd : o.dst = none) (hx : ev e x = some (.map (some r))) (hy : ev e y = some (.int k q)) (hz : ev e z = some v)
    (ht : P.underlying t = some (.map kt et)) (hk : P.underlying kt = some (.int k)) (hp : Ls.Perm ([(r, .map es clock)] :: Rs)) (hf : Instr.findNow (.int k) (.int k q) es.toList 0 = some none)
    (kk : ∀ a' w', Fr a' n e → St w0 As w' ([(r, .map (es.push { key := .int k q, val := v, born := clock }) (clock + 1))] :: Rs) → K a' w') : o.wp P a w K Q := by
  have hb := S.get hp
  refine Skips.wp (w' := { w with heap := w.heap.setIfInBounds r (.map (es.push { key := .int k q, val := v, born := clock }) (clock + 1)) }) ?_ (by rw [hd]; exact kk _ _ (E.put0 _) (zHq S hp))
  unfold Skips
  rcases ho with ho | ho <;> simp [execOp, ho, E.eval hx, E.eval hy, E.eval hz, Instr.mapUpdate, run_underlying ht, Go.MapKept.run_getObj_map hb, zFv hk, Go.MapKept.run_findKey hk hf, Go.MapKept.run_setObj_map _ hb]
end
end Go.Sl
namespace Go.Sl
section
variable {P : Program} {a : Act} {o : Oper} {n : Nat} {e : List (Nat × Value)} {x y z : Operand} {w w0 : World} {v : Value} {As Ls Rs : List zAw} {K : Act → World → Prop} {Q : Exit → Act → World → Prop}
theorem zJa (l : List UInt8) : (⟨l.toArray⟩ : ByteArray).toList = l := by simp
theorem zEr (l : List UInt8) : (⟨l.toArray⟩ : ByteArray).size = l.length := by simp [ByteArray.size]
theorem bytes_at (l : List UInt8) {i : Nat} (h : i < l.length) : (⟨l.toArray⟩ : ByteArray)[i]? = some l[i] := by
  rw [getElem?_pos _ _ (by rw [zEr]; exact h)]
  rfl
theorem bytes_app (l m : List UInt8) : (⟨l.toArray⟩ : ByteArray) ++ ⟨m.toArray⟩ = ⟨(l ++ m).toArray⟩ := by
  apply ByteArray.ext
  simp
theorem zGk (l : List UInt8) (lo hi : Nat) : (⟨l.toArray⟩ : ByteArray).extract lo hi = ⟨((l.drop lo).take (hi - lo)).toArray⟩ := by
  apply ByteArray.ext
  simp [ByteArray.data_extract, List.extract_toArray]
theorem rn_cat (E : Fr a n e) {t t' : TypeId} {b c : List UInt8} (ho : o.op = .binOp .add t x y t') (hx : ev e x = some (str b)) (hy : ev e y = some (str c)) (hl : b.length + c.length ≤ 140737488355328) : zBf P o a w (str (b ++ c)) w :=
  zEd E ho hx hy (by simp [go_sem]) (by
    show (Op.stringOp .add ⟨b.toArray⟩ ⟨c.toArray⟩).run P w = _
    have h : ¬ ((((⟨b.toArray⟩ : ByteArray).size + (⟨c.toArray⟩ : ByteArray).size : Nat) : Int) > IntKind.i64.max) := by
      rw [zEr, zEr]
      have : IntKind.i64.max = 9223372036854775807 := rfl
      omega
    simp only [Op.stringOp, if_neg h, bytes_app]
    rfl)
theorem zIg (E : Fr a n e) {t t' : TypeId} {b c : List UInt8} (ho : o.op = .binOp .geq t x y t') (hx : ev e x = some (str b)) (hy : ev e y = some (str c)) : zBf P o a w (.bool (!Op.bytesLess b c)) w :=
  zEd E ho hx hy (by simp [go_sem]) (by show (Op.stringOp .geq ⟨b.toArray⟩ ⟨c.toArray⟩).run P w = _; simp [Op.stringOp])
theorem zCz (E : Fr a n e) {t : TypeId} {l : List UInt8} {i : Nat} {k : IntKind} {q : Int} (ho : o.op = .index t x y) (hx : ev e x = some (str l)) (hy : ev e y = some (.int k q))
    (ht : P.underlying t = some .string) (hq : q = (i : Int)) (hi : i < l.length) : zBf P o a w (.int .u8 l[i].toNat) w :=
  zEg E ho hx hy ht hq (bytes_at l hi)
theorem rn_str_lh (E : Fr a n e) {t : TypeId} {l : List UInt8} {k k2 : IntKind} {p q : Int} {lo hi : Nat} (ho : o.op = .slice t x (some y) (some z) none) (hx : ev e x = some (str l)) (hy : ev e y = some (.int k p)) (hz : ev e z = some (.int k2 q))
    (ht : P.underlying t = some .string) (hp : p = (lo : Int)) (hq : q = (hi : Int)) (h1 : lo ≤ hi) (h2 : hi ≤ l.length) : zBf P o a w (str ((l.drop lo).take (hi - lo))) w := by
  subst hp hq
  have hs : (⟨l.toArray⟩ : ByteArray).size = l.length := zEr l
  simp [zBf, execOp, ho, E.eval hx, E.eval hy, E.eval hz, Instr.sliceAt, Instr.slice, Instr.sliceBounds, Instr.sliceBound, asIntOf, run_underlying ht, hs, h1, h2, zGk]
theorem rn_str_h (E : Fr a n e) {t : TypeId} {l : List UInt8} {k2 : IntKind} {q : Int} {hi : Nat} (ho : o.op = .slice t x none (some z) none) (hx : ev e x = some (str l)) (hz : ev e z = some (.int k2 q))
    (ht : P.underlying t = some .string) (hq : q = (hi : Int)) (h2 : hi ≤ l.length) : zBf P o a w (str (l.take hi)) w := by
  subst hq
  have hs : (⟨l.toArray⟩ : ByteArray).size = l.length := zEr l
  simp [zBf, execOp, ho, E.eval hx, E.eval hz, Instr.sliceAt, Instr.slice, Instr.sliceBounds, Instr.sliceBound, asIntOf, run_underlying ht, hs, h2, zGk]
theorem rn_str_l (E : Fr a n e) {t : TypeId} {l : List UInt8} {k : IntKind} {p : Int} {lo : Nat} (ho : o.op = .slice t x (some y) none none) (hx : ev e x = some (str l)) (hy : ev e y = some (.int k p))
    (ht : P.underlying t = some .string) (hp : p = (lo : Int)) (h1 : lo ≤ l.length) : zBf P o a w (str (l.drop lo)) w := by
  subst hp
  have hs : (⟨l.toArray⟩ : ByteArray).size = l.length := zEr l
  have e1 : (l.drop lo).take (l.length - lo) = l.drop lo := List.take_of_length_le (by rw [List.length_drop]; exact Nat.le_refl _)
  simp [zBf, execOp, ho, E.eval hx, E.eval hy, Instr.sliceAt, Instr.slice, Instr.sliceBounds, Instr.sliceBound, asIntOf, run_underlying ht, hs, h1, zGk, e1]
theorem rn_extern (E : Fr a n e) {f : FuncId} {fn : Func} {ex : Array Value → Sem Value} {xs : List Operand} {vs : List Value} {ts : Array TypeId} (ho : o.op = .call { callee := .value (.func f), args := xs.toArray, argTypes := ts })
    (hf : P.funcs[f]? = some fn) (hnm : (fn.name == "runtime.NumGoroutine") = false) (hb : fn.body.isNone = true) (hn : Extern.findNext fn = none) (he : Extern.find fn = some ex) (hx : evs e xs = some vs)
    (hr : (ex vs.toArray).run P w = .ok v w) : zBf P o a w v w := by
  unfold zBf execOp
  have hg : ev e (.func f) = some (.func (.func f) #[] #[]) := rfl
  simp [ho, resolve, E.eval hg, Deferred.ofValue, invoke, E.evals hx, run_callFunc_extern hf hnm hb hn he, hr, Result.andThen]
theorem rn_itos (E : Fr a n e) {t t' : TypeId} {k : IntKind} {c : Nat} (ho : o.op = .convert t t' x) (hx : ev e x = some (.int k c)) (ht : P.underlying t = some (.int k)) (hd : P.underlying t' = some .string) (h1 : 128 ≤ c) (h2 : c ≤ 255) :
    zBf P o a w (str [UInt8.ofNat (192 + c / 64), UInt8.ofNat (128 + c % 64)]) w := by
  have hv : Utf8.valid (c : Int) = true := by
    have : ((c : Int)) < 1000 := by omega
    simp [Utf8.valid]; omega
  have he : Utf8.encode (c : Int) = ⟨#[UInt8.ofNat (192 + c / 64), UInt8.ofNat (128 + c % 64)]⟩ := by
    simp only [Utf8.encode, hv, if_true, Int.toNat_natCast]
    rw [if_neg (by omega), if_pos (by omega)]
  simp [zBf, execOp, ho, E.eval hx, convert, run_underlying ht, run_underlying hd, Conv.intToString, he]
section scope
variable {c : Code} {Q : Exit → Act → World → Prop}
theorem wp_scope1 (h : c.wp P (Exit.noGoto Q) a w) : (Code.scope c).wp P Q a w := wp_scope_straight h
theorem sc_ret (h : Q .ret a w) : Exit.noGoto Q .ret a w := h
end scope
theorem rn_ibyte (E : Fr a n e) {f : FuncId} {fn : Func} {l : List UInt8} {c : UInt8} {ts : Array TypeId} (ho : o.op = .call { callee := .value (.func f), args := [x, y].toArray, argTypes := ts })
    (hf : P.funcs[f]? = some fn) (hnm : (fn.name == "runtime.NumGoroutine") = false) (hb : fn.body.isNone = true) (hn : Extern.findNext fn = none) (he : Extern.find fn = some Extern.BytealgIndexByte.indexByte)
    (hx : ev e x = some (str l)) (hy : ev e y = some (.int .u8 c.toNat)) : zBf P o a w (.int .i64 (Lib.indexByte l c)) w :=
  rn_extern E ho hf hnm hb hn he (vs := [str l, .int .u8 c.toNat]) (by simp [evs, hx, hy]) (by
    have := Lib.run_indexByteString (P := P) ⟨l.toArray⟩ c.toNat w
    simpa using this)
theorem rn_cbyte (E : Fr a n e) {f : FuncId} {fn : Func} {l : List UInt8} {c : UInt8} {ts : Array TypeId} (ho : o.op = .call { callee := .value (.func f), args := [x, y].toArray, argTypes := ts })
    (hf : P.funcs[f]? = some fn) (hnm : (fn.name == "runtime.NumGoroutine") = false) (hb : fn.body.isNone = true) (hn : Extern.findNext fn = none) (he : Extern.find fn = some Extern.BytealgCount.count)
    (hx : ev e x = some (str l)) (hy : ev e y = some (.int .u8 c.toNat)) : zBf P o a w (.int .i64 (l.count c : Nat)) w :=
  rn_extern E ho hf hnm hb hn he (vs := [str l, .int .u8 c.toNat]) (by simp [evs, hx, hy]) (by
    have := Lib.run_countString (P := P) ⟨l.toArray⟩ c.toNat w
    simpa [Lib.countByte] using this)
theorem zJb {l : List UInt8} {i : Nat} (h : i < l.length) (hc : l[i].toNat < 128) : Utf8.decode ⟨l.toArray⟩ i = (l[i].toNat, 1) := by
  have e0 : (⟨l.toArray⟩ : ByteArray).get! i = l[i] := by
    show (l.toArray)[i]! = l[i]
    simp [h]
  simp only [Utf8.decode, Nat.add_zero, e0]
  rw [if_pos hc]
theorem decode_big {l : List UInt8} {i : Nat} (h : i < l.length) (hc : 128 ≤ l[i].toNat) : 128 ≤ (Utf8.decode ⟨l.toArray⟩ i).1 := by
  have e0 : (⟨l.toArray⟩ : ByteArray).get! i = l[i] := by
    show (l.toArray)[i]! = l[i]
    simp [h]
  simp only [Utf8.decode, Nat.add_zero, e0]
  rw [if_neg (by omega)]
  have hr : (128 : Nat) ≤ Utf8.runeError := by decide
  split
  · split <;> first | assumption | exact hr | (simp only; omega)
  · split
    · split
      · rename_i hh; simp only [Bool.and_eq_true, decide_eq_true_eq] at hh; simp only; omega
      · exact hr
    · split
      · split
        · rename_i hh; simp only [Bool.and_eq_true, decide_eq_true_eq] at hh; simp only; omega
        · exact hr
      · exact hr
theorem run_getS {b p : Nat} {s : ByteArray} (hb : w.heap[b]? = some (.stringIter s p)) : (getObj b).run P w = .ok (.stringIter s p) w := by simp [getObj, Sem.run, hb]
theorem run_setS {b p : Nat} {s : ByteArray} {ob' : Obj} (hb : w.heap[b]? = some (.stringIter s p)) : (setObj b ob').run P w = .ok () { w with heap := w.heap.setIfInBounds b ob' } := by simp [setObj, Sem.run, hb]
theorem wp_rangeS (E : Fr a n e) (S : St w0 As w Ls) {t : TypeId} {d : Nat} {l : List UInt8} (ho : o.op = .range t x) (hd : o.dst = some d) (hn : d < n) (hx : ev e x = some (str l)) (ht : P.underlying t = some .string)
    (k : ∀ a' w' b, Fr a' n ((d, ptr b) :: e) → St w0 As w' ([(b, .stringIter ⟨l.toArray⟩ 0)] :: Ls) → K a' w') : o.wp P a w K Q := by
  have hrun : zBf P o a w (ptr w.heap.size) (w.alloc (.stringIter ⟨l.toArray⟩ 0)) := by
    simp [zBf, execOp, ho, E.eval hx, Instr.range, run_underlying ht]
  exact hrun.wp (by rw [hd]; exact k _ _ w.heap.size (E.put hn _) (S.alloc _))
theorem wp_nextS_end (E : Fr a n e) (S : St w0 As w Ls) {d b pos : Nat} {l : List UInt8} (ho : o.op = .next x true) (hd : o.dst = some d) (hn : d < n) (hx : ev e x = some (ptr b))
    (hp : Ls.Perm ([(b, .stringIter ⟨l.toArray⟩ pos)] :: Rs)) (hl : l.length ≤ pos) (k : ∀ a', Fr a' n ((d, .tuple #[.bool false]) :: e) → K a' w) : o.wp P a w K Q := by
  have hb := S.get hp
  have hrun : zBf P o a w (.tuple #[.bool false]) w := by
    simp [zBf, execOp, ho, E.eval hx, Instr.next, run_getS hb, zEr, Nat.not_lt.2 hl]
  exact hrun.wp (by rw [hd]; exact k _ (E.put hn _))
theorem wp_nextS (E : Fr a n e) (S : St w0 As w Ls) {d b pos : Nat} {l : List UInt8} (ho : o.op = .next x true) (hd : o.dst = some d) (hn : d < n) (hx : ev e x = some (ptr b))
    (hp : Ls.Perm ([(b, .stringIter ⟨l.toArray⟩ pos)] :: Rs)) (hl : pos < l.length)
    (k : ∀ a' w', Fr a' n ((d, .tuple #[.bool true, .int .i64 pos, .int .i32 (Utf8.decode ⟨l.toArray⟩ pos).1]) :: e) → St w0 As w' ([(b, .stringIter ⟨l.toArray⟩ (pos + (Utf8.decode ⟨l.toArray⟩ pos).2))] :: Rs) → K a' w') : o.wp P a w K Q := by
  have hb := S.get hp
  have hrun : zBf P o a w (.tuple #[.bool true, .int .i64 pos, .int .i32 (Utf8.decode ⟨l.toArray⟩ pos).1]) { w with heap := w.heap.setIfInBounds b (.stringIter ⟨l.toArray⟩ (pos + (Utf8.decode ⟨l.toArray⟩ pos).2)) } := by
    simp [zBf, execOp, ho, E.eval hx, Instr.next, run_getS hb, run_setS hb, zEr, hl, goInt]
  exact hrun.wp (by rw [hd]; exact k _ _ (E.put hn _) (zHq S hp))
end
end Go.Sl
namespace Go.Sl
section
variable {P : Program} {a : Act} {w : World} {n : Nat} {e : List (Nat × Value)} {fn : Func} {R : Ending → World → Prop}
theorem ret_tct (E : Fr a n e) {q t s : Nat} {v x : Value} {ty : TypeId} {b : Nat} {vs : List Value} {T : TypeId} {fr : Nat × Nat} (hr : fn.results = #[.tmp q, .cell t ty, .tmp s]) (hv : lk e q = some v) (hp : lk e t = some (.pointer (some ⟨b, 0, none⟩))) (hx : lk e s = some x)
    (hb : w.heap[b]? = some (.cells vs.toArray T fr)) (hs : zEn P ty = some vs.length) (h : R (.returned (.tuple #[v, .agg vs.toArray, x])) w) : bodyPost P fn R .ret a w :=
  ⟨E.nod, .tuple #[v, .agg vs.toArray, x], by
    have h1 := zEj (P := P) hb hs
    have h2 := E.get t _ hp
    have h3 := E.get s _ hx
    have h4 := E.get q _ hv
    simp [results, hr, h2, h3, h4, asAddr, h1], h⟩
theorem zFh (E : Fr a n e) {q t t2 s : Nat} {v x : Value} {ty ty2 : TypeId} {b b2 : Nat} {vs us : List Value} {T T2 : TypeId} {fr fr2 : Nat × Nat} (hr : fn.results = #[.cell t ty, .tmp q, .cell t2 ty2, .tmp s]) (hp : lk e t = some (.pointer (some ⟨b, 0, none⟩))) (hv : lk e q = some v)
    (hp2 : lk e t2 = some (.pointer (some ⟨b2, 0, none⟩))) (hx : lk e s = some x)
    (hb : w.heap[b]? = some (.cells vs.toArray T fr)) (hs : zEn P ty = some vs.length) (hb2 : w.heap[b2]? = some (.cells us.toArray T2 fr2)) (hs2 : zEn P ty2 = some us.length) (h : R (.returned (.tuple #[.agg vs.toArray, v, .agg us.toArray, x])) w) : bodyPost P fn R .ret a w :=
  ⟨E.nod, .tuple #[.agg vs.toArray, v, .agg us.toArray, x], by
    have h1 := zEj (P := P) hb hs
    have h1' := zEj (P := P) hb2 hs2
    have h2 := E.get t _ hp
    have h2' := E.get t2 _ hp2
    have h3 := E.get s _ hx
    have h4 := E.get q _ hv
    simp [results, hr, h2, h2', h3, h4, asAddr, h1, h1'], h⟩
end
section
variable {w0 w : World} {As Ls : List zAw} {C D : zAw}
theorem St.drops (pre : List zAw) (S : St w0 As w (C :: (pre ++ Ls))) : St w0 As w (C :: Ls) :=
  S.only (Bs := C :: Ls) (Rs := pre) (by
    show (C :: (pre ++ Ls)).Perm ((C :: Ls) ++ pre)
    exact (List.perm_append_comm).cons C)
theorem St.drops0 (pre : List zAw) (S : St w0 As w (pre ++ Ls)) : St w0 As w Ls :=
  S.only (Bs := Ls) (Rs := pre) (List.perm_append_comm)
theorem St.drops2 (pre : List zAw) (S : St w0 As w (C :: D :: (pre ++ Ls))) : St w0 As w (C :: D :: Ls) :=
  S.only (Bs := C :: D :: Ls) (Rs := pre) (by
    show (C :: D :: (pre ++ Ls)).Perm ((C :: D :: Ls) ++ pre)
    exact ((List.perm_append_comm).cons D).cons C)
end
end Go.Sl
namespace Go.Sl
def zDf : List UInt8 → Nat
  | [] => 0
  | b :: r => b.toNat + 256 * zDf r
theorem zJc (xs ys : List UInt8) : zDf (xs ++ ys) = zDf xs + 256 ^ xs.length * zDf ys := by
  induction xs with
  | nil => simp [zDf]
  | cons b r ih => simp only [List.cons_append, zDf, ih, List.length_cons, Nat.pow_succ]; rw [Nat.mul_add, Nat.add_assoc]; congr 2; rw [← Nat.mul_assoc, Nat.mul_comm 256]
theorem zHf (xs : List UInt8) : zDf xs < 256 ^ xs.length := by
  induction xs with
  | nil => simp [zDf]
  | cons b r ih =>
    have := b.toNat_lt
    simp only [zDf, List.length_cons, Nat.pow_succ]
    omega
theorem zJz (bs : List UInt8) (k : Nat) (h : k < bs.length) : zDf (bs.take (k + 1)) = zDf (bs.take k) + bs[k].toNat * 2 ^ (8 * k) := by
  rw [List.take_succ_eq_append_getElem h, zJc, List.length_take, Nat.min_eq_left (by omega), Nat.pow_mul]
  simp [zDf, Nat.mul_comm]
def zBv (n : Nat) : Nat → List UInt8
  | 0 => []
  | k + 1 => zBv n k ++ [UInt8.ofNat (n / 2 ^ (8 * k))]
theorem zBc (n k : Nat) : (zBv n k).length = k := by induction k <;> simp [zBv, *]
theorem zIn (n k : Nat) : zDf (zBv n k) = n % 256 ^ k := by
  induction k with
  | zero => simp [zBv, zDf, Nat.mod_one]
  | succ k ih =>
    rw [zBv, zJc, ih, zBc, Nat.pow_succ, Nat.mod_mul]
    simp [zDf, Nat.pow_mul]
theorem zGu (xs : List Value) (k : Nat) (z v : Value) (j : Nat) (hj : xs.length = j) (hk : j < k) :
    (xs ++ List.replicate (k - j) z).set j v = (xs ++ [v]) ++ List.replicate (k - (j + 1)) z := by
  subst hj
  rw [List.set_append_right _ _ (Nat.le_refl _), Nat.sub_self, show k - xs.length = (k - (xs.length + 1)) + 1 by omega, List.replicate_succ, List.set_cons_zero, List.append_assoc]
  rfl
structure Wr where
  room : Nat
  bs : List UInt8
  e : Nat
abbrev Laid := Nat ⊕ List UInt8
def Wr.fits (s : Wr) (b : List UInt8) : Bool := s.bs.length + b.length ≤ s.room
def Wr.putE (s : Wr) (b : List UInt8) : Nat := if s.fits b then 0 else 12
def Wr.putS (s : Wr) (b : List UInt8) : Wr := if s.fits b then { s with bs := s.bs ++ b } else s
def Wr.lay (s : Wr) (x : Laid) : Wr :=
  if s.e ≠ 0 then s else match x with
    | .inl e => { s with e := e }
    | .inr b => { s.putS b with e := s.putE b }
def numE (n : Nat) (k : Int) : Laid := if k < 1 ∨ 8 < k then .inl 1 else if n ≥ 256 ^ k.toNat then .inl 11 else .inr (zBv n k.toNat)
def textE (t : List UInt8) : Laid := if t.length > 65535 then .inl 11 else .inr (zBv t.length 2 ++ t)
def Wr.num (s : Wr) (n : Nat) (k : Int) : Wr := s.lay (numE n k)
def Wr.text (s : Wr) (t : List UInt8) : Wr := s.lay (textE t)
def Wr.bytes (s : Wr) (b : List UInt8) : Wr := s.lay (.inr b)
theorem Wr.putS_eq (s : Wr) (b : List UInt8) : s.putS b = { s with bs := (s.putS b).bs } := by unfold Wr.putS; split <;> rfl
structure Rdr where
  bs : List UInt8
  at_ : Nat
  e : Nat
def Rdr.cut (s : Rdr) (k behind : Nat) : List UInt8 := (s.bs.drop (s.at_ + behind)).take k
def Rdr.num (s : Rdr) (k : Int) : Nat × Rdr :=
  if s.e ≠ 0 then (0, s) else if k < 1 ∨ 8 < k then (0, { s with e := 1 }) else if s.bs.length < s.at_ + k.toNat then (0, { s with e := 10 })
  else (zDf (s.cut k.toNat 0), { s with at_ := s.at_ + k.toNat })
def Rdr.bytes (s : Rdr) (k : Int) : List UInt8 × Rdr :=
  if s.e ≠ 0 then ([], s) else if k < 0 then ([], { s with e := 1 }) else if s.bs.length < s.at_ + k.toNat then ([], { s with e := 10 })
  else (s.cut k.toNat 0, { s with at_ := s.at_ + k.toNat })
def Rdr.text (s : Rdr) (most : Int) : List UInt8 × Rdr :=
  if s.e ≠ 0 then ([], s) else if s.bs.length < s.at_ + 2 then ([], { s with e := 10 }) else if most < zDf (s.cut 2 0) then ([], { s with e := 11 })
  else if s.bs.length < s.at_ + 2 + zDf (s.cut 2 0) then ([], { s with e := 10 })
  else (s.cut (zDf (s.cut 2 0)) 2, { s with at_ := s.at_ + (2 + zDf (s.cut 2 0)) })
def Rdr.left (s : Rdr) : Int := s.bs.length - s.at_
def Rdr.done (s : Rdr) : Nat := if s.e = 0 ∧ s.at_ < s.bs.length then 13 else s.e
theorem Rdr.cut_length (s : Rdr) (k b : Nat) (h : s.at_ + b + k ≤ s.bs.length) : (s.cut k b).length = k := by simp [Rdr.cut]; omega
end Go.Sl
namespace Go.Proofs.YtbogecljkaimdaaGreatDoor
open Go.Sl
set_option maxRecDepth 10000
theorem zKa (C : zAw) (v : Value) (bs : List UInt8) (w : World) (h : Rd C 1 v bs.length (byt bs)) (hs : ∀ x ∈ C, w.heap[x.1]? = some x.2) (hl : bs.length ≤ 8) :
    Ret Tryz.prog 73 #[v] w fun u w' => u = .int .u64 (zDf bs) ∧ w' = w := by
  obtain ⟨ad, c, rfl⟩ := h.slice
  refine zCu 22 Tryz.func73 rfl rfl (by decide) ?_; intro a E
  refine wp_seq_k ?_; intro K hK
  refine zAb ?_
  refine zp E (zAd E rfl rfl) ?_; clear E a; intro a E
  refine wpList_nil ?_
  refine zAf hK ?_; clear hK; clear K
  refine wp_seq_k ?_; intro K hK
  refine zAb ?_
  refine zp E (zAd E rfl rfl) ?_; clear E a; intro a E
  refine wpList_nil ?_
  refine zAf hK ?_; clear hK; clear K
  iterate 2 (refine wp_seq_k ?_; intro K hK)
  refine zAb ?_
  refine zp E (zAe E rfl rfl) ?_; clear E a; intro a E
  refine zp E (by first | exact zBu E rfl rfl rfl | exact zAx E rfl rfl rfl | exact zAq E rfl rfl rfl) ?_; clear E a; intro a E
  refine zp E (zAe E rfl rfl) ?_; clear E a; intro a E
  refine wpList_nil ?_
  refine zAf hK ?_; clear hK; clear K
  refine wp_block ?_
  refine wp_loop_ghost (fun (m : Nat) (a : Act) (w' : World) => ∃ k : Nat, k ≤ bs.length ∧ m = bs.length - k ∧ w' = w ∧ Fr a 22 [(8, .int .i64 k), (3, .int .u64 (zDf (bs.take k))), (7, .int .i64 bs.length), (6, .slice ad bs.length c)]) (bs.length) ?_ ?_
  · exact ⟨0, by omega, by omega, rfl, E.keep (zAa rfl (zAa rfl (zAa rfl (zAa rfl zAm))))⟩
  clear E; clear a; (try clear S); rintro m a w' ⟨k, hk, rfl, rfl, E⟩
  refine wp_seq_k ?_; intro K hK
  refine zAb ?_
  refine zp E (zCk E rfl rfl rfl) ?_; clear E a; intro a E
  refine wpList_nil ?_
  refine zAf hK ?_; clear hK; clear K
  refine wp_seq_k ?_; intro K hK
  refine zBh E rfl (fun hb => ?_) (fun hb => ?_)
  · replace hb := Nrm.nrm hb
    obtain ⟨b, off, rfl⟩ := h.addr (by omega)
    have hc := h.byte hs (i := k) (by omega)
    have h1 := zHf (bs.take (k + 1))
    have h2 := zHf (bs.take k)
    have h3 := zJz bs k (by omega)
    rw [List.length_take, Nat.min_eq_left (by omega), show (256 : Nat) = 2 ^ 8 from rfl, ← Nat.pow_mul] at h1 h2
    have h4 : 2 ^ (8 * (k + 1)) ≤ 2 ^ 64 := Nat.pow_le_pow_right (by omega) (by omega)
    refine wp_skip ?_
    refine zAf hK ?_; clear hK; clear K
    refine wp_seq_k ?_; intro K hK
    refine wp_block ?_
    refine wp_seq_k ?_; intro K hK
    refine zAb ?_
    refine zp E (zAe E rfl rfl) ?_; clear E a; intro a E
    refine zp E (by first | exact zBo E rfl rfl rfl rfl rfl rfl (by omega) | exact zBq E rfl rfl rfl rfl rfl rfl (by omega) | exact zBd E rfl rfl rfl rfl rfl rfl (by omega)) ?_; clear E a; intro a E
    refine zp E (by first | exact zAn E rfl rfl rfl (S.get (by repeat (first | exact pk1 | apply zAc))) rfl | exact zAj E rfl rfl rfl (by assumption)) ?_; clear E a; intro a E
    iterate 2 (refine zp E (zAd E rfl rfl) ?_; clear E a; intro a E)
    refine wpList_nil ?_
    refine zAf hK ?_; clear hK; clear K
    refine zAb ?_
    iterate 2 (refine zp E (zAe E rfl rfl) ?_; clear E a; intro a E)
    refine zp E (by first | exact zBg E rfl rfl rfl rfl (by first | exact wu8 _ | exact zFe (by omega) | exact zDz (by omega) | exact w_in (by omega) | exact zBw (by omega) | exact rfl) | exact zCi E rfl rfl rfl rfl rfl (by assumption) (S.stab.at (by simp))) ?_; clear E a; intro a E
    refine zp E (zAe E rfl rfl) ?_; clear E a; intro a E
    refine zp E (zFm E rfl rfl rfl (by first | exact zGr (x := 8) (by omega) | exact zFd (x := 8) (by omega) | exact w_in (by omega) | exact rfl)) ?_; clear E a; intro a E
    refine zp E (zFt E rfl rfl rfl (by omega) (by simp only [IntKind.bits]; omega) (shlu (by omega))) ?_; clear E a; intro a E
    refine zp E (zHt E rfl rfl rfl (oru h2 (by omega))) ?_; clear E a; intro a E
    refine zp E (zAd E rfl rfl) ?_; clear E a; intro a E
    refine wpList_nil ?_
    refine zBe ?_
    refine zAf hK ?_; clear hK; clear K
    refine zAb ?_
    refine zp E (zBt E rfl rfl rfl (by first | exact zCh (y := 1) (by omega) | exact w_in (by omega) | exact zBw (by omega) | exact rfl)) ?_; clear E a; intro a E
    refine zp E (zAe E rfl rfl) ?_; clear E a; intro a E
    refine wpList_nil ?_
    refine zBj ?_
    rw [← h3] at E; exact ⟨_, by omega, k + 1, by omega, rfl, rfl, E.keep (zAa rfl (zAa rfl (zAa rfl (zAa rfl zAm))))⟩
  · replace hb := Nrm.nrm hb
    refine wp_exit ?_
    refine zBa ?_; clear hK; clear K
    refine zBa ?_
    refine zCg ?_
    refine zAf hK ?_; clear hK; clear K
    refine wp_seq_k ?_; intro K hK
    refine zAb ?_
    refine zp E (zAe E rfl rfl) ?_; clear E a; intro a E
    refine zp E (zAd E rfl rfl) ?_; clear E a; intro a E
    refine wpList_nil ?_
    refine zAf hK ?_; clear hK; clear K
    refine wp_ret ?_
    refine ret1 E rfl rfl ?_
    refine ⟨_, rfl, ?_, rfl⟩; rw [List.take_of_length_le (by omega)]
theorem form_ret (n : Nat) (k : Nat) (w0 : World) (hk : k ≤ 8) :
    Ret Tryz.prog 74 #[.int .u64 n, .int .i64 k] w0 fun u w' => ∃ g, u = .slice (some ⟨g, 0, none⟩) k k ∧ Trs w0 w' [] [[(g, cel (byt (zBv n k)) 5)]] := by
  have S := St.begin (w := w0) (As := []) ⟨by simp, by simp⟩
  refine zCl 24 Tryz.func74 rfl rfl (by decide) ?_; intro a E
  refine wp_seq_k ?_; intro K hK
  refine zAb ?_
  refine zp E (zAd E rfl rfl) ?_; clear E a; intro a E
  refine wpList_nil ?_
  refine zAf hK ?_; clear hK; clear K
  refine wp_seq_k ?_; intro K hK
  refine zAb ?_
  refine zp E (zAe E rfl rfl) ?_; clear E a; intro a E
  refine zAo rfl (zJh (by' := 1) E S rfl rfl (by decide) rfl rfl rfl rfl rfl rfl rfl rfl rfl rfl rfl (by first | exact mkb (by omega) | exact mkb8 (by omega) | exact mkbn rfl (by omega)) (by simp only [maxLen]; omega) ?_); clear E S a; intro a w g8 E S
  refine zp E (zAd E rfl rfl) ?_; clear E a; intro a E
  refine wpList_nil ?_
  refine zAf hK ?_; clear hK; clear K
  iterate 2 (refine wp_seq_k ?_; intro K hK)
  refine zAb ?_
  refine zp E (zAe E rfl rfl) ?_; clear E a; intro a E
  refine zp E (by first | exact zBu E rfl rfl rfl | exact zAx E rfl rfl rfl | exact zAq E rfl rfl rfl) ?_; clear E a; intro a E
  refine zp E (zAe E rfl rfl) ?_; clear E a; intro a E
  refine wpList_nil ?_
  refine zAf hK ?_; clear hK; clear K
  refine wp_block ?_
  refine wp_loop_ghost (fun (m : Nat) (a : Act) (w' : World) => ∃ (j : Nat), j ≤ k ∧ m = k - j ∧ St w0 [] w' [[(g8, cel (byt (zBv n j) ++ List.replicate (k - j) (.int .u8 0)) 5)]] ∧ Fr a 24 [(11, .int .i64 j), (10, .int .i64 k), (5, .slice (some ⟨g8, 0, none⟩) k k), (0, .int .u64 n)]) (k) ?_ ?_
  · exact ⟨0, by omega, by omega, by simpa [zBv, byt] using S, E.keep (zAa rfl (zAa rfl (zAa rfl (zAa rfl zAm))))⟩
  clear E; clear a; (try clear S); rintro m a w ⟨j, hj, rfl, S, E⟩
  refine wp_seq_k ?_; intro K hK
  refine zAb ?_
  refine zp E (zCk E rfl rfl rfl) ?_; clear E a; intro a E
  refine wpList_nil ?_
  refine zAf hK ?_; clear hK; clear K
  refine wp_seq_k ?_; intro K hK
  refine zBh E rfl (fun hb => ?_) (fun hb => ?_)
  · replace hb := Nrm.nrm hb
    refine wp_skip ?_
    refine zAf hK ?_; clear hK; clear K
    refine wp_seq_k ?_; intro K hK
    refine wp_block ?_
    refine wp_seq_k ?_; intro K hK
    refine zAb ?_
    refine zp E (zAe E rfl rfl) ?_; clear E a; intro a E
    refine zp E (zAd E rfl rfl) ?_; clear E a; intro a E
    refine wpList_nil ?_
    refine zAf hK ?_; clear hK; clear K
    refine zAb ?_
    iterate 4 (refine zp E (zAe E rfl rfl) ?_; clear E a; intro a E)
    refine zp E (zFm E rfl rfl rfl (by first | exact zGr (x := 8) (by omega) | exact zFd (x := 8) (by omega) | exact w_in (by omega) | exact rfl)) ?_; clear E a; intro a E
    refine zp E (zHp E rfl rfl rfl (by omega) (by simp only [IntKind.bits]; omega) shru) ?_; clear E a; intro a E
    refine zp E (zBg E rfl rfl rfl rfl (w8 _)) ?_; clear E a; intro a E
    refine zp E (by first | exact zBo E rfl rfl rfl rfl rfl rfl (by omega) | exact zBq E rfl rfl rfl rfl rfl rfl (by omega) | exact zBd E rfl rfl rfl rfl rfl rfl (by omega)) ?_; clear E a; intro a E
    refine zAo rfl (zBp E S rfl rfl rfl rfl rfl rfl (by repeat (first | exact pk1 | apply zAc)) (by simp only [List.length_append, List.length_replicate, zEi, zBc]; omega) ?_); clear E S a; intro a w E S; try dsimp only [List.set] at S
    refine wpList_nil ?_
    refine zBe ?_
    refine zAf hK ?_; clear hK; clear K
    refine zAb ?_
    refine zp E (zBt E rfl rfl rfl (by first | exact zCh (y := 1) (by omega) | exact w_in (by omega) | exact zBw (by omega) | exact rfl)) ?_; clear E a; intro a E
    refine zp E (zAe E rfl rfl) ?_; clear E a; intro a E
    refine wpList_nil ?_
    refine zBj ?_
    rw [Nat.zero_add, zGu _ _ _ _ _ (by simp [byt, zBc]) (by omega)] at S; exact ⟨_, by omega, j + 1, by omega, rfl, by simpa [zBv, byt] using S, E.keep (zAa rfl (zAa rfl (zAa rfl (zAa rfl zAm))))⟩
  · replace hb := Nrm.nrm hb
    refine wp_exit ?_
    refine zBa ?_; clear hK; clear K
    refine zBa ?_
    refine zCg ?_
    refine zAf hK ?_; clear hK; clear K
    refine wp_seq_k ?_; intro K hK
    refine zAb ?_
    refine zp E (zAe E rfl rfl) ?_; clear E a; intro a E
    refine zp E (zAd E rfl rfl) ?_; clear E a; intro a E
    refine wpList_nil ?_
    refine zAf hK ?_; clear hK; clear K
    refine wp_ret ?_
    refine ret1 E rfl rfl ?_
    obtain rfl : j = k := by omega
    refine ⟨_, rfl, g8, rfl, ?_⟩
    simpa using S.tr
theorem rd_block {g n : Nat} {b : List UInt8} {T : TypeId} (hn : b.length = n) (hm : n ≤ 4611686018427387904) (c : Nat) : Rd [(g, cel (byt b) T)] 1 (.slice (some ⟨g, 0, none⟩) n c) n (byt b) :=
  ⟨by rw [zEi, hn, Nat.mul_one], byt_one _, by simp only [maxLen]; omega, .inr ⟨g, 0, c, _, T, (0, 0), rfl, List.mem_singleton.2 rfl, fun i u hu => by simpa using hu⟩⟩
theorem rd_blk {g : Nat} (n : Nat) {b : List UInt8} {T : TypeId} (hn : b.length = n) (hm : n ≤ 4611686018427387904) (c : Nat) : Rd [(g, cel (byt b) T)] 1 (.slice (some ⟨g, 0, none⟩) n c) b.length (byt b) := by
  subst hn; exact rd_block rfl hm c
theorem zIo (C : zAw) (v : Value) (bs : List UInt8) (w0 : World) (h : Rd C 1 v bs.length (byt bs)) (hs : Hp w0 [C]) (hl : bs.length ≤ 281474976710656) :
    Ret Tryz.prog 70 #[v] w0 fun u w' => ∃ g, u = .slice (some ⟨g, 0, none⟩) bs.length bs.length ∧ Trs w0 w' [C] [[(g, cel (byt bs) 5)], C] := by
  obtain ⟨ad, c, rfl⟩ := h.slice
  have S := St.begin hs
  refine zCu 11 Tryz.func70 rfl rfl (by decide) ?_; intro a E
  refine wp_seq_k ?_; intro K hK
  refine zAb ?_
  refine zp E (zAd E rfl rfl) ?_; clear E a; intro a E
  refine wpList_nil ?_
  refine zAf hK ?_; clear hK; clear K
  refine wp_seq_k ?_; intro K hK
  refine zAb ?_
  refine zp E (zAe E rfl rfl) ?_; clear E a; intro a E
  refine zp E (by first | exact zBu E rfl rfl rfl | exact zAx E rfl rfl rfl | exact zAq E rfl rfl rfl) ?_; clear E a; intro a E
  refine zAo rfl (zJh (by' := 1) E S rfl rfl (by decide) rfl rfl rfl rfl rfl rfl rfl rfl rfl rfl rfl (by first | exact mkb (by omega) | exact mkb8 (by omega) | exact mkbn rfl (by omega)) (by simp only [maxLen]; omega) ?_); clear E S a; intro a w g6 E S
  refine zp E (zAd E rfl rfl) ?_; clear E a; intro a E
  refine wpList_nil ?_
  refine zAf hK ?_; clear hK; clear K
  refine wp_seq_k ?_; intro K hK
  refine zAb ?_
  iterate 2 (refine zp E (zAe E rfl rfl) ?_; clear E a; intro a E)
  refine zAo rfl (wp_copy E S rfl rfl (by decide) rfl rfl (by repeat (first | exact pk1 | apply zAc)) (h.copySrc (S.stab.at (by repeat (first | exact mm1 | assumption | apply List.Mem.tail))) rfl) rfl rfl (by simp) ?_); clear E S a; intro a w E S
  rw [copy_all (by simp [zEi])] at S
  refine wpList_nil ?_
  refine zAf hK ?_; clear hK; clear K
  refine wp_seq_k ?_; intro K hK
  refine zAb ?_
  refine zp E (zAe E rfl rfl) ?_; clear E a; intro a E
  refine zp E (zAd E rfl rfl) ?_; clear E a; intro a E
  refine wpList_nil ?_
  refine zAf hK ?_; clear hK; clear K
  refine wp_ret ?_
  refine ret1 E rfl rfl ?_
  exact ⟨_, rfl, g6, rfl, S.tr⟩
def WrC (T : TypeId) (p : Nat) (s : Wr) (A : zAw) : Prop :=
  ∃ v C, A = [(p, cel [.int .i64 s.room, v, .int .i64 s.e] T)] ++ C ∧ Buf C 5 1 v s.bs.length (byt s.bs)
theorem put_ret (p : Nat) (s : Wr) (A D : zAw) (bv : Value) (b : List UInt8) (w0 : World) (hA : WrC 94 p s A) (hD : Rd D 1 bv b.length (byt b)) (H : Hp w0 [A, D]) (hr : s.room ≤ 140737488355328) :
    Ret Tryz.prog 75 #[ptr p, bv] w0 fun u w' => ∃ A', u = .int .i64 (s.putE b) ∧ WrC 94 p (s.putS b) A' ∧ Trs w0 w' [A, D] [A', D] := by
  obtain ⟨v, C, rfl, hB⟩ := hA
  obtain ⟨ad, c, rfl⟩ := hD.slice
  obtain ⟨ad2, c2, rfl⟩ := hB.slice
  have S := (St.begin H).split
  have hm := hB.rd.2.2.1
  have hm2 := hD.2.2.1
  simp only [maxLen] at hm hm2
  refine zCl 27 Tryz.func75 rfl rfl (by decide) ?_; intro a E
  refine wp_seq_k ?_; intro K hK
  refine zAb ?_
  refine zp E (zAd E rfl rfl) ?_; clear E a; intro a E
  refine wpList_nil ?_
  refine zAf hK ?_; clear hK; clear K
  iterate 2 (refine wp_seq_k ?_; intro K hK)
  refine zCb S (.ofL [(0, 0), (1, 0), (2, 0), (3, 0), (4, 0), (5, 0), (6, 0), (7, 0), (8, 0), (9, 0), (10, 0), (11, 0), (12, 0)]) (by kernel_rfl) (by kernel_rfl) ?_
  clear S; intro w S
  refine zm E rfl (fun w h => zAe E rfl rfl) ?_; clear E a; intro a E
  refine zm E rfl (fun w h => by first | exact zBu E rfl rfl rfl | exact zAx E rfl rfl rfl | exact zAq E rfl rfl rfl) ?_; clear E a; intro a E
  refine zm E rfl (fun w h => zAe E rfl rfl) ?_; clear E a; intro a E
  refine zm E rfl (fun w h => zBm E rfl rfl) ?_; clear E a; intro a E
  refine zm E rfl (fun w h => by first | exact zAg (q := 0) E rfl rfl rfl | exact zAh (q := 0) E rfl rfl rfl) ?_; clear E a; intro a E
  refine zm E rfl (fun w h => by first | exact zAn E rfl rfl rfl (h.one (by repeat (first | exact mm1 | assumption | apply List.Mem.tail))) rfl | exact zAj E rfl rfl rfl (by assumption)) ?_; clear E a; intro a E
  refine zm E rfl (fun w h => zAe E rfl rfl) ?_; clear E a; intro a E
  refine zm E rfl (fun w h => zBm E rfl rfl) ?_; clear E a; intro a E
  refine zm E rfl (fun w h => by first | exact zAg (q := 1) E rfl rfl rfl | exact zAh (q := 1) E rfl rfl rfl) ?_; clear E a; intro a E
  refine zm E rfl (fun w h => by first | exact zAn E rfl rfl rfl (h.one (by repeat (first | exact mm1 | assumption | apply List.Mem.tail))) rfl | exact zAj E rfl rfl rfl (by assumption)) ?_; clear E a; intro a E
  refine zm E rfl (fun w h => by first | exact zBu E rfl rfl rfl | exact zAx E rfl rfl rfl | exact zAq E rfl rfl rfl) ?_; clear E a; intro a E
  refine zm E rfl (fun w h => zEe E rfl rfl rfl (by first | exact ws1 (by omega) (by omega) | exact w_in (by omega) | exact zBw (by omega) | exact rfl)) ?_; clear E a; intro a E
  refine zm E rfl (fun w h => zDt E rfl rfl rfl) ?_; clear E a; intro a E
  refine zBz ?_
  refine zAf hK ?_; clear hK; clear K
  refine zBh E rfl (fun hb => ?_) (fun hb => ?_)
  · replace hb := Nrm.nrm hb
    have hf : s.fits b = false := by simp only [Wr.fits, decide_eq_false_iff_not]; omega
    refine wp_seq_k ?_; intro K hK
    refine zAb ?_
    refine zp E (zAd E rfl rfl) ?_; clear E a; intro a E
    refine wpList_nil ?_
    refine zAf hK ?_; clear hK; clear K
    refine wp_ret ?_
    refine zAy ?_; clear hK; clear K
    refine ret1 E rfl rfl ?_
    exact ⟨_, rfl, _, by simp [Wr.putE, hf], ⟨_, C, rfl, by simpa [Wr.putS, hf] using hB⟩, by simpa [Wr.putS, hf] using S.join.tr⟩
  · replace hb := Nrm.nrm hb
    have hf : s.fits b = true := by simp only [Wr.fits, decide_eq_true_eq]; omega
    refine wp_skip ?_
    refine zAf hK ?_; clear hK; clear K
    refine wp_seq_k ?_; intro K hK
    have hf2 := of_decide_eq_true hf
    refine zAb ?_
    iterate 2 (refine zp E (zAe E rfl rfl) ?_; clear E a; intro a E)
    refine zp E (zBm E rfl rfl) ?_; clear E a; intro a E
    refine zp E (by first | exact zAg (q := 1) E rfl rfl rfl | exact zAh (q := 1) E rfl rfl rfl) ?_; clear E a; intro a E
    refine zp E (by first | exact zAn E rfl rfl rfl (S.get (by repeat (first | exact pk1 | apply zAc))) rfl | exact zAj E rfl rfl rfl (by assumption)) ?_; clear E a; intro a E
    refine zp E (zAe E rfl rfl) ?_; clear E a; intro a E
    refine zAo rfl (zCn (by' := 1) E S rfl rfl (by decide) rfl rfl hB (by repeat (first | exact pk1 | apply zAc)) (hD.src (S.stab.at (by repeat (first | exact mm1 | assumption | apply List.Mem.tail))) rfl) rfl rfl rfl rfl rfl rfl (by simp only [maxLen]; omega) (by omega) ?_); clear E S a; intro a w v24 C24 E S hB24
    obtain ⟨ad3, c3, rfl⟩ := hB24.slice
    refine zp E (zBm E rfl rfl) ?_; clear E a; intro a E
    refine zp E (by first | exact zAg (q := 1) E rfl rfl rfl | exact zAh (q := 1) E rfl rfl rfl) ?_; clear E a; intro a E
    refine zAo rfl (zBp E S rfl rfl rfl rfl rfl rfl (by repeat (first | exact pk1 | apply zAc)) (by first | exact Nat.le_of_ble_eq_true rfl | (simp; done) | (simp; omega)) ?_); clear E S a; intro a w E S; try dsimp only [List.set] at S
    refine wpList_nil ?_
    refine zAf hK ?_; clear hK; clear K
    refine wp_seq_k ?_; intro K hK
    replace E := E.keep (e' := [(4, _)]) (zAa rfl (zAm))
    refine zAb ?_
    refine zp E (zAd E rfl rfl) ?_; clear E a; intro a E
    refine wpList_nil ?_
    refine zAf hK ?_; clear hK; clear K
    refine wp_ret ?_
    refine ret1 E rfl rfl ?_
    exact ⟨_, rfl, [(p, cel [.int .i64 s.room, .slice ad3 (s.bs.length + b.length) c3, .int .i64 s.e] 94)] ++ C24, by simp [Wr.putE, hf], ⟨.slice ad3 (s.bs.length + b.length) c3, C24, by simp [Wr.putS, hf], by simpa [Wr.putS, hf, zDq] using hB24⟩, S.join.tr⟩
theorem buf_block {g n : Nat} {b : List UInt8} {T : TypeId} (hn : b.length = n) (hm : n ≤ 4611686018427387904) : Buf [(g, cel (byt b) T)] T 1 (.slice (some ⟨g, 0, none⟩) n n) n (byt b) :=
  ⟨by rw [zEi, hn, Nat.mul_one], byt_one _, .inr ⟨g, n, [], rfl, by simp, Nat.le_refl _, by simp only [maxLen]; omega, by simp [zEi, hn]⟩⟩
theorem try_no (p : Nat) (s : Wr) (A : zAw) (fv : Value) (w0 : World) (hA : WrC 94 p s A) (H : Hp w0 [A]) (he : s.e ≠ 0) :
    Ret Tryz.prog 71 #[ptr p, fv] w0 fun _ w' => w' = w0 := by
  obtain ⟨v, C, rfl, hB⟩ := hA
  have S := (St.begin H).split
  refine zCl 14 Tryz.func71 rfl rfl (by decide) ?_; intro a E
  refine wp_seq_k ?_; intro K hK
  refine zAb ?_
  refine zp E (zAe E rfl rfl) ?_; clear E a; intro a E
  refine zp E (zBm E rfl rfl) ?_; clear E a; intro a E
  refine zp E (by first | exact zAg (q := 2) E rfl rfl rfl | exact zAh (q := 2) E rfl rfl rfl) ?_; clear E a; intro a E
  refine zp E (by first | exact zAn E rfl rfl rfl (S.get (by repeat (first | exact pk1 | apply zAc))) rfl | exact zAj E rfl rfl rfl (by assumption)) ?_; clear E a; intro a E
  refine zp E (by first | exact zCc E rfl rfl rfl | exact zAs E rfl rfl rfl rfl | exact zBb E rfl rfl rfl rfl | exact zAt E rfl rfl rfl) ?_; clear E a; intro a E
  refine wpList_nil ?_
  refine zAf hK ?_; clear hK; clear K
  refine zBh E rfl (fun hb => ?_) (fun hb => ?_)
  · replace hb := Nrm.nrm hb
    exfalso; omega
  · replace hb := Nrm.nrm hb
    refine wp_skip ?_
    refine end0 E rfl ?_
    exact ⟨_, rfl, rfl⟩
theorem try_yes (f : FuncId) (fn : Func) (cap : List Value) (hf : Tryz.prog.funcs[f]? = some fn) (hfb : fn.body.isSome = true) (hfn : (fn.name == "runtime.NumGoroutine") = false)
    (p : Nat) (s : Wr) (A : zAw) (Rs : List zAw) (X : Nat → List UInt8 → Prop) (w0 : World) (hA : WrC 94 p s A) (H : Hp w0 (A :: Rs)) (he : s.e = 0)
    (hc : Ret Tryz.prog f cap.toArray w0 fun u w' => ∃ (e' : Nat) (bs' : List UInt8) (A' : zAw), u = .int .i64 e' ∧ WrC 94 p { s with bs := bs' } A' ∧ Trs w0 w' (A :: Rs) (A' :: Rs) ∧ X e' bs') :
    Ret Tryz.prog 71 #[ptr p, .func (.func f) #[] cap.toArray] w0 fun _ w' => ∃ (e' : Nat) (bs' : List UInt8) (A' : zAw), WrC 94 p { s with bs := bs', e := e' } A' ∧ Trs w0 w' (A :: Rs) (A' :: Rs) ∧ X e' bs' := by
  have hA0 := hA
  obtain ⟨v, C, rfl, hB⟩ := hA
  have S := (St.begin H).split
  refine zCl 14 Tryz.func71 rfl rfl (by decide) ?_; intro a E
  refine wp_seq_k ?_; intro K hK
  refine zAb ?_
  refine zp E (zAe E rfl rfl) ?_; clear E a; intro a E
  refine zp E (zBm E rfl rfl) ?_; clear E a; intro a E
  refine zp E (by first | exact zAg (q := 2) E rfl rfl rfl | exact zAh (q := 2) E rfl rfl rfl) ?_; clear E a; intro a E
  refine zp E (by first | exact zAn E rfl rfl rfl (S.get (by repeat (first | exact pk1 | apply zAc))) rfl | exact zAj E rfl rfl rfl (by assumption)) ?_; clear E a; intro a E
  refine zp E (by first | exact zCc E rfl rfl rfl | exact zAs E rfl rfl rfl rfl | exact zBb E rfl rfl rfl rfl | exact zAt E rfl rfl rfl) ?_; clear E a; intro a E
  refine wpList_nil ?_
  refine zAf hK ?_; clear hK; clear K
  refine zBh E rfl (fun hb => ?_) (fun hb => ?_)
  · replace hb := Nrm.nrm hb
    refine zAb ?_
    iterate 2 (refine zp E (zAe E rfl rfl) ?_; clear E a; intro a E)
    refine zCy E rfl rfl (by decide) rfl rfl hf hfb hfn rfl (hc) ?_
    rintro v11 w ⟨e', bs', A', rfl, ⟨v', C', rfl, hB'⟩, hT, hX⟩; clear E a; intro a E
    have S := ((St.begin H).all hT).split
    refine zp E (zBm E rfl rfl) ?_; clear E a; intro a E
    refine zp E (by first | exact zAg (q := 2) E rfl rfl rfl | exact zAh (q := 2) E rfl rfl rfl) ?_; clear E a; intro a E
    refine zAo rfl (zBp E S rfl rfl rfl rfl rfl rfl (by repeat (first | exact pk1 | apply zAc)) (by first | exact Nat.le_of_ble_eq_true rfl | (simp; done) | (simp; omega)) ?_); clear E S a; intro a w E S; try dsimp only [List.set] at S
    refine wpList_nil ?_
    refine end0 E rfl ?_
    exact ⟨_, rfl, e', bs', _, ⟨v', C', rfl, hB'⟩, S.join.tr, hX⟩
  · replace hb := Nrm.nrm hb
    exfalso; omega
theorem try_ret (s2 : Wr) (f : FuncId) (fn : Func) (cap : List Value) (hf : Tryz.prog.funcs[f]? = some fn) (hfb : fn.body.isSome = true) (hfn : (fn.name == "runtime.NumGoroutine") = false)
    (p : Nat) (s : Wr) (A : zAw) (Rs : List zAw) (w0 : World) (hA : WrC 94 p s A) (H : Hp w0 (A :: Rs)) (h0 : s.e ≠ 0 → s2 = s)
    (hc : s.e = 0 → Ret Tryz.prog f cap.toArray w0 fun u w' => ∃ (e' : Nat) (bs' : List UInt8) (A' : zAw), u = .int .i64 e' ∧ WrC 94 p { s with bs := bs' } A' ∧ Trs w0 w' (A :: Rs) (A' :: Rs) ∧ s2 = { s with bs := bs', e := e' }) :
    Ret Tryz.prog 71 #[ptr p, .func (.func f) #[] cap.toArray] w0 fun _ w' => ∃ A' : zAw, WrC 94 p s2 A' ∧ Trs w0 w' (A :: Rs) (A' :: Rs) := by
  by_cases he : s.e = 0
  · refine (try_yes f fn cap hf hfb hfn p s A Rs (fun e' bs' => s2 = { s with bs := bs', e := e' }) w0 hA H he (hc he)).mono ?_
    rintro _ w' ⟨e', bs', A', h1, h2, h3⟩
    exact ⟨A', by rw [h3]; exact h1, h2⟩
  · refine (try_no p s A _ w0 hA (H.sel (Rs := Rs) (List.Perm.refl _)) he).mono ?_
    rintro _ w' rfl
    exact ⟨A, by rw [h0 he]; exact hA, Trs.refl _ _⟩
theorem num_body (p : Nat) (s : Wr) (A : zAw) (w0 : World) (hA : WrC 94 p s A) (he : s.e = 0) (b5 b4 b3 : Nat) (n : Nat) (k : Int)
    (H : Hp w0 [A, [(b5, cel [.int .i64 k] 3)], [(b4, cel [.int .u64 n] 27)], [(b3, cel [ptr p] 63)]]) (hr : s.room ≤ 140737488355328) :
    Ret Tryz.prog 72 #[ptr b5, ptr b4, ptr b3] w0 fun u w' => ∃ (e' : Nat) (bs' : List UInt8) (A' : zAw), u = .int .i64 e' ∧ WrC 94 p { s with bs := bs' } A' ∧
      Trs w0 w' [A, [(b5, cel [.int .i64 k] 3)], [(b4, cel [.int .u64 n] 27)], [(b3, cel [ptr p] 63)]] [A', [(b5, cel [.int .i64 k] 3)], [(b4, cel [.int .u64 n] 27)], [(b3, cel [ptr p] 63)]] ∧ s.num n k = { s with bs := bs', e := e' } := by
  have S := St.begin H
  have hbad : (k < 1 ∨ 8 < k) → s.num n k = { s with bs := s.bs, e := 1 } := fun h => by simp [Wr.num, Wr.lay, numE, he, h]
  refine zFy 23 Tryz.func72 rfl rfl (by decide) ?_; intro a E
  refine wp_seq_k ?_; intro K hK
  refine zAb ?_
  refine zp E (zAd E rfl rfl) ?_; clear E a; intro a E
  refine wpList_nil ?_
  refine zAf hK ?_; clear hK; clear K
  refine wp_seq_k ?_; intro K hK
  refine wp_block ?_
  refine wp_seq_k ?_; intro K hK
  refine zAb ?_
  refine zp E (by first | exact zAn E rfl rfl rfl (S.get (by repeat (first | exact pk1 | apply zAc))) rfl | exact zAj E rfl rfl rfl (by assumption)) ?_; clear E a; intro a E
  refine zp E (zCk E rfl rfl rfl) ?_; clear E a; intro a E
  refine zp E (zAe E rfl rfl) ?_; clear E a; intro a E
  refine zAr E (t := 7) rfl (fun hb7 => ?_) (fun hb7 => ?_)
  · have hb7n := hb7; replace hb7n := Nrm.nrm hb7n
    iterate 2 (refine zn E hb7 ?_; clear E a; intro a E)
    refine zp E (zAk E rfl rfl hb7 rfl) ?_; clear E a; intro a E
    refine zp E (zAd E rfl rfl) ?_; clear E a; intro a E
    refine wpList_nil ?_
    refine zAf hK ?_; clear hK; clear K
    refine zCe E rfl rfl ?_
    refine wp_seq_k ?_; intro K hK
    refine zAb ?_
    refine zp E (zAd E rfl rfl) ?_; clear E a; intro a E
    refine wpList_nil ?_
    refine zAf hK ?_; clear hK; clear K
    refine wp_ret ?_
    refine zCj ?_
    refine zAy ?_; clear hK; clear K
    refine ret1 E rfl rfl ?_
    exact ⟨_, rfl, 1, s.bs, A, rfl, hA, S.tr, hbad (by omega)⟩
  · have hb7n := hb7; replace hb7n := Nrm.nrm hb7n
    refine zy E hb7 (by first | exact zAn E rfl rfl rfl (S.get (by repeat (first | exact pk1 | apply zAc))) rfl | exact zAj E rfl rfl rfl (by assumption)) ?_; clear E a; intro a E
    refine zy E hb7 (zDt E rfl rfl rfl) ?_; clear E a; intro a E
    refine zp E (zAi E rfl rfl hb7 rfl) ?_; clear E a; intro a E
    refine zp E (zAd E rfl rfl) ?_; clear E a; intro a E
    refine wpList_nil ?_
    refine zAf hK ?_; clear hK; clear K
    refine zBh E rfl (fun hb => ?_) (fun hb => ?_)
    · replace hb := Nrm.nrm hb
      refine wp_seq_k ?_; intro K hK
      refine zAb ?_
      refine zp E (zAd E rfl rfl) ?_; clear E a; intro a E
      refine wpList_nil ?_
      refine zAf hK ?_; clear hK; clear K
      refine wp_ret ?_
      refine zCj ?_
      refine zAy ?_; clear hK; clear K
      refine ret1 E rfl rfl ?_
      exact ⟨_, rfl, 1, s.bs, A, rfl, hA, S.tr, hbad (by omega)⟩
    · replace hb := Nrm.nrm hb
      refine wp_seq_k ?_; intro K hK
      obtain ⟨kn, rfl⟩ : ∃ kn : Nat, k = kn := ⟨k.toNat, by omega⟩
      refine zCb S (.ofL [(0, 0), (1, 0), (4, 0), (2, 1), (3, 1), (5, 0), (6, 0)]) (by kernel_rfl) (by kernel_rfl) ?_
      clear S; intro w S
      iterate 3 (refine zm E rfl (fun w h => by first | exact zAn E rfl rfl rfl (h.one (by repeat (first | exact mm1 | assumption | apply List.Mem.tail))) rfl | exact zAj E rfl rfl rfl (by assumption)) ?_; clear E a; intro a E)
      refine zCd E rfl rfl rfl (by decide) rfl Tryz.func74 rfl (by kernel_rfl) rfl (form_ret n kn w (by omega)) ?_
      rintro v14 w ⟨g, rfl, hT⟩; clear E a; intro a E
      have S := S.fresh hT
      refine ⟨S.stab.sub (by first | (simp; done) | (simp +contextual; done) | (simp [*]; done)), ?_⟩
      refine zCd E rfl rfl rfl (by decide) rfl Tryz.func73 rfl (by kernel_rfl) rfl (zKa _ _ (zBv n kn) w (rd_blk kn (zBc _ _) (by omega) _) (S.stab.at (by repeat (first | exact mm1 | assumption | apply List.Mem.tail))) (by rw [zBc]; omega)) ?_
      rintro v15 w ⟨rfl, rfl⟩; clear E a; intro a E
      refine ⟨S.stab.sub (by first | (simp; done) | (simp +contextual; done) | (simp [*]; done)), ?_⟩
      refine zm E rfl (fun w h => by first | exact zDa E rfl rfl rfl | exact zBi E rfl rfl rfl rfl | exact zBs E rfl rfl rfl rfl | exact zBl E rfl rfl rfl) ?_; clear E a; intro a E
      refine zm E rfl (fun w h => zAd E rfl rfl) ?_; clear E a; intro a E
      refine zBz ?_
      refine zAf hK ?_; clear hK; clear K
      refine zBh E rfl (fun hb => ?_) (fun hb => ?_)
      · replace hb := Nrm.nrm hb
        rw [zIn] at hb
        refine wp_seq_k ?_; intro K hK
        refine zAb ?_
        refine zp E (zAd E rfl rfl) ?_; clear E a; intro a E
        refine wpList_nil ?_
        refine zAf hK ?_; clear hK; clear K
        refine wp_ret ?_
        refine zCj ?_
        refine zAy ?_; clear hK; clear K
        refine ret1 E rfl rfl ?_
        have h5 : ¬ n < 256 ^ kn := fun h => hb (by rw [Nat.mod_eq_of_lt h])
        have S := S.only (Bs := [A, _, _, _]) (Rs := [_]) ((List.perm_append_comm (l₁ := [_]) (l₂ := [A, _, _, _])))
        exact ⟨_, rfl, 11, s.bs, A, rfl, hA, S.tr, by simp [Wr.num, Wr.lay, numE, he, show ¬ ((kn : Int) < 1 ∨ 8 < (kn : Int)) by omega, Nat.not_lt.1 h5]⟩
      · replace hb := Nrm.nrm hb
        rw [zIn] at hb
        refine wp_skip ?_
        refine zBe ?_
        refine zAf hK ?_; clear hK; clear K
        refine wp_seq_k ?_; intro K hK
        have h5 : n < 256 ^ kn := by have := Nat.mod_lt n (show 0 < 256 ^ kn from Nat.pow_pos (by omega)); omega
        refine zCb S (.ofL [(0, 0), (1, 0), (2, 0), (3, 1), (4, 3), (5, 2)]) (by kernel_rfl) (by kernel_rfl) ?_
        clear S; intro w S
        iterate 3 (refine zm E rfl (fun w h => by first | exact zAn E rfl rfl rfl (h.one (by repeat (first | exact mm1 | assumption | apply List.Mem.tail))) rfl | exact zAj E rfl rfl rfl (by assumption)) ?_; clear E a; intro a E)
        refine zCd E rfl rfl rfl (by decide) rfl Tryz.func74 rfl (by kernel_rfl) rfl (form_ret n kn w (by omega)) ?_
        rintro v21 w ⟨g2, rfl, hT⟩; clear E a; intro a E
        have S := S.fresh hT
        refine ⟨S.stab.sub (by first | (simp; done) | (simp +contextual; done) | (simp [*]; done)), ?_⟩
        refine zId E rfl rfl rfl (by decide) rfl Tryz.func75 rfl (by kernel_rfl) rfl (put_ret p s A _ _ (zBv n kn) w hA (rd_blk kn (zBc _ _) (by omega) _) (S.hp.sel (zAl (by repeat (first | exact pk1 | apply zAc)) (zAl (by repeat (first | exact pk1 | apply zAc)) (zAu _)))) hr) ?_
        rintro v22 w ⟨A', rfl, hA', hT⟩; clear E a; intro a E
        have S := S.call2 (zAl (by repeat (first | exact pk1 | apply zAc)) (zAl (by repeat (first | exact pk1 | apply zAc)) (zAu _))) hT
        refine zDi E rfl rfl rfl (by decide) (fun w => zAd E rfl rfl) ?_; clear E a; intro a E
        refine zBz ?_
        refine zAf hK ?_; clear hK; clear K
        refine wp_ret ?_
        refine ret1 E rfl rfl ?_
        rw [s.putS_eq] at hA'
        have S := S.only (Bs := [A', [(b5, cel [.int .i64 kn] 3)], [(b4, cel [.int .u64 n] 27)], [(b3, cel [ptr p] 63)]]) (zAl (by repeat (first | exact pk1 | apply zAc)) (zAl (by repeat (first | exact pk1 | apply zAc)) (zAl (by repeat (first | exact pk1 | apply zAc)) (zAl (by repeat (first | exact pk1 | apply zAc)) (zAu _)))))
        refine ⟨_, rfl, _, _, A', rfl, hA', S.tr, ?_⟩
        simp only [Wr.num, Wr.lay, numE, he, show ¬ ((kn : Int) < 1 ∨ 8 < (kn : Int)) by omega, Int.toNat_natCast, show ¬ n ≥ 256 ^ kn by omega, if_false, ne_eq, not_true_eq_false]
        rw [s.putS_eq]
theorem num_ret (p : Nat) (s : Wr) (A : zAw) (w0 : World) (hA : WrC 94 p s A) (n : Nat) (k : Int) (H : Hp w0 [A]) (hr : s.room ≤ 140737488355328) :
    Ret Tryz.prog 30 #[ptr p, .int .u64 n, .int .i64 k] w0 fun _ w' => ∃ A', WrC 94 p (s.num n k) A' ∧ Trs w0 w' [A] [A'] := by
  have S := St.begin H
  refine zFy 9 Tryz.func30 rfl rfl (by decide) ?_; intro a E
  refine wp_seq_k ?_; intro K hK
  refine zAb ?_
  refine zAo rfl (zCm E S rfl rfl (by decide) rfl rfl ?_); clear E S a; intro a w b3 E S
  refine zAo rfl (zCm E S rfl rfl (by decide) rfl rfl ?_); clear E S a; intro a w b4 E S
  refine zAo rfl (zCm E S rfl rfl (by decide) rfl rfl ?_); clear E S a; intro a w b5 E S
  refine wpList_nil ?_
  refine zAf hK ?_; clear hK; clear K
  have S := S.perm (Bs := [A, [(b5, cel [.int .i64 k] 3)], [(b4, cel [.int .u64 n] 27)], [(b3, cel [ptr p] 63)]]) (zAl (by repeat (first | exact pk1 | apply zAc)) (zAl (by repeat (first | exact pk1 | apply zAc)) (zAl (by repeat (first | exact pk1 | apply zAc)) (zAl (by repeat (first | exact pk1 | apply zAc)) (zAu _)))))
  refine zAb ?_
  refine zp E (by first | exact zAn E rfl rfl rfl (S.get (by repeat (first | exact pk1 | apply zAc))) rfl | exact zAj E rfl rfl rfl (by assumption)) ?_; clear E a; intro a E
  refine zp E (zEo E rfl rfl ⟨_, rfl⟩) ?_; clear E a; intro a E
  refine zAp E rfl rfl (by decide) rfl Tryz.func71 rfl (by kernel_rfl) rfl (try_ret (s.num n k) 72 _ [ptr b5, ptr b4, ptr b3] Tryz.func72 rfl (by kernel_rfl) p s A [[(b5, cel [.int .i64 k] 3)], [(b4, cel [.int .u64 n] 27)], [(b3, cel [ptr p] 63)]] w hA S.hp (fun h => by simp [Wr.num, Wr.lay, h]) (fun h => num_body p s A w hA h b5 b4 b3 n k S.hp hr)) ?_
  rintro v8 w ⟨A', hA', hT⟩; clear E a; intro a E
  have S := S.all hT
  refine wpList_nil ?_
  refine end0 E rfl ?_
  exact ⟨_, rfl, A', hA', (S.only (Bs := [A']) (zAl (by repeat (first | exact pk1 | apply zAc)) (zAu _))).tr⟩
theorem bytes_body (p : Nat) (s : Wr) (A D : zAw) (w0 : World) (hA : WrC 94 p s A) (he : s.e = 0) (bw bb : Nat) (bv : Value) (b : List UInt8) (hD : Rd D 1 bv b.length (byt b))
    (H : Hp w0 [A, [(bb, cel [bv] 24)], [(bw, cel [ptr p] 63)], D]) (hr : s.room ≤ 140737488355328) :
    Ret Tryz.prog 97 #[ptr bw, ptr bb] w0 fun u w' => ∃ (e' : Nat) (bs' : List UInt8) (A' : zAw), u = .int .i64 e' ∧ WrC 94 p { s with bs := bs' } A' ∧
      Trs w0 w' [A, [(bb, cel [bv] 24)], [(bw, cel [ptr p] 63)], D] [A', [(bb, cel [bv] 24)], [(bw, cel [ptr p] 63)], D] ∧ s.bytes b = { s with bs := bs', e := e' } := by
  have S := St.begin H
  refine zCl 6 Tryz.func97 rfl rfl (by decide) ?_; intro a E
  refine wp_seq_k ?_; intro K hK
  refine zAb ?_
  refine zp E (zAd E rfl rfl) ?_; clear E a; intro a E
  refine wpList_nil ?_
  refine zAf hK ?_; clear hK; clear K
  refine wp_seq_k ?_; intro K hK
  refine zAb ?_
  iterate 2 (refine zp E (by first | exact zAn E rfl rfl rfl (S.get (by repeat (first | exact pk1 | apply zAc))) rfl | exact zAj E rfl rfl rfl (by assumption)) ?_; clear E a; intro a E)
  refine zAp E rfl rfl (by decide) rfl Tryz.func75 rfl (by kernel_rfl) rfl (put_ret p s A D bv b w0 hA hD (S.hp.sel (zAl (by repeat (first | exact pk1 | apply zAc)) (zAl (by repeat (first | exact pk1 | apply zAc)) (zAu _)))) hr) ?_
  rintro v5 w ⟨A', rfl, hA', hT⟩; clear E a; intro a E
  have S := S.call2 (zAl (by repeat (first | exact pk1 | apply zAc)) (zAl (by repeat (first | exact pk1 | apply zAc)) (zAu _))) hT
  refine zp E (zAd E rfl rfl) ?_; clear E a; intro a E
  refine wpList_nil ?_
  refine zAf hK ?_; clear hK; clear K
  refine wp_ret ?_
  refine ret1 E rfl rfl ?_
  rw [s.putS_eq] at hA'
  refine ⟨_, rfl, _, _, A', rfl, hA', (S.only (Bs := [A', [(bb, cel [bv] 24)], [(bw, cel [ptr p] 63)], D]) (zAl (by repeat (first | exact pk1 | apply zAc)) (zAl (by repeat (first | exact pk1 | apply zAc)) (zAl (by repeat (first | exact pk1 | apply zAc)) (zAl (by repeat (first | exact pk1 | apply zAc)) (zAu _)))))).tr, ?_⟩
  simp only [Wr.bytes, Wr.lay, he, if_false, ne_eq, not_true_eq_false]
  rw [s.putS_eq]
theorem bytes_ret (p : Nat) (s : Wr) (A D : zAw) (w0 : World) (hA : WrC 94 p s A) (bv : Value) (b : List UInt8) (hD : Rd D 1 bv b.length (byt b)) (H : Hp w0 [A, D]) (hr : s.room ≤ 140737488355328) :
    Ret Tryz.prog 66 #[ptr p, bv] w0 fun _ w' => ∃ A', WrC 94 p (s.bytes b) A' ∧ Trs w0 w' [A, D] [A', D] := by
  have S := St.begin H
  obtain ⟨ad, c, rfl⟩ := hD.slice
  refine zCl 7 Tryz.func66 rfl rfl (by decide) ?_; intro a E
  refine wp_seq_k ?_; intro K hK
  refine zAb ?_
  refine zAo rfl (zCm E S rfl rfl (by decide) rfl rfl ?_); clear E S a; intro a w b2 E S
  refine zAo rfl (zCm E S rfl rfl (by decide) rfl rfl ?_); clear E S a; intro a w b3 E S
  refine wpList_nil ?_
  refine zAf hK ?_; clear hK; clear K
  have S := S.perm (Bs := [A, [(b3, cel [.slice ad b.length c] 24)], [(b2, cel [ptr p] 63)], D]) (zAl (by repeat (first | exact pk1 | apply zAc)) (zAl (by repeat (first | exact pk1 | apply zAc)) (zAl (by repeat (first | exact pk1 | apply zAc)) (zAl (by repeat (first | exact pk1 | apply zAc)) (zAu _)))))
  refine zAb ?_
  refine zp E (by first | exact zAn E rfl rfl rfl (S.get (by repeat (first | exact pk1 | apply zAc))) rfl | exact zAj E rfl rfl rfl (by assumption)) ?_; clear E a; intro a E
  refine zp E (zEo E rfl rfl ⟨_, rfl⟩) ?_; clear E a; intro a E
  refine zAp E rfl rfl (by decide) rfl Tryz.func71 rfl (by kernel_rfl) rfl (try_ret (s.bytes b) 97 _ [ptr b2, ptr b3] Tryz.func97 rfl (by kernel_rfl) p s A [[(b3, cel [.slice ad b.length c] 24)], [(b2, cel [ptr p] 63)], D] w hA S.hp (fun h => by simp [Wr.bytes, Wr.lay, h]) (fun h => bytes_body p s A D w hA h b2 b3 _ b hD S.hp hr)) ?_
  rintro v6 w ⟨A', hA', hT⟩; clear E a; intro a E
  have S := S.all hT
  refine wpList_nil ?_
  refine end0 E rfl ?_
  exact ⟨_, rfl, A', hA', (S.only (Bs := [A', D]) (zAl (by repeat (first | exact pk1 | apply zAc)) (zAl (by repeat (first | exact pk1 | apply zAc)) (zAu _)))).tr⟩
theorem text_body (p : Nat) (s : Wr) (A : zAw) (w0 : World) (hA : WrC 94 p s A) (he : s.e = 0) (bw bb : Nat) (t : List UInt8)
    (H : Hp w0 [A, [(bb, cel [str t] 9)], [(bw, cel [ptr p] 63)]]) (hr : s.room ≤ 140737488355328) :
    Ret Tryz.prog 92 #[ptr bb, ptr bw] w0 fun u w' => ∃ (e' : Nat) (bs' : List UInt8) (A' : zAw), u = .int .i64 e' ∧ WrC 94 p { s with bs := bs' } A' ∧
      Trs w0 w' [A, [(bb, cel [str t] 9)], [(bw, cel [ptr p] 63)]] [A', [(bb, cel [str t] 9)], [(bw, cel [ptr p] 63)]] ∧ s.text t = { s with bs := bs', e := e' } := by
  have S := St.begin H
  refine zCl 14 Tryz.func92 rfl rfl (by decide) ?_; intro a E
  refine wp_seq_k ?_; intro K hK
  refine zAb ?_
  refine zp E (zAd E rfl rfl) ?_; clear E a; intro a E
  refine wpList_nil ?_
  refine zAf hK ?_; clear hK; clear K
  iterate 2 (refine wp_seq_k ?_; intro K hK)
  refine zAb ?_
  refine zp E (by first | exact zAn E rfl rfl rfl (S.get (by repeat (first | exact pk1 | apply zAc))) rfl | exact zAj E rfl rfl rfl (by assumption)) ?_; clear E a; intro a E
  refine zp E (by first | exact zBu E rfl rfl rfl | exact zAx E rfl rfl rfl | exact zAq E rfl rfl rfl) ?_; clear E a; intro a E
  refine zp E (zDt E rfl rfl rfl) ?_; clear E a; intro a E
  refine wpList_nil ?_
  refine zAf hK ?_; clear hK; clear K
  refine zBh E rfl (fun hb => ?_) (fun hb => ?_)
  · replace hb := Nrm.nrm hb
    refine wp_seq_k ?_; intro K hK
    refine zAb ?_
    refine zp E (zAd E rfl rfl) ?_; clear E a; intro a E
    refine wpList_nil ?_
    refine zAf hK ?_; clear hK; clear K
    refine wp_ret ?_
    refine zAy ?_; clear hK; clear K
    refine ret1 E rfl rfl ?_
    exact ⟨_, rfl, 11, s.bs, A, rfl, hA, S.tr, by simp [Wr.text, Wr.lay, textE, he, show 65535 < t.length by omega]⟩
  · replace hb := Nrm.nrm hb
    refine wp_skip ?_
    refine zAf hK ?_; clear hK; clear K
    refine wp_seq_k ?_; intro K hK
    refine zCb S (.ofL [(0, 0), (1, 0), (2, 0), (3, 0), (5, 0), (4, 1), (6, 1), (7, 3), (8, 2)]) (by kernel_rfl) (by kernel_rfl) ?_
    clear S; intro w S
    iterate 2 (refine zm E rfl (fun w h => by first | exact zAn E rfl rfl rfl (h.one (by repeat (first | exact mm1 | assumption | apply List.Mem.tail))) rfl | exact zAj E rfl rfl rfl (by assumption)) ?_; clear E a; intro a E)
    refine zm E rfl (fun w h => by first | exact zBu E rfl rfl rfl | exact zAx E rfl rfl rfl | exact zAq E rfl rfl rfl) ?_; clear E a; intro a E
    refine zm E rfl (fun w h => by first | exact zBg E rfl rfl rfl rfl (by first | exact wu8 _ | exact zFe (by omega) | exact zDz (by omega) | exact w_in (by omega) | exact zBw (by omega) | exact rfl) | exact zCi E rfl rfl rfl rfl rfl (by assumption) (S.stab.at (by simp))) ?_; clear E a; intro a E
    refine zm E rfl (fun w h => by first | exact zAn E rfl rfl rfl (h.one (by repeat (first | exact mm1 | assumption | apply List.Mem.tail))) rfl | exact zAj E rfl rfl rfl (by assumption)) ?_; clear E a; intro a E
    refine zCd E rfl rfl rfl (by decide) rfl Tryz.func74 rfl (by kernel_rfl) rfl (form_ret t.length 2 w (by omega)) ?_
    rintro v10 w ⟨g, rfl, hT⟩; clear E a; intro a E
    have S := S.fresh hT
    refine ⟨S.stab.sub (by first | (simp; done) | (simp +contextual; done) | (simp [*]; done)), ?_⟩
    refine zDm rfl rfl (zCn (by' := 1) E S rfl rfl (by decide) rfl rfl (buf_block (zBc t.length 2) (by omega)) (by repeat (first | exact pk1 | apply zAc)) (src_str rfl t w) rfl rfl rfl rfl rfl rfl (by simp only [maxLen]; omega) (by omega) ?_); clear E S a; intro a w v12 C12 E S hB12; refine ⟨S.stab.sub (by first | (simp; done) | (simp +contextual; done) | (simp [*]; done)), ?_⟩
    obtain ⟨ad, c, rfl⟩ := hB12.slice
    refine zId E rfl rfl rfl (by decide) rfl Tryz.func75 rfl (by kernel_rfl) rfl (put_ret p s A C12 _ (zBv t.length 2 ++ t) w hA (by rw [List.length_append, zBc, zDq]; exact hB12.rd) (S.hp.sel (zAl (by repeat (first | exact pk1 | apply zAc)) (zAl (by repeat (first | exact pk1 | apply zAc)) (zAu _)))) hr) ?_
    rintro v13 w ⟨A', rfl, hA', hT⟩; clear E a; intro a E
    have S := S.call2 (zAl (by repeat (first | exact pk1 | apply zAc)) (zAl (by repeat (first | exact pk1 | apply zAc)) (zAu _))) hT
    refine zDi E rfl rfl rfl (by decide) (fun w => zAd E rfl rfl) ?_; clear E a; intro a E
    refine zBz ?_
    refine zAf hK ?_; clear hK; clear K
    refine wp_ret ?_
    refine ret1 E rfl rfl ?_
    rw [s.putS_eq] at hA'
    refine ⟨_, rfl, _, _, A', rfl, hA', (S.only (Bs := [A', [(bb, cel [str t] 9)], [(bw, cel [ptr p] 63)]]) (zAl (by repeat (first | exact pk1 | apply zAc)) (zAl (by repeat (first | exact pk1 | apply zAc)) (zAl (by repeat (first | exact pk1 | apply zAc)) (zAu _))))).tr, ?_⟩
    simp only [Wr.text, Wr.lay, textE, he, show ¬ t.length > 65535 by omega, if_false, ne_eq, not_true_eq_false]
    rw [s.putS_eq]
theorem text_ret (p : Nat) (s : Wr) (A : zAw) (w0 : World) (hA : WrC 94 p s A) (t : List UInt8) (H : Hp w0 [A]) (hr : s.room ≤ 140737488355328) :
    Ret Tryz.prog 51 #[ptr p, str t] w0 fun _ w' => ∃ A', WrC 94 p (s.text t) A' ∧ Trs w0 w' [A] [A'] := by
  have S := St.begin H
  refine zCl 7 Tryz.func51 rfl rfl (by decide) ?_; intro a E
  refine wp_seq_k ?_; intro K hK
  refine zAb ?_
  refine zAo rfl (zCm E S rfl rfl (by decide) rfl rfl ?_); clear E S a; intro a w b2 E S
  refine zAo rfl (zCm E S rfl rfl (by decide) rfl rfl ?_); clear E S a; intro a w b3 E S
  refine wpList_nil ?_
  refine zAf hK ?_; clear hK; clear K
  have S := S.perm (Bs := [A, [(b3, cel [str t] 9)], [(b2, cel [ptr p] 63)]]) (zAl (by repeat (first | exact pk1 | apply zAc)) (zAl (by repeat (first | exact pk1 | apply zAc)) (zAl (by repeat (first | exact pk1 | apply zAc)) (zAu _))))
  refine zAb ?_
  refine zp E (by first | exact zAn E rfl rfl rfl (S.get (by repeat (first | exact pk1 | apply zAc))) rfl | exact zAj E rfl rfl rfl (by assumption)) ?_; clear E a; intro a E
  refine zp E (zEo E rfl rfl ⟨_, rfl⟩) ?_; clear E a; intro a E
  refine zAp E rfl rfl (by decide) rfl Tryz.func71 rfl (by kernel_rfl) rfl (try_ret (s.text t) 92 _ [ptr b3, ptr b2] Tryz.func92 rfl (by kernel_rfl) p s A [[(b3, cel [str t] 9)], [(b2, cel [ptr p] 63)]] w hA S.hp (fun h => by simp [Wr.text, Wr.lay, h]) (fun h => text_body p s A w hA h b2 b3 t S.hp hr)) ?_
  rintro v6 w ⟨A', hA', hT⟩; clear E a; intro a E
  have S := S.all hT
  refine wpList_nil ?_
  refine end0 E rfl ?_
  exact ⟨_, rfl, A', hA', (S.only (Bs := [A']) (zAl (by repeat (first | exact pk1 | apply zAc)) (zAu _))).tr⟩
theorem zLb (most : Int) (w0 : World) :
    Ret Tryz.prog 28 #[.int .i64 most] w0 fun u w' => ∃ p A, u = ptr p ∧ WrC 94 p ⟨most.toNat, [], 0⟩ A ∧ Trs w0 w' [] [A] := by
  have S := St.begin (w := w0) (As := []) ⟨by simp, by simp⟩
  refine zCu 7 Tryz.func28 rfl rfl (by decide) ?_; intro a E
  refine wp_seq_k ?_; intro K hK
  refine zAb ?_
  refine zp E (zAd E rfl rfl) ?_; clear E a; intro a E
  refine wpList_nil ?_
  refine zAf hK ?_; clear hK; clear K
  refine wp_seq_k ?_; intro K hK
  refine zAb ?_
  refine zp E (zAe E rfl rfl) ?_; clear E a; intro a E
  refine zp E (rn_max E rfl rfl rfl) ?_; clear E a; intro a E
  refine zp E (zCv (cells := [_, _, _]) E rfl rfl rfl) ?_; clear E a; intro a E
  refine zAo rfl (zCm E S rfl rfl (by decide) rfl rfl ?_); clear E S a; intro a w b6 E S
  refine zp E (zAd E rfl rfl) ?_; clear E a; intro a E
  refine wpList_nil ?_
  refine zAf hK ?_; clear hK; clear K
  refine wp_ret ?_
  refine ret1 E rfl rfl ?_
  exact ⟨_, rfl, b6, _, rfl, ⟨.slice none 0 0, [], by simp only [List.append_nil, Int.toNat_eq_max, Int.max_comm]; rfl, Buf.nil _ _⟩, S.tr⟩
theorem done_ret (p : Nat) (s : Wr) (A : zAw) (w0 : World) (hA : WrC 94 p s A) (H : Hp w0 [A]) (hr : s.bs.length ≤ 140737488355328) :
    Ret Tryz.prog 29 #[ptr p] w0 fun u w' => (s.e ≠ 0 ∧ u = .tuple #[.slice none 0 0, .int .i64 s.e] ∧ Trs w0 w' [A] [A]) ∨
      (s.e = 0 ∧ ∃ g, u = .tuple #[.slice (some ⟨g, 0, none⟩) s.bs.length s.bs.length, .int .i64 0] ∧ Trs w0 w' [A] [[(g, cel (byt s.bs) 5)], A]) := by
  obtain ⟨v, C, hAe, hB⟩ := hA
  obtain ⟨ad, c, rfl⟩ := hB.slice
  have S := St.begin H
  have S := (by rw [hAe] at S; exact S.split : St w0 _ w0 ([(p, cel [.int .i64 s.room, .slice ad s.bs.length c, .int .i64 s.e] 94)] :: C :: _))
  refine zCu 18 Tryz.func29 rfl rfl (by decide) ?_; intro a E
  refine wp_seq_k ?_; intro K hK
  refine zAb ?_
  iterate 2 (refine zp E (zAd E rfl rfl) ?_; clear E a; intro a E)
  refine wpList_nil ?_
  refine zAf hK ?_; clear hK; clear K
  iterate 2 (refine wp_seq_k ?_; intro K hK)
  refine zAb ?_
  refine zp E (zAe E rfl rfl) ?_; clear E a; intro a E
  refine zp E (zBm E rfl rfl) ?_; clear E a; intro a E
  refine zp E (by first | exact zAg (q := 2) E rfl rfl rfl | exact zAh (q := 2) E rfl rfl rfl) ?_; clear E a; intro a E
  refine zp E (by first | exact zAn E rfl rfl rfl (S.get (by repeat (first | exact pk1 | apply zAc))) rfl | exact zAj E rfl rfl rfl (by assumption)) ?_; clear E a; intro a E
  refine zp E (by first | exact zDa E rfl rfl rfl | exact zBi E rfl rfl rfl rfl | exact zBs E rfl rfl rfl rfl | exact zBl E rfl rfl rfl) ?_; clear E a; intro a E
  refine wpList_nil ?_
  refine zAf hK ?_; clear hK; clear K
  refine zBh E rfl (fun hb => ?_) (fun hb => ?_)
  · replace hb := Nrm.nrm hb
    refine wp_seq_k ?_; intro K hK
    refine zCb S (.ofL [(0, 0), (1, 0), (2, 0), (3, 0), (4, 0), (5, 0)]) (by kernel_rfl) (by kernel_rfl) ?_
    clear S; intro w S
    refine zm E rfl (fun w h => zAe E rfl rfl) ?_; clear E a; intro a E
    refine zm E rfl (fun w h => zBm E rfl rfl) ?_; clear E a; intro a E
    refine zm E rfl (fun w h => by first | exact zAg (q := 2) E rfl rfl rfl | exact zAh (q := 2) E rfl rfl rfl) ?_; clear E a; intro a E
    refine zm E rfl (fun w h => by first | exact zAn E rfl rfl rfl (h.one (by repeat (first | exact mm1 | assumption | apply List.Mem.tail))) rfl | exact zAj E rfl rfl rfl (by assumption)) ?_; clear E a; intro a E
    iterate 2 (refine zm E rfl (fun w h => zAd E rfl rfl) ?_; clear E a; intro a E)
    refine zBz ?_
    refine zAf hK ?_; clear hK; clear K
    refine wp_ret ?_
    refine zAy ?_; clear hK; clear K
    refine ret2 E rfl rfl rfl ?_
    have S := S.join
    rw [← hAe] at S
    exact ⟨_, rfl, .inl ⟨by omega, rfl, S.tr⟩⟩
  · replace hb := Nrm.nrm hb
    refine wp_skip ?_
    refine zAf hK ?_; clear hK; clear K
    refine wp_seq_k ?_; intro K hK
    refine zAb ?_
    refine zp E (zAe E rfl rfl) ?_; clear E a; intro a E
    refine zp E (zBm E rfl rfl) ?_; clear E a; intro a E
    refine zp E (by first | exact zAg (q := 1) E rfl rfl rfl | exact zAh (q := 1) E rfl rfl rfl) ?_; clear E a; intro a E
    refine zp E (by first | exact zAn E rfl rfl rfl (S.get (by repeat (first | exact pk1 | apply zAc))) rfl | exact zAj E rfl rfl rfl (by assumption)) ?_; clear E a; intro a E
    refine zAp E rfl rfl (by decide) rfl Tryz.func70 rfl (by kernel_rfl) rfl (zIo C _ s.bs _ hB.rd (S.hp.sel (zAl (by repeat (first | exact pk1 | apply zAc)) (zAu _))) (by omega)) ?_
    rintro v17 w ⟨g, rfl, hT⟩; clear E a; intro a E
    have S := S.call2 (zAl (by repeat (first | exact pk1 | apply zAc)) (zAu _)) hT
    iterate 2 (refine zp E (zAd E rfl rfl) ?_; clear E a; intro a E)
    refine wpList_nil ?_
    refine zAf hK ?_; clear hK; clear K
    refine wp_ret ?_
    refine ret2 E rfl rfl rfl ?_
    have S := S.gather (A := [(p, _)]) (B := C) (by repeat (first | exact pk1 | apply zAc)) (by repeat (first | exact pk1 | apply zAc))
    rw [← hAe] at S
    exact ⟨_, rfl, .inr ⟨by omega, g, rfl, (S.only (Bs := [_, A]) (zAl pk2 (zAl pk1 (zAu _)))).tr⟩⟩
end Go.Proofs.YtbogecljkaimdaaGreatDoor
namespace Go.Proofs.YtbogecljkaimdaaGreatDoor
open Go.Sl
set_option maxRecDepth 10000
def RdC (T : TypeId) (p : Nat) (s : Rdr) (A : zAw) : Prop :=
  s.at_ ≤ s.bs.length ∧ s.bs.length ≤ 140737488355328 ∧
  ∃ ad c C, A = [(p, cel [.slice ad s.bs.length c, .int .i64 s.at_, .int .i64 s.e] T)] ++ C ∧ s.bs.length ≤ c ∧ Rd C 1 (.slice ad s.bs.length c) s.bs.length (byt s.bs)
theorem zLc (D : zAw) (v : Value) (bs : List UInt8) (w0 : World) (h : Rd D 1 v bs.length (byt bs)) (H : Hp w0 [D]) (hl : bs.length ≤ 140737488355328) :
    Ret Tryz.prog 43 #[v] w0 fun u w' => ∃ p A, u = ptr p ∧ RdC 108 p ⟨bs, 0, 0⟩ A ∧ Trs w0 w' [D] [A, D] := by
  have S := St.begin H
  refine zCu 7 Tryz.func43 rfl rfl (by decide) ?_; intro a E
  refine wp_seq_k ?_; intro K hK
  refine zAb ?_
  refine zp E (zAd E rfl rfl) ?_; clear E a; intro a E
  refine wpList_nil ?_
  refine zAf hK ?_; clear hK; clear K
  refine wp_seq_k ?_; intro K hK
  refine zAb ?_
  refine zp E (zAe E rfl rfl) ?_; clear E a; intro a E
  refine zAp E rfl rfl (by decide) rfl Tryz.func70 rfl (by kernel_rfl) rfl (zIo D v bs w0 h H (by omega)) ?_
  rintro v4 w ⟨g, rfl, hT⟩; clear E a; intro a E
  have S := S.all hT
  refine zp E (zCv (cells := [_, _, _]) E rfl rfl rfl) ?_; clear E a; intro a E
  refine zAo rfl (zCm E S rfl rfl (by decide) rfl rfl ?_); clear E S a; intro a w b6 E S
  refine zp E (zAd E rfl rfl) ?_; clear E a; intro a E
  refine wpList_nil ?_
  refine zAf hK ?_; clear hK; clear K
  refine wp_ret ?_
  refine ret1 E rfl rfl ?_
  have S := S.gather (A := [(b6, _)]) (B := [(g, _)]) (by repeat (first | exact pk1 | apply zAc)) (by repeat (first | exact pk1 | apply zAc))
  exact ⟨_, rfl, b6, _, rfl, ⟨Nat.zero_le _, hl, _, _, _, rfl, Nat.le_refl _, rd_block rfl (by simp only; omega) _⟩, S.tr⟩
theorem zJj (p : Nat) (s : Rdr) (A : zAw) (w0 : World) (hA : RdC 108 p s A) (H : Hp w0 [A]) (n behind : Nat) (hn : n ≤ 9223372036854775807) (hb : behind ≤ 8) :
    Ret Tryz.prog 89 #[ptr p, .int .i64 n, .int .i64 behind] w0 fun u w' => Trs w0 w' [A] [A] ∧
      ((s.bs.length < s.at_ + behind + n ∧ u = .tuple #[.slice none 0 0, .bool false]) ∨
       (s.at_ + behind + n ≤ s.bs.length ∧ ∃ ad c, u = .tuple #[.slice ad n c, .bool true] ∧ Rd A 1 (.slice ad n c) n (byt (s.cut n behind)))) := by
  obtain ⟨hat, hlen, ad, c, C, hAe, hc, hR⟩ := hA
  have S := St.begin H
  have S := (by rw [hAe] at S; exact S.split : St w0 _ w0 ([(p, cel [.slice ad s.bs.length c, .int .i64 s.at_, .int .i64 s.e] 108)] :: C :: _))
  refine zFy 41 Tryz.func89 rfl rfl (by decide) ?_; intro a E
  refine wp_seq_k ?_; intro K hK
  refine zAb ?_
  iterate 2 (refine zp E (zAd E rfl rfl) ?_; clear E a; intro a E)
  refine wpList_nil ?_
  refine zAf hK ?_; clear hK; clear K
  iterate 2 (refine wp_seq_k ?_; intro K hK)
  refine zCb S (.ofL [(0, 0), (1, 0), (2, 0), (3, 0), (4, 0), (5, 0), (6, 0), (7, 0), (8, 0), (9, 0), (10, 0), (11, 0), (12, 0), (13, 0)]) (by kernel_rfl) (by kernel_rfl) ?_
  clear S; intro w S
  iterate 2 (refine zm E rfl (fun w h => zAe E rfl rfl) ?_; clear E a; intro a E)
  refine zm E rfl (fun w h => zBm E rfl rfl) ?_; clear E a; intro a E
  refine zm E rfl (fun w h => by first | exact zAg (q := 0) E rfl rfl rfl | exact zAh (q := 0) E rfl rfl rfl) ?_; clear E a; intro a E
  refine zm E rfl (fun w h => by first | exact zAn E rfl rfl rfl (h.one (by repeat (first | exact mm1 | assumption | apply List.Mem.tail))) rfl | exact zAj E rfl rfl rfl (by assumption)) ?_; clear E a; intro a E
  refine zm E rfl (fun w h => by first | exact zBu E rfl rfl rfl | exact zAx E rfl rfl rfl | exact zAq E rfl rfl rfl) ?_; clear E a; intro a E
  refine zm E rfl (fun w h => zAe E rfl rfl) ?_; clear E a; intro a E
  refine zm E rfl (fun w h => zBm E rfl rfl) ?_; clear E a; intro a E
  refine zm E rfl (fun w h => by first | exact zAg (q := 1) E rfl rfl rfl | exact zAh (q := 1) E rfl rfl rfl) ?_; clear E a; intro a E
  refine zm E rfl (fun w h => by first | exact zAn E rfl rfl rfl (h.one (by repeat (first | exact mm1 | assumption | apply List.Mem.tail))) rfl | exact zAj E rfl rfl rfl (by assumption)) ?_; clear E a; intro a E
  refine zm E rfl (fun w h => zEe E rfl rfl rfl (by first | exact ws1 (by omega) (by omega) | exact w_in (by omega) | exact zBw (by omega) | exact rfl)) ?_; clear E a; intro a E
  refine zm E rfl (fun w h => zAe E rfl rfl) ?_; clear E a; intro a E
  refine zm E rfl (fun w h => zEe E rfl rfl rfl (by first | exact ws1 (by omega) (by omega) | exact w_in (by omega) | exact zBw (by omega) | exact rfl)) ?_; clear E a; intro a E
  refine zm E rfl (fun w h => zDt E rfl rfl rfl) ?_; clear E a; intro a E
  refine zBz ?_
  refine zAf hK ?_; clear hK; clear K
  refine zBh E rfl (fun hb => ?_) (fun hb => ?_)
  · replace hb := Nrm.nrm hb
    have S := S.join; rw [← hAe] at S
    refine wp_seq_k ?_; intro K hK
    refine zAb ?_
    iterate 2 (refine zp E (zAd E rfl rfl) ?_; clear E a; intro a E)
    refine wpList_nil ?_
    refine zAf hK ?_; clear hK; clear K
    refine wp_ret ?_
    refine zAy ?_; clear hK; clear K
    refine ret2 E rfl rfl rfl ?_
    exact ⟨_, rfl, S.tr, .inl ⟨by omega, rfl⟩⟩
  · replace hb := Nrm.nrm hb
    refine wp_skip ?_
    refine zAf hK ?_; clear hK; clear K
    refine wp_seq_k ?_; intro K hK
    refine zCb S (.ofL [(0, 0), (1, 0), (2, 0), (3, 0), (4, 0), (5, 0), (6, 0), (7, 0), (8, 0), (9, 0), (10, 0), (11, 0), (12, 0), (13, 0), (14, 0), (15, 0), (16, 0), (17, 0), (18, 0), (19, 0), (20, 0)]) (by kernel_rfl) (by kernel_rfl) ?_
    clear S; intro w S
    refine zm E rfl (fun w h => zAe E rfl rfl) ?_; clear E a; intro a E
    refine zm E rfl (fun w h => zBm E rfl rfl) ?_; clear E a; intro a E
    refine zm E rfl (fun w h => by first | exact zAg (q := 0) E rfl rfl rfl | exact zAh (q := 0) E rfl rfl rfl) ?_; clear E a; intro a E
    refine zm E rfl (fun w h => by first | exact zAn E rfl rfl rfl (h.one (by repeat (first | exact mm1 | assumption | apply List.Mem.tail))) rfl | exact zAj E rfl rfl rfl (by assumption)) ?_; clear E a; intro a E
    refine zm E rfl (fun w h => zAe E rfl rfl) ?_; clear E a; intro a E
    refine zm E rfl (fun w h => zBm E rfl rfl) ?_; clear E a; intro a E
    refine zm E rfl (fun w h => by first | exact zAg (q := 1) E rfl rfl rfl | exact zAh (q := 1) E rfl rfl rfl) ?_; clear E a; intro a E
    refine zm E rfl (fun w h => by first | exact zAn E rfl rfl rfl (h.one (by repeat (first | exact mm1 | assumption | apply List.Mem.tail))) rfl | exact zAj E rfl rfl rfl (by assumption)) ?_; clear E a; intro a E
    refine zm E rfl (fun w h => zAe E rfl rfl) ?_; clear E a; intro a E
    refine zm E rfl (fun w h => zBt E rfl rfl rfl (by first | exact wa1 (by omega) | exact w_in (by omega) | exact zBw (by omega) | exact rfl)) ?_; clear E a; intro a E
    refine zm E rfl (fun w h => zAe E rfl rfl) ?_; clear E a; intro a E
    refine zm E rfl (fun w h => zBm E rfl rfl) ?_; clear E a; intro a E
    refine zm E rfl (fun w h => by first | exact zAg (q := 1) E rfl rfl rfl | exact zAh (q := 1) E rfl rfl rfl) ?_; clear E a; intro a E
    refine zm E rfl (fun w h => by first | exact zAn E rfl rfl rfl (h.one (by repeat (first | exact mm1 | assumption | apply List.Mem.tail))) rfl | exact zAj E rfl rfl rfl (by assumption)) ?_; clear E a; intro a E
    refine zm E rfl (fun w h => zAe E rfl rfl) ?_; clear E a; intro a E
    refine zm E rfl (fun w h => zBt E rfl rfl rfl (by first | exact wa1 (by omega) | exact w_in (by omega) | exact zBw (by omega) | exact rfl)) ?_; clear E a; intro a E
    refine zm E rfl (fun w h => zAe E rfl rfl) ?_; clear E a; intro a E
    refine zm E rfl (fun w h => zBt E rfl rfl rfl (by first | exact wa1 (by omega) | exact w_in (by omega) | exact zBw (by omega) | exact rfl)) ?_; clear E a; intro a E
    refine zm E rfl (fun w h => zGi (s := 1) E rfl rfl rfl rfl rfl rfl rfl rfl (by omega) (by omega)) ?_; clear E a; intro a E
    obtain ⟨ad2, c2, hs2, hR2⟩ := hR.cut (lo := s.at_ + behind) (hi := s.at_ + behind + n) (by omega) (by omega) (by omega)
    rw [hs2] at E
    iterate 2 (refine zm E rfl (fun w h => zAd E rfl rfl) ?_; clear E a; intro a E)
    refine zBz ?_
    refine zAf hK ?_; clear hK; clear K
    refine wp_ret ?_
    refine ret2 E rfl rfl rfl ?_
    have S := S.join
    rw [← hAe] at S
    rw [Nat.mul_one, Nat.mul_one, show s.at_ + behind + n - (s.at_ + behind) = n by omega, zJi, zHe] at hR2
    rw [show s.at_ + behind + n - (s.at_ + behind) = n by omega]
    exact ⟨_, rfl, S.tr, .inr ⟨by omega, ad2, c2, rfl, hR2.sub (by rw [hAe]; exact fun x hx => List.mem_append_right _ hx)⟩⟩
theorem rtry_no (p : Nat) (s : Rdr) (A : zAw) (fv : Value) (w0 : World) (hA : RdC 108 p s A) (H : Hp w0 [A]) (he : s.e ≠ 0) :
    Ret Tryz.prog 87 #[ptr p, fv] w0 fun _ w' => w' = w0 := by
  obtain ⟨hat, hlen, ad, c, C, rfl, hR⟩ := hA
  have S := (St.begin H).split
  refine zCl 14 Tryz.func87 rfl rfl (by decide) ?_; intro a E
  refine wp_seq_k ?_; intro K hK
  refine zAb ?_
  refine zp E (zAe E rfl rfl) ?_; clear E a; intro a E
  refine zp E (zBm E rfl rfl) ?_; clear E a; intro a E
  refine zp E (by first | exact zAg (q := 2) E rfl rfl rfl | exact zAh (q := 2) E rfl rfl rfl) ?_; clear E a; intro a E
  refine zp E (by first | exact zAn E rfl rfl rfl (S.get (by repeat (first | exact pk1 | apply zAc))) rfl | exact zAj E rfl rfl rfl (by assumption)) ?_; clear E a; intro a E
  refine zp E (by first | exact zCc E rfl rfl rfl | exact zAs E rfl rfl rfl rfl | exact zBb E rfl rfl rfl rfl | exact zAt E rfl rfl rfl) ?_; clear E a; intro a E
  refine wpList_nil ?_
  refine zAf hK ?_; clear hK; clear K
  refine zBh E rfl (fun hb => ?_) (fun hb => ?_)
  · replace hb := Nrm.nrm hb
    exfalso; omega
  · replace hb := Nrm.nrm hb
    refine wp_skip ?_
    refine end0 E rfl ?_
    exact ⟨_, rfl, rfl⟩
theorem rtry_yes (s2 : Rdr) (X : List zAw → Prop) (f : FuncId) (fn : Func) (cap : List Value) (hf : Tryz.prog.funcs[f]? = some fn) (hfb : fn.body.isSome = true) (hfn : (fn.name == "runtime.NumGoroutine") = false)
    (p : Nat) (s : Rdr) (A : zAw) (Rs : List zAw) (w0 : World) (hA : RdC 108 p s A) (H : Hp w0 (A :: Rs)) (he : s.e = 0)
    (hc : Ret Tryz.prog f cap.toArray w0 fun u w' => ∃ (e' at' : Nat) (A' : zAw) (Rs' : List zAw), u = .int .i64 e' ∧ RdC 108 p { s with at_ := at' } A' ∧ Trs w0 w' (A :: Rs) (A' :: Rs') ∧ s2 = { s with at_ := at', e := e' } ∧ X Rs') :
    Ret Tryz.prog 87 #[ptr p, .func (.func f) #[] cap.toArray] w0 fun _ w' => ∃ (A' : zAw) (Rs' : List zAw), RdC 108 p s2 A' ∧ Trs w0 w' (A :: Rs) (A' :: Rs') ∧ X Rs' := by
  obtain ⟨hat, hlen, ad, c, C, rfl, hR⟩ := hA
  have S := (St.begin H).split
  refine zCl 14 Tryz.func87 rfl rfl (by decide) ?_; intro a E
  refine wp_seq_k ?_; intro K hK
  refine zAb ?_
  refine zp E (zAe E rfl rfl) ?_; clear E a; intro a E
  refine zp E (zBm E rfl rfl) ?_; clear E a; intro a E
  refine zp E (by first | exact zAg (q := 2) E rfl rfl rfl | exact zAh (q := 2) E rfl rfl rfl) ?_; clear E a; intro a E
  refine zp E (by first | exact zAn E rfl rfl rfl (S.get (by repeat (first | exact pk1 | apply zAc))) rfl | exact zAj E rfl rfl rfl (by assumption)) ?_; clear E a; intro a E
  refine zp E (by first | exact zCc E rfl rfl rfl | exact zAs E rfl rfl rfl rfl | exact zBb E rfl rfl rfl rfl | exact zAt E rfl rfl rfl) ?_; clear E a; intro a E
  refine wpList_nil ?_
  refine zAf hK ?_; clear hK; clear K
  refine zBh E rfl (fun hb => ?_) (fun hb => ?_)
  · replace hb := Nrm.nrm hb
    refine zAb ?_
    iterate 2 (refine zp E (zAe E rfl rfl) ?_; clear E a; intro a E)
    refine zCy E rfl rfl (by decide) rfl rfl hf hfb hfn rfl (hc) ?_
    rintro v11 w ⟨e', at', A', Rs', rfl, ⟨hat', hlen', ad', c', C', rfl, hR'⟩, hT, rfl, hX⟩; clear E a; intro a E
    have S := ((St.begin H).all hT).split
    refine zp E (zBm E rfl rfl) ?_; clear E a; intro a E
    refine zp E (by first | exact zAg (q := 2) E rfl rfl rfl | exact zAh (q := 2) E rfl rfl rfl) ?_; clear E a; intro a E
    refine zAo rfl (zBp E S rfl rfl rfl rfl rfl rfl (by repeat (first | exact pk1 | apply zAc)) (by first | exact Nat.le_of_ble_eq_true rfl | (simp; done) | (simp; omega)) ?_); clear E S a; intro a w E S; try dsimp only [List.set] at S
    refine wpList_nil ?_
    refine end0 E rfl ?_
    exact ⟨_, rfl, _, Rs', ⟨hat', hlen', ad', c', C', rfl, hR'⟩, S.join.tr, hX⟩
  · replace hb := Nrm.nrm hb
    exfalso; omega
theorem rtry_ret (s2 : Rdr) (X : List zAw → Prop) (f : FuncId) (fn : Func) (cap : List Value) (hf : Tryz.prog.funcs[f]? = some fn) (hfb : fn.body.isSome = true) (hfn : (fn.name == "runtime.NumGoroutine") = false)
    (p : Nat) (s : Rdr) (A : zAw) (Rs : List zAw) (w0 : World) (hA : RdC 108 p s A) (H : Hp w0 (A :: Rs)) (h0 : s.e ≠ 0 → s2 = s ∧ X Rs)
    (hc : s.e = 0 → Ret Tryz.prog f cap.toArray w0 fun u w' => ∃ (e' at' : Nat) (A' : zAw) (Rs' : List zAw), u = .int .i64 e' ∧ RdC 108 p { s with at_ := at' } A' ∧ Trs w0 w' (A :: Rs) (A' :: Rs') ∧ s2 = { s with at_ := at', e := e' } ∧ X Rs') :
    Ret Tryz.prog 87 #[ptr p, .func (.func f) #[] cap.toArray] w0 fun _ w' => ∃ (A' : zAw) (Rs' : List zAw), RdC 108 p s2 A' ∧ Trs w0 w' (A :: Rs) (A' :: Rs') ∧ X Rs' := by
  by_cases he : s.e = 0
  · exact rtry_yes s2 X f fn cap hf hfb hfn p s A Rs w0 hA H he (hc he)
  · refine (rtry_no p s A _ w0 hA (H.sel (Rs := Rs) (List.Perm.refl _)) he).mono ?_
    rintro _ w' rfl
    exact ⟨A, Rs, by rw [(h0 he).1]; exact hA, Trs.refl _ _, (h0 he).2⟩
theorem rnum_body (p : Nat) (s : Rdr) (A : zAw) (w0 : World) (hA : RdC 108 p s A) (he : s.e = 0) (bk bp bo : Nat) (k : Int)
    (H : Hp w0 [A, [(bk, cel [.int .i64 k] 3)], [(bp, cel [ptr p] 79)], [(bo, cel [.int .u64 0] 27)]]) :
    Ret Tryz.prog 88 #[ptr bk, ptr bp, ptr bo] w0 fun u w' => ∃ (e' at' : Nat) (A' : zAw) (Rs' : List zAw), u = .int .i64 e' ∧ RdC 108 p { s with at_ := at' } A' ∧
      Trs w0 w' [A, [(bk, cel [.int .i64 k] 3)], [(bp, cel [ptr p] 79)], [(bo, cel [.int .u64 0] 27)]] (A' :: Rs') ∧ (s.num k).2 = { s with at_ := at', e := e' } ∧ ∃ L, Rs'.Perm ([(bo, cel [.int .u64 (s.num k).1] 27)] :: L) := by
  have S := St.begin H
  refine zFy 30 Tryz.func88 rfl rfl (by decide) ?_; intro a E
  refine wp_seq_k ?_; intro K hK
  refine zAb ?_
  refine zp E (zAd E rfl rfl) ?_; clear E a; intro a E
  refine wpList_nil ?_
  refine zAf hK ?_; clear hK; clear K
  iterate 2 (refine wp_seq_k ?_; intro K hK)
  refine zAb ?_
  refine zp E (by first | exact zAn E rfl rfl rfl (S.get (by repeat (first | exact pk1 | apply zAc))) rfl | exact zAj E rfl rfl rfl (by assumption)) ?_; clear E a; intro a E
  refine zp E (zCk E rfl rfl rfl) ?_; clear E a; intro a E
  refine zp E (zAe E rfl rfl) ?_; clear E a; intro a E
  refine zAr E (t := 8) rfl (fun hb8 => ?_) (fun hb8 => ?_)
  · have hb8n := hb8; replace hb8n := Nrm.nrm hb8n
    iterate 2 (refine zn E hb8 ?_; clear E a; intro a E)
    refine zp E (zAk E rfl rfl hb8 rfl) ?_; clear E a; intro a E
    refine wpList_nil ?_
    refine zAf hK ?_; clear hK; clear K
    refine zCe E rfl rfl ?_
    refine wp_seq_k ?_; intro K hK
    refine zAb ?_
    refine zp E (zAd E rfl rfl) ?_; clear E a; intro a E
    refine wpList_nil ?_
    refine zAf hK ?_; clear hK; clear K
    refine wp_ret ?_
    refine zAy ?_; clear hK; clear K
    refine ret1 E rfl rfl ?_
    have hv : s.num k = (0, { s with e := 1 }) := by simp [Rdr.num, he, show k < 1 ∨ 8 < k by omega]
    exact ⟨_, rfl, 1, s.at_, A, _, rfl, hA, (S.only (Bs := [A, [(bo, cel [.int .u64 0] 27)]]) (zAl (by repeat (first | exact pk1 | apply zAc)) (zAl (by repeat (first | exact pk1 | apply zAc)) (zAu _)))).tr, by rw [hv], [], by first | (rw [hv]; done) | (rw [hv]; exact pk1)⟩
  · have hb8n := hb8; replace hb8n := Nrm.nrm hb8n
    refine zy E hb8 (by first | exact zAn E rfl rfl rfl (S.get (by repeat (first | exact pk1 | apply zAc))) rfl | exact zAj E rfl rfl rfl (by assumption)) ?_; clear E a; intro a E
    refine zy E hb8 (zDt E rfl rfl rfl) ?_; clear E a; intro a E
    refine zp E (zAi E rfl rfl hb8 rfl) ?_; clear E a; intro a E
    refine wpList_nil ?_
    refine zAf hK ?_; clear hK; clear K
    refine zBh E rfl (fun hb => ?_) (fun hb => ?_)
    · replace hb := Nrm.nrm hb
      refine wp_seq_k ?_; intro K hK
      refine zAb ?_
      refine zp E (zAd E rfl rfl) ?_; clear E a; intro a E
      refine wpList_nil ?_
      refine zAf hK ?_; clear hK; clear K
      refine wp_ret ?_
      refine zAy ?_; clear hK; clear K
      refine ret1 E rfl rfl ?_
      have hv : s.num k = (0, { s with e := 1 }) := by simp [Rdr.num, he, show k < 1 ∨ 8 < k by omega]
      exact ⟨_, rfl, 1, s.at_, A, _, rfl, hA, (S.only (Bs := [A, [(bo, cel [.int .u64 0] 27)]]) (zAl (by repeat (first | exact pk1 | apply zAc)) (zAl (by repeat (first | exact pk1 | apply zAc)) (zAu _)))).tr, by rw [hv], [], by first | (rw [hv]; done) | (rw [hv]; exact pk1)⟩
    · replace hb := Nrm.nrm hb
      refine wp_skip ?_
      refine zAf hK ?_; clear hK; clear K
      refine wp_seq_k ?_; intro K hK
      obtain ⟨kn, rfl⟩ : ∃ kn : Nat, k = kn := ⟨k.toNat, by omega⟩
      refine zAb ?_
      iterate 2 (refine zp E (by first | exact zAn E rfl rfl rfl (S.get (by repeat (first | exact pk1 | apply zAc))) rfl | exact zAj E rfl rfl rfl (by assumption)) ?_; clear E a; intro a E)
      refine zAp E rfl rfl (by decide) rfl Tryz.func89 rfl (by kernel_rfl) rfl (zJj p s A _ hA (S.hp.sel (zAl (by repeat (first | exact pk1 | apply zAc)) (zAu _))) kn 0 (by omega) (by omega)) ?_
      rintro v15 w ⟨hT, hres⟩; clear E a; intro a E
      have S := S.call1 (zAl (by repeat (first | exact pk1 | apply zAc)) (zAu _)) hT
      rcases hres with ⟨hlt, rfl⟩ | ⟨hle, adb, cb, rfl, hR⟩
      · skip
        refine zp E (zAe E rfl rfl) ?_; clear E a; intro a E
        iterate 2 (refine zp E (zBr E rfl rfl rfl) ?_; clear E a; intro a E)
        iterate 2 (refine zp E (zAd E rfl rfl) ?_; clear E a; intro a E)
        refine wpList_nil ?_
        refine zAf hK ?_; clear hK; clear K
        iterate 2 (refine wp_seq_k ?_; intro K hK)
        refine zAb ?_
        refine zp E (zAe E rfl rfl) ?_; clear E a; intro a E
        refine zp E (zDe E rfl rfl) ?_; clear E a; intro a E
        refine wpList_nil ?_
        refine zAf hK ?_; clear hK; clear K
        refine zCe E rfl (rfl) ?_
        refine wp_seq_k ?_; intro K hK
        refine zAb ?_
        refine zp E (zAd E rfl rfl) ?_; clear E a; intro a E
        refine wpList_nil ?_
        refine zAf hK ?_; clear hK; clear K
        refine wp_ret ?_
        refine zAy ?_; clear hK; clear K
        refine ret1 E rfl rfl ?_
        have hv : s.num kn = (0, { s with e := 10 }) := by simp [Rdr.num, he, show ¬ ((kn : Int) < 1 ∨ 8 < (kn : Int)) by omega, show s.bs.length < s.at_ + kn by omega]
        exact ⟨_, rfl, 10, s.at_, A, _, rfl, hA, (S.only (Bs := [A, [(bo, cel [.int .u64 0] 27)]]) (zAl (by repeat (first | exact pk1 | apply zAc)) (zAl (by repeat (first | exact pk1 | apply zAc)) (zAu _)))).tr, by rw [hv], [], by first | (rw [hv]; done) | (rw [hv]; exact pk1)⟩
      · skip
        refine zp E (zAe E rfl rfl) ?_; clear E a; intro a E
        iterate 2 (refine zp E (zBr E rfl rfl rfl) ?_; clear E a; intro a E)
        iterate 2 (refine zp E (zAd E rfl rfl) ?_; clear E a; intro a E)
        refine wpList_nil ?_
        refine zAf hK ?_; clear hK; clear K
        iterate 2 (refine wp_seq_k ?_; intro K hK)
        refine zAb ?_
        refine zp E (zAe E rfl rfl) ?_; clear E a; intro a E
        refine zp E (zDe E rfl rfl) ?_; clear E a; intro a E
        refine wpList_nil ?_
        refine zAf hK ?_; clear hK; clear K
        refine zDd E rfl (rfl) ?_
        refine wp_skip ?_
        refine zAf hK ?_; clear hK; clear K
        refine wp_seq_k ?_; intro K hK
        refine zAb ?_
        refine zp E (zAe E rfl rfl) ?_; clear E a; intro a E
        refine zAp E rfl rfl (by decide) rfl Tryz.func73 rfl (by kernel_rfl) rfl (zKa A _ (s.cut kn 0) _ (by rw [s.cut_length kn 0 hle]; exact hR) (S.stab.at (by repeat (first | exact mm1 | assumption | apply List.Mem.tail))) (by rw [s.cut_length kn 0 hle]; omega)) ?_
        rintro v21 w ⟨rfl, rfl⟩; clear E a; intro a E
        refine zAo rfl (zBp E S rfl rfl rfl rfl rfl rfl (by repeat (first | exact pk1 | apply zAc)) (by first | exact Nat.le_of_ble_eq_true rfl | (simp; done) | (simp; omega)) ?_); clear E S a; intro a w E S; try dsimp only [List.set] at S
        refine wpList_nil ?_
        obtain ⟨hat, hlen, ad, c, C, rfl, hc, hRC⟩ := hA
        have S := (S.perm (Bs := [[(p, cel [.slice ad s.bs.length c, .int .i64 s.at_, .int .i64 s.e] 108)] ++ C, _, _, _]) (zAl (by repeat (first | exact pk1 | apply zAc)) (zAl (by repeat (first | exact pk1 | apply zAc)) (zAl (by repeat (first | exact pk1 | apply zAc)) (zAl (by repeat (first | exact pk1 | apply zAc)) (zAu _)))))).split
        refine zAf hK ?_; clear hK; clear K
        refine wp_seq_k ?_; intro K hK
        refine zCb S (.ofL [(0, 0), (1, 0), (2, 0), (3, 0), (4, 0), (5, 0), (6, 0), (7, 0), (8, 3)]) (by kernel_rfl) (by kernel_rfl) ?_
        clear S; intro w S
        refine zm E rfl (fun w h => by first | exact zAn E rfl rfl rfl (h.one (by repeat (first | exact mm1 | assumption | apply List.Mem.tail))) rfl | exact zAj E rfl rfl rfl (by assumption)) ?_; clear E a; intro a E
        refine zm E rfl (fun w h => zBm E rfl rfl) ?_; clear E a; intro a E
        refine zm E rfl (fun w h => by first | exact zAg (q := 1) E rfl rfl rfl | exact zAh (q := 1) E rfl rfl rfl) ?_; clear E a; intro a E
        iterate 2 (refine zm E rfl (fun w h => by first | exact zAn E rfl rfl rfl (h.one (by repeat (first | exact mm1 | assumption | apply List.Mem.tail))) rfl | exact zAj E rfl rfl rfl (by assumption)) ?_; clear E a; intro a E)
        refine zm E rfl (fun w h => zBt E rfl rfl rfl (by first | exact wa1 (by omega) | exact w_in (by omega) | exact zBw (by omega) | exact rfl)) ?_; clear E a; intro a E
        refine zm E rfl (fun w h => zBm E rfl rfl) ?_; clear E a; intro a E
        refine zm E rfl (fun w h => by first | exact zAg (q := 1) E rfl rfl rfl | exact zAh (q := 1) E rfl rfl rfl) ?_; clear E a; intro a E
        refine zCt rfl rfl (zBp E S rfl rfl rfl rfl rfl rfl (by repeat (first | exact pk1 | apply zAc)) (by first | exact Nat.le_of_ble_eq_true rfl | (simp; done) | (simp; omega)) ?_); clear E S a; intro a w E S; try dsimp only [List.set] at S
        refine zBz ?_
        refine zAf hK ?_; clear hK; clear K
        refine wp_seq_k ?_; intro K hK
        replace E := E.keep (e' := [(3, _)]) (zAa rfl (zAm))
        refine zAb ?_
        refine zp E (zAd E rfl rfl) ?_; clear E a; intro a E
        refine wpList_nil ?_
        refine zAf hK ?_; clear hK; clear K
        refine wp_ret ?_
        refine ret1 E rfl rfl ?_
        have hv : s.num kn = (zDf (s.cut kn 0), { s with at_ := s.at_ + kn }) := by simp [Rdr.num, he, show ¬ ((kn : Int) < 1 ∨ 8 < (kn : Int)) by omega, show ¬ s.bs.length < s.at_ + kn by omega]
        exact ⟨_, rfl, 0, s.at_ + kn, _, _, rfl, ⟨by simp only; omega, hlen, ad, c, C, rfl, hc, hRC⟩, S.join.tr, by rw [hv, ← he], _, by first | (rw [hv]; done) | (rw [hv]; exact pk1)⟩
theorem zEf (p : Nat) (s : Rdr) (A : zAw) (w0 : World) (hA : RdC 108 p s A) (H : Hp w0 [A]) (k : Int) :
    Ret Tryz.prog 44 #[ptr p, .int .i64 k] w0 fun u w' => ∃ A', u = .int .u64 (s.num k).1 ∧ RdC 108 p (s.num k).2 A' ∧ Trs w0 w' [A] [A'] := by
  have S := St.begin H
  refine zCl 10 Tryz.func44 rfl rfl (by decide) ?_; intro a E
  refine wp_seq_k ?_; intro K hK
  refine zAb ?_
  refine zAo rfl (zCm E S rfl rfl (by decide) rfl rfl ?_); clear E S a; intro a w b2 E S
  refine zAo rfl (zCm E S rfl rfl (by decide) rfl rfl ?_); clear E S a; intro a w b3 E S
  refine zp E (zAd E rfl rfl) ?_; clear E a; intro a E
  refine wpList_nil ?_
  refine zAf hK ?_; clear hK; clear K
  refine wp_seq_k ?_; intro K hK
  refine zAb ?_
  refine zAo rfl (zBy E S rfl rfl (by decide) rfl rfl rfl ?_); clear E S a; intro a w b5 E S
  refine wpList_nil ?_
  refine zAf hK ?_; clear hK; clear K
  refine wp_seq_k ?_; intro K hK
  have S := S.perm (Bs := [A, [(b3, cel [.int .i64 k] 3)], [(b2, cel [ptr p] 79)], [(b5, cel [.int .u64 0] 27)]]) (zAl (by repeat (first | exact pk1 | apply zAc)) (zAl (by repeat (first | exact pk1 | apply zAc)) (zAl (by repeat (first | exact pk1 | apply zAc)) (zAl (by repeat (first | exact pk1 | apply zAc)) (zAu _)))))
  refine zAb ?_
  refine zp E (by first | exact zAn E rfl rfl rfl (S.get (by repeat (first | exact pk1 | apply zAc))) rfl | exact zAj E rfl rfl rfl (by assumption)) ?_; clear E a; intro a E
  refine zp E (zEo E rfl rfl ⟨_, rfl⟩) ?_; clear E a; intro a E
  refine zAp E rfl rfl (by decide) rfl Tryz.func87 rfl (by kernel_rfl) rfl (rtry_ret (s.num k).2 (fun Rs' => ∃ L, Rs'.Perm ([(b5, cel [.int .u64 (s.num k).1] 27)] :: L)) 88 _ [ptr b3, ptr b2, ptr b5] Tryz.func88 rfl (by kernel_rfl) p s A [[(b3, cel [.int .i64 k] 3)], [(b2, cel [ptr p] 79)], [(b5, cel [.int .u64 0] 27)]] w hA S.hp (fun h => ⟨by simp [Rdr.num, h], _, by simp only [Rdr.num, h, if_true, ne_eq, not_false_eq_true]; exact pk3⟩) (fun h => rnum_body p s A w hA h b3 b2 b5 k S.hp)) ?_
  rintro v8 w ⟨A', Rs', hA', hT, L, hL⟩; clear E a; intro a E
  have S := (S.all hT).perm (hL.cons A')
  refine wpList_nil ?_
  refine zAf hK ?_; clear hK; clear K
  refine wp_seq_k ?_; intro K hK
  refine zAb ?_
  refine zp E (by first | exact zAn E rfl rfl rfl (S.get (by repeat (first | exact pk1 | apply zAc))) rfl | exact zAj E rfl rfl rfl (by assumption)) ?_; clear E a; intro a E
  refine zp E (zAd E rfl rfl) ?_; clear E a; intro a E
  refine wpList_nil ?_
  refine zAf hK ?_; clear hK; clear K
  refine wp_ret ?_
  refine ret1 E rfl rfl ?_
  exact ⟨_, rfl, A', rfl, hA', (S.only (Bs := [A']) (zAl (by repeat (first | exact pk1 | apply zAc)) (zAu _))).tr⟩
theorem rbytes_body (p : Nat) (s : Rdr) (A : zAw) (w0 : World) (hA : RdC 108 p s A) (he : s.e = 0) (bk bp bo : Nat) (k : Int) (hk : k ≤ 9223372036854775807)
    (H : Hp w0 [A, [(bk, cel [.int .i64 k] 3)], [(bp, cel [ptr p] 79)], [(bo, cel [.slice none 0 0] 24)], []]) :
    Ret Tryz.prog 98 #[ptr bk, ptr bp, ptr bo] w0 fun u w' => ∃ (e' at' : Nat) (A' : zAw) (Rs' : List zAw), u = .int .i64 e' ∧ RdC 108 p { s with at_ := at' } A' ∧
      Trs w0 w' [A, [(bk, cel [.int .i64 k] 3)], [(bp, cel [ptr p] 79)], [(bo, cel [.slice none 0 0] 24)], []] (A' :: Rs') ∧ (s.bytes k).2 = { s with at_ := at', e := e' } ∧
      ∃ v C L, Rs'.Perm ([(bo, cel [v] 24)] :: C :: L) ∧ Buf C 5 1 v (s.bytes k).1.length (byt (s.bytes k).1) := by
  have S := St.begin H
  refine zFy 26 Tryz.func98 rfl rfl (by decide) ?_; intro a E
  refine wp_seq_k ?_; intro K hK
  refine zAb ?_
  refine zp E (zAd E rfl rfl) ?_; clear E a; intro a E
  refine wpList_nil ?_
  refine zAf hK ?_; clear hK; clear K
  iterate 2 (refine wp_seq_k ?_; intro K hK)
  refine zAb ?_
  refine zp E (by first | exact zAn E rfl rfl rfl (S.get (by repeat (first | exact pk1 | apply zAc))) rfl | exact zAj E rfl rfl rfl (by assumption)) ?_; clear E a; intro a E
  refine zp E (zCk E rfl rfl rfl) ?_; clear E a; intro a E
  refine wpList_nil ?_
  refine zAf hK ?_; clear hK; clear K
  refine zBh E rfl (fun hb => ?_) (fun hb => ?_)
  · replace hb := Nrm.nrm hb
    refine wp_seq_k ?_; intro K hK
    refine zAb ?_
    refine zp E (zAd E rfl rfl) ?_; clear E a; intro a E
    refine wpList_nil ?_
    refine zAf hK ?_; clear hK; clear K
    refine wp_ret ?_
    refine zAy ?_; clear hK; clear K
    refine ret1 E rfl rfl ?_
    have hv : s.bytes k = ([], { s with e := 1 }) := by simp [Rdr.bytes, he, show k < 0 by omega]
    exact ⟨_, rfl, 1, s.at_, A, _, rfl, hA, (S.only (Bs := [A, [(bo, cel [.slice none 0 0] 24)], []]) (zAl (by repeat (first | exact pk1 | apply zAc)) (zAl (by repeat (first | exact pk1 | apply zAc)) (zAl (by repeat (first | exact pk1 | apply zAc)) (zAu _))))).tr, by rw [hv], _, [], [], pk1, by rw [hv]; exact Buf.nil _ _⟩
  · replace hb := Nrm.nrm hb
    refine wp_skip ?_
    refine zAf hK ?_; clear hK; clear K
    refine wp_seq_k ?_; intro K hK
    obtain ⟨kn, rfl⟩ : ∃ kn : Nat, k = kn := ⟨k.toNat, by omega⟩
    refine zAb ?_
    iterate 2 (refine zp E (by first | exact zAn E rfl rfl rfl (S.get (by repeat (first | exact pk1 | apply zAc))) rfl | exact zAj E rfl rfl rfl (by assumption)) ?_; clear E a; intro a E)
    refine zAp E rfl rfl (by decide) rfl Tryz.func89 rfl (by kernel_rfl) rfl (zJj p s A _ hA (S.hp.sel (zAl (by repeat (first | exact pk1 | apply zAc)) (zAu _))) kn 0 (by omega) (by omega)) ?_
    rintro v11 w ⟨hT, hres⟩; clear E a; intro a E
    have S := S.call1 (zAl (by repeat (first | exact pk1 | apply zAc)) (zAu _)) hT
    rcases hres with ⟨hlt, rfl⟩ | ⟨hle, adb, cb, rfl, hR⟩
    · skip
      refine zp E (zAe E rfl rfl) ?_; clear E a; intro a E
      iterate 2 (refine zp E (zBr E rfl rfl rfl) ?_; clear E a; intro a E)
      iterate 2 (refine zp E (zAd E rfl rfl) ?_; clear E a; intro a E)
      refine wpList_nil ?_
      refine zAf hK ?_; clear hK; clear K
      iterate 2 (refine wp_seq_k ?_; intro K hK)
      refine zAb ?_
      refine zp E (zAe E rfl rfl) ?_; clear E a; intro a E
      refine zp E (zDe E rfl rfl) ?_; clear E a; intro a E
      refine wpList_nil ?_
      refine zAf hK ?_; clear hK; clear K
      refine zCe E rfl (rfl) ?_
      refine wp_seq_k ?_; intro K hK
      refine zAb ?_
      refine zp E (zAd E rfl rfl) ?_; clear E a; intro a E
      refine wpList_nil ?_
      refine zAf hK ?_; clear hK; clear K
      refine wp_ret ?_
      refine zAy ?_; clear hK; clear K
      refine ret1 E rfl rfl ?_
      have hv : s.bytes kn = ([], { s with e := 10 }) := by simp [Rdr.bytes, he, show s.bs.length < s.at_ + kn by omega, show ¬ (kn : Int) < 0 by omega]
      exact ⟨_, rfl, 10, s.at_, A, _, rfl, hA, (S.only (Bs := [A, [(bo, cel [.slice none 0 0] 24)], []]) (zAl (by repeat (first | exact pk1 | apply zAc)) (zAl (by repeat (first | exact pk1 | apply zAc)) (zAl (by repeat (first | exact pk1 | apply zAc)) (zAu _))))).tr, by rw [hv], _, [], [], pk1, by rw [hv]; exact Buf.nil _ _⟩
    · skip
      refine zp E (zAe E rfl rfl) ?_; clear E a; intro a E
      iterate 2 (refine zp E (zBr E rfl rfl rfl) ?_; clear E a; intro a E)
      iterate 2 (refine zp E (zAd E rfl rfl) ?_; clear E a; intro a E)
      refine wpList_nil ?_
      refine zAf hK ?_; clear hK; clear K
      iterate 2 (refine wp_seq_k ?_; intro K hK)
      refine zAb ?_
      refine zp E (zAe E rfl rfl) ?_; clear E a; intro a E
      refine zp E (zDe E rfl rfl) ?_; clear E a; intro a E
      refine wpList_nil ?_
      refine zAf hK ?_; clear hK; clear K
      refine zDd E rfl (rfl) ?_
      refine wp_skip ?_
      refine zAf hK ?_; clear hK; clear K
      refine wp_seq_k ?_; intro K hK
      have hlen := hA.2.1
      refine zAb ?_
      refine zp E (zAe E rfl rfl) ?_; clear E a; intro a E
      refine zAp E rfl rfl (by decide) rfl Tryz.func70 rfl (by kernel_rfl) rfl (zIo A _ (s.cut kn 0) _ (by rw [s.cut_length kn 0 hle]; exact hR) (S.hp.sel (zAl (by repeat (first | exact pk1 | apply zAc)) (zAu _))) (by rw [s.cut_length kn 0 hle]; omega)) ?_
      rintro v17 w ⟨g, rfl, hT⟩; clear E a; intro a E
      have S := S.call2 (zAl (by repeat (first | exact pk1 | apply zAc)) (zAu _)) hT
      refine zAo rfl (zBp E S rfl rfl rfl rfl rfl rfl (by repeat (first | exact pk1 | apply zAc)) (by first | exact Nat.le_of_ble_eq_true rfl | (simp; done) | (simp; omega)) ?_); clear E S a; intro a w E S; try dsimp only [List.set] at S
      refine wpList_nil ?_
      obtain ⟨hat, hlen, ad, c, C, rfl, hc, hRC⟩ := hA
      have S := (S.only (Bs := [[(p, cel [.slice ad s.bs.length c, .int .i64 s.at_, .int .i64 s.e] 108)] ++ C, [(bk, cel [.int .i64 kn] 3)], [(bp, cel [ptr p] 79)], [(bo, _)], [(g, _)]]) (zAl (by repeat (first | exact pk1 | apply zAc)) (zAl (by repeat (first | exact pk1 | apply zAc)) (zAl (by repeat (first | exact pk1 | apply zAc)) (zAl (by repeat (first | exact pk1 | apply zAc)) (zAl (by repeat (first | exact pk1 | apply zAc)) (zAu _))))))).split
      refine zAf hK ?_; clear hK; clear K
      refine wp_seq_k ?_; intro K hK
      refine zCb S (.ofL [(0, 0), (1, 0), (2, 0), (3, 0), (4, 0), (5, 0), (6, 0), (7, 0), (8, 3)]) (by kernel_rfl) (by kernel_rfl) ?_
      clear S; intro w S
      refine zm E rfl (fun w h => by first | exact zAn E rfl rfl rfl (h.one (by repeat (first | exact mm1 | assumption | apply List.Mem.tail))) rfl | exact zAj E rfl rfl rfl (by assumption)) ?_; clear E a; intro a E
      refine zm E rfl (fun w h => zBm E rfl rfl) ?_; clear E a; intro a E
      refine zm E rfl (fun w h => by first | exact zAg (q := 1) E rfl rfl rfl | exact zAh (q := 1) E rfl rfl rfl) ?_; clear E a; intro a E
      iterate 2 (refine zm E rfl (fun w h => by first | exact zAn E rfl rfl rfl (h.one (by repeat (first | exact mm1 | assumption | apply List.Mem.tail))) rfl | exact zAj E rfl rfl rfl (by assumption)) ?_; clear E a; intro a E)
      refine zm E rfl (fun w h => zBt E rfl rfl rfl (by first | exact wa1 (by omega) | exact w_in (by omega) | exact zBw (by omega) | exact rfl)) ?_; clear E a; intro a E
      refine zm E rfl (fun w h => zBm E rfl rfl) ?_; clear E a; intro a E
      refine zm E rfl (fun w h => by first | exact zAg (q := 1) E rfl rfl rfl | exact zAh (q := 1) E rfl rfl rfl) ?_; clear E a; intro a E
      refine zCt rfl rfl (zBp E S rfl rfl rfl rfl rfl rfl (by repeat (first | exact pk1 | apply zAc)) (by first | exact Nat.le_of_ble_eq_true rfl | (simp; done) | (simp; omega)) ?_); clear E S a; intro a w E S; try dsimp only [List.set] at S
      refine zBz ?_
      refine zAf hK ?_; clear hK; clear K
      refine wp_seq_k ?_; intro K hK
      replace E := E.keep (e' := [(3, _)]) (zAa rfl (zAm))
      refine zAb ?_
      refine zp E (zAd E rfl rfl) ?_; clear E a; intro a E
      refine wpList_nil ?_
      refine zAf hK ?_; clear hK; clear K
      refine wp_ret ?_
      refine ret1 E rfl rfl ?_
      have hv : s.bytes kn = (s.cut kn 0, { s with at_ := s.at_ + kn }) := by simp [Rdr.bytes, he, show ¬ (kn : Int) < 0 by omega, show ¬ s.bs.length < s.at_ + kn by omega]
      refine ⟨_, rfl, 0, s.at_ + kn, _, _, rfl, ⟨by simp only; omega, hlen, ad, c, C, rfl, hc, hRC⟩, (S.join.only (Bs := [_, [(bo, _)], [(g, _)]]) (zAl (by repeat (first | exact pk1 | apply zAc)) (zAl (by repeat (first | exact pk1 | apply zAc)) (zAl (by repeat (first | exact pk1 | apply zAc)) (zAu _))))).tr, by rw [hv, ← he], _, _, [], pk1, ?_⟩
      rw [hv]
      exact buf_block rfl (by rw [s.cut_length kn 0 hle]; omega)
theorem rbytes_ret (p : Nat) (s : Rdr) (A : zAw) (w0 : World) (hA : RdC 108 p s A) (H : Hp w0 [A]) (k : Int) (hk : k ≤ 9223372036854775807) :
    Ret Tryz.prog 68 #[ptr p, .int .i64 k] w0 fun u w' => ∃ A' C, RdC 108 p (s.bytes k).2 A' ∧ Trs w0 w' [A] [A', C] ∧ Buf C 5 1 u (s.bytes k).1.length (byt (s.bytes k).1) := by
  have S := St.begin H
  refine zCl 10 Tryz.func68 rfl rfl (by decide) ?_; intro a E
  refine wp_seq_k ?_; intro K hK
  refine zAb ?_
  refine zAo rfl (zCm E S rfl rfl (by decide) rfl rfl ?_); clear E S a; intro a w b2 E S
  refine zAo rfl (zCm E S rfl rfl (by decide) rfl rfl ?_); clear E S a; intro a w b3 E S
  refine zp E (zAd E rfl rfl) ?_; clear E a; intro a E
  refine wpList_nil ?_
  refine zAf hK ?_; clear hK; clear K
  refine wp_seq_k ?_; intro K hK
  refine zAb ?_
  refine zAo rfl (zBy E S rfl rfl (by decide) rfl rfl rfl ?_); clear E S a; intro a w b5 E S
  refine wpList_nil ?_
  refine zAf hK ?_; clear hK; clear K
  refine wp_seq_k ?_; intro K hK
  have S := S.addNil.perm (Bs := [A, [(b3, cel [.int .i64 k] 3)], [(b2, cel [ptr p] 79)], [(b5, cel [.slice none 0 0] 24)], []]) (zAl (by repeat (first | exact pk1 | apply zAc)) (zAl (by repeat (first | exact pk1 | apply zAc)) (zAl (by repeat (first | exact pk1 | apply zAc)) (zAl (by repeat (first | exact pk1 | apply zAc)) (zAl (by repeat (first | exact pk1 | apply zAc)) (zAu _))))))
  refine zAb ?_
  refine zp E (by first | exact zAn E rfl rfl rfl (S.get (by repeat (first | exact pk1 | apply zAc))) rfl | exact zAj E rfl rfl rfl (by assumption)) ?_; clear E a; intro a E
  refine zp E (zEo E rfl rfl ⟨_, rfl⟩) ?_; clear E a; intro a E
  refine zAp E rfl rfl (by decide) rfl Tryz.func87 rfl (by kernel_rfl) rfl (rtry_ret (s.bytes k).2 (fun Rs' => ∃ v C L, Rs'.Perm ([(b5, cel [v] 24)] :: C :: L) ∧ Buf C 5 1 v (s.bytes k).1.length (byt (s.bytes k).1)) 98 _ [ptr b3, ptr b2, ptr b5] Tryz.func98 rfl (by kernel_rfl) p s A [[(b3, cel [.int .i64 k] 3)], [(b2, cel [ptr p] 79)], [(b5, cel [.slice none 0 0] 24)], []] w hA S.hp (fun h => ⟨by simp [Rdr.bytes, h], _, [], _, pk3.trans (pk3.cons _), by simp only [Rdr.bytes, h, if_true, ne_eq, not_false_eq_true]; exact Buf.nil _ _⟩) (fun h => rbytes_body p s A w hA h b3 b2 b5 k hk S.hp)) ?_
  rintro v8 w ⟨A', Rs', hA', hT, v, C, L, hL, hB⟩; clear E a; intro a E
  have S := (S.all hT).perm (hL.cons A')
  obtain ⟨adv, cv, rfl⟩ := hB.slice
  refine wpList_nil ?_
  refine zAf hK ?_; clear hK; clear K
  refine wp_seq_k ?_; intro K hK
  refine zAb ?_
  refine zp E (by first | exact zAn E rfl rfl rfl (S.get (by repeat (first | exact pk1 | apply zAc))) rfl | exact zAj E rfl rfl rfl (by assumption)) ?_; clear E a; intro a E
  refine zp E (zAd E rfl rfl) ?_; clear E a; intro a E
  refine wpList_nil ?_
  refine zAf hK ?_; clear hK; clear K
  refine wp_ret ?_
  refine ret1 E rfl rfl ?_
  exact ⟨_, rfl, A', C, hA', (S.only (Bs := [A', C]) (zAl pk1 (zAl pk2 (zAu _)))).tr, hB⟩
theorem rtext_body (p : Nat) (s : Rdr) (A : zAw) (w0 : World) (hA : RdC 108 p s A) (he : s.e = 0) (bk bp bo : Nat) (most : Int)
    (H : Hp w0 [A, [(bk, cel [.int .i64 most] 3)], [(bp, cel [ptr p] 79)], [(bo, cel [str []] 9)]]) :
    Ret Tryz.prog 93 #[ptr bp, ptr bk, ptr bo] w0 fun u w' => ∃ (e' at' : Nat) (A' : zAw) (Rs' : List zAw), u = .int .i64 e' ∧ RdC 108 p { s with at_ := at' } A' ∧
      Trs w0 w' [A, [(bk, cel [.int .i64 most] 3)], [(bp, cel [ptr p] 79)], [(bo, cel [str []] 9)]] (A' :: Rs') ∧ (s.text most).2 = { s with at_ := at', e := e' } ∧ ∃ L, Rs'.Perm ([(bo, cel [str (s.text most).1] 9)] :: L) := by
  have S := St.begin H
  have hlen := hA.2.1
  refine zFy 40 Tryz.func93 rfl rfl (by decide) ?_; intro a E
  refine wp_seq_k ?_; intro K hK
  refine zAb ?_
  refine zp E (zAd E rfl rfl) ?_; clear E a; intro a E
  refine wpList_nil ?_
  refine zAf hK ?_; clear hK; clear K
  refine wp_seq_k ?_; intro K hK
  refine zAb ?_
  refine zp E (by first | exact zAn E rfl rfl rfl (S.get (by repeat (first | exact pk1 | apply zAc))) rfl | exact zAj E rfl rfl rfl (by assumption)) ?_; clear E a; intro a E
  refine zAp E rfl rfl (by decide) rfl Tryz.func89 rfl (by kernel_rfl) rfl (zJj p s A _ hA (S.hp.sel (zAl (by repeat (first | exact pk1 | apply zAc)) (zAu _))) 2 0 (by omega) (by omega)) ?_
  rintro v10 w ⟨hT, hres⟩; clear E a; intro a E
  have S := S.call1 (zAl (by repeat (first | exact pk1 | apply zAc)) (zAu _)) hT
  rcases hres with ⟨hlt, rfl⟩ | ⟨hle, adb, cb, rfl, hR⟩
  · skip
    refine zp E (zAe E rfl rfl) ?_; clear E a; intro a E
    iterate 2 (refine zp E (zBr E rfl rfl rfl) ?_; clear E a; intro a E)
    iterate 2 (refine zp E (zAd E rfl rfl) ?_; clear E a; intro a E)
    refine wpList_nil ?_
    refine zAf hK ?_; clear hK; clear K
    iterate 2 (refine wp_seq_k ?_; intro K hK)
    refine zAb ?_
    refine zp E (zAe E rfl rfl) ?_; clear E a; intro a E
    refine zp E (zDe E rfl rfl) ?_; clear E a; intro a E
    refine wpList_nil ?_
    refine zAf hK ?_; clear hK; clear K
    refine zCe E rfl (rfl) ?_
    refine wp_seq_k ?_; intro K hK
    refine zAb ?_
    refine zp E (zAd E rfl rfl) ?_; clear E a; intro a E
    refine wpList_nil ?_
    refine zAf hK ?_; clear hK; clear K
    refine wp_ret ?_
    refine zAy ?_; clear hK; clear K
    refine ret1 E rfl rfl ?_
    have hv : s.text most = ([], { s with e := 10 }) := by simp [Rdr.text, he, show s.bs.length < s.at_ + 2 by omega]
    exact ⟨_, rfl, 10, s.at_, A, _, rfl, hA, (S.only (Bs := [A, [(bo, cel [str []] 9)]]) (zAl (by repeat (first | exact pk1 | apply zAc)) (zAl (by repeat (first | exact pk1 | apply zAc)) (zAu _)))).tr, by rw [hv], [], by first | (rw [hv]; done) | (rw [hv]; exact pk1)⟩
  · skip
    refine zp E (zAe E rfl rfl) ?_; clear E a; intro a E
    iterate 2 (refine zp E (zBr E rfl rfl rfl) ?_; clear E a; intro a E)
    iterate 2 (refine zp E (zAd E rfl rfl) ?_; clear E a; intro a E)
    refine wpList_nil ?_
    refine zAf hK ?_; clear hK; clear K
    iterate 2 (refine wp_seq_k ?_; intro K hK)
    refine zAb ?_
    refine zp E (zAe E rfl rfl) ?_; clear E a; intro a E
    refine zp E (zDe E rfl rfl) ?_; clear E a; intro a E
    refine wpList_nil ?_
    refine zAf hK ?_; clear hK; clear K
    refine zDd E rfl (rfl) ?_
    refine wp_skip ?_
    refine zAf hK ?_; clear hK; clear K
    refine wp_seq_k ?_; intro K hK
    have hnl := zHf (s.cut 2 0)
    rw [s.cut_length 2 0 hle] at hnl
    refine zAb ?_
    refine zp E (zAe E rfl rfl) ?_; clear E a; intro a E
    refine zAp E rfl rfl (by decide) rfl Tryz.func73 rfl (by kernel_rfl) rfl (zKa A _ (s.cut 2 0) _ (by rw [s.cut_length 2 0 hle]; exact hR) (S.stab.at (by repeat (first | exact mm1 | assumption | apply List.Mem.tail))) (by rw [s.cut_length 2 0 hle]; omega)) ?_
    rintro v16 w ⟨rfl, rfl⟩; clear E a; intro a E
    refine zp E (by first | exact zBg E rfl rfl rfl rfl (by first | exact wu8 _ | exact zFe (by omega) | exact zDz (by omega) | exact w_in (by omega) | exact zBw (by omega) | exact rfl) | exact zCi E rfl rfl rfl rfl rfl (by assumption) (S.stab.at (by simp))) ?_; clear E a; intro a E
    refine zp E (zAd E rfl rfl) ?_; clear E a; intro a E
    refine wpList_nil ?_
    refine zAf hK ?_; clear hK; clear K
    iterate 2 (refine wp_seq_k ?_; intro K hK)
    refine zAb ?_
    refine zp E (zAe E rfl rfl) ?_; clear E a; intro a E
    refine zp E (by first | exact zAn E rfl rfl rfl (S.get (by repeat (first | exact pk1 | apply zAc))) rfl | exact zAj E rfl rfl rfl (by assumption)) ?_; clear E a; intro a E
    refine zp E (zDt E rfl rfl rfl) ?_; clear E a; intro a E
    refine wpList_nil ?_
    refine zAf hK ?_; clear hK; clear K
    refine zBh E rfl (fun hb => ?_) (fun hb => ?_)
    · replace hb := Nrm.nrm hb
      refine wp_seq_k ?_; intro K hK
      refine zAb ?_
      refine zp E (zAd E rfl rfl) ?_; clear E a; intro a E
      refine wpList_nil ?_
      refine zAf hK ?_; clear hK; clear K
      refine wp_ret ?_
      refine zAy ?_; clear hK; clear K
      refine ret1 E rfl rfl ?_
      have hv : s.text most = ([], { s with e := 11 }) := by simp [Rdr.text, he, show ¬ s.bs.length < s.at_ + 2 by omega, show most < (zDf (s.cut 2 0) : Int) by omega]
      exact ⟨_, rfl, 11, s.at_, A, _, rfl, hA, (S.only (Bs := [A, [(bo, cel [str []] 9)]]) (zAl (by repeat (first | exact pk1 | apply zAc)) (zAl (by repeat (first | exact pk1 | apply zAc)) (zAu _)))).tr, by rw [hv], [], by first | (rw [hv]; done) | (rw [hv]; exact pk1)⟩
    · replace hb := Nrm.nrm hb
      refine wp_skip ?_
      refine zAf hK ?_; clear hK; clear K
      refine wp_seq_k ?_; intro K hK
      refine zAb ?_
      refine zp E (by first | exact zAn E rfl rfl rfl (S.get (by repeat (first | exact pk1 | apply zAc))) rfl | exact zAj E rfl rfl rfl (by assumption)) ?_; clear E a; intro a E
      refine zp E (zAe E rfl rfl) ?_; clear E a; intro a E
      refine zAp E rfl rfl (by decide) rfl Tryz.func89 rfl (by kernel_rfl) rfl (zJj p s A _ hA (S.hp.sel (zAl (by repeat (first | exact pk1 | apply zAc)) (zAu _))) (zDf (s.cut 2 0)) 2 (by omega) (by omega)) ?_
      rintro v24 w ⟨hT, hres⟩; clear E a; intro a E
      have S := S.call1 (zAl (by repeat (first | exact pk1 | apply zAc)) (zAu _)) hT
      rcases hres with ⟨hlt, rfl⟩ | ⟨hle2, adb2, cb2, rfl, hR2⟩
      · skip
        refine zp E (zAe E rfl rfl) ?_; clear E a; intro a E
        iterate 2 (refine zp E (zBr E rfl rfl rfl) ?_; clear E a; intro a E)
        iterate 2 (refine zp E (zAd E rfl rfl) ?_; clear E a; intro a E)
        refine wpList_nil ?_
        refine zAf hK ?_; clear hK; clear K
        iterate 2 (refine wp_seq_k ?_; intro K hK)
        replace E := E.keep (e' := [(0, _), (2, _), (3, _), (5, _), (6, _), (7, _)]) (zAa rfl (zAa rfl (zAa rfl (zAa rfl (zAa rfl (zAa rfl (zAm)))))))
        refine zAb ?_
        refine zp E (zAe E rfl rfl) ?_; clear E a; intro a E
        refine zp E (zDe E rfl rfl) ?_; clear E a; intro a E
        refine wpList_nil ?_
        refine zAf hK ?_; clear hK; clear K
        refine zCe E rfl (rfl) ?_
        refine wp_seq_k ?_; intro K hK
        refine zAb ?_
        refine zp E (zAd E rfl rfl) ?_; clear E a; intro a E
        refine wpList_nil ?_
        refine zAf hK ?_; clear hK; clear K
        refine wp_ret ?_
        refine zAy ?_; clear hK; clear K
        refine ret1 E rfl rfl ?_
        have hv : s.text most = ([], { s with e := 10 }) := by simp [Rdr.text, he, show ¬ s.bs.length < s.at_ + 2 by omega, show ¬ most < (zDf (s.cut 2 0) : Int) by omega, show s.bs.length < s.at_ + 2 + zDf (s.cut 2 0) by omega]
        exact ⟨_, rfl, 10, s.at_, A, _, rfl, hA, (S.only (Bs := [A, [(bo, cel [str []] 9)]]) (zAl (by repeat (first | exact pk1 | apply zAc)) (zAl (by repeat (first | exact pk1 | apply zAc)) (zAu _)))).tr, by rw [hv], [], by first | (rw [hv]; done) | (rw [hv]; exact pk1)⟩
      · skip
        refine zp E (zAe E rfl rfl) ?_; clear E a; intro a E
        iterate 2 (refine zp E (zBr E rfl rfl rfl) ?_; clear E a; intro a E)
        iterate 2 (refine zp E (zAd E rfl rfl) ?_; clear E a; intro a E)
        refine wpList_nil ?_
        refine zAf hK ?_; clear hK; clear K
        iterate 2 (refine wp_seq_k ?_; intro K hK)
        replace E := E.keep (e' := [(0, _), (2, _), (3, _), (5, _), (6, _), (7, _)]) (zAa rfl (zAa rfl (zAa rfl (zAa rfl (zAa rfl (zAa rfl (zAm)))))))
        refine zAb ?_
        refine zp E (zAe E rfl rfl) ?_; clear E a; intro a E
        refine zp E (zDe E rfl rfl) ?_; clear E a; intro a E
        refine wpList_nil ?_
        refine zAf hK ?_; clear hK; clear K
        refine zDd E rfl (rfl) ?_
        refine wp_skip ?_
        refine zAf hK ?_; clear hK; clear K
        refine wp_seq_k ?_; intro K hK
        refine zAb ?_
        refine zp E (zAe E rfl rfl) ?_; clear E a; intro a E
        refine zp E (zCi E rfl rfl rfl rfl rfl (bs := s.cut (zDf (s.cut 2 0)) 2) (by rw [s.cut_length _ 2 hle2]; exact hR2) (S.stab.at (by repeat (first | exact mm1 | assumption | apply List.Mem.tail)))) ?_; clear E a; intro a E
        refine zAo rfl (zBp E S rfl rfl rfl rfl rfl rfl (by repeat (first | exact pk1 | apply zAc)) (by first | exact Nat.le_of_ble_eq_true rfl | (simp; done) | (simp; omega)) ?_); clear E S a; intro a w E S; try dsimp only [List.set] at S
        refine wpList_nil ?_
        obtain ⟨hat, hlen, ad, c, C, rfl, hc, hRC⟩ := hA
        have S := (S.perm (Bs := [[(p, cel [.slice ad s.bs.length c, .int .i64 s.at_, .int .i64 s.e] 108)] ++ C, _, _, _]) (zAl (by repeat (first | exact pk1 | apply zAc)) (zAl (by repeat (first | exact pk1 | apply zAc)) (zAl (by repeat (first | exact pk1 | apply zAc)) (zAl (by repeat (first | exact pk1 | apply zAc)) (zAu _)))))).split
        refine zAf hK ?_; clear hK; clear K
        refine wp_seq_k ?_; intro K hK
        refine zAb ?_
        refine zp E (by first | exact zAn E rfl rfl rfl (S.get (by repeat (first | exact pk1 | apply zAc))) rfl | exact zAj E rfl rfl rfl (by assumption)) ?_; clear E a; intro a E
        refine zp E (zBm E rfl rfl) ?_; clear E a; intro a E
        refine zp E (by first | exact zAg (q := 1) E rfl rfl rfl | exact zAh (q := 1) E rfl rfl rfl) ?_; clear E a; intro a E
        refine zp E (by first | exact zAn E rfl rfl rfl (S.get (by repeat (first | exact pk1 | apply zAc))) rfl | exact zAj E rfl rfl rfl (by assumption)) ?_; clear E a; intro a E
        refine zp E (zAe E rfl rfl) ?_; clear E a; intro a E
        refine zp E (zBt E rfl rfl rfl (by first | exact wa_lit2 (x := 2) (by omega) | exact w_in (by omega) | exact zBw (by omega) | exact rfl)) ?_; clear E a; intro a E
        refine zp E (zBt E rfl rfl rfl (by first | exact wa1 (by omega) | exact w_in (by omega) | exact zBw (by omega) | exact rfl)) ?_; clear E a; intro a E
        refine zp E (zBm E rfl rfl) ?_; clear E a; intro a E
        refine zp E (by first | exact zAg (q := 1) E rfl rfl rfl | exact zAh (q := 1) E rfl rfl rfl) ?_; clear E a; intro a E
        refine zAo rfl (zBp E S rfl rfl rfl rfl rfl rfl (by repeat (first | exact pk1 | apply zAc)) (by first | exact Nat.le_of_ble_eq_true rfl | (simp; done) | (simp; omega)) ?_); clear E S a; intro a w E S; try dsimp only [List.set] at S
        refine wpList_nil ?_
        refine zAf hK ?_; clear hK; clear K
        refine wp_seq_k ?_; intro K hK
        refine zAb ?_
        refine zp E (zAd E rfl rfl) ?_; clear E a; intro a E
        refine wpList_nil ?_
        refine zAf hK ?_; clear hK; clear K
        refine wp_ret ?_
        refine ret1 E rfl rfl ?_
        have hv : s.text most = (s.cut (zDf (s.cut 2 0)) 2, { s with at_ := s.at_ + (2 + zDf (s.cut 2 0)) }) := by simp [Rdr.text, he, show ¬ s.bs.length < s.at_ + 2 by omega, show ¬ most < (zDf (s.cut 2 0) : Int) by omega, show ¬ s.bs.length < s.at_ + 2 + zDf (s.cut 2 0) by omega]
        exact ⟨_, rfl, 0, s.at_ + (2 + zDf (s.cut 2 0)), _, _, rfl, ⟨by simp only; omega, hlen, ad, c, C, rfl, hc, hRC⟩, S.join.tr, by rw [hv, ← he], _, by first | (rw [hv]; done) | (rw [hv]; exact pk1)⟩
theorem zGv (p : Nat) (s : Rdr) (A : zAw) (w0 : World) (hA : RdC 108 p s A) (H : Hp w0 [A]) (most : Int) :
    Ret Tryz.prog 53 #[ptr p, .int .i64 most] w0 fun u w' => ∃ A', u = str (s.text most).1 ∧ RdC 108 p (s.text most).2 A' ∧ Trs w0 w' [A] [A'] := by
  have S := St.begin H
  refine zCl 10 Tryz.func53 rfl rfl (by decide) ?_; intro a E
  refine wp_seq_k ?_; intro K hK
  refine zAb ?_
  refine zAo rfl (zCm E S rfl rfl (by decide) rfl rfl ?_); clear E S a; intro a w b2 E S
  refine zAo rfl (zCm E S rfl rfl (by decide) rfl rfl ?_); clear E S a; intro a w b3 E S
  refine zp E (zAd E rfl rfl) ?_; clear E a; intro a E
  refine wpList_nil ?_
  refine zAf hK ?_; clear hK; clear K
  refine wp_seq_k ?_; intro K hK
  refine zAb ?_
  refine zAo rfl (zBy E S rfl rfl (by decide) rfl rfl rfl ?_); clear E S a; intro a w b5 E S
  refine wpList_nil ?_
  refine zAf hK ?_; clear hK; clear K
  refine wp_seq_k ?_; intro K hK
  have S := S.perm (Bs := [A, [(b3, cel [.int .i64 most] 3)], [(b2, cel [ptr p] 79)], [(b5, cel [str []] 9)]]) (zAl (by repeat (first | exact pk1 | apply zAc)) (zAl (by repeat (first | exact pk1 | apply zAc)) (zAl (by repeat (first | exact pk1 | apply zAc)) (zAl (by repeat (first | exact pk1 | apply zAc)) (zAu _)))))
  refine zAb ?_
  refine zp E (by first | exact zAn E rfl rfl rfl (S.get (by repeat (first | exact pk1 | apply zAc))) rfl | exact zAj E rfl rfl rfl (by assumption)) ?_; clear E a; intro a E
  refine zp E (zEo E rfl rfl ⟨_, rfl⟩) ?_; clear E a; intro a E
  refine zAp E rfl rfl (by decide) rfl Tryz.func87 rfl (by kernel_rfl) rfl (rtry_ret (s.text most).2 (fun Rs' => ∃ L, Rs'.Perm ([(b5, cel [str (s.text most).1] 9)] :: L)) 93 _ [ptr b2, ptr b3, ptr b5] Tryz.func93 rfl (by kernel_rfl) p s A [[(b3, cel [.int .i64 most] 3)], [(b2, cel [ptr p] 79)], [(b5, cel [str []] 9)]] w hA S.hp (fun h => ⟨by simp [Rdr.text, h], _, by simp only [Rdr.text, h, if_true, ne_eq, not_false_eq_true]; exact pk3⟩) (fun h => rtext_body p s A w hA h b3 b2 b5 most S.hp)) ?_
  rintro v8 w ⟨A', Rs', hA', hT, L, hL⟩; clear E a; intro a E
  have S := (S.all hT).perm (hL.cons A')
  refine wpList_nil ?_
  refine zAf hK ?_; clear hK; clear K
  refine wp_seq_k ?_; intro K hK
  refine zAb ?_
  refine zp E (by first | exact zAn E rfl rfl rfl (S.get (by repeat (first | exact pk1 | apply zAc))) rfl | exact zAj E rfl rfl rfl (by assumption)) ?_; clear E a; intro a E
  refine zp E (zAd E rfl rfl) ?_; clear E a; intro a E
  refine wpList_nil ?_
  refine zAf hK ?_; clear hK; clear K
  refine wp_ret ?_
  refine ret1 E rfl rfl ?_
  exact ⟨_, rfl, A', rfl, hA', (S.only (Bs := [A']) (zAl (by repeat (first | exact pk1 | apply zAc)) (zAu _))).tr⟩
theorem left_ret (p : Nat) (s : Rdr) (A : zAw) (w0 : World) (hA : RdC 108 p s A) (H : Hp w0 [A]) :
    Ret Tryz.prog 90 #[ptr p] w0 fun u w' => u = .int .i64 s.left ∧ Trs w0 w' [A] [A] := by
  obtain ⟨hat, hlen, ad, c, C, rfl, hc, hR⟩ := hA
  have S := (St.begin H).split
  refine zCu 13 Tryz.func90 rfl rfl (by decide) ?_; intro a E
  refine wp_seq_k ?_; intro K hK
  refine zAb ?_
  refine zp E (zAd E rfl rfl) ?_; clear E a; intro a E
  refine wpList_nil ?_
  refine zAf hK ?_; clear hK; clear K
  refine wp_seq_k ?_; intro K hK
  refine zCb S (.ofL [(0, 0), (1, 0), (2, 0), (3, 0), (4, 0), (5, 0), (6, 0), (7, 0), (8, 0), (9, 0), (10, 0)]) (by kernel_rfl) (by kernel_rfl) ?_
  clear S; intro w S
  refine zm E rfl (fun w h => zAe E rfl rfl) ?_; clear E a; intro a E
  refine zm E rfl (fun w h => zBm E rfl rfl) ?_; clear E a; intro a E
  refine zm E rfl (fun w h => by first | exact zAg (q := 0) E rfl rfl rfl | exact zAh (q := 0) E rfl rfl rfl) ?_; clear E a; intro a E
  refine zm E rfl (fun w h => by first | exact zAn E rfl rfl rfl (h.one (by repeat (first | exact mm1 | assumption | apply List.Mem.tail))) rfl | exact zAj E rfl rfl rfl (by assumption)) ?_; clear E a; intro a E
  refine zm E rfl (fun w h => by first | exact zBu E rfl rfl rfl | exact zAx E rfl rfl rfl | exact zAq E rfl rfl rfl) ?_; clear E a; intro a E
  refine zm E rfl (fun w h => zAe E rfl rfl) ?_; clear E a; intro a E
  refine zm E rfl (fun w h => zBm E rfl rfl) ?_; clear E a; intro a E
  refine zm E rfl (fun w h => by first | exact zAg (q := 1) E rfl rfl rfl | exact zAh (q := 1) E rfl rfl rfl) ?_; clear E a; intro a E
  refine zm E rfl (fun w h => by first | exact zAn E rfl rfl rfl (h.one (by repeat (first | exact mm1 | assumption | apply List.Mem.tail))) rfl | exact zAj E rfl rfl rfl (by assumption)) ?_; clear E a; intro a E
  refine zm E rfl (fun w h => zEe E rfl rfl rfl (by first | exact ws1 (by omega) (by omega) | exact w_in (by omega) | exact zBw (by omega) | exact rfl)) ?_; clear E a; intro a E
  refine zm E rfl (fun w h => zAd E rfl rfl) ?_; clear E a; intro a E
  refine zBz ?_
  refine zAf hK ?_; clear hK; clear K
  refine wp_ret ?_
  refine ret1 E rfl rfl ?_
  exact ⟨_, rfl, by simp only [Rdr.left]; congr 1; omega, S.join.tr⟩
theorem rdone_ret (p : Nat) (s : Rdr) (A : zAw) (w0 : World) (hA : RdC 108 p s A) (H : Hp w0 [A]) :
    Ret Tryz.prog 46 #[ptr p] w0 fun u w' => u = .int .i64 s.done ∧ Trs w0 w' [A] [A] := by
  have hA0 := hA
  obtain ⟨hat, hlen, ad, c, C, hAe, hc, hR⟩ := hA
  have S := St.begin H
  have S := (by rw [hAe] at S; exact S.split : St w0 _ w0 ([(p, cel [.slice ad s.bs.length c, .int .i64 s.at_, .int .i64 s.e] 108)] :: C :: _))
  have hl : s.left = s.bs.length - s.at_ := rfl
  refine zCu 17 Tryz.func46 rfl rfl (by decide) ?_; intro a E
  refine wp_seq_k ?_; intro K hK
  refine zAb ?_
  refine zp E (zAd E rfl rfl) ?_; clear E a; intro a E
  refine wpList_nil ?_
  refine zAf hK ?_; clear hK; clear K
  iterate 2 (refine wp_seq_k ?_; intro K hK)
  refine zAb ?_
  refine zp E (zAe E rfl rfl) ?_; clear E a; intro a E
  refine zp E (zBm E rfl rfl) ?_; clear E a; intro a E
  refine zp E (by first | exact zAg (q := 2) E rfl rfl rfl | exact zAh (q := 2) E rfl rfl rfl) ?_; clear E a; intro a E
  refine zp E (by first | exact zAn E rfl rfl rfl (S.get (by repeat (first | exact pk1 | apply zAc))) rfl | exact zAj E rfl rfl rfl (by assumption)) ?_; clear E a; intro a E
  refine zp E (by first | exact zCc E rfl rfl rfl | exact zAs E rfl rfl rfl rfl | exact zBb E rfl rfl rfl rfl | exact zAt E rfl rfl rfl) ?_; clear E a; intro a E
  refine zp E (zAe E rfl rfl) ?_; clear E a; intro a E
  refine zAr E (t := 8) rfl (fun hb8 => ?_) (fun hb8 => ?_)
  · have hb8n := hb8; replace hb8n := Nrm.nrm hb8n
    refine zy E hb8 (zAe E rfl rfl) ?_; clear E a; intro a E
    refine zBx E rfl rfl rfl rfl hb8 ?_; refine zCo E rfl (by decide) rfl Tryz.func90 rfl (by kernel_rfl) rfl (left_ret p s A _ hA0 H) ?_
    rintro v10 w ⟨rfl, hT⟩; clear E a; intro a E
    have S := (St.begin H).call1 (zAl (by repeat (first | exact pk1 | apply zAc)) (zAu _)) hT
    have S := (by rw [hAe] at S; exact S.split : St w0 _ _ ([(p, cel [.slice ad s.bs.length c, .int .i64 s.at_, .int .i64 s.e] 108)] :: C :: _))
    refine zy E hb8 (zDt E rfl rfl rfl) ?_; clear E a; intro a E
    refine zp E (zAk E rfl rfl hb8 rfl) ?_; clear E a; intro a E
    refine wpList_nil ?_
    refine zAf hK ?_; clear hK; clear K
    refine zBh E rfl (fun hb => ?_) (fun hb => ?_)
    · replace hb := Nrm.nrm hb
      refine wp_seq_k ?_; intro K hK
      refine zAb ?_
      refine zp E (zAd E rfl rfl) ?_; clear E a; intro a E
      refine wpList_nil ?_
      refine zAf hK ?_; clear hK; clear K
      refine wp_ret ?_
      refine zAy ?_; clear hK; clear K
      refine ret1 E rfl rfl ?_
      have S := S.join; rw [← hAe] at S
      exact ⟨_, rfl, by simp only [Rdr.done]; rw [if_pos (by omega)]; rfl, S.tr⟩
    · replace hb := Nrm.nrm hb
      refine wp_skip ?_
      refine zAf hK ?_; clear hK; clear K
      refine wp_seq_k ?_; intro K hK
      refine zAb ?_
      refine zp E (zAe E rfl rfl) ?_; clear E a; intro a E
      refine zp E (zBm E rfl rfl) ?_; clear E a; intro a E
      refine zp E (by first | exact zAg (q := 2) E rfl rfl rfl | exact zAh (q := 2) E rfl rfl rfl) ?_; clear E a; intro a E
      refine zp E (by first | exact zAn E rfl rfl rfl (S.get (by repeat (first | exact pk1 | apply zAc))) rfl | exact zAj E rfl rfl rfl (by assumption)) ?_; clear E a; intro a E
      refine zp E (zAd E rfl rfl) ?_; clear E a; intro a E
      refine wpList_nil ?_
      refine zAf hK ?_; clear hK; clear K
      refine wp_ret ?_
      refine ret1 E rfl rfl ?_
      have S := S.join; rw [← hAe] at S
      exact ⟨_, rfl, by simp only [Rdr.done]; rw [if_neg (by omega)], S.tr⟩
  · have hb8n := hb8; replace hb8n := Nrm.nrm hb8n
    iterate 3 (refine zn E hb8 ?_; clear E a; intro a E)
    refine zp E (zAi E rfl rfl hb8 rfl) ?_; clear E a; intro a E
    refine wpList_nil ?_
    refine zAf hK ?_; clear hK; clear K
    refine zDd E rfl rfl ?_
    refine wp_skip ?_
    refine zAf hK ?_; clear hK; clear K
    refine wp_seq_k ?_; intro K hK
    refine zAb ?_
    refine zp E (zAe E rfl rfl) ?_; clear E a; intro a E
    refine zp E (zBm E rfl rfl) ?_; clear E a; intro a E
    refine zp E (by first | exact zAg (q := 2) E rfl rfl rfl | exact zAh (q := 2) E rfl rfl rfl) ?_; clear E a; intro a E
    refine zp E (by first | exact zAn E rfl rfl rfl (S.get (by repeat (first | exact pk1 | apply zAc))) rfl | exact zAj E rfl rfl rfl (by assumption)) ?_; clear E a; intro a E
    refine zp E (zAd E rfl rfl) ?_; clear E a; intro a E
    refine wpList_nil ?_
    refine zAf hK ?_; clear hK; clear K
    refine wp_ret ?_
    refine ret1 E rfl rfl ?_
    have S := S.join; rw [← hAe] at S
    exact ⟨_, rfl, by simp only [Rdr.done]; rw [if_neg (by omega)], S.tr⟩
end Go.Proofs.YtbogecljkaimdaaGreatDoor
namespace Go.Sl
theorem num_fits {s : Wr} {n : Nat} {k : Nat} (he : s.e = 0) (h1 : 1 ≤ k) (h8 : k ≤ 8) (hn : n < 256 ^ k) (hr : s.bs.length + k ≤ s.room) : s.num n k = { s with bs := s.bs ++ zBv n k } := by
  have hb : ¬ ((k : Int) < 1 ∨ 8 < (k : Int)) := by omega
  have hg : ¬ n ≥ 256 ^ k := by omega
  have hf : s.fits (zBv n k) = true := by simp only [Wr.fits, zBc, decide_eq_true_eq]; omega
  simp [Wr.num, Wr.lay, numE, he, hb, Wr.putE, Wr.putS, hf, Nat.not_le.2 hn]
theorem zGl {n k : Nat} (h : n < 256 ^ k) : zDf (zBv n k) = n := by rw [zIn, Nat.mod_eq_of_lt h]
theorem rnum_at (b : List UInt8) {q k : Nat} (h1 : 1 ≤ k) (h8 : k ≤ 8) (hl : q + k ≤ b.length) : (Rdr.mk b q 0).num k = (zDf ((b.drop q).take k), ⟨b, q + k, 0⟩) := by
  have hb : ¬ ((k : Int) < 1 ∨ 8 < (k : Int)) := by omega
  simp [Rdr.num, hb, Rdr.cut, show ¬ b.length < q + k by omega]
theorem zIh (g : Nat) (b : List UInt8) (T : TypeId) (h : b.length ≤ 4611686018427387904) : Buf [(g, cel (byt b) T)] T 1 (.slice (some ⟨g, 0, none⟩) b.length b.length) b.length (byt b) := by
  have := buf_mk (T := T) (g := g) (c := b.length) (s := 1) (m := b.length) (xs := byt b) (r := []) (by simp [zEi]) (byt_one b) (Nat.le_refl _) (by simp only [maxLen]; omega) (by simp [zEi])
  rwa [List.append_nil] at this
theorem numOf_cut (b : List UInt8) (q k : Nat) : zDf ((b.drop q).take k) < 256 ^ k :=
  Nat.lt_of_lt_of_le (zHf _) (Nat.pow_le_pow_right (by omega) (by rw [List.length_take]; omega))
theorem bytes_fits {s : Wr} {b : List UInt8} (he : s.e = 0) (hr : s.bs.length + b.length ≤ s.room) : s.bytes b = { s with bs := s.bs ++ b } := by
  have hf : s.fits b = true := by simp only [Wr.fits, decide_eq_true_eq]; omega
  simp [Wr.bytes, Wr.lay, he, Wr.putE, Wr.putS, hf]
end Go.Sl
namespace Go.Proofs.YtbogecljkaimdaaGreatDoor
open Go.Sl
set_option maxRecDepth 10000
theorem zEp (p room : Nat) (bs : List UInt8) (A : zAw) (w0 : World) (hA : WrC 94 p ⟨room, bs, 0⟩ A) (n k : Nat) (H : Hp w0 [A]) (hr : room ≤ 140737488355328) (h1 : 1 ≤ k) (h8 : k ≤ 8) (hn : n < 256 ^ k) (hl : bs.length + k ≤ room) :
    Ret Tryz.prog 30 #[ptr p, .int .u64 n, .int .i64 (k : Int)] w0 fun _ w' => ∃ A', WrC 94 p ⟨room, bs ++ zBv n k, 0⟩ A' ∧ Trs w0 w' [A] [A'] := by
  refine (num_ret p _ A w0 hA n k H hr).mono fun v w' ⟨A', h, hT⟩ => ⟨A', ?_, hT⟩
  rw [num_fits rfl h1 h8 hn hl] at h
  exact h
theorem bytes_fit (p room : Nat) (bs : List UInt8) (A D : zAw) (w0 : World) (hA : WrC 94 p ⟨room, bs, 0⟩ A) (bv : Value) (b : List UInt8) (hD : Rd D 1 bv b.length (byt b)) (H : Hp w0 [A, D]) (hr : room ≤ 140737488355328) (hl : bs.length + b.length ≤ room) :
    Ret Tryz.prog 66 #[ptr p, bv] w0 fun _ w' => ∃ A', WrC 94 p ⟨room, bs ++ b, 0⟩ A' ∧ Trs w0 w' [A, D] [A', D] := by
  refine (bytes_ret p _ A D w0 hA bv b hD H hr).mono fun v w' ⟨A', h, hT⟩ => ⟨A', ?_, hT⟩
  rw [bytes_fits rfl hl] at h
  exact h
theorem done_fit (p room : Nat) (bs : List UInt8) (A : zAw) (w0 : World) (hA : WrC 94 p ⟨room, bs, 0⟩ A) (H : Hp w0 [A]) (hr : bs.length ≤ 140737488355328) :
    Ret Tryz.prog 29 #[ptr p] w0 fun u w' => ∃ g, u = .tuple #[.slice (some ⟨g, 0, none⟩) bs.length bs.length, .int .i64 0] ∧ Trs w0 w' [A] [[(g, cel (byt bs) 5)], A] := by
  refine (done_ret p _ A w0 hA H hr).mono fun v w' h => ?_
  rcases h with ⟨h, _⟩ | ⟨_, g, h, hT⟩
  · exact absurd rfl h
  · exact ⟨g, h, hT⟩
theorem rnum_fit (p : Nat) (b : List UInt8) (q : Nat) (A : zAw) (w0 : World) (hA : RdC 108 p ⟨b, q, 0⟩ A) (H : Hp w0 [A]) (k : Nat) (h1 : 1 ≤ k) (h8 : k ≤ 8) (hl : q + k ≤ b.length) :
    Ret Tryz.prog 44 #[ptr p, .int .i64 k] w0 fun u w' => ∃ A', u = .int .u64 (zDf ((b.drop q).take k)) ∧ RdC 108 p ⟨b, q + k, 0⟩ A' ∧ Trs w0 w' [A] [A'] := by
  refine (zEf p _ A w0 hA H k).mono fun v w' ⟨A', h, h2, hT⟩ => ?_
  rw [rnum_at b h1 h8 hl] at h h2
  exact ⟨A', h, h2, hT⟩
end Go.Proofs.YtbogecljkaimdaaGreatDoor
namespace Go.Sl
def zDb : List UInt8 → List (List UInt8)
  | [] => [[]]
  | c :: l => if c = 47 then [] :: zDb l else match zDb l with
    | p :: ps => (c :: p) :: ps
    | [] => [[c]]
theorem zHv (l : List UInt8) : ∃ p ps, zDb l = p :: ps := by
  cases l with
  | nil => exact ⟨_, _, rfl⟩
  | cons c l =>
    unfold zDb
    split
    · exact ⟨_, _, rfl⟩
    · split <;> exact ⟨_, _, rfl⟩
theorem zFi (l : List UInt8) : (zDb l).length = l.count 47 + 1 := by
  induction l with
  | nil => rfl
  | cons c l ih =>
    unfold zDb
    split
    · rename_i h; subst h; simp [ih]
    · rename_i h
      obtain ⟨p, ps, hp⟩ := zHv l
      rw [hp] at ih ⊢
      rw [List.count_cons_of_ne (by simpa using h)]
      simpa using ih
theorem zKb {l : List UInt8} (h : l.count 47 = 0) : zDb l = [l] := by
  induction l with
  | nil => rfl
  | cons c l ih =>
    have hc : c ≠ 47 := by rintro rfl; simp at h
    rw [List.count_cons_of_ne (by simpa using hc)] at h
    unfold zDb
    rw [if_neg hc, ih h]
def ahead1 (p : List UInt8) : List (List UInt8) → List (List UInt8)
  | q :: qs => (p ++ q) :: qs
  | [] => [p]
theorem pieces_step {c : UInt8} {l : List UInt8} (h : c ≠ 47) : zDb (c :: l) = ahead1 [c] (zDb l) := by
  obtain ⟨p, ps, hp⟩ := zHv l
  rw [zDb, if_neg h, hp]
  rfl
theorem pieces_stroke (l : List UInt8) : zDb (47 :: l) = [] :: zDb l := by rw [zDb, if_pos rfl]
theorem ibyte_cases (l : List UInt8) (c : UInt8) : (Lib.indexByte l c = -1 ∧ l.count c = 0) ∨
    ∃ m, ∃ h : m < l.length, Lib.indexByte l c = (m : Int) ∧ l[m] = c ∧ (l.take m).count c = 0 ∧ l.count c = 1 + (l.drop (m + 1)).count c := by
  induction l with
  | nil => exact .inl ⟨rfl, rfl⟩
  | cons b l ih =>
    by_cases hb : b = c
    · subst hb
      refine .inr ⟨0, by simp, by simp [Lib.indexByte], rfl, rfl, ?_⟩
      rw [List.count_cons_self]; simp; omega
    · have hb' : (b == c) = false := by simpa using hb
      rcases ih with ⟨h1, h2⟩ | ⟨m, hm, h1, h2, h3, h4⟩
      · refine .inl ⟨by simp [Lib.indexByte, hb', h1], ?_⟩
        rw [List.count_cons_of_ne (by simpa using hb), h2]
      · refine .inr ⟨m + 1, by simpa using hm, ?_, by simpa using h2, ?_, ?_⟩
        · simp only [Lib.indexByte, hb', h1, Bool.false_eq_true, if_false]
          rw [if_neg (by simp only [beq_iff_eq]; omega)]
          omega
        · rw [List.take_succ_cons, List.count_cons_of_ne (by simpa using hb), h3]
        · rw [List.count_cons_of_ne (by simpa using hb), h4]; simp
theorem zIp : ∀ {l : List UInt8} {m : Nat} (h : m < l.length), l[m] = 47 → (l.take m).count 47 = 0 → zDb l = l.take m :: zDb (l.drop (m + 1))
  | [], m, h, _, _ => absurd h (by simp)
  | c :: l, 0, _, hc, _ => by
    have hc : c = 47 := hc
    subst hc
    simpa using pieces_stroke l
  | c :: l, m + 1, h, hc, h0 => by
    have hne : c ≠ 47 := by rintro rfl; simp at h0
    rw [List.take_succ_cons, List.count_cons_of_ne (by simpa using hne)] at h0
    rw [pieces_step hne, zIp (l := l) (m := m) (by simpa using h) (by simpa using hc) h0]
    rfl
theorem w8c (c : UInt8) : IntKind.u8.wrap (c.toNat : Int) = (c.toNat : Int) := by rw [w8]; simp
theorem w32c (c : UInt8) : IntKind.i32.wrap (c.toNat : Int) = (c.toNat : Int) := IntWalk.i32_in _ (by have := c.toNat_lt; omega)
def letB (c : UInt8) : Bool := (97 ≤ c && c ≤ 122) || (48 ≤ c && c ≤ 57)
def dotB (c : UInt8) : Bool := c == 46 || c == 95 || c == 45
def okAt (s : List UInt8) (k : Nat) (h : k < s.length) : Prop := letB s[k] = true ∨ (k ≠ 0 ∧ dotB s[k] = true)
def partP (s : List UInt8) : Prop := 1 ≤ s.length ∧ s.length ≤ 24 ∧ ∀ k, ∀ h : k < s.length, okAt s k h
noncomputable def zFj (s : List UInt8) : Bool := @decide (partP s) (Classical.propDecidable _)
theorem partB_iff (s : List UInt8) : zFj s = true ↔ partP s := by simp [zFj]
theorem partB_no {s : List UInt8} (h : ¬ partP s) : zFj s = false := by simp [zFj, h]
theorem part_no {l : List UInt8} {i : Nat} (h : i < l.length) (h1 : letB l[i] = false) (h2 : i = 0 ∨ dotB l[i] = false) : zFj l = false :=
  partB_no fun hp => by
    rcases hp.2.2 i h with h3 | ⟨h3, h4⟩
    · rw [h1] at h3; cases h3
    · rcases h2 with rfl | h2
      · exact h3 rfl
      · rw [h2] at h4; cases h4
theorem part_end {l : List UInt8} (h : ∀ k, ∀ hk : k < l.length, okAt l k hk) : zFj l = true ↔ (1 ≤ l.length ∧ l.length ≤ 24) := by
  rw [partB_iff]
  exact ⟨fun q => ⟨q.1, q.2.1⟩, fun q => ⟨q.1, q.2, h⟩⟩
theorem ok_more {l : List UInt8} {i : Nat} (h : ∀ k, ∀ hk : k < l.length, k < i → okAt l k hk) (hi : i < l.length) (h1 : okAt l i hi) : ∀ k, ∀ hk : k < l.length, k < i + 1 → okAt l k hk := by
  intro k hk hki
  by_cases e : k = i
  · subst e; exact h1
  · exact h k hk (by omega)
def nameP (s : List UInt8) : Prop := s.length ≤ 240 ∧ (zDb s).length ≤ 8 ∧ ∀ p ∈ zDb s, zFj p = true
noncomputable def nameB (s : List UInt8) : Bool := @decide (nameP s) (Classical.propDecidable _)
theorem zGw (s : List UInt8) : nameB s = true ↔ nameP s := by simp [nameB]
def valP (s : List UInt8) : Prop := ∀ k, ∀ h : k < s.length, 32 ≤ s[k].toNat ∧ s[k].toNat ≤ 126
noncomputable def valB (s : List UInt8) : Bool := @decide (valP s) (Classical.propDecidable _)
theorem valB_no {s : List UInt8} (h : ¬ valP s) : valB s = false := by simp [valB, h]
theorem valB_yes {s : List UInt8} (h : valP s) : valB s = true := by simp [valB, h]
theorem zHg (c : UInt8) : letB c = true ↔ (97 ≤ c.toNat ∧ c.toNat ≤ 122) ∨ (48 ≤ c.toNat ∧ c.toNat ≤ 57) := by
  simp [letB, UInt8.le_iff_toNat_le]
theorem dotB_iff (c : UInt8) : dotB c = true ↔ c.toNat = 46 ∨ c.toNat = 95 ∨ c.toNat = 45 := by
  have h : ∀ k : UInt8, c = k ↔ c.toNat = k.toNat := fun k => UInt8.toNat_inj.symm
  simp [dotB, h, or_assoc]
structure Prp where
  name : List UInt8
  value : List UInt8
def Prp.lay (p : Prp) : List Value := [str p.name, str p.value]
theorem Prp.lay_len (p : Prp) : p.lay.length = 2 := rfl
structure Rec where
  kind : Int
  name : List UInt8
  typ : Int
  frm : Int
  guid : Int
  origin : Int
  snap : List UInt8
  props : List Prp
  object : Int
  at_ : Int
  many : Int
  keep : List Int
  data : List UInt8
def ints (l : List Int) : List Value := l.map (.int .i64 ·)
def Rec.cells (r : Rec) (pv kv dv : Value) : List Value :=
  [.int .i64 r.kind, str r.name, .int .i64 r.typ, .int .i64 r.frm, .int .i64 r.guid, .int .i64 r.origin, str r.snap, pv, .int .i64 r.object, .int .i64 r.at_, .int .i64 r.many, kv, dv]
structure RecR (C : zAw) (r : Rec) (pv kv dv : Value) : Prop where
  pr : Rd C 2 pv r.props.length (r.props.flatMap Prp.lay)
  kr : Rd C 1 kv r.keep.length (ints r.keep)
  dr : Rd C 1 dv r.data.length (byt r.data)
structure Sml (r : Rec) : Prop where
  name : r.name.length ≤ 1048576
  snap : r.snap.length ≤ 1048576
  props : r.props.length ≤ 1048576
  prop : ∀ p ∈ r.props, p.name.length ≤ 1048576 ∧ p.value.length ≤ 1048576
  keep : r.keep.length ≤ 1048576
  data : r.data.length ≤ 1048576
def risP (l : List Int) (least most : Int) : Prop := l.length ≤ 240 ∧ ∀ k, ∀ h : k < l.length, least ≤ l[k] ∧ l[k] ≤ most ∧ ∀ h0 : 0 < k, l[k - 1] < l[k]
noncomputable def risB (l : List Int) (least most : Int) : Bool := @decide (risP l least most) (Classical.propDecidable _)
theorem risB_iff (l : List Int) (x y : Int) : risB l x y = true ↔ risP l x y := by simp [risB]
theorem risB_no {l : List Int} {x y : Int} (h : ¬ risP l x y) : risB l x y = false := by simp [risB, h]
def zHm (l : List Prp) (k : Nat) (h : k < l.length) : Prop :=
  zFj l[k].name = true ∧ 1 ≤ l[k].value.length ∧ l[k].value.length ≤ 64 ∧ valB l[k].value = true ∧ ∀ h0 : 0 < k, Op.bytesLess l[k - 1].name l[k].name = true
def prpsP (l : List Prp) : Prop := l.length ≤ 12 ∧ ∀ k, ∀ h : k < l.length, zHm l k h
noncomputable def prpsB (l : List Prp) : Bool := @decide (prpsP l) (Classical.propDecidable _)
theorem zGx (l : List Prp) : prpsB l = true ↔ prpsP l := by simp [prpsB]
theorem prpsB_no {l : List Prp} (h : ¬ prpsP l) : prpsB l = false := by simp [prpsB, h]
noncomputable def behB (s : List UInt8) : Bool := match s with
  | [] => true
  | c :: l => c == 47 && nameB (120 :: c :: l)
def begP (r : Rec) : Prop :=
  behB r.name = true ∧ (1 ≤ r.typ ∧ r.typ ≤ 2) ∧ (0 ≤ r.frm ∧ r.frm ≤ 2199023255552) ∧ (1 ≤ r.guid ∧ r.guid ≤ 2199023255552) ∧ (r.origin = 0 ∨ (r.origin = 1 ∧ 0 < r.frm)) ∧ zFj r.snap = true ∧ prpsB r.props = true
noncomputable def begB (r : Rec) : Bool := @decide (begP r) (Classical.propDecidable _)
theorem zDw (r : Rec) : begB r = true ↔ begP r := by simp [begB]
end Go.Sl
