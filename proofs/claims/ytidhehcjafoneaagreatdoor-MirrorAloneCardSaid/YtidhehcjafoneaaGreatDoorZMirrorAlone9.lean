/-
  Texts put together (9).
-/
import Derived.Test.YtidhehcjafoneaaGreatDoorZMirrorAlone8
namespace Go.Sl
abbrev RF (ro : Option Nat) : Fence := { Fence.wide with round := ro }
def zFf (o : Oper) : Bool := match o.op with
  | .defer _ => false
  | _ => true
section
variable {P : Program} {Q : Exit → Act → World → Prop} {a : Act} {w : World} {o : Oper} {K K' : Act → World → Prop} {ro : Option Nat} {ops : Array Oper} {id : Nat}
theorem callsR {f : FuncId} {args : Array Value} {R : Ending → World → Prop} : CallsIn (RF ro) 0 P f args w R ↔ Calls P f args w R := callsIn_wide (n := 0)
theorem rowsR {row : String} {args : Array Value} {R : Value → World → Prop} (h : Rows P row args w R) : RowsIn (RF ro) 0 P row args w R :=
  fun c cs _ => let ⟨v, w', r, s⟩ := h c cs; ⟨v, w', r, stepsIn_wide.2 s⟩
theorem zBq (h : Q .normal a w) : zCd Q .normal a w := h
theorem no_out : ¬ LetsOut (zCd Q) := fun ⟨_, _, h⟩ => h
theorem op_in (hd : zFf o = true) (h : o.wp P a w K (zCd Q)) (hK : ∀ a w, K a w → K' a w) : o.wpIn (RF ro) 0 P a w K' Q := by
  refine ⟨fun _ _ => trivial, ?_⟩
  have hs : o.semAt (RF ro).round a.eval = execOp a.eval o := Oper.semAt_eq _ _ _ (fun c hc => by simp [zFf, hc] at hd)
  rw [hs]
  unfold Oper.wp at h
  generalize (execOp a.eval o).run P w = r at h ⊢
  cases r with
  | ok x w' =>
    cases x <;> simp only [Oper.upon, Oper.uponIn] at h ⊢ <;>
      first
        | exact h.elim
        | exact hK _ _ h
        | exact ⟨fun h => by simp [Fence.wide] at h, callsR.2 (Calls.mono h fun e w'' he => by cases e <;> first | exact hK _ _ he | exact he.elim | exact absurd he no_out)⟩
        | exact ⟨fun h => by simp [Fence.wide] at h, rowsR (Rows.mono h fun _ _ he => hK _ _ he)⟩
  | halt x w' => cases x <;> simp only [Oper.upon, Oper.uponIn] at h ⊢ <;> exact h.elim
theorem list_in : ∀ (L : List Oper) (a : Act) (w : World), L.all zFf = true → wpList P ops (zCd Q) L a w → wpListIn (RF ro) 0 P ops Q L a w
  | [], _, _, _, h => h
  | o :: rest, a, w, hd, h => by
    simp only [List.all_cons, Bool.and_eq_true] at hd
    unfold wpList at h
    unfold wpListIn
    split
    · rename_i hw
      rw [if_pos hw] at h
      rcases h with h | ⟨_, h⟩
      · exact op_in hd.1 h fun a w h => list_in rest a w hd.2 h
      · exact absurd h no_out
    · rename_i hw
      rw [if_neg hw] at h
      exact ⟨fun _ _ => trivial, list_in rest _ _ hd.2 h⟩
theorem any_in (hd : ∀ (i : Nat) (o : Oper), ops[i]? = some o → zFf o = true) : ∀ (fuel : Nat) (listed : Array Bool) (a : Act) (w : World), wpAny P .any ops (zCd Q) fuel listed a w → wpAnyIn (RF ro) 0 P .any ops Q fuel listed a w
  | 0, _, _, _, h => h
  | fuel + 1, listed, a, w, h => ⟨h.1, fun i hi => by
    have h2 := h.2 i hi
    unfold wpOp at h2
    unfold wpOpIn
    split
    · rename_i ho
      simp only [ho] at h2
      exact any_in hd fuel _ _ _ h2
    · rename_i o ho
      simp only [ho] at h2
      split
      · rename_i hw
        rw [if_pos hw] at h2
        rcases h2 with h2 | ⟨_, h2⟩
        · exact op_in (hd i o ho) h2 fun a w h => any_in hd fuel _ a w h
        · exact absurd h2 no_out
      · rename_i hw
        rw [if_neg hw] at h2
        exact ⟨fun _ _ => trivial, any_in hd fuel _ _ _ h2⟩⟩
theorem zCe {L : List Oper} (hd : L.all zFf = true) (h : wpList P L.toArray (zCd Q) L a w) : (Code.region id L.toArray false).wpIn (RF ro) 0 P Q a w :=
  wpIn_region_lit (list_in L a w hd h)
theorem zJa {l : List Oper} (hd : l.all zFf = true) (ord : Ordr) (S : World → Prop) (hm : P.follows .mixedOrders = true) (hB : zIv l.toArray ord = true) (hS : S w.drew) (h : zDk P l.toArray S (zCd Q) ord a w.drew) : (Code.region id l.toArray true).wpIn (RF ro) 0 P Q a w := by
  simp only [zIv, Bool.and_eq_true, beq_iff_eq] at hB
  obtain ⟨⟨h1, h2⟩, h3⟩ := hB
  have h4 := zDr (js := zIk l.toArray.size ord) (S := S) h1 ord _ a w.drew h3 (by simp) (fun j o _ hj => by simp [Array.getD] at hj) (.inr hS) h
  rw [h2] at h4
  exact wpIn_region_any hm (any_in (fun i o ho => List.all_eq_true.1 hd o (List.mem_of_getElem? (by simpa using ho))) _ _ _ _ (zIj _ _ _ _ h4))
theorem zKg {w0 : World} {As Ls : List zAs} {l : List Oper} (S : St w0 As w Ls) (ord : Ordr) (Ms : List zAs) (hM : ∀ {w' : World}, Stab Ls w' → Stab Ms w') (hd : l.all zFf = true) (hm : P.follows .mixedOrders = true) (hB : zIv l.toArray ord = true)
    (k : ∀ w', St w0 As w' Ls → zDk P l.toArray (Stab Ms) (zCd Q) ord a w') : (Code.region id l.toArray true).wpIn (RF ro) 0 P Q a w := zJa hd ord (Stab Ms) hm hB (hM S.drew.stab) (k _ S.drew)
theorem zFd {w0 : World} {As Ls : List zAs} {l : List Oper} (S : St w0 As w Ls) (ord : Ordr) (hd : l.all zFf = true) (hm : P.follows .mixedOrders = true) (hB : zIv l.toArray ord = true)
    (k : ∀ w', St w0 As w' Ls → zDk P l.toArray (Stab Ls) (zCd Q) ord a w') : (Code.region id l.toArray true).wpIn (RF ro) 0 P Q a w := zJa hd ord (Stab Ls) hm hB S.drew.stab (k _ S.drew)
theorem zCz {x y : Code} (h : ∀ K : Act → World → Prop, (∀ a w, y.wpIn (RF ro) 0 P Q a w → K a w) → x.wpIn (RF ro) 0 P (Exit.then K Q) a w) : (Code.seq x y).wpIn (RF ro) 0 P Q a w := wpIn_seq_k h
theorem zFg (h : Q .normal a w) : Code.skip.wpIn (RF ro) 0 P Q a w := wpIn_skip h
theorem wr_ret (h : Q .ret a w) : Code.ret.wpIn (RF ro) 0 P Q a w := wpIn_ret h
theorem wr_exit {i : Nat} (h : Q (.exit i) a w) : (Code.exit i).wpIn (RF ro) 0 P Q a w := wpIn_exit h
theorem zGa {i : Nat} {c : Code} (h : c.wpIn (RF ro) 0 P (Exit.inBlock i Q) a w) : (Code.block i c).wpIn (RF ro) 0 P Q a w := wpIn_block h
theorem wr_join (J : Act → World → Prop) {c : Code} (h : c.wpIn (RF ro) 0 P (Joined J Q) a w) (k : ∀ a' w', J a' w' → Q .normal a' w') : c.wpIn (RF ro) 0 P Q a w :=
  wpIn_mono h fun e a w h => by cases e <;> first | exact k _ _ h | exact h
theorem wr_loop_ghost {c : Code} (I : Nat → Act → World → Prop) (n₀ : Nat) (h₀ : I n₀ a w)
    (round : ∀ n a w, I n a w → c.wpIn (RF ro) 0 P (Exit.then (fun a' w' => ∃ n', n' < n ∧ I n' a' w') Q) a w) : (Code.loop c).wpIn (RF ro) 0 P Q a w := by
  refine wpIn_loop (fun a w => ∃ n, I n a w) (fun a w => leastOf (fun n => I n a w)) ⟨n₀, h₀⟩ ?_
  intro a w hI
  refine wpIn_mono (round _ a w (leastOf_spec hI).1) ?_
  intro e a' w' hq
  cases e with
  | normal =>
    obtain ⟨n', hlt, hI'⟩ := hq
    exact show (∃ n, I n a' w') ∧ leastOf (fun n => I n a' w') < leastOf (fun n => I n a w) from ⟨⟨n', hI'⟩, Nat.lt_of_le_of_lt ((leastOf_spec ⟨n', hI'⟩).2 n' hI') hlt⟩
  | exit id => exact hq
  | goto l => exact hq
  | ret => exact hq
  | panic ch => exact hq
  | outgrown => exact hq
end
section
variable {P : Program} {Q : Exit → Act → World → Prop} {a : Act} {w w0 : World} {As Ls Rs : List zAs} {o : Oper} {K : Act → World → Prop} {ro : Option Nat} {n : Nat} {e : List (Nat × Value)} {ds : List Deferred}
theorem if_boolR (E : Fr a n e ds) {c : Operand} {x y : Code} {b : Bool} (hc : ev e c = some (.bool b)) (ht : b = true → x.wpIn (RF ro) 0 P Q a w) (hf : b = false → y.wpIn (RF ro) 0 P Q a w) : (Code.cond c x y).wpIn (RF ro) 0 P Q a w :=
  wpIn_cond_split (E.eval hc) ht hf
theorem zIg (E : Fr a n e ds) {c : Operand} {x y : Code} {b : Bool} (hc : ev e c = some (.bool b)) (hb : b = true) (ht : x.wpIn (RF ro) 0 P Q a w) : (Code.cond c x y).wpIn (RF ro) 0 P Q a w :=
  wpIn_cond_split (E.eval hc) (fun _ => ht) (fun h => by rw [hb] at h; cases h)
theorem zDx (E : Fr a n e ds) {c : Operand} {x y : Code} {b : Bool} (hc : ev e c = some (.bool b)) (hb : b = false) (hf : y.wpIn (RF ro) 0 P Q a w) : (Code.cond c x y).wpIn (RF ro) 0 P Q a w :=
  wpIn_cond_split (E.eval hc) (fun h => by rw [hb] at h; cases h) (fun _ => hf)
theorem zFq {l : Nat} {r : Loop} (h : w.heap[l]? = some (.loop r)) : (Instr.getLoop l).run P w = .ok r w := by
  have h1 : (getObj l).run P w = .ok (.loop r) w := by simp [getObj, Sem.run, h]
  simp [Instr.getLoop, h1]
theorem zJl {l : Nat} {r : Loop} {x' : Obj} (h : w.heap[l]? = some (.loop r)) : (setObj l x').run P w = .ok () { w with heap := w.heap.setIfInBounds l x' } := by simp [setObj, Sem.run, h]
theorem St.setO {l : Nat} {x x' : Obj} (S : St w0 As w ([(l, x)] :: Ls)) : St w0 As { w with heap := w.heap.setIfInBounds l x' } ([(l, x')] :: Ls) :=
  S.block (F := { w with heap := w.heap.setIfInBounds l x' }) pk1 rfl rfl rfl (by simp) (fun h => by
    have := (Array.getElem?_eq_some_iff.1 h).1
    simp [this]) (fun k hk => by simp [Array.getElem?_setIfInBounds, Ne.symm hk])
theorem St.getO {l : Nat} {x : Obj} (S : St w0 As w ([(l, x)] :: Ls)) : w.heap[l]? = some x := S.stab.one (List.Mem.head _)
def rpost (l : Nat) (w0 : World) (As : List zAs) (rc : Loop) (R : Ending → World → Prop) : Exit → Act → World → Prop
  | .normal, _, w => ∃ Ls', St w0 As w ([(l, .loop { rc with state := .busy })] :: Ls') ∧ ∀ w', St w0 As w' ([(l, .loop { rc with state := .ready, pending := none })] :: Ls') → R (.returned (.bool true)) w'
  | .ret, _, w => ∃ Ls', St w0 As w ([(l, .loop { rc with state := .busy })] :: Ls') ∧ ∀ w', St w0 As w' ([(l, .loop { rc with state := .done, pending := some .ret })] :: Ls') → R (.returned (.bool false)) w'
  | _, _, _ => False
theorem rpost_imp {l : Nat} {rc : Loop} {R : Ending → World → Prop} : ∀ (x : Exit) (a : Act) (w : World), rpost l w0 As rc R x a w → roundPost P l R x a w := by
  intro x a w h
  cases x with
  | normal =>
    obtain ⟨Ls', S, k⟩ := h
    exact ⟨.bool true, _, by simp [Instr.endRound, zFq S.getO, zJl S.getO], k _ S.setO⟩
  | ret =>
    obtain ⟨Ls', S, k⟩ := h
    exact ⟨.bool false, _, by simp [Instr.endRound, zFq S.getO, zJl S.getO], k _ S.setO⟩
  | exit i => exact h.elim
  | goto l => exact h.elim
  | panic c => exact h.elim
  | outgrown => exact h.elim
theorem round_in {l : Nat} {f : FuncId} {tmps : Array Value} {assign body : Code} {rc : Loop} {R : Ending → World → Prop} (S : St w0 As w ([(l, .loop rc)] :: Ls)) (hst : rc.state = .ready) (E : Fr ⟨tmps, []⟩ n e)
    (h : ∀ a, Fr a n e → assign.wpIn (RF (some l)) 0 P (Exit.then (fun a1 w1 => ∃ Ls1, St w0 As w1 ([(l, .loop rc)] :: Ls1) ∧ ∀ w2, St w0 As w2 ([(l, .loop { rc with state := .busy })] :: Ls1) →
      body.wpIn (RF (some l)) 0 P (rpost l w0 As rc R) a1 w2) (fun _ _ _ => False)) a w) : RoundIn Fence.wide 0 P l f tmps assign body w R := by
  refine roundIn_of_wpIn (F := Fence.wide) trivial (wpIn_mono (h _ E) ?_)
  intro x a1 w1 hx
  cases x with
  | normal =>
    obtain ⟨Ls1, S1, k⟩ := hx
    refine ⟨_, ?_, wpIn_mono (k _ S1.setO) rpost_imp⟩
    simp [Instr.beginRound, zFq S1.getO, zJl S1.getO, hst]
  | exit i => exact hx.elim
  | goto l => exact hx.elim
  | ret => exact hx.elim
  | panic c => exact hx.elim
  | outgrown => exact hx.elim
theorem fr_round2 (E : Fr a n e ds) {p0 p1 : Nat} (h0 : p0 < n) (h1 : p1 < n) (v0 v1 : Value) :
    Fr ⟨((#[p0, p1] : Array Tmp).zip #[v0, v1]).foldl (fun tmps x => tmps.setIfInBounds x.1 x.2) a.tmps, []⟩ n ((p1, v1) :: (p0, v0) :: e) := by
  have h := (E.put h0 v0).put h1 v1
  exact ⟨by simpa [Act.put] using h.size, rfl, fun k v hk => by simpa [Act.put] using h.get k v hk⟩
theorem op_yield (E : Fr a n e ds) {l : Nat} {g : Operand} {xs : List Operand} {ts : Array TypeId} {vs : List Value} {rc : Loop} (ho : o.op = .call { callee := .value g, args := xs.toArray, argTypes := ts }) (hgv : ev e g = some (.func (.yield l) #[] #[]))
    (hx : evs e xs = some vs) (hl : w.heap[l]? = some (.loop rc)) (hsz : vs.length = rc.params.size)
    (hr : RoundIn Fence.wide 0 P l rc.fn ((rc.params.zip vs.toArray).foldl (fun tmps x => tmps.setIfInBounds x.1 x.2) rc.tmps) rc.assign rc.body w fun en w' => ∃ v, en = .returned v ∧ K (a.put o.dst v) w') : o.wpIn (RF none) 0 P a w K Q := by
  refine ⟨fun _ _ => trivial, ?_⟩
  have hrun : (execOp a.eval o).run P w = .ok (.round l rc.fn ((rc.params.zip vs.toArray).foldl (fun tmps x => tmps.setIfInBounds x.1 x.2) rc.tmps) rc.assign rc.body) w := by
    unfold execOp
    simp [ho, resolve, E.eval hgv, Deferred.ofValue, invoke, E.evals hx, Instr.yield, zFq hl, hsz]
  have hs : o.semAt (RF none).round a.eval = execOp a.eval o := rfl
  rw [hs, hrun]
  refine ⟨fun h => by simp [Fence.wide] at h, ?_⟩
  refine RoundIn.mono hr ?_
  rintro en w' ⟨v, rfl, h⟩
  exact h
theorem wp_rangeF (E : Fr a n e []) (S : St w0 As w Ls) {g : Operand} {ps : Array Tmp} {assign body : Code} {f : FuncId} {fn : Func} {cap : List Value} (hg : ev e g = some (.func (.func f) #[] cap.toArray))
    (hf : P.funcs[f]? = some fn) (hb : fn.body.isSome = true) (hnm : (fn.name == "runtime.NumGoroutine") = false)
    (h : ∀ (fi : FuncId) (l r : Nat) (w1 : World), St w0 As w1 ([(l, .loop ⟨.ready, none, fi, a.tmps, ps, assign, body, r⟩)] :: [(r, .deferred (some []))] :: Ls) →
      CallsIn Fence.wide 0 P f (.func (.yield l) #[] #[] :: cap).toArray w1 fun en w' => ∃ v, en = .returned v ∧ ∃ jump st Ls', st ≠ LoopState.busy ∧ St w0 As w' ([(l, .loop ⟨st, jump, fi, a.tmps, ps, assign, body, r⟩)] :: Ls') ∧
        ∀ w2, St w0 As w2 Ls' → ∀ a', Fr a' n e [⟨.collected r, #[]⟩] → (jump = none ∧ Q .normal a' w2) ∨ (jump = some .ret ∧ Q .ret a' w2)) : (Code.rangeFunc g ps assign body).wp P Q a w := by
  refine (wpIn_wide (n := 0)).1 (wpIn_rangeFunc fun fi _ => ?_)
  have S1 := (S.alloc (.deferred (some []))).alloc (.loop ⟨.ready, none, fi, a.tmps, ps, assign, body, w.heap.size⟩)
  have hsz : (w.alloc (.deferred (some []))).heap.size = w.heap.size + 1 := by simp
  rw [hsz] at S1
  obtain ⟨W1, hW1⟩ : ∃ W1, W1 = (w.alloc (.deferred (some []))).alloc (.loop ⟨.ready, none, fi, a.tmps, ps, assign, body, w.heap.size⟩) := ⟨_, rfl⟩
  rw [← hW1] at S1
  have hcall := h fi (w.heap.size + 1) w.heap.size W1 S1
  refine ⟨w.heap.size + 1, [⟨.collected w.heap.size, #[]⟩], W1, ⟨.fn (.func f) cap.toArray, #[.func (.yield (w.heap.size + 1)) #[] #[]]⟩, W1, f, (.func (.yield (w.heap.size + 1)) #[] #[] :: cap).toArray, W1, ?_, ?_, fun _ _ => trivial, ?_, fun h => by simp [Fence.wide] at h, ?_⟩
  · rw [hW1]; simp [Instr.enterLoop, Fence.wide, hsz]
  · have hy : a.eval (.const (.func (.yield (w.heap.size + 1)) #[] #[])) = .func (.yield (w.heap.size + 1)) #[] #[] := rfl
    simp [resolve, E.eval hg, hy, Deferred.ofValue]
  · simp [invoke, zGs hf hb hnm]
  · refine CallsIn.mono hcall ?_
    rintro en w3 ⟨v, rfl, jump, st, Ls', hst, S3, k⟩
    have hE : Fr { tmps := a.tmps, defers := [⟨.collected w.heap.size, #[]⟩] ++ a.defers } n e [⟨.collected w.heap.size, #[]⟩] := ⟨E.size, by rw [E.nod]; rfl, E.get⟩
    have S4 := (S3.setO (x' := .loop ⟨.exhausted, jump, fi, a.tmps, ps, assign, body, w.heap.size⟩)).tail
    have hend : (Instr.endLoop (w.heap.size + 1)).run P w3 = .ok jump { w3 with heap := w3.heap.setIfInBounds (w.heap.size + 1) (.loop ⟨.exhausted, jump, fi, a.tmps, ps, assign, body, w.heap.size⟩) } := by
      have h1 : (st == LoopState.busy) = false := by cases st <;> first | rfl | exact absurd rfl hst
      simp only [Instr.endLoop, Sem.run_bind, zFq S3.getO, Result.andThen_ok, h1, Bool.false_eq_true, if_false]
      simp [zJl S3.getO]
    refine ⟨jump, _, hend, ?_⟩
    rcases k _ S4 _ hE with ⟨rfl, hq⟩ | ⟨rfl, hq⟩
    · exact hq
    · exact wpIn_ret hq
structure LoopIs (rc : Loop) (a : Act) (ps : Array Tmp) (assign body : Code) : Prop where
  st : rc.state = .ready
  pn : rc.pending = none
  tm : rc.tmps = a.tmps
  pr : rc.params = ps
  as_ : rc.assign = assign
  bd : rc.body = body
abbrev stopd (rc : Loop) : Loop := { rc with state := .done, pending := some .ret }
abbrev zHw (rc : Loop) : Loop := { rc with state := .busy }
theorem wp_range (E : Fr a n e []) (S : St w0 As w Ls) {g : Operand} {ps : Array Tmp} {assign body : Code} {f : FuncId} {fn : Func} {cap : List Value} (hg : ev e g = some (.func (.func f) #[] cap.toArray))
    (hf : P.funcs[f]? = some fn) (hb : fn.body.isSome = true) (hnm : (fn.name == "runtime.NumGoroutine") = false)
    (h : ∀ (rc : Loop) (l r : Nat) (w1 : World), LoopIs rc a ps assign body → St w0 As w1 ([(l, .loop rc)] :: [(r, .deferred (some []))] :: Ls) →
      CallsIn Fence.wide 0 P f (.func (.yield l) #[] #[] :: cap).toArray w1 fun en w' => ∃ v, en = .returned v ∧
        ((∃ Ls', St w0 As w' ([(l, .loop rc)] :: Ls') ∧ ∀ w2, St w0 As w2 Ls' → ∀ a', Fr a' n e [⟨.collected r, #[]⟩] → Q .normal a' w2) ∨
         (∃ Ls', St w0 As w' ([(l, .loop (stopd rc))] :: Ls') ∧ ∀ w2, St w0 As w2 Ls' → ∀ a', Fr a' n e [⟨.collected r, #[]⟩] → Q .ret a' w2))) : (Code.rangeFunc g ps assign body).wp P Q a w := by
  refine wp_rangeF E S hg hf hb hnm fun fi l r w1 S1 => ?_
  refine CallsIn.mono (h _ l r w1 ⟨rfl, rfl, rfl, rfl, rfl, rfl⟩ S1) ?_
  rintro en w' ⟨v, rfl, ⟨Ls', S2, k⟩ | ⟨Ls', S2, k⟩⟩
  · exact ⟨v, rfl, none, .ready, Ls', by decide, S2, fun w2 S3 a' E' => .inl ⟨rfl, k w2 S3 a' E'⟩⟩
  · exact ⟨v, rfl, some .ret, .done, Ls', by decide, S2, fun w2 S3 a' E' => .inr ⟨rfl, k w2 S3 a' E'⟩⟩
def rpost2 (l : Nat) (w0 : World) (As : List zAs) (rc : Loop) (R : Ending → World → Prop) : Exit → Act → World → Prop
  | .normal, _, w => ∃ Ls', St w0 As w ([(l, .loop (zHw rc))] :: Ls') ∧ ∀ w', St w0 As w' ([(l, .loop rc)] :: Ls') → R (.returned (.bool true)) w'
  | .ret, _, w => ∃ Ls', St w0 As w ([(l, .loop (zHw rc))] :: Ls') ∧ ∀ w', St w0 As w' ([(l, .loop (stopd rc))] :: Ls') → R (.returned (.bool false)) w'
  | _, _, _ => False
theorem round2 {l p0 p1 : Nat} {assign body : Code} {rc : Loop} {R : Ending → World → Prop} {v0 v1 : Value} (hL : LoopIs rc a #[p0, p1] assign body) (S : St w0 As w ([(l, .loop rc)] :: Ls)) (E : Fr a n e ds) (h0 : p0 < n) (h1 : p1 < n)
    (h : ∀ a, Fr a n ((p1, v1) :: (p0, v0) :: e) → assign.wpIn (RF (some l)) 0 P (Exit.then (fun a1 w1 => ∃ Ls1, St w0 As w1 ([(l, .loop rc)] :: Ls1) ∧ ∀ w2, St w0 As w2 ([(l, .loop (zHw rc))] :: Ls1) →
      body.wpIn (RF (some l)) 0 P (rpost2 l w0 As rc R) a1 w2) (fun _ _ _ => False)) a w) : RoundIn Fence.wide 0 P l rc.fn ((rc.params.zip #[v0, v1]).foldl (fun tmps x => tmps.setIfInBounds x.1 x.2) rc.tmps) rc.assign rc.body w R := by
  have hback : ({ rc with state := .ready, pending := none } : Loop) = rc := by
    have h1 := hL.st
    have h2 := hL.pn
    cases rc
    simp only at h1 h2
    subst h1 h2
    rfl
  rw [hL.tm, hL.pr, hL.as_, hL.bd]
  refine round_in S hL.st (fr_round2 E h0 h1 v0 v1) fun a2 E2 => wpIn_mono (h a2 E2) ?_
  intro x a1 w1 hx
  cases x with
  | normal =>
    obtain ⟨Ls1, S1, k⟩ := hx
    refine ⟨Ls1, S1, fun w2 S2 => wpIn_mono (k w2 S2) ?_⟩
    intro y a3 w3 hy
    cases y with
    | normal =>
      obtain ⟨Ls', S3, k3⟩ := hy
      exact ⟨Ls', S3, fun w' S4 => k3 w' (by rw [hback] at S4; exact S4)⟩
    | ret => exact hy
    | exit i => exact hy.elim
    | goto l => exact hy.elim
    | panic c => exact hy.elim
    | outgrown => exact hy.elim
  | exit i => exact hx.elim
  | goto l => exact hx.elim
  | ret => exact hx.elim
  | panic c => exact hx.elim
  | outgrown => exact hx.elim
variable {ops : Array Oper} {rest : List Oper} {v : Value} {d : Nat}
theorem op_yield' (E : Fr a n e ds) {l : Nat} {g : Operand} {xs : List Operand} {ts : Array TypeId} {vs : List Value} {rc : Loop} (hd : o.dst = some d) (hn : d < n) (ho : o.op = .call { callee := .value g, args := xs.toArray, argTypes := ts }) (hgv : ev e g = some (.func (.yield l) #[] #[]))
    (hx : evs e xs = some vs) (hl : w.heap[l]? = some (.loop rc)) (hsz : vs.length = rc.params.size)
    (hr : RoundIn Fence.wide 0 P l rc.fn ((rc.params.zip vs.toArray).foldl (fun tmps x => tmps.setIfInBounds x.1 x.2) rc.tmps) rc.assign rc.body w fun en w' => ∃ v, en = .returned v ∧ ∀ a', Fr a' n ((d, v) :: e) ds → K a' w') : o.wpIn (RF none) 0 P a w K Q :=
  op_yield E ho hgv hx hl hsz (RoundIn.mono hr fun en w' ⟨v, h1, h2⟩ => ⟨v, h1, by rw [hd]; exact h2 _ (E.put hn v)⟩)
theorem op_value (hnd : zFf o = true) (hr : zBh P o a w v w) (k : K (a.put o.dst v) w) : o.wpIn (RF ro) 0 P a w K Q := by
  refine ⟨fun _ _ => trivial, ?_⟩
  have hs : o.semAt (RF ro).round a.eval = execOp a.eval o := Oper.semAt_eq _ _ _ (fun c hc => by simp [zFf, hc] at hnd)
  unfold zBh at hr
  rw [hs, hr]
  exact k
theorem zEi (E : Fr a n e ds) (hg : o.guard = none) (hnd : zFf o = true) (hd : o.dst = some d) (hn : d < n) (hr : zBh P o a w v w)
    (k : ∀ a', Fr a' n ((d, v) :: e) ds → wpListIn (RF ro) 0 P ops Q rest a' w) : wpListIn (RF ro) 0 P ops Q (o :: rest) a w := by
  unfold wpListIn
  rw [if_pos (by simp [Region.wanted, hg])]
  exact op_value hnd hr (by rw [hd]; exact k _ (E.put hn v))
theorem zFr (E : Fr a n e ds) {j t : Nat} {want b : Bool} {oj : Oper} (hg : o.guard = some (j, want)) (hj : ops[j]? = some oj) (ht : oj.dst = some t) (hb : lk e t = some (.bool b)) (hbw : b = want)
    (hnd : zFf o = true) (hd : o.dst = some d) (hn : d < n) (hr : zBh P o a w v w)
    (k : ∀ a', Fr a' n ((d, v) :: e) ds → wpListIn (RF ro) 0 P ops Q rest a' w) : wpListIn (RF ro) 0 P ops Q (o :: rest) a w := by
  unfold wpListIn
  rw [zEm E hg hj ht hb, hbw]
  simp only [BEq.rfl, if_true]
  exact op_value hnd hr (by rw [hd]; exact k _ (E.put hn v))
theorem zKu (E : Fr a n e ds) {j t : Nat} {want b : Bool} {oj : Oper} (hg : o.guard = some (j, want)) (hj : ops[j]? = some oj) (ht : oj.dst = some t) (hb : lk e t = some (.bool b)) (hbw : b = want)
    (h : o.wpIn (RF ro) 0 P a w (wpListIn (RF ro) 0 P ops Q rest) Q) : wpListIn (RF ro) 0 P ops Q (o :: rest) a w := by
  unfold wpListIn
  rw [zEm E hg hj ht hb, hbw]
  simp only [BEq.rfl, if_true]
  exact h
theorem zKv (E : Fr a n e ds) {j t : Nat} {want b : Bool} {oj : Oper} (hg : o.guard = some (j, want)) (hj : ops[j]? = some oj) (ht : oj.dst = some t) (hb : lk e t = some (.bool b)) (hbw : b = !want)
    (hd : o.dst = some d) (hn : d < n)
    (k : ∀ a', Fr a' n ((d, undef) :: e) ds → wpListIn (RF ro) 0 P ops Q rest a' w) : wpListIn (RF ro) 0 P ops Q (o :: rest) a w := by
  unfold wpListIn
  rw [zEm E hg hj ht hb, hbw]
  have : ((!want) == want) = false := by cases want <;> rfl
  simp only [this, Bool.false_eq_true, if_false]
  rw [hd]
  exact ⟨fun _ _ => trivial, k _ (E.put hn undef)⟩
end
section
variable {P : Program} {f : FuncId} {fn : Func} {c : Code} {w w0 : World} {As Ls Rs : List zAs} {R : Ending → World → Prop} {a : Act} {n : Nat} {e : List (Nat × Value)}
theorem zLn (n : Nat) (args : Array Value) (e : List (Nat × Value)) (hf : P.funcs[f]? = some fn) (hb : fn.body = some c) (hn : fn.ntmps = n) (hs : args.size ≤ n)
    (he : ∀ k v, lk e k = some v → args[k]? = some v) (h : ∀ a, Fr a n e → c.wp P (bodyPostM Fence.wide 0 P fn R) a w) : Calls P f args w R :=
  (callsIn_wide (n := 0)).1 (callsIn_of_wp_marks hf hb trivial (wpIn_wide.2 (by subst hn; exact h _ (fr_enter _ args e hs he))))
theorem enterM1 (n : Nat) {x0 : Value} (hf : P.funcs[f]? = some fn) (hb : fn.body = some c) (hn : fn.ntmps = n) (hs : 1 ≤ n)
    (h : ∀ a, Fr a n [(0, x0)] → c.wp P (bodyPostM Fence.wide 0 P fn R) a w) : Calls P f #[x0] w R :=
  zLn n _ _ hf hb hn hs (zGh _ _ (by simp)) h
theorem enterM6 (n : Nat) {x0 x1 x2 x3 x4 x5 : Value} (hf : P.funcs[f]? = some fn) (hb : fn.body = some c) (hn : fn.ntmps = n) (hs : 6 ≤ n)
    (h : ∀ a, Fr a n [(0, x0), (1, x1), (2, x2), (3, x3), (4, x4), (5, x5)] → c.wp P (bodyPostM Fence.wide 0 P fn R) a w) : Calls P f #[x0, x1, x2, x3, x4, x5] w R :=
  zLn n _ _ hf hb hn hs (zGh _ _ (by simp)) h
theorem enterI2 (n : Nat) {x0 x1 : Value} (hf : P.funcs[f]? = some fn) (hb : fn.body = some c) (hn : fn.ntmps = n) (hs : 2 ≤ n)
    (h : ∀ a, Fr a n [(0, x0), (1, x1)] → c.wpIn (RF none) 0 P (bodyPost P fn R) a w) : CallsIn Fence.wide 0 P f #[x0, x1] w R :=
  callsIn_of_wp (F := Fence.wide) hf hb trivial (by subst hn; exact h _ (fr_enter _ _ _ hs (zGh _ _ (by simp))))
def Res1 (P : Program) (e : List (Nat × Value)) (x : ResultVar) (v : Value) (w : World) : Prop :=
  match x with
  | .tmp t => lk e t = some v
  | .cell t ty => ∃ ad, lk e t = some (.pointer (some ad)) ∧ (loadVar ty ad).run P w = .ok v w
theorem zFj {t ty : Nat} {b j : Nat} {l : List Value} {T : TypeId} {fr : Nat × Nat} {v : Value} (hp : lk e t = some (.pointer (some ⟨b, j, none⟩))) (ht : zLa P ty = true) (hb : w.heap[b]? = some (.cells l.toArray T fr)) (hv : l[j]? = some v) : Res1 P e (.cell t ty) v w :=
  ⟨_, hp, by
    have h1 : w.cell? ⟨b, j, none⟩ = some v := by rw [zGi hb, List.getElem?_toArray]; exact hv
    simp [loadVar, zEn ht, h1]⟩
def res1 (a : Act) (x : ResultVar) : Sem Value := match x with
  | .tmp t => pure (a.tmps.getD t undef)
  | .cell c t => do loadVar t (← asAddr (a.tmps.getD c undef))
theorem Res1.run {ds : List Deferred} (E : Fr a n e ds) {x : ResultVar} {v : Value} (h : Res1 P e x v w) : (res1 a x).run P w = .ok v w := by
  cases x with
  | tmp t =>
    have := E.get t v h
    simp [res1, Array.getD_eq_getD_getElem?, this]
  | cell c t =>
    obtain ⟨ad, h1, h2⟩ := h
    have := E.get c _ h1
    simp [res1, Array.getD_eq_getD_getElem?, this, asAddr, h2]
theorem zHe (fn : Func) (a : Act) : results fn a.tmps = (do
    let vs ← fn.results.mapM (res1 a)
    pure (if h : vs.size = 1 then vs[0] else .tuple vs)) := rfl
theorem mark_out {r : Nat} (E : Fr a n e [⟨.collected r, #[]⟩]) (S : St w0 As w Ls) (hp : Ls.Perm ([(r, .deferred (some []))] :: Rs))
    (h : ∀ w', St w0 As w' Rs → ∃ v, (results fn a.tmps).run P w' = .ok v w' ∧ R (.returned v) w') (x : Exit) (hx : x = .ret ∨ x = .normal) : bodyPostM Fence.wide 0 P fn R x a w := by
  have S1 := S.perm hp
  have hg : (getObj r).run P w = .ok (.deferred (some [])) w := by simp [getObj, Sem.run, S1.getO]
  have hs : (setObj r (.deferred none)).run P w = .ok () { w with heap := w.heap.setIfInBounds r (.deferred none) } := by simp [setObj, Sem.run, S1.getO]
  have hk : (Instr.takeDeferred r).run P w = .ok [] { w with heap := w.heap.setIfInBounds r (.deferred none) } := by
    simp [Instr.takeDeferred, hg, hs]
  have key : LeavesInM Fence.wide 0 P fn a.tmps R a.defers .returning w := by
    rw [E.nod]
    exact ⟨by simp, .inl ⟨r, _, rfl, hk, h _ (S1.setO (x' := .deferred none)).tail⟩⟩
  rcases hx with rfl | rfl <;> exact key
theorem retM1 {r : Nat} {x : ResultVar} {v : Value} (E : Fr a n e [⟨.collected r, #[]⟩]) (S : St w0 As w Ls) (hp : Ls.Perm ([(r, .deferred (some []))] :: Rs)) (hr : fn.results = #[x])
    (hv : ∀ w', St w0 As w' Rs → Res1 P e x v w') (h : ∀ w', St w0 As w' Rs → R (.returned v) w') : bodyPostM Fence.wide 0 P fn R .ret a w :=
  mark_out E S hp (fun w' S' => ⟨v, by rw [zHe, hr]; simp [(hv w' S').run E], h w' S'⟩) _ (.inl rfl)
theorem retM2 {r : Nat} {x y : ResultVar} {v u : Value} (E : Fr a n e [⟨.collected r, #[]⟩]) (S : St w0 As w Ls) (hp : Ls.Perm ([(r, .deferred (some []))] :: Rs)) (hr : fn.results = #[x, y])
    (hv : ∀ w', St w0 As w' Rs → Res1 P e x v w') (hu : ∀ w', St w0 As w' Rs → Res1 P e y u w') (h : ∀ w', St w0 As w' Rs → R (.returned (.tuple #[v, u])) w') : bodyPostM Fence.wide 0 P fn R .ret a w :=
  mark_out E S hp (fun w' S' => ⟨.tuple #[v, u], by rw [zHe, hr]; simp [(hv w' S').run E, (hu w' S').run E], h w' S'⟩) _ (.inl rfl)
theorem retM3 {r : Nat} {x y z : ResultVar} {v u t : Value} (E : Fr a n e [⟨.collected r, #[]⟩]) (S : St w0 As w Ls) (hp : Ls.Perm ([(r, .deferred (some []))] :: Rs)) (hr : fn.results = #[x, y, z])
    (hv : ∀ w', St w0 As w' Rs → Res1 P e x v w') (hu : ∀ w', St w0 As w' Rs → Res1 P e y u w') (ht : ∀ w', St w0 As w' Rs → Res1 P e z t w') (h : ∀ w', St w0 As w' Rs → R (.returned (.tuple #[v, u, t])) w') : bodyPostM Fence.wide 0 P fn R .ret a w :=
  mark_out E S hp (fun w' S' => ⟨.tuple #[v, u, t], by rw [zHe, hr]; simp [(hv w' S').run E, (hu w' S').run E, (ht w' S').run E], h w' S'⟩) _ (.inl rfl)
end
end Go.Sl
namespace Go.Sl
def zDm (n : Int) : Int := if n < 1 ∨ 1024 < n then 0 else (n + 127) / 128
theorem zEo (n : Int) : 0 ≤ zDm n ∧ zDm n ≤ 8 ∧ (0 < zDm n ↔ 1 ≤ n ∧ n ≤ 1024) ∧ (0 < zDm n → n ≤ 128 * zDm n) := by
  unfold zDm
  split
  · refine ⟨by omega, by omega, ⟨fun h => by omega, fun h => by omega⟩, fun h => by omega⟩
  · refine ⟨by omega, by omega, ⟨fun h => by omega, fun h => by omega⟩, fun h => by omega⟩
def zEj (sz at_ n : Int) : Prop := 0 < zDm n ∧ 0 ≤ at_ ∧ at_ ≤ sz ∧ zDm n ≤ sz - at_
instance (sz at_ n : Int) : Decidable (zEj sz at_ n) := by unfold zEj; infer_instance
def padM (b : List UInt8) : List UInt8 := b ++ List.replicate ((zDm b.length).toNat * 128 - b.length) 0
theorem zEr {b : List UInt8} (h : 0 < zDm b.length) : (padM b).length = (zDm b.length).toNat * 128 := by
  have := zEo b.length
  rw [padM, List.length_append, List.length_replicate]; omega
abbrev Lf := Option (Nat × Nat)
def lv : Lf → Value
  | some x => ptr x.1
  | none => .pointer none
structure Lk where
  fr : Int
  to : Int
  is : Bool
def Lk.lay (x : Lk) : List Value := [.int .u64 x.fr, .int .u64 x.to, .bool x.is]
theorem Lk.lay_len (x : Lk) : x.lay.length = 3 := rfl
end Go.Sl
namespace Go.Proofs.YtidhehcjafoneaaGreatDoor
open Go.Sl
set_option maxRecDepth 10000
def LvC : List Lf → zAs → Prop
  | [], C => C = []
  | none :: r, C => LvC r C
  | some x :: r, C => ∃ L C', LfC x.1 x.2 L ∧ LvC r C' ∧ C = L ++ C'
theorem LvC.at : ∀ {ls : List Lf} {C : zAs} (_ : LvC ls C) {i : Nat} {x : Nat × Nat} (_ : ls[i]? = some (some x)), ∃ A L B, C = A ++ (L ++ B) ∧ LfC x.1 x.2 L ∧ ∀ L', LfC x.1 x.2 L' → LvC ls (A ++ (L' ++ B))
  | none :: r, C, h, i, x, hi => by
    cases i with
    | zero => simp at hi
    | succ i =>
      obtain ⟨A, L, B, h1, h2, h3⟩ := LvC.at (ls := r) h (i := i) (by simpa using hi)
      exact ⟨A, L, B, h1, h2, h3⟩
  | some y :: r, C, h, i, x, hi => by
    obtain ⟨L0, C', h1, h2, rfl⟩ := h
    cases i with
    | zero =>
      simp at hi; subst hi
      exact ⟨[], L0, C', rfl, h1, fun L' hL' => ⟨L', C', hL', h2, rfl⟩⟩
    | succ i =>
      obtain ⟨A, L, B, rfl, g2, g3⟩ := LvC.at (ls := r) h2 (i := i) (by simpa using hi)
      exact ⟨L0 ++ A, L, B, by rw [List.append_assoc], g2, fun L' hL' => ⟨L0, A ++ (L' ++ B), h1, g3 L' hL', by rw [List.append_assoc]⟩⟩
  | [], _, _, i, x, hi => by simp at hi
theorem LvC.snoc : ∀ {ls : List Lf} {C : zAs} (_ : LvC ls C) {x : Nat × Nat} {L : zAs} (_ : LfC x.1 x.2 L), LvC (ls ++ [some x]) (C ++ L)
  | [], C, h, x, L, hL => by
    have h : C = [] := h
    subst h
    exact ⟨L, [], hL, rfl, by simp⟩
  | none :: r, C, h, x, L, hL => LvC.snoc (ls := r) h hL
  | some y :: r, C, h, x, L, hL => by
    obtain ⟨L0, C', h1, h2, rfl⟩ := h
    exact ⟨L0, C' ++ L, h1, LvC.snoc (ls := r) h2 hL, by rw [List.append_assoc]⟩
abbrev mtcl (vl vk : Value) (sz : Int) : Obj := cel [vl, vk, .int .i64 sz] 89
theorem msize_ret (t : Nat) (vl vk : Value) (sz : Int) (w0 : World) (H : Hp w0 [[(t, mtcl vl vk sz)]]) : Ret Tryz.prog 23 #[ptr t] w0 fun u w' => u = .int .i64 sz ∧ Trs w0 w' [[(t, mtcl vl vk sz)]] [[(t, mtcl vl vk sz)]] := by
  have S := St.begin H
  refine zDc 7 Tryz.func23 rfl rfl (by decide) ?_; intro a E
  refine wp_seq_k ?_; intro K hK
  refine zAc ?_
  refine zp E (zAg E rfl rfl) ?_; clear E a; intro a E
  refine wpList_nil ?_
  refine zAh hK ?_; clear hK; clear K
  refine wp_seq_k ?_; intro K hK
  refine zAc ?_
  refine zp E (zAe E rfl rfl) ?_; clear E a; intro a E
  refine zp E (zAl E rfl rfl) ?_; clear E a; intro a E
  refine zp E (by first | exact zAf (q := 2) E rfl rfl rfl | exact zAi (q := 2) E rfl rfl rfl) ?_; clear E a; intro a E
  refine zp E (by first | exact zAn E rfl rfl rfl (S.get (by repeat (first | exact pk1 | apply zAa))) rfl | exact zAj E rfl rfl rfl (by assumption)) ?_; clear E a; intro a E
  refine zp E (zAg E rfl rfl) ?_; clear E a; intro a E
  refine wpList_nil ?_
  refine zAh hK ?_; clear hK; clear K
  refine wp_ret ?_
  refine ret1 E rfl rfl ?_
  exact ⟨_, rfl, rfl, S.tr⟩
theorem zHf (v : Value) (n : Int) (hn : n ≤ 9223372036854775807) (w0 : World) : Ret Tryz.prog 22 #[v, .int .i64 n] w0 fun u w' => u = .int .i64 (zDm n) ∧ Trs w0 w' [] [] := by
  have S := St.begin (zEt w0)
  refine zCy 15 Tryz.func22 rfl rfl (by decide) ?_; intro a E
  refine wp_seq_k ?_; intro K hK
  refine zAc ?_
  refine zp E (zAg E rfl rfl) ?_; clear E a; intro a E
  refine wpList_nil ?_
  refine zAh hK ?_; clear hK; clear K
  iterate 2 (refine wp_seq_k ?_; intro K hK)
  refine zAc ?_
  refine zp E (zAe E rfl rfl) ?_; clear E a; intro a E
  refine zp E (zCb E rfl rfl rfl) ?_; clear E a; intro a E
  refine zp E (zAe E rfl rfl) ?_; clear E a; intro a E
  refine zAy E (t := 7) rfl (fun hb7 => ?_) (fun hb7 => ?_)
  · have hb7n := hb7; replace hb7n := Nrm.nrm hb7n
    iterate 2 (refine zn E hb7 ?_; clear E a; intro a E)
    refine zp E (zAm E rfl rfl hb7 rfl) ?_; clear E a; intro a E
    refine wpList_nil ?_
    refine zAh hK ?_; clear hK; clear K
    refine zDa E rfl rfl ?_
    refine wp_seq_k ?_; intro K hK
    refine zAc ?_
    refine zp E (zAg E rfl rfl) ?_; clear E a; intro a E
    refine wpList_nil ?_
    refine zAh hK ?_; clear hK; clear K
    refine wp_ret ?_
    refine zBi ?_; clear hK; clear K
    refine ret1 E rfl rfl ?_
    exact ⟨_, rfl, by unfold zDm; rw [if_pos (by omega)], S.tr⟩
  · have hb7n := hb7; replace hb7n := Nrm.nrm hb7n
    refine zy E hb7 (zAe E rfl rfl) ?_; clear E a; intro a E
    refine zy E hb7 (zDd E rfl rfl rfl) ?_; clear E a; intro a E
    refine zp E (zAq E rfl rfl hb7 rfl) ?_; clear E a; intro a E
    refine wpList_nil ?_
    refine zAh hK ?_; clear hK; clear K
    refine zBl E rfl (fun hb => ?_) (fun hb => ?_)
    · replace hb := Nrm.nrm hb
      refine wp_seq_k ?_; intro K hK
      refine zAc ?_
      refine zp E (zAg E rfl rfl) ?_; clear E a; intro a E
      refine wpList_nil ?_
      refine zAh hK ?_; clear hK; clear K
      refine wp_ret ?_
      refine zBi ?_; clear hK; clear K
      refine ret1 E rfl rfl ?_
      exact ⟨_, rfl, by unfold zDm; rw [if_pos (by omega)], S.tr⟩
    · replace hb := Nrm.nrm hb
      refine wp_skip ?_
      refine zAh hK ?_; clear hK; clear K
      refine wp_seq_k ?_; intro K hK
      refine zAc ?_
      refine zp E (zAe E rfl rfl) ?_; clear E a; intro a E
      refine zp E (zBu E rfl rfl rfl (w_in (by omega))) ?_; clear E a; intro a E
      refine zp E (zDf E rfl rfl rfl (w_in (by omega))) ?_; clear E a; intro a E
      refine zp E (zGt E rfl rfl rfl (by first | decide | omega) (show IntKind.i64.wrap ((n + 128 - 1).tdiv 128) = (n + 127) / 128 by rw [Int.tdiv_eq_ediv_of_nonneg (by omega)]; rw [show n + 128 - 1 = n + 127 by omega]; exact w_in (by omega))) ?_; clear E a; intro a E
      refine zp E (zAg E rfl rfl) ?_; clear E a; intro a E
      refine wpList_nil ?_
      refine zAh hK ?_; clear hK; clear K
      refine wp_ret ?_
      refine ret1 E rfl rfl ?_
      exact ⟨_, rfl, by unfold zDm; rw [if_neg (by omega)], S.tr⟩
theorem zKh (t : Nat) (vl vk : Value) (sz at_ n : Int) (hs : 0 ≤ sz ∧ sz ≤ 8192) (hn : n ≤ 9223372036854775807) (w0 : World) (H : Hp w0 [[(t, mtcl vl vk sz)]]) :
    Ret Tryz.prog 34 #[ptr t, .int .i64 at_, .int .i64 n] w0 fun u w' => u = .bool (decide (zEj sz at_ n)) ∧ Trs w0 w' [[(t, mtcl vl vk sz)]] [[(t, mtcl vl vk sz)]] := by
  have S := St.begin H
  obtain ⟨z, hz⟩ : ∃ z, z = zDm n := ⟨_, rfl⟩
  have hh : ∀ b : Bool, (b = true ↔ (0 < z ∧ 0 ≤ at_ ∧ at_ ≤ sz ∧ z ≤ sz - at_)) → b = decide (zEj sz at_ n) := fun b h => by
    rw [Bool.eq_iff_iff, decide_eq_true_eq, h]; unfold zEj; rw [← hz]
  refine zEs 35 Tryz.func34 rfl rfl (by decide) ?_; intro a E
  refine wp_seq_k ?_; intro K hK
  refine zAc ?_
  refine zp E (zAg E rfl rfl) ?_; clear E a; intro a E
  refine wpList_nil ?_
  refine zAh hK ?_; clear hK; clear K
  refine wp_seq_k ?_; intro K hK
  refine zAc ?_
  iterate 2 (refine zp E (zAe E rfl rfl) ?_; clear E a; intro a E)
  refine zAr E rfl rfl (by decide) rfl Tryz.func22 rfl (by kernel_rfl) rfl (zHf (ptr t) n hn _) ?_
  rintro v10 w ⟨rfl, hT⟩; clear E a; intro a E
  have S := S.quiet hT; rw [← hz] at E
  refine zp E (zAg E rfl rfl) ?_; clear E a; intro a E
  refine wpList_nil ?_
  refine zAh hK ?_; clear hK; clear K
  refine wp_seq_k ?_; intro K hK
  refine zAc ?_
  refine zp E (zAe E rfl rfl) ?_; clear E a; intro a E
  refine zp E (zDd E rfl rfl rfl) ?_; clear E a; intro a E
  refine zp E (zAe E rfl rfl) ?_; clear E a; intro a E
  refine zAy E (t := 13) rfl (fun hb13 => ?_) (fun hb13 => ?_)
  · have hb13n := hb13; replace hb13n := Nrm.nrm hb13n
    refine zy E hb13 (zAe E rfl rfl) ?_; clear E a; intro a E
    refine zy E hb13 (zDs E rfl rfl rfl) ?_; clear E a; intro a E
    refine zp E (zAm E rfl rfl hb13 rfl) ?_; clear E a; intro a E
    refine zp E (zAe E rfl rfl) ?_; clear E a; intro a E
    refine zAy E (t := 17) rfl (fun hb17 => ?_) (fun hb17 => ?_)
    · have hb17n := hb17; replace hb17n := Nrm.nrm hb17n
      iterate 2 (refine zy E hb17 (zAe E rfl rfl) ?_; clear E a; intro a E)
      refine zy E hb17 (zAl E rfl rfl) ?_; clear E a; intro a E
      refine zy E hb17 (by first | exact zAf (q := 2) E rfl rfl rfl | exact zAi (q := 2) E rfl rfl rfl) ?_; clear E a; intro a E
      refine zy E hb17 (by first | exact zAn E rfl rfl rfl (S.get (by repeat (first | exact pk1 | apply zAa))) rfl | exact zAj E rfl rfl rfl (by assumption)) ?_; clear E a; intro a E
      refine zy E hb17 (zHz E rfl rfl rfl) ?_; clear E a; intro a E
      refine zp E (zAm E rfl rfl hb17 rfl) ?_; clear E a; intro a E
      refine zp E (zAe E rfl rfl) ?_; clear E a; intro a E
      refine zAy E (t := 25) rfl (fun hb25 => ?_) (fun hb25 => ?_)
      · have hb25n := hb25; replace hb25n := Nrm.nrm hb25n
        iterate 2 (refine zy E hb25 (zAe E rfl rfl) ?_; clear E a; intro a E)
        refine zy E hb25 (zAl E rfl rfl) ?_; clear E a; intro a E
        refine zy E hb25 (by first | exact zAf (q := 2) E rfl rfl rfl | exact zAi (q := 2) E rfl rfl rfl) ?_; clear E a; intro a E
        refine zy E hb25 (by first | exact zAn E rfl rfl rfl (S.get (by repeat (first | exact pk1 | apply zAa))) rfl | exact zAj E rfl rfl rfl (by assumption)) ?_; clear E a; intro a E
        refine zy E hb25 (zAe E rfl rfl) ?_; clear E a; intro a E
        refine zy E hb25 (zDf E rfl rfl rfl (w_in (by omega))) ?_; clear E a; intro a E
        refine zy E hb25 (zHz E rfl rfl rfl) ?_; clear E a; intro a E
        refine zp E (zAm E rfl rfl hb25 rfl) ?_; clear E a; intro a E
        refine zp E (zAg E rfl rfl) ?_; clear E a; intro a E
        refine wpList_nil ?_
        refine zAh hK ?_; clear hK; clear K
        refine wp_ret ?_
        refine ret1 E rfl rfl ?_
        refine ⟨_, rfl, congrArg _ (hh _ ?_), S.tr⟩
        first | (simp; omega) | (simp only [decide_eq_true_eq]; omega) | (simp only [Bool.false_eq_true, false_iff]; omega)
      · have hb25n := hb25; replace hb25n := Nrm.nrm hb25n
        iterate 8 (refine zn E hb25 ?_; clear E a; intro a E)
        refine zp E (zAq E rfl rfl hb25 rfl) ?_; clear E a; intro a E
        refine zp E (zAg E rfl rfl) ?_; clear E a; intro a E
        refine wpList_nil ?_
        refine zAh hK ?_; clear hK; clear K
        refine wp_ret ?_
        refine ret1 E rfl rfl ?_
        refine ⟨_, rfl, congrArg _ (hh _ ?_), S.tr⟩
        first | (simp; omega) | (simp only [decide_eq_true_eq]; omega) | (simp only [Bool.false_eq_true, false_iff]; omega)
    · have hb17n := hb17; replace hb17n := Nrm.nrm hb17n
      iterate 6 (refine zn E hb17 ?_; clear E a; intro a E)
      refine zp E (zAq E rfl rfl hb17 rfl) ?_; clear E a; intro a E
      refine zp E (zAe E rfl rfl) ?_; clear E a; intro a E
      iterate 8 (refine zn E rfl ?_; clear E a; intro a E)
      refine zp E (zAq E rfl rfl rfl rfl) ?_; clear E a; intro a E
      refine zp E (zAg E rfl rfl) ?_; clear E a; intro a E
      refine wpList_nil ?_
      refine zAh hK ?_; clear hK; clear K
      refine wp_ret ?_
      refine ret1 E rfl rfl ?_
      refine ⟨_, rfl, congrArg _ (hh _ ?_), S.tr⟩
      first | (simp; omega) | (simp only [decide_eq_true_eq]; omega) | (simp only [Bool.false_eq_true, false_iff]; omega)
  · have hb13n := hb13; replace hb13n := Nrm.nrm hb13n
    iterate 2 (refine zn E hb13 ?_; clear E a; intro a E)
    refine zp E (zAq E rfl rfl hb13 rfl) ?_; clear E a; intro a E
    refine zp E (zAe E rfl rfl) ?_; clear E a; intro a E
    iterate 6 (refine zn E rfl ?_; clear E a; intro a E)
    refine zp E (zAq E rfl rfl rfl rfl) ?_; clear E a; intro a E
    refine zp E (zAe E rfl rfl) ?_; clear E a; intro a E
    iterate 8 (refine zn E rfl ?_; clear E a; intro a E)
    refine zp E (zAq E rfl rfl rfl rfl) ?_; clear E a; intro a E
    refine zp E (zAg E rfl rfl) ?_; clear E a; intro a E
    refine wpList_nil ?_
    refine zAh hK ?_; clear hK; clear K
    refine wp_ret ?_
    refine ret1 E rfl rfl ?_
    refine ⟨_, rfl, congrArg _ (hh _ ?_), S.tr⟩
    first | (simp; omega) | (simp only [decide_eq_true_eq]; omega) | (simp only [Bool.false_eq_true, false_iff]; omega)
theorem zKi (x : Value) (v : Value) (b : List UInt8) (hb : 1 ≤ b.length ∧ b.length ≤ 1024) (D : zAs) (hD : Rd D 1 v b.length (byt b)) (As : List zAs) (hDA : D ∈ As) (w0 : World) (H : Hp w0 As) :
    Ret Tryz.prog 36 #[x, v] w0 fun u w' => ∃ g, u = .slice (some ⟨g, 0, none⟩) (padM b).length (padM b).length ∧ Trs w0 w' As ([(g, cel (byt (padM b)) 5)] :: As) := by
  have S := St.begin H
  have hnb := zEo b.length
  obtain ⟨k, hk⟩ : ∃ k : Nat, zDm b.length = k := ⟨(zDm b.length).toNat, by omega⟩
  have hpl := zEr (b := b) (by omega)
  rw [hk, Int.toNat_natCast] at hpl
  have hpe : padM b = b ++ List.replicate (k * 128 - b.length) 0 := by rw [padM, hk, Int.toNat_natCast]
  obtain ⟨ad, c, rfl⟩ := hD.slice
  refine zCy 16 Tryz.func36 rfl rfl (by decide) ?_; intro a E
  refine wp_seq_k ?_; intro K hK
  refine zAc ?_
  refine zp E (zAg E rfl rfl) ?_; clear E a; intro a E
  refine wpList_nil ?_
  refine zAh hK ?_; clear hK; clear K
  refine wp_seq_k ?_; intro K hK
  refine zAc ?_
  iterate 2 (refine zp E (zAe E rfl rfl) ?_; clear E a; intro a E)
  refine zp E (by first | exact zCa E rfl rfl rfl | exact zBa E rfl rfl rfl | exact zAt E rfl rfl rfl) ?_; clear E a; intro a E
  refine zAr E rfl rfl (by decide) rfl Tryz.func22 rfl (by kernel_rfl) rfl (zHf x b.length (by omega) _) ?_
  rintro v9 w ⟨rfl, hT⟩; clear E a; intro a E
  have S := S.quiet hT; rw [hk] at E
  refine zp E (zEd E rfl rfl rfl (by first | exact zGb (y := 128) (by omega) | exact w_in (by omega) | exact rfl)) ?_; clear E a; intro a E
  refine zAo rfl (zDq (by' := 1) E S rfl rfl (by decide) rfl rfl rfl rfl rfl rfl rfl rfl rfl rfl rfl (by first | exact mkb (by omega) | exact mkb8 (by omega) | exact mkbn rfl (by omega)) (by simp only [maxLen]; omega) ?_); clear E S a; intro a w g11 E S
  rw [← zGz] at S
  refine zp E (zAg E rfl rfl) ?_; clear E a; intro a E
  refine wpList_nil ?_
  refine zAh hK ?_; clear hK; clear K
  refine wp_seq_k ?_; intro K hK
  refine zAc ?_
  iterate 2 (refine zp E (zAe E rfl rfl) ?_; clear E a; intro a E)
  refine zAo rfl (zGk E S rfl rfl (by decide) rfl rfl (m := b.length) (l := byt (List.replicate (k * 128) 0)) (by repeat (first | exact pk1 | apply zAa)) (hD.copySrc (S.stab.at (by repeat (first | exact mm1 | assumption | apply List.Mem.tail))) rfl) rfl rfl (by rw [zBm, List.length_replicate]; omega) ?_); clear E S a; intro a w E S
  refine wpList_nil ?_
  refine zAh hK ?_; clear hK; clear K
  refine wp_seq_k ?_; intro K hK
  refine zAc ?_
  refine zp E (zAe E rfl rfl) ?_; clear E a; intro a E
  refine zp E (zAg E rfl rfl) ?_; clear E a; intro a E
  refine wpList_nil ?_
  refine zAh hK ?_; clear hK; clear K
  refine wp_ret ?_
  refine ret1 E rfl rfl ?_
  refine ⟨_, rfl, g11, by rw [hpl], ?_⟩
  have e : (byt (List.replicate (k * 128) 0)).take 0 ++ (byt b).take (min b.length (k * 128)) ++ (byt (List.replicate (k * 128) 0)).drop (0 + min b.length (k * 128)) = byt (padM b) := by
    rw [Nat.min_eq_left (by omega), Nat.zero_add, List.take_zero, List.nil_append, List.take_of_length_le (by rw [zBm]; omega), zFv, List.drop_replicate, hpe, zCx]
  rw [e] at S
  exact S.tr
theorem zKj (t : Nat) (w0 : World) : Ret Tryz.prog 48 #[ptr t] w0 fun u w' => ∃ b, u = .func (.func 75) #[] #[ptr b] ∧ Trs w0 w' [] [[(b, cel [ptr t] 38)]] := by
  have S := St.begin (zEt w0)
  refine zDc 4 Tryz.func48 rfl rfl (by decide) ?_; intro a E
  refine wp_seq_k ?_; intro K hK
  refine zAc ?_
  refine zAo rfl (zCs E S rfl rfl (by decide) rfl rfl ?_); clear E S a; intro a w b1 E S
  refine zp E (zAg E rfl rfl) ?_; clear E a; intro a E
  refine wpList_nil ?_
  refine zAh hK ?_; clear hK; clear K
  refine wp_seq_k ?_; intro K hK
  refine zAc ?_
  refine zp E (zEp E rfl rfl ⟨_, rfl⟩) ?_; clear E a; intro a E
  refine zp E (zAg E rfl rfl) ?_; clear E a; intro a E
  refine wpList_nil ?_
  refine zAh hK ?_; clear hK; clear K
  refine wp_ret ?_
  refine ret1 E rfl rfl ?_
  exact ⟨_, rfl, b1, rfl, S.tr⟩
theorem there_in (l b t : Nat) (ls : List Lf) (hll : ls.length ≤ 1000) (vl : Value) (CL : zAs) (hCL : Buf CL 49 1 vl ls.length (ls.map lv)) (vk : Value) (sz : Int) (J : Nat → World → Prop) (Jx : World → Prop)
    (hrd0 : ∀ w, J 0 w → w.heap[b]? = some (cel [ptr t] 38) ∧ w.heap[t]? = some (mtcl vl vk sz)) (hrd : ∀ i w, J i w → ∀ x ∈ CL, w.heap[x.1]? = some x.2)
    (hnil : ∀ i w, ls[i]? = some none → J i w → J (i + 1) w)
    (hround : ∀ i x w, ls[i]? = some (some x) → J i w → ∃ rc, w.heap[l]? = some (.loop rc) ∧ 2 = rc.params.size ∧
      RoundIn Fence.wide 0 Tryz.prog l rc.fn ((rc.params.zip #[.int .i64 i, ptr x.1]).foldl (fun tmps x => tmps.setIfInBounds x.1 x.2) rc.tmps) rc.assign rc.body w fun en w' => (en = .returned (.bool true) ∧ J (i + 1) w') ∨ (en = .returned (.bool false) ∧ Jx w'))
    (w : World) (h0 : J 0 w) : CallsIn Fence.wide 0 Tryz.prog 75 #[.func (.yield l) #[] #[], ptr b] w fun en w' => ∃ v, en = .returned v ∧ (J ls.length w' ∨ Jx w') := by
  obtain ⟨hb, ht⟩ := hrd0 w h0
  obtain ⟨ad, c, rfl⟩ := hCL.slice
  refine enterI2 25 Tryz.func75 rfl rfl (by decide) ?_; intro a E
  refine zCz ?_; intro K hK
  refine zCe rfl ?_
  refine zp E (zAj E rfl rfl rfl (zCt hb rfl)) ?_; clear E a; intro a E
  refine zp E (zAl E rfl rfl) ?_; clear E a; intro a E
  refine zp E (by first | exact zAf (q := 0) E rfl rfl rfl | exact zAi (q := 0) E rfl rfl rfl) ?_; clear E a; intro a E
  refine zp E (zAj E rfl rfl rfl (zCt ht rfl)) ?_; clear E a; intro a E
  refine zp E (by first | exact zCa E rfl rfl rfl | exact zBa E rfl rfl rfl | exact zAt E rfl rfl rfl) ?_; clear E a; intro a E
  refine zp E (zAe E rfl rfl) ?_; clear E a; intro a E
  refine wpList_nil ?_; refine zBq ?_
  refine zAh hK ?_; clear hK; clear K
  refine zGa ?_
  refine wr_loop_ghost (fun (m : Nat) (a : Act) (w' : World) => ∃ i : Nat, m = ls.length - i ∧ i ≤ ls.length ∧ J i w' ∧ Fr a 25 [(0, .func (.yield l) #[] #[]), (8, .slice ad ls.length c), (9, .int .i64 ls.length), (10, .int .i64 i)]) (ls.length - 0) ?_ ?_
  · exact ⟨0, rfl, by omega, h0, E.keep (zAb rfl (zAb rfl (zAb rfl (zAb rfl zAp))))⟩
  clear E; clear a; (try clear S); rintro m a w ⟨i, rfl, hi, hJ, E⟩
  refine zCz ?_; intro K hK
  refine zCe rfl ?_
  refine zp E (zCb E rfl rfl rfl) ?_; clear E a; intro a E
  refine wpList_nil ?_; refine zBq ?_
  refine zAh hK ?_; clear hK; clear K
  refine zCz ?_; intro K hK
  refine if_boolR E rfl (fun hb => ?_) (fun hb => ?_)
  · replace hb := Nrm.nrm hb
    refine zFg ?_
    refine zAh hK ?_; clear hK; clear K
    refine zCz ?_; intro K hK
    refine zGa ?_
    refine zCz ?_; intro K hK
    have hil : i < ls.length := by omega
    obtain ⟨g, rfl⟩ := hCL.addr (by omega)
    have hst := hrd i w hJ
    obtain ⟨o, ho⟩ : ∃ o, ls[i]? = some o := ⟨_, List.getElem?_eq_getElem hil⟩
    have hcell : (ls.map lv)[i]? = some (lv o) := by rw [List.getElem?_map, ho]; rfl
    refine zCe rfl ?_
    rcases o with _ | x
    · skip
      refine zp E (zAe E rfl rfl) ?_; clear E a; intro a E
      refine zp E (by first | exact zBk E rfl rfl rfl rfl rfl rfl (by omega) | exact zBn E rfl rfl rfl rfl rfl rfl (by omega) | exact zAx E rfl rfl rfl rfl rfl rfl (by omega)) ?_; clear E a; intro a E
      refine zp E (zAj E rfl rfl rfl (hCL.rd.cells hst rfl i _ hcell)) ?_; clear E a; intro a E
      iterate 2 (refine zp E (zAg E rfl rfl) ?_; clear E a; intro a E)
      refine wpList_nil ?_; refine zBq ?_
      refine zAh hK ?_; clear hK; clear K
      refine zCz ?_; intro K hK
      refine wpIn_region_lit ?_
      refine zEi E rfl rfl rfl (by decide) (zAe E rfl rfl) ?_; clear E a; intro a E
      refine zEi E rfl rfl rfl (by decide) (by first | exact zCu E rfl rfl rfl | exact zAz E rfl rfl rfl rfl | exact zBj E rfl rfl rfl rfl | exact zBd E rfl rfl rfl) ?_; clear E a; intro a E
      refine zEi E rfl rfl rfl (by decide) (zAe E rfl rfl) ?_; clear E a; intro a E
      refine zCh E (t := 17) rfl (rfl) (fun hb17 => ?_)
      iterate 5 (refine zKv E rfl rfl rfl rfl hb17 rfl (by decide) ?_; clear E a; intro a E)
      refine zEi E rfl rfl rfl (by decide) (zAq E rfl rfl hb17 rfl) ?_; clear E a; intro a E
      refine wpListIn_nil ?_
      refine zAh hK ?_; clear hK; clear K
      refine zDx E rfl rfl ?_
      refine zFg ?_
      refine zBf ?_
      refine zAh hK ?_; clear hK; clear K
      refine zCe rfl ?_
      refine zp E (zBu E rfl rfl rfl (by first | exact zCj (y := 1) (by omega) | exact w_in (by omega) | exact zBy (by omega) | exact rfl)) ?_; clear E a; intro a E
      refine zp E (zAe E rfl rfl) ?_; clear E a; intro a E
      refine wpList_nil ?_; refine zBq ?_
      refine zBe ?_
      exact ⟨_, by omega, i + 1, rfl, by omega, hnil i w ho hJ, E.keep (zAb rfl (zAb rfl (zAb rfl (zAb rfl zAp))))⟩
    · skip
      refine zp E (zAe E rfl rfl) ?_; clear E a; intro a E
      refine zp E (by first | exact zBk E rfl rfl rfl rfl rfl rfl (by omega) | exact zBn E rfl rfl rfl rfl rfl rfl (by omega) | exact zAx E rfl rfl rfl rfl rfl rfl (by omega)) ?_; clear E a; intro a E
      refine zp E (zAj E rfl rfl rfl (hCL.rd.cells hst rfl i _ hcell)) ?_; clear E a; intro a E
      iterate 2 (refine zp E (zAg E rfl rfl) ?_; clear E a; intro a E)
      refine wpList_nil ?_; refine zBq ?_
      refine zAh hK ?_; clear hK; clear K
      refine zCz ?_; intro K hK
      refine wpIn_region_lit ?_
      obtain ⟨rc, hl, hsz, hR⟩ := hround i x w ho hJ; clear hJ
      refine zEi E rfl rfl rfl (by decide) (zAe E rfl rfl) ?_; clear E a; intro a E
      refine zEi E rfl rfl rfl (by decide) (by first | exact zCu E rfl rfl rfl | exact zAz E rfl rfl rfl rfl | exact zBj E rfl rfl rfl rfl | exact zBd E rfl rfl rfl) ?_; clear E a; intro a E
      refine zEi E rfl rfl rfl (by decide) (zAe E rfl rfl) ?_; clear E a; intro a E
      refine zCp E (t := 17) rfl (rfl) (fun hb17 => ?_)
      iterate 3 (refine zFr E rfl rfl rfl rfl hb17 rfl rfl (by decide) (zAe E rfl rfl) ?_; clear E a; intro a E)
      refine zKu E rfl rfl rfl rfl hb17 (op_yield' E rfl (by decide) rfl rfl rfl (hl) (hsz) (RoundIn.mono (hR) ?_))
      rintro en w (⟨rfl, hJ⟩ | ⟨rfl, hJ⟩)
      · refine ⟨_, rfl, ?_⟩; clear E a; intro a E
        refine zFr E rfl rfl rfl rfl hb17 rfl rfl (by decide) (zEg E rfl rfl) ?_; clear E a; intro a E
        refine zEi E rfl rfl rfl (by decide) (zAm E rfl rfl hb17 rfl) ?_; clear E a; intro a E
        refine wpListIn_nil ?_
        refine zAh hK ?_; clear hK; clear K
        refine zDx E rfl rfl ?_
        refine zFg ?_
        refine zBf ?_
        refine zAh hK ?_; clear hK; clear K
        refine zCe rfl ?_
        refine zp E (zBu E rfl rfl rfl (by first | exact zCj (y := 1) (by omega) | exact w_in (by omega) | exact zBy (by omega) | exact rfl)) ?_; clear E a; intro a E
        refine zp E (zAe E rfl rfl) ?_; clear E a; intro a E
        refine wpList_nil ?_; refine zBq ?_
        refine zBe ?_
        exact ⟨_, by omega, i + 1, rfl, by omega, hJ, E.keep (zAb rfl (zAb rfl (zAb rfl (zAb rfl zAp))))⟩
      · refine ⟨_, rfl, ?_⟩; clear E a; intro a E
        refine zFr E rfl rfl rfl rfl hb17 rfl rfl (by decide) (zEg E rfl rfl) ?_; clear E a; intro a E
        refine zEi E rfl rfl rfl (by decide) (zAm E rfl rfl hb17 rfl) ?_; clear E a; intro a E
        refine wpListIn_nil ?_
        refine zAh hK ?_; clear hK; clear K
        refine zIg E rfl rfl ?_
        refine wr_ret ?_
        refine zEc ?_
        refine zBi ?_; clear hK; clear K
        refine zBi ?_
        refine zEc ?_
        refine ret0 E rfl ?_
        exact ⟨_, rfl, .inr hJ⟩
  · replace hb := Nrm.nrm hb
    refine wr_exit ?_
    refine zBb ?_; clear hK; clear K
    refine zBb ?_
    refine zCm ?_
    refine end0 E rfl ?_
    obtain rfl : i = ls.length := by omega
    exact ⟨_, rfl, .inl hJ⟩
end Go.Proofs.YtidhehcjafoneaaGreatDoor
namespace Go.Proofs.YtidhehcjafoneaaGreatDoor
open Go.Sl
set_option maxRecDepth 10000
section
variable (P : Nat) (R : Rk) (C : zAs) (hC : RkC P R C) (ls : List Lf) (Lv : zAs) (hLv : LvC ls Lv) (i : Nat) (x : Nat × Nat) (hx : ls[i]? = some (some x)) (hd : R.has x.2)
include hC hLv hx hd
theorem lsize_in (w0 : World) (H : Hp w0 [C, Lv]) : Ret Tryz.prog 65 #[ptr x.1] w0 fun u w' => u = .int .i64 (zEl (dkOf R x.2)) ∧ Trs w0 w' [C, Lv] [C, Lv] := by
  obtain ⟨A, L, B, rfl, hL, hput⟩ := hLv.at hx
  have S := ((St.begin H).perm2).openMid
  refine (zKd x.1 x.2 P R C L hC hd hL w0 (S.hp.sel (zAd (by repeat (first | exact pk1 | apply zAa)) (zAd (by repeat (first | exact pk1 | apply zAa)) (zAk _))))).mono fun u w' ⟨hu, hT⟩ => ?_
  have S := S.call2 (zAd (by repeat (first | exact pk1 | apply zAa)) (zAd (by repeat (first | exact pk1 | apply zAa)) (zAk _))) hT
  exact ⟨hu, ((S.front3 (A := L) (by repeat (first | exact pk1 | apply zAa)) (B := A) (by repeat (first | exact pk1 | apply zAa)) (C := B) (by repeat (first | exact pk1 | apply zAa))).closeMid.perm2).tr⟩
theorem lread_in (at_ many : Int) (ha : -9223372036854775808 ≤ at_ ∧ at_ ≤ 9223372036854775807) (w0 : World) (H : Hp w0 [C, Lv]) :
    Ret Tryz.prog 11 #[ptr x.1, .int .i64 at_, .int .i64 many] w0 fun u w' => ∃ v Cb Lv', u = .tuple #[v, .int .i64 (zFy R (dkOf R x.2) at_ many).1] ∧ Buf Cb 5 1 v (zFy R (dkOf R x.2) at_ many).2.length (byt (zFy R (dkOf R x.2) at_ many).2) ∧ LvC ls Lv' ∧ Trs w0 w' [C, Lv] [Cb, C, Lv'] := by
  obtain ⟨A, L, B, rfl, hL, hput⟩ := hLv.at hx
  have S := ((St.begin H).perm2).openMid
  refine (lread_ret x.1 x.2 P R C L hC hd hL at_ many ha w0 (S.hp.sel (zAd (by repeat (first | exact pk1 | apply zAa)) (zAd (by repeat (first | exact pk1 | apply zAa)) (zAk _))))).mono fun u w' ⟨v, Cb, L', hu, hB, hL', hT⟩ => ?_
  have S := S.call3 (zAd (by repeat (first | exact pk1 | apply zAa)) (zAd (by repeat (first | exact pk1 | apply zAa)) (zAk _))) hT
  exact ⟨v, Cb, _, hu, hB, hput L' hL', ((S.front5 (A := L') (by repeat (first | exact pk1 | apply zAa)) (B := A) (by repeat (first | exact pk1 | apply zAa)) (C := B) (by repeat (first | exact pk1 | apply zAa)) (D := Cb) (by repeat (first | exact pk1 | apply zAa)) (F := C) (by repeat (first | exact pk1 | apply zAa))).closeMid.front3 (A := Cb) (by repeat (first | exact pk1 | apply zAa)) (B := C) (by repeat (first | exact pk1 | apply zAa)) (C := A ++ (L' ++ B)) (by repeat (first | exact pk1 | apply zAa))).tr⟩
theorem lwrite_in (hws : R.ws.length + 8192 ≤ 244335861110) (hwr : R.pw.wr ≤ 1000000000000000000) (hlf : R.pw.left ≤ 9223372036854775807)
    (at_ : Int) (ha : -9223372036854775808 ≤ at_ ∧ at_ ≤ 9223372036854775807) (v : Value) (b : List UInt8) (D : zAs) (hD : Rd D 1 v b.length (byt b)) (hcap : ∃ ad c, v = .slice ad b.length c ∧ b.length ≤ c) (w0 : World) (H : Hp w0 [C, Lv, D]) :
    Ret Tryz.prog 35 #[ptr x.1, .int .i64 at_, v] w0 fun u w' => u = .int .i64 (zDw R (dkOf R x.2) at_ b).2 ∧ ∃ C' Lv', RkC P (zDw R (dkOf R x.2) at_ b).1 C' ∧ LvC ls Lv' ∧ Trs w0 w' [C, Lv, D] [C', Lv', D] := by
  obtain ⟨A, L, B, rfl, hL, hput⟩ := hLv.at hx
  have S := ((St.begin H).perm2).openMid
  refine (lwrite_ret x.1 x.2 P R C L hC hd hL hws hwr hlf at_ ha v b D hD hcap w0 (S.hp.sel (zAd (by repeat (first | exact pk1 | apply zAa)) (zAd (by repeat (first | exact pk1 | apply zAa)) (zAd (by repeat (first | exact pk1 | apply zAa)) (zAk _)))))).mono fun u w' ⟨hu, C', L', hC', hL', hT⟩ => ?_
  have S := S.call3 (zAd (by repeat (first | exact pk1 | apply zAa)) (zAd (by repeat (first | exact pk1 | apply zAa)) (zAd (by repeat (first | exact pk1 | apply zAa)) (zAk _)))) hT
  exact ⟨hu, C', _, hC', hput L' hL', ((S.front5 (A := L') (by repeat (first | exact pk1 | apply zAa)) (B := A) (by repeat (first | exact pk1 | apply zAa)) (C := B) (by repeat (first | exact pk1 | apply zAa)) (D := C') (by repeat (first | exact pk1 | apply zAa)) (F := D) (by repeat (first | exact pk1 | apply zAa))).closeMid.front3 (A := C') (by repeat (first | exact pk1 | apply zAa)) (B := A ++ (L' ++ B)) (by repeat (first | exact pk1 | apply zAa)) (C := D) (by repeat (first | exact pk1 | apply zAa))).tr⟩
theorem lflush_in (w0 : World) (H : Hp w0 [C, Lv]) :
    Ret Tryz.prog 49 #[ptr x.1] w0 fun u w' => u = .int .i64 (flE R.pw (dkOf R x.2).failed) ∧ ∃ C' Lv', RkC P (R.flush (dkOf R x.2)) C' ∧ LvC ls Lv' ∧ Trs w0 w' [C, Lv] [C', Lv'] := by
  obtain ⟨A, L, B, rfl, hL, hput⟩ := hLv.at hx
  have S := ((St.begin H).perm2).openMid
  refine (lflush_ret x.1 x.2 P R C L hC hd hL w0 (S.hp.sel (zAd (by repeat (first | exact pk1 | apply zAa)) (zAd (by repeat (first | exact pk1 | apply zAa)) (zAk _))))).mono fun u w' ⟨hu, C', L', hC', hL', hT⟩ => ?_
  have S := S.call2 (zAd (by repeat (first | exact pk1 | apply zAa)) (zAd (by repeat (first | exact pk1 | apply zAa)) (zAk _))) hT
  exact ⟨hu, C', _, hC', hput L' hL', ((S.front4 (A := L') (by repeat (first | exact pk1 | apply zAa)) (B := A) (by repeat (first | exact pk1 | apply zAa)) (C := B) (by repeat (first | exact pk1 | apply zAa)) (D := C') (by repeat (first | exact pk1 | apply zAa))).closeMid.perm2).tr⟩
end
theorem blame_in (ls : List Lf) (Lv : zAs) (hLv : LvC ls Lv) (i : Nat) (x : Nat × Nat) (hx : ls[i]? = some (some x)) (w0 : World) (H : Hp w0 [Lv]) :
    Ret Tryz.prog 88 #[ptr x.1] w0 fun _ w' => ∃ Lv', LvC ls Lv' ∧ Trs w0 w' [Lv] [Lv'] := by
  obtain ⟨A, L, B, rfl, hL, hput⟩ := hLv.at hx
  have S := (St.begin H).openMid
  refine (blame_ret x.1 x.2 L hL w0 (S.hp.sel (zAd (by repeat (first | exact pk1 | apply zAa)) (zAk _)))).mono fun u w' ⟨L', hL', hT⟩ => ?_
  have S := S.call1 (zAd (by repeat (first | exact pk1 | apply zAa)) (zAk _)) hT
  exact ⟨_, hput L' hL', S.closeMid.tr⟩
end Go.Proofs.YtidhehcjafoneaaGreatDoor
namespace Go.Sl
def zGg : Lk := ⟨0, 0, false⟩
theorem zeros_lk (n : Nat) : zJs zGg.lay.toArray (n * 3) = (List.replicate n zGg).flatMap Lk.lay := by
  have h := made_flat (.agg zGg.lay.toArray) n
  have h2 : zJs zGg.lay.toArray (n * 3) = (List.replicate n zGg.lay).flatten := by
    unfold zJs madeCells
    have := congrArg Array.toList h
    simpa [Value.cells, Lk.lay] using this
  rw [h2, List.flatMap, List.map_replicate]
theorem zHg (n : Nat) : ∀ u ∈ zJs zGg.lay.toArray (n * 3), u.oneCell' = true := fun u hu => by
  rw [zeros_lk] at hu
  obtain ⟨x, _, hx⟩ := List.mem_flatMap.1 hu
  simp only [Lk.lay, List.mem_cons, List.not_mem_nil, or_false] at hx
  rcases hx with rfl | rfl | rfl <;> rfl
def szTo (ls : List Lf) (z : Int) (i : Nat) : Int := if (ls.take i).any Option.isSome then z else -1
theorem szTo_none {ls : List Lf} {z : Int} {i : Nat} (h : ls[i]? = some none) : szTo ls z (i + 1) = szTo ls z i := by
  unfold szTo
  obtain ⟨hi, he⟩ := List.getElem?_eq_some_iff.1 h
  rw [← List.take_append_getElem hi, he]; simp
theorem szTo_some {ls : List Lf} {z : Int} {i : Nat} {x : Nat × Nat} (h : ls[i]? = some (some x)) : szTo ls z (i + 1) = z := by
  unfold szTo
  obtain ⟨hi, he⟩ := List.getElem?_eq_some_iff.1 h
  rw [← List.take_append_getElem hi, he]; simp
theorem szTo_nonneg {ls : List Lf} {z : Int} {i : Nat} (h : 0 ≤ szTo ls z i) : szTo ls z i = z := by
  unfold szTo at *
  split
  · rfl
  · rename_i q; rw [if_neg q] at h; omega
theorem szTo_all {ls : List Lf} {z : Int} (h : ∃ x, some x ∈ ls) : szTo ls z ls.length = z := by
  unfold szTo
  rw [List.take_length, if_pos]
  obtain ⟨x, hx⟩ := h
  exact List.any_eq_true.2 ⟨_, hx, rfl⟩
end Go.Sl
namespace Go.Proofs.YtidhehcjafoneaaGreatDoor
open Go.Sl
set_option maxRecDepth 10000
theorem mnew_ret (P : Nat) (R : Rk) (C : zAs) (hC : RkC P R C) (ls : List Lf) (Lv : zAs) (hLv : LvC ls Lv) (hds : ∀ x, some x ∈ ls → R.has x.2) (z : Int) (hz : ∀ x, some x ∈ ls → zEl (dkOf R x.2) = z) (hz0 : 0 ≤ z) (hsome : ∃ x, some x ∈ ls) (hl : ls.length ≤ 5)
    (O : zAs) (v : Value) (hO : Rd O 1 v ls.length (ls.map lv)) (w0 : World) (H : Hp w0 [C, Lv, O]) :
    Ret Tryz.prog 31 #[v] w0 fun u w' => ∃ t vl vk CL CK, u = .tuple #[ptr t, .int .i64 0] ∧ Buf CL 49 1 vl ls.length (ls.map lv) ∧ Buf CK 120 3 vk ls.length ((List.replicate ls.length zGg).flatMap Lk.lay) ∧
      Trs w0 w' [C, Lv, O] ([(t, mtcl vl vk z)] :: CL :: CK :: [C, Lv, O]) := by
  have S := St.begin H
  have hl1 : 1 ≤ ls.length := by
    obtain ⟨x, hx⟩ := hsome
    exact List.length_pos_of_mem hx
  obtain ⟨ad, c, rfl⟩ := hO.slice
  refine enterM1 60 Tryz.func31 rfl rfl (by decide) ?_; intro a E
  refine wp_seq_k ?_; intro K hK
  refine zAc ?_
  refine zAo rfl (zCc E S rfl rfl (by decide) rfl rfl rfl ?_); clear E S a; intro a w b2 E S
  refine zAo rfl (zCc E S rfl rfl (by decide) rfl rfl rfl ?_); clear E S a; intro a w b3 E S
  refine wpList_nil ?_
  refine zAh hK ?_; clear hK; clear K
  refine wp_seq_k ?_; intro K hK
  refine zAc ?_
  refine zp E (zAe E rfl rfl) ?_; clear E a; intro a E
  refine zp E (by first | exact zCa E rfl rfl rfl | exact zBa E rfl rfl rfl | exact zAt E rfl rfl rfl) ?_; clear E a; intro a E
  refine zAo rfl (zFt E S rfl rfl (by decide) rfl rfl rfl rfl rfl rfl rfl (zHg ls.length) (by show 24 * ls.length ≤ _; omega) (by simp only [maxLen]; omega) ?_); clear E S a; intro a w v9 C9 E S hB9 hv9
  have hCK : Buf C9 120 3 v9 ls.length ((List.replicate ls.length zGg).flatMap Lk.lay) := by rw [← zeros_lk]; exact hB9
  obtain ⟨adk, ck, rfl⟩ := hCK.slice
  refine zp E (zCo (cells := [_, _, _]) E rfl rfl rfl) ?_; clear E a; intro a E
  refine zAo rfl (zCs E S rfl rfl (by decide) rfl rfl ?_); clear E S a; intro a w b11 E S
  refine zAo rfl (zCc E S rfl rfl (by decide) rfl rfl rfl ?_); clear E S a; intro a w b4 E S
  refine zAo rfl (zBg E S rfl rfl rfl rfl rfl rfl (by repeat (first | exact pk1 | apply zAa)) (by first | exact Nat.le_of_ble_eq_true rfl | (simp; done) | (simp; omega)) ?_); clear E S a; intro a w E S; try dsimp only [List.set] at S
  refine wpList_nil ?_
  refine zAh hK ?_; clear hK; clear K
  refine wp_seq_k ?_; intro K hK
  refine zDt S (.ofL [(0, 0), (1, 0), (2, 0), (3, 0), (4, 0), (5, 0), (6, 1), (7, 0), (8, 0), (9, 3)]) [[(b4, cel [ptr b11] 38)], [(b11, mtcl (.slice none 0 0) (.slice adk ls.length ck) (-1))]] (fun h => h.sub (by first | (simp; done) | (simp +contextual; done) | (simp [*]; done))) (by kernel_rfl) (by kernel_rfl) ?_
  clear S; intro w S
  iterate 2 (refine zm E rfl (fun w h => by first | exact zAn E rfl rfl rfl (h.one (by repeat (first | exact mm1 | assumption | apply List.Mem.tail))) rfl | exact zAj E rfl rfl rfl (by assumption)) ?_; clear E a; intro a E)
  refine zm E rfl (fun w h => zAl E rfl rfl) ?_; clear E a; intro a E
  refine zm E rfl (fun w h => by first | exact zAf (q := 0) E rfl rfl rfl | exact zAi (q := 0) E rfl rfl rfl) ?_; clear E a; intro a E
  refine zm E rfl (fun w h => by first | exact zAn E rfl rfl rfl (h.one (by repeat (first | exact mm1 | assumption | apply List.Mem.tail))) rfl | exact zAj E rfl rfl rfl (by assumption)) ?_; clear E a; intro a E
  refine zm E rfl (fun w h => zAe E rfl rfl) ?_; clear E a; intro a E
  have S := S.addNil
  refine zDp rfl rfl (zCi (by' := 8) E S rfl rfl (by decide) rfl rfl (Buf.nil 49 1) (by repeat (first | exact pk1 | apply zAa)) (hO.src (S.stab.at (by repeat (first | exact mm1 | assumption | apply List.Mem.tail))) rfl) rfl rfl rfl rfl rfl rfl (by simp only [maxLen]; omega) (by omega) ?_); clear E S a; intro a w v18 C18 E S hB18; refine ⟨S.stab.sub (by first | (simp; done) | (simp +contextual; done) | (simp [*]; done)), ?_⟩
  rw [Nat.zero_add, List.nil_append] at hB18; obtain ⟨adl, cl, rfl⟩ := hB18.slice
  refine zm E rfl (fun w h => zAl E rfl rfl) ?_; clear E a; intro a E
  refine zm E rfl (fun w h => by first | exact zAf (q := 0) E rfl rfl rfl | exact zAi (q := 0) E rfl rfl rfl) ?_; clear E a; intro a E
  refine zCq rfl rfl (zBg E S rfl rfl rfl rfl rfl rfl (by repeat (first | exact pk1 | apply zAa)) (by first | exact Nat.le_of_ble_eq_true rfl | (simp; done) | (simp; omega)) ?_); clear E S a; intro a w E S; try dsimp only [List.set] at S
  refine zBs ?_
  refine zAh hK ?_; clear hK; clear K
  iterate 2 (refine wp_seq_k ?_; intro K hK)
  refine zAc ?_
  refine zp E (by first | exact zAn E rfl rfl rfl (S.get (by repeat (first | exact pk1 | apply zAa))) rfl | exact zAj E rfl rfl rfl (by assumption)) ?_; clear E a; intro a E
  refine zAr E rfl rfl (by decide) rfl Tryz.func48 rfl (by kernel_rfl) rfl (zKj b11 _) ?_
  rintro v22 w ⟨bt, rfl, hT⟩; clear E a; intro a E
  have S := S.fresh hT
  refine wpList_nil ?_
  refine zAh hK ?_; clear hK; clear K
  refine wp_block ?_
  refine wp_range E S rfl Tryz.func75 rfl (by kernel_rfl) (fun rc lp rp w hL S => ?_)
  refine CallsIn.mono (there_in lp bt b11 ls (by omega) _ C18 hB18 (.slice adk ls.length ck) (-1) (fun i w' => St w0 [C, Lv, O] w' [[(lp, .loop rc)], [(rp, .deferred (some []))], [(bt, cel [ptr b11] 38)], [(b11, mtcl (.slice adl ls.length cl) (.slice adk ls.length ck) (szTo ls z i))], [(b4, cel [ptr b11] 38)], [(b2, cel [.pointer none] 38)], [(b3, cel [.int .i64 0] 32)], C18, C9, C, Lv, O]) (fun w' => False) ?_ ?_ ?_ ?_ _ ?_) ?_
  · rintro w S; exact ⟨S.get (show List.Perm _ ([(bt, _)] :: _) from (by repeat (first | exact pk1 | apply zAa))), S.get (show List.Perm _ ([(b11, _)] :: _) from (by repeat (first | exact pk1 | apply zAa)))⟩
  · rintro i w S; exact S.stab.at (by repeat (first | exact mm1 | assumption | apply List.Mem.tail))
  · rintro i w hn S; rw [szTo_none hn]; exact S
  · rintro i x w hx S
    have hsz := hz x (List.mem_of_getElem? hx); have hxd := hds x (List.mem_of_getElem? hx)
    refine ⟨rc, S.stab.one (List.Mem.head _), by rw [hL.pr]; rfl, ?_⟩
    refine round2 hL S E (by decide) (by decide) ?_; clear E; intro a E
    refine zCe rfl ?_
    refine zp E (zAg E rfl rfl) ?_; clear E a; intro a E
    refine wpList_nil ?_; refine zBq ?_
    refine zBe ?_; refine ⟨_, S, ?_⟩; clear S; intro w S
    refine zGa ?_
    iterate 2 (refine zCz ?_; intro K hK)
    refine zFd S (.ofL [(0, 0), (1, 0), (2, 0), (3, 0), (4, 0), (5, 0), (6, 0), (8, 0), (9, 0), (10, 0), (11, 0), (7, 1), (12, 0), (13, 0)]) rfl (by kernel_rfl) (by kernel_rfl) ?_
    clear S; intro w S
    refine zm E rfl (fun w h => by first | exact zAn E rfl rfl rfl (h.one (by repeat (first | exact mm1 | assumption | apply List.Mem.tail))) rfl | exact zAj E rfl rfl rfl (by assumption)) ?_; clear E a; intro a E
    refine zm E rfl (fun w h => zAl E rfl rfl) ?_; clear E a; intro a E
    refine zm E rfl (fun w h => by first | exact zAf (q := 2) E rfl rfl rfl | exact zAi (q := 2) E rfl rfl rfl) ?_; clear E a; intro a E
    refine zm E rfl (fun w h => by first | exact zAn E rfl rfl rfl (h.one (by repeat (first | exact mm1 | assumption | apply List.Mem.tail))) rfl | exact zAj E rfl rfl rfl (by assumption)) ?_; clear E a; intro a E
    refine zm E rfl (fun w h => zDs E rfl rfl rfl) ?_; clear E a; intro a E
    refine zm E rfl (fun w h => zAe E rfl rfl) ?_; clear E a; intro a E
    refine zAy E (t := 30) rfl (fun hb30 => ?_) (fun hb30 => ?_)
    · have hb30n := hb30; replace hb30n := Nrm.nrm hb30n
      have hze := szTo_nonneg hb30n
      refine zAv E rfl rfl rfl rfl rfl hb30 rfl (by decide) (fun w h => zAe E rfl rfl) ?_; clear E a; intro a E
      refine zAv E rfl rfl rfl rfl rfl hb30 rfl (by decide) (fun w h => by first | exact zAn E rfl rfl rfl (h.one (by repeat (first | exact mm1 | assumption | apply List.Mem.tail))) rfl | exact zAj E rfl rfl rfl (by assumption)) ?_; clear E a; intro a E
      refine zAv E rfl rfl rfl rfl rfl hb30 rfl (by decide) (fun w h => zAl E rfl rfl) ?_; clear E a; intro a E
      refine zAv E rfl rfl rfl rfl rfl hb30 rfl (by decide) (fun w h => by first | exact zAf (q := 2) E rfl rfl rfl | exact zAi (q := 2) E rfl rfl rfl) ?_; clear E a; intro a E
      refine zAv E rfl rfl rfl rfl rfl hb30 rfl (by decide) (fun w h => by first | exact zAn E rfl rfl rfl (h.one (by repeat (first | exact mm1 | assumption | apply List.Mem.tail))) rfl | exact zAj E rfl rfl rfl (by assumption)) ?_; clear E a; intro a E
      refine mix_guard_act E rfl rfl rfl rfl rfl hb30 ?_; refine zEe E rfl (by decide) rfl Tryz.func65 rfl (by kernel_rfl) rfl (lsize_in P R C hC ls Lv hLv i x hx hxd _ (S.hp.sel (zAd (by repeat (first | exact pk1 | apply zAa)) (zAd (by repeat (first | exact pk1 | apply zAa)) (zAk _))))) ?_
      rintro v32 w ⟨rfl, hT⟩; clear E a; intro a E
      have S := S.call2 (zAd (by repeat (first | exact pk1 | apply zAa)) (zAd (by repeat (first | exact pk1 | apply zAa)) (zAk _))) hT; rw [hsz] at E
      refine ⟨S.stab.sub (by first | (simp; done) | (simp +contextual; done) | (simp [*]; done)), ?_⟩
      refine zAv E rfl rfl rfl rfl rfl hb30 rfl (by decide) (fun w h => by first | exact zCu E rfl rfl rfl | exact zAz E rfl rfl rfl rfl | exact zBj E rfl rfl rfl rfl | exact zBd E rfl rfl rfl) ?_; clear E a; intro a E
      refine zm E rfl (fun w h => zAm E rfl rfl hb30 rfl) ?_; clear E a; intro a E
      refine zBs ?_
      refine zAh hK ?_; clear hK; clear K
      refine zDx E rfl ((by rw [hze]; simp)) ?_
      refine zFg ?_
      refine zAh hK ?_; clear hK; clear K
      replace E := E.keep (e' := [(2, _), (3, _), (4, _), (6, _)]) (zAb rfl (zAb rfl (zAb rfl (zAb rfl (zAp)))))
      refine zKg S (.ofL [(0, 0), (1, 0), (2, 1), (3, 0), (4, 0), (5, 3)]) [[(b4, cel [ptr b11] 38)], [(b11, mtcl (.slice adl ls.length cl) (.slice adk ls.length ck) (szTo ls z i))]] (fun h => h.sub (by first | (simp; done) | (simp +contextual; done) | (simp [*]; done))) rfl (by kernel_rfl) (by kernel_rfl) ?_
      clear S; intro w S
      refine zm E rfl (fun w h => by first | exact zAn E rfl rfl rfl (h.one (by repeat (first | exact mm1 | assumption | apply List.Mem.tail))) rfl | exact zAj E rfl rfl rfl (by assumption)) ?_; clear E a; intro a E
      refine zm E rfl (fun w h => zAe E rfl rfl) ?_; clear E a; intro a E
      refine zCn E rfl rfl rfl (by decide) rfl Tryz.func65 rfl (by kernel_rfl) rfl (lsize_in P R C hC ls Lv hLv i x hx hxd _ (S.hp.sel (zAd (by repeat (first | exact pk1 | apply zAa)) (zAd (by repeat (first | exact pk1 | apply zAa)) (zAk _))))) ?_
      rintro v41 w ⟨rfl, hT⟩; clear E a; intro a E
      have S := S.call2 (zAd (by repeat (first | exact pk1 | apply zAa)) (zAd (by repeat (first | exact pk1 | apply zAa)) (zAk _))) hT; rw [hsz] at E
      refine ⟨S.stab.sub (by first | (simp; done) | (simp +contextual; done) | (simp [*]; done)), ?_⟩
      refine zm E rfl (fun w h => zAl E rfl rfl) ?_; clear E a; intro a E
      refine zm E rfl (fun w h => by first | exact zAf (q := 2) E rfl rfl rfl | exact zAi (q := 2) E rfl rfl rfl) ?_; clear E a; intro a E
      refine zCq rfl rfl (zBg E S rfl rfl rfl rfl rfl rfl (by repeat (first | exact pk1 | apply zAa)) (by first | exact Nat.le_of_ble_eq_true rfl | (simp; done) | (simp; omega)) ?_); clear E S a; intro a w E S; try dsimp only [List.set] at S
      refine zBs ?_
      refine zBf ?_
      refine ⟨_, S.front1 (A := [(lp, .loop (zHw rc))]) (by repeat (first | exact pk1 | apply zAa)), ?_⟩; clear S; intro w S; refine .inl ⟨rfl, ?_⟩
      rw [szTo_some hx]; exact S.only (zAd (by repeat (first | exact pk1 | apply zAa)) (zAd (by repeat (first | exact pk1 | apply zAa)) (zAd (by repeat (first | exact pk1 | apply zAa)) (zAd (by repeat (first | exact pk1 | apply zAa)) (zAd (by repeat (first | exact pk1 | apply zAa)) (zAd (by repeat (first | exact pk1 | apply zAa)) (zAd (by repeat (first | exact pk1 | apply zAa)) (zAd (by repeat (first | exact pk1 | apply zAa)) (zAd (by repeat (first | exact pk1 | apply zAa)) (zAd (by repeat (first | exact pk1 | apply zAa)) (zAd (by repeat (first | exact pk1 | apply zAa)) (zAd (by repeat (first | exact pk1 | apply zAa)) (zAk _)))))))))))))
    · have hb30n := hb30; replace hb30n := Nrm.nrm hb30n
      skip
      iterate 5 (refine zBr E rfl rfl rfl rfl rfl hb30 rfl (by decide) ?_; clear E a; intro a E)
      refine zJf E rfl rfl rfl rfl rfl hb30 rfl (by decide) (S.stab.sub (by first | (simp; done) | (simp +contextual; done) | (simp [*]; done))) ?_; clear E a; intro a E
      refine zBr E rfl rfl rfl rfl rfl hb30 rfl (by decide) ?_; clear E a; intro a E
      refine zm E rfl (fun w h => zAq E rfl rfl hb30 rfl) ?_; clear E a; intro a E
      refine zBs ?_
      refine zAh hK ?_; clear hK; clear K
      refine zDx E rfl rfl ?_
      refine zFg ?_
      refine zAh hK ?_; clear hK; clear K
      replace E := E.keep (e' := [(2, _), (3, _), (4, _), (6, _)]) (zAb rfl (zAb rfl (zAb rfl (zAb rfl (zAp)))))
      refine zKg S (.ofL [(0, 0), (1, 0), (2, 1), (3, 0), (4, 0), (5, 3)]) [[(b4, cel [ptr b11] 38)], [(b11, mtcl (.slice adl ls.length cl) (.slice adk ls.length ck) (szTo ls z i))]] (fun h => h.sub (by first | (simp; done) | (simp +contextual; done) | (simp [*]; done))) rfl (by kernel_rfl) (by kernel_rfl) ?_
      clear S; intro w S
      refine zm E rfl (fun w h => by first | exact zAn E rfl rfl rfl (h.one (by repeat (first | exact mm1 | assumption | apply List.Mem.tail))) rfl | exact zAj E rfl rfl rfl (by assumption)) ?_; clear E a; intro a E
      refine zm E rfl (fun w h => zAe E rfl rfl) ?_; clear E a; intro a E
      refine zCn E rfl rfl rfl (by decide) rfl Tryz.func65 rfl (by kernel_rfl) rfl (lsize_in P R C hC ls Lv hLv i x hx hxd _ (S.hp.sel (zAd (by repeat (first | exact pk1 | apply zAa)) (zAd (by repeat (first | exact pk1 | apply zAa)) (zAk _))))) ?_
      rintro v41 w ⟨rfl, hT⟩; clear E a; intro a E
      have S := S.call2 (zAd (by repeat (first | exact pk1 | apply zAa)) (zAd (by repeat (first | exact pk1 | apply zAa)) (zAk _))) hT; rw [hsz] at E
      refine ⟨S.stab.sub (by first | (simp; done) | (simp +contextual; done) | (simp [*]; done)), ?_⟩
      refine zm E rfl (fun w h => zAl E rfl rfl) ?_; clear E a; intro a E
      refine zm E rfl (fun w h => by first | exact zAf (q := 2) E rfl rfl rfl | exact zAi (q := 2) E rfl rfl rfl) ?_; clear E a; intro a E
      refine zCq rfl rfl (zBg E S rfl rfl rfl rfl rfl rfl (by repeat (first | exact pk1 | apply zAa)) (by first | exact Nat.le_of_ble_eq_true rfl | (simp; done) | (simp; omega)) ?_); clear E S a; intro a w E S; try dsimp only [List.set] at S
      refine zBs ?_
      refine zBf ?_
      refine ⟨_, S.front1 (A := [(lp, .loop (zHw rc))]) (by repeat (first | exact pk1 | apply zAa)), ?_⟩; clear S; intro w S; refine .inl ⟨rfl, ?_⟩
      rw [szTo_some hx]; exact S.only (zAd (by repeat (first | exact pk1 | apply zAa)) (zAd (by repeat (first | exact pk1 | apply zAa)) (zAd (by repeat (first | exact pk1 | apply zAa)) (zAd (by repeat (first | exact pk1 | apply zAa)) (zAd (by repeat (first | exact pk1 | apply zAa)) (zAd (by repeat (first | exact pk1 | apply zAa)) (zAd (by repeat (first | exact pk1 | apply zAa)) (zAd (by repeat (first | exact pk1 | apply zAa)) (zAd (by repeat (first | exact pk1 | apply zAa)) (zAd (by repeat (first | exact pk1 | apply zAa)) (zAd (by repeat (first | exact pk1 | apply zAa)) (zAd (by repeat (first | exact pk1 | apply zAa)) (zAk _)))))))))))))
  · exact S.only (zAd (by repeat (first | exact pk1 | apply zAa)) (zAd (by repeat (first | exact pk1 | apply zAa)) (zAd (by repeat (first | exact pk1 | apply zAa)) (zAd (by repeat (first | exact pk1 | apply zAa)) (zAd (by repeat (first | exact pk1 | apply zAa)) (zAd (by repeat (first | exact pk1 | apply zAa)) (zAd (by repeat (first | exact pk1 | apply zAa)) (zAd (by repeat (first | exact pk1 | apply zAa)) (zAd (by repeat (first | exact pk1 | apply zAa)) (zAd (by repeat (first | exact pk1 | apply zAa)) (zAd (by repeat (first | exact pk1 | apply zAa)) (zAd (by repeat (first | exact pk1 | apply zAa)) (zAk _)))))))))))))
  · rintro en w ⟨v, rfl, hJ | hJ⟩
    · clear S; have S := hJ
      refine ⟨v, rfl, .inl ⟨_, S, ?_⟩⟩; clear E S; intro w S a E
      refine zBf ?_
      refine zAh hK ?_; clear hK; clear K
      iterate 2 (refine wp_seq_k ?_; intro K hK)
      rw [szTo_all hsome] at S
      refine zAc ?_
      refine zp E (zAe E rfl rfl) ?_; clear E a; intro a E
      refine zp E (by first | exact zCa E rfl rfl rfl | exact zBa E rfl rfl rfl | exact zAt E rfl rfl rfl) ?_; clear E a; intro a E
      refine zp E (zCb E rfl rfl rfl) ?_; clear E a; intro a E
      refine zp E (zAe E rfl rfl) ?_; clear E a; intro a E
      refine zCh E (t := 47) rfl ((by simp; omega)) (fun hb47 => ?_)
      refine zy E hb47 (zAe E rfl rfl) ?_; clear E a; intro a E
      refine zy E hb47 (by first | exact zCa E rfl rfl rfl | exact zBa E rfl rfl rfl | exact zAt E rfl rfl rfl) ?_; clear E a; intro a E
      refine zy E hb47 (zDd E rfl rfl rfl) ?_; clear E a; intro a E
      refine zp E (zAq E rfl rfl hb47 rfl) ?_; clear E a; intro a E
      refine zp E (zAe E rfl rfl) ?_; clear E a; intro a E
      refine zCh E (t := 52) rfl ((by simp; omega)) (fun hb52 => ?_)
      refine zy E hb52 (by first | exact zAn E rfl rfl rfl (S.get (by repeat (first | exact pk1 | apply zAa))) rfl | exact zAj E rfl rfl rfl (by assumption)) ?_; clear E a; intro a E
      refine zy E hb52 (zAl E rfl rfl) ?_; clear E a; intro a E
      refine zy E hb52 (by first | exact zAf (q := 2) E rfl rfl rfl | exact zAi (q := 2) E rfl rfl rfl) ?_; clear E a; intro a E
      refine zy E hb52 (by first | exact zAn E rfl rfl rfl (S.get (by repeat (first | exact pk1 | apply zAa))) rfl | exact zAj E rfl rfl rfl (by assumption)) ?_; clear E a; intro a E
      refine zy E hb52 (zCb E rfl rfl rfl) ?_; clear E a; intro a E
      refine zp E (zAq E rfl rfl hb52 rfl) ?_; clear E a; intro a E
      refine wpList_nil ?_
      refine zAh hK ?_; clear hK; clear K
      refine zBt E rfl ((by simp; omega)) ?_
      refine wp_skip ?_
      refine zAh hK ?_; clear hK; clear K
      refine wp_seq_k ?_; intro K hK
      replace E := E.keep (e' := [(2, _), (3, _), (4, _)]) (zAb rfl (zAb rfl (zAb rfl (zAp))))
      refine zAc ?_
      refine zp E (by first | exact zAn E rfl rfl rfl (S.get (by repeat (first | exact pk1 | apply zAa))) rfl | exact zAj E rfl rfl rfl (by assumption)) ?_; clear E a; intro a E
      iterate 2 (refine zAo rfl (zBg E S rfl rfl rfl rfl rfl rfl (by repeat (first | exact pk1 | apply zAa)) (by first | exact Nat.le_of_ble_eq_true rfl | (simp; done) | (simp; omega)) ?_); clear E S a; intro a w E S; try dsimp only [List.set] at S)
      refine wpList_nil ?_
      refine zAh hK ?_; clear hK; clear K
      refine wp_ret ?_
      refine retM2 E S (by repeat (first | exact pk1 | apply zAa)) rfl (fun w S => zFj rfl rfl (S.get (by repeat (first | exact pk1 | apply zAa))) rfl) (fun w S => zFj rfl rfl (S.get (by repeat (first | exact pk1 | apply zAa))) rfl) ?_; clear S; intro w S
      exact ⟨_, rfl, b11, _, _, C18, C9, rfl, hB18, hCK, (S.only (Bs := [(b11, mtcl (.slice adl ls.length cl) (.slice adk ls.length ck) z)] :: C18 :: C9 :: [C, Lv, O]) (zAd (by repeat (first | exact pk1 | apply zAa)) (zAd (by repeat (first | exact pk1 | apply zAa)) (zAd (by repeat (first | exact pk1 | apply zAa)) (zAd (by repeat (first | exact pk1 | apply zAa)) (zAd (by repeat (first | exact pk1 | apply zAa)) (zAd (by repeat (first | exact pk1 | apply zAa)) (zAk _)))))))).tr⟩
    · exfalso; exact hJ
end Go.Proofs.YtidhehcjafoneaaGreatDoor
