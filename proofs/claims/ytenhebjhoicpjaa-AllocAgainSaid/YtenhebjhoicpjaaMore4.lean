/-
  Structs compared, whatever numbers, truths and structs they are made of.
-/
import Derived.Test.YtenhebjhoicpjaaMore3
namespace Go.Sl

/-- Whether a type is made of many cells. -/
def isAggB (P : Program) (t : TypeId) : Bool :=
  match P.underlying t with
  | some (.struct _) | some (.array _ _) => true
  | _ => false
/-- The value that such cells of a type are. -/
def asVal (P : Program) (t : TypeId) (us : List Value) : Option Value :=
  bif isAggB P t then some (.agg us.toArray) else match us with
    | [u] => some u
    | _ => none
def eqFs (P : Program) (F : TypeId → List Value → List Value → Option Bool) : List Field → List Value → List Value → Option Bool
  | [], _, _ => some true
  | f :: r, us, vs => bif f.name == "_" then none else match P.info? f.type with
    | none => none
    | some i => bif Nat.blt us.length (f.offset + i.size) || Nat.blt vs.length (f.offset + i.size) then none else
      match F f.type ((us.drop f.offset).take i.size) ((vs.drop f.offset).take i.size) with
      | none => none
      | some p => match r with
        | [] => some p
        | r => match eqFs P F r us vs with
          | none => none
          | some q => some (p && q)
/-- What '==' says of such cells. -/
def eqCells (P : Program) : Nat → TypeId → List Value → List Value → Option Bool
  | 0, _, _, _ => none
  | d + 1, t, us, vs => match P.underlying t with
    | some (.int _) => match us, vs with
      | [.int k a], [.int k' b] => if k = k' then some (a == b) else none
      | _, _ => none
    | some .bool => match us, vs with
      | [.bool a], [.bool b] => some (a == b)
      | _, _ => none
    | some (.struct fs) => eqFs P (eqCells P d) fs.toList us vs
    | _ => none
/-- No struct in it is held another way. -/
def noHeld (P : Program) : Nat → TypeId → Bool
  | 0, _ => false
  | d + 1, t => match P.underlying t with
    | some (.struct fs) => !P.stoodInHeld t && fs.toList.all fun f => noHeld P d f.type
    | _ => true

section
variable {P : Program}
theorem isAgg_of {t : TypeId} (w : World) (h : P.underlying t ≠ none) : (isAgg t).run P w = .ok (isAggB P t) w := by
  unfold isAggB
  cases hd : P.underlying t with
  | none => exact absurd hd h
  | some d => cases d <;> simp [isAgg, run_underlying hd]

theorem underlying_info {t : TypeId} {d : TypeDesc} (h : P.underlying t = some d) : ∃ i, P.info? t = some i := by
  unfold Program.underlying at h
  cases hi : P.info? t with
  | none => simp [hi] at h
  | some i => exact ⟨i, rfl⟩

theorem run_part {t : TypeId} {i : TypeInfo} (w : World) (hi : P.info? t = some i) (hu : P.underlying t ≠ none) {us : List Value} {off : Nat} {v : Value} (hl : off + i.size ≤ us.length)
    (hv : asVal P t ((us.drop off).take i.size) = some v) : (part t us.toArray off).run P w = .ok v w := by
  unfold part
  rw [Sem.run_bind, isAgg_of w hu, Result.andThen_ok]
  unfold asVal at hv
  cases hb : isAggB P t with
  | true =>
    simp only [hb, cond_true, Option.some.injEq] at hv
    subst hv
    simp only [if_true, Sem.run_bind, run_sizeOf (P := P) (w := w) (t := t) (q := i.size) (by rw [hi]; rfl), Result.andThen_ok, Sem.run_pure]
    congr 2
    apply Array.ext'
    simp [List.extract_toArray, List.extract_eq_take_drop]
  | false =>
    simp only [hb, cond_false] at hv
    split at hv
    · rename_i u hu2
      cases hv
      have h0 : us[off]? = some v := by
        have h1 : ((us.drop off).take i.size)[0]? = some v := by rw [hu2]; rfl
        rw [List.getElem?_take] at h1
        split at h1
        · rw [List.getElem?_drop] at h1; exact h1
        · cases h1
      simp [h0]
    · cases hv

theorem eqCells_shape {d : Nat} {t : TypeId} {us vs : List Value} {r : Bool} (h : eqCells P d t us vs = some r) : P.underlying t ≠ none ∧ (∃ u, asVal P t us = some u) ∧ ∃ v, asVal P t vs = some v := by
  cases d with
  | zero => cases h
  | succ d =>
    unfold eqCells at h
    split at h
    · rename_i hu
      refine ⟨by rw [hu]; simp, ?_⟩
      have hb : isAggB P t = false := by simp [isAggB, hu]
      split at h
      · simp [asVal, hb]
      · cases h
    · rename_i hu
      refine ⟨by rw [hu]; simp, ?_⟩
      have hb : isAggB P t = false := by simp [isAggB, hu]
      split at h
      · simp [asVal, hb]
      · cases h
    · rename_i fs hu
      have hb : isAggB P t = true := by simp [isAggB, hu]
      exact ⟨by rw [hu]; simp, by simp [asVal, hb]⟩
    · cases h

theorem run_eqFs {D d : Nat} {F : TypeId → List Value → List Value → Option Bool} (hF : F = eqCells P d) (w : World)
    (ih : ∀ t us vs r u v, eqCells P d t us vs = some r → noHeld P d t = true → asVal P t us = some u → asVal P t vs = some v → (Op.equalIn D t u v).run P w = .ok r w) :
    ∀ (fs : List Field) (us vs : List Value) (r : Bool), eqFs P F fs us vs = some r → (∀ f ∈ fs, noHeld P d f.type = true) → (Op.eqFields D us.toArray vs.toArray fs).run P w = .ok r w
  | [], us, vs, r, h, _ => by
    simp only [eqFs, Option.some.injEq] at h
    subst h
    simp [Op.eqFields]
  | f :: fs, us, vs, r, h, hh => by
    subst hF
    unfold eqFs at h
    cases hn : (f.name == "_") with
    | true => simp [hn] at h
    | false =>
      simp only [hn, cond_false] at h
      have hne : f.name ≠ "_" := by simpa using hn
      cases hi : P.info? f.type with
      | none => simp [hi] at h
      | some i =>
        simp only [hi] at h
        cases hl : (Nat.blt us.length (f.offset + i.size) || Nat.blt vs.length (f.offset + i.size)) with
        | true => simp [hl] at h
        | false =>
          simp only [hl, cond_false] at h
          have hl1 : f.offset + i.size ≤ us.length ∧ f.offset + i.size ≤ vs.length := by
            simp only [Bool.or_eq_false_iff] at hl
            have h1 := hl.1
            have h2 := hl.2
            rw [← Bool.not_eq_true, Nat.blt_eq] at h1 h2
            omega
          cases hp : eqCells P d f.type ((us.drop f.offset).take i.size) ((vs.drop f.offset).take i.size) with
          | none => simp [hp] at h
          | some p =>
            simp only [hp] at h
            obtain ⟨hu, ⟨u, hu1⟩, v, hv1⟩ := eqCells_shape hp
            have e1 := run_part w hi hu hl1.1 hu1
            have e2 := run_part w hi hu hl1.2 hv1
            have e3 := ih _ _ _ _ _ _ hp (hh f (List.mem_cons_self ..)) hu1 hv1
            have hrun : (Op.eqFields D us.toArray vs.toArray (f :: fs)).run P w = (if (!p) = true then (pure false : Sem Bool) else Op.eqFields D us.toArray vs.toArray fs).run P w := by
              simp only [Op.eqFields, if_pos hne, Sem.run_bind, e1, Result.andThen_ok, e2, e3]
            rw [hrun]
            have hrest : ∀ q, eqFs P (eqCells P d) fs us vs = some q → (Op.eqFields D us.toArray vs.toArray fs).run P w = .ok q w := fun q hq =>
              run_eqFs rfl w ih fs us vs q hq fun g hg => hh g (List.mem_cons_of_mem _ hg)
            cases fs with
            | nil =>
              simp only [Option.some.injEq] at h
              subst h
              cases p
              · simp
              · simp only [Bool.not_true, Bool.false_eq_true, if_false]; exact hrest true rfl
            | cons g gs =>
              simp only at h
              cases hq : eqFs P (eqCells P d) (g :: gs) us vs with
              | none => simp [hq] at h
              | some q =>
                simp only [hq, Option.some.injEq] at h
                subst h
                cases p
                · simp
                · simp only [Bool.not_true, Bool.false_eq_true, if_false, Bool.true_and]; exact hrest q hq

theorem run_eqCells (w : World) : ∀ (d j : Nat) (t : TypeId) (us vs : List Value) (r : Bool) (u v : Value), eqCells P d t us vs = some r → noHeld P d t = true → asVal P t us = some u → asVal P t vs = some v →
    (Op.equalIn (d + j) t u v).run P w = .ok r w
  | 0, _, _, _, _, _, _, _, h, _, _, _ => by cases h
  | d + 1, j, t, us, vs, r, u, v, h, hh, hu, hv => by
    unfold eqCells at h
    rw [show d + 1 + j = (d + j) + 1 by omega]
    split at h
    · rename_i k0 hk
      have hb : isAggB P t = false := by simp [isAggB, hk]
      split at h
      · rename_i k a k' b
        simp only [asVal, hb, cond_false, Option.some.injEq] at hu hv
        subst hu hv
        split at h
        · rename_i hkk
          subst hkk
          cases h
          exact run_equalIn_int w (d + j) t _ _ _ _ hk
        · cases h
      · cases h
    · rename_i hk
      have hb : isAggB P t = false := by simp [isAggB, hk]
      split at h
      · rename_i a b
        simp only [asVal, hb, cond_false, Option.some.injEq] at hu hv
        subst hu hv
        cases h
        exact run_equalIn_bool' w (d + j) t _ _ hk
      · cases h
    · rename_i fs hk
      have hb : isAggB P t = true := by simp [isAggB, hk]
      simp only [asVal, hb, cond_true, Option.some.injEq] at hu hv
      subst hu hv
      unfold noHeld at hh
      rw [hk] at hh
      simp only [Bool.and_eq_true, Bool.not_eq_true', List.all_eq_true] at hh
      have hS : P.underlying t = some (.struct (P.fieldsOf t)) := by simp [Program.fieldsOf, hk]
      have hfs : P.fieldsOf t = fs := by simp [Program.fieldsOf, hk]
      rw [run_equalIn_agg w (d + j) t _ _ hS hh.1, hfs]
      exact run_eqFs rfl w (fun t us vs r u v h1 h2 h3 h4 => run_eqCells w d j t us vs r u v h1 h2 h3 h4) fs.toList us vs r h hh.2
    · cases h
end
section
variable {P : Program} {a : Act} {w : World} {o : Oper} {n : Nat} {e : List (Nat × Value)} {x y : Operand}
theorem rn_eql_cells (E : Fr a n e) {t t' : TypeId} {us vs : List Value} {r : Bool} (ho : o.op = .binOp .eql t x y t') (hx : ev e x = some (.agg us.toArray)) (hy : ev e y = some (.agg vs.toArray))
    (hr : eqCells P 8 t us vs = some r) (hh : noHeld P 8 t = true) (hm : P.eqGuardType P.depth t = false) (ha : isAggB P t = true) : RunsTo P o a w (.bool r) w := by
  have h1 := run_eqGuard_agg (P := P) w .eql t x y us.toArray vs.toArray hm
  have h3 := run_eqCells w 8 9992 t us vs r _ _ hr hh (by simp only [asVal, ha, cond_true]; rfl) (by simp only [asVal, ha, cond_true]; rfl)
  have h2 : (binOp .eql t (.agg us.toArray) (.agg vs.toArray)).run P w = .ok (.bool r) w := by
    rw [run_eql_struct, h3]; rfl
  simp [RunsTo, execOp, ho, E.eval hx, E.eval hy, h1, h2]
theorem rn_neq_cells (E : Fr a n e) {t t' : TypeId} {us vs : List Value} {r : Bool} (ho : o.op = .binOp .neq t x y t') (hx : ev e x = some (.agg us.toArray)) (hy : ev e y = some (.agg vs.toArray))
    (hr : eqCells P 8 t us vs = some r) (hh : noHeld P 8 t = true) (hm : P.eqGuardType P.depth t = false) (ha : isAggB P t = true) : RunsTo P o a w (.bool !r) w := by
  have h1 := run_eqGuard_agg (P := P) w .neq t x y us.toArray vs.toArray hm
  have h3 := run_eqCells w 8 9992 t us vs r _ _ hr hh (by simp only [asVal, ha, cond_true]; rfl) (by simp only [asVal, ha, cond_true]; rfl)
  have h2 : (binOp .neq t (.agg us.toArray) (.agg vs.toArray)).run P w = .ok (.bool !r) w := by
    rw [run_neq_struct, h3]; rfl
  simp [RunsTo, execOp, ho, E.eval hx, E.eval hy, h1, h2]
end

/-! ### Results that lie in a block -/
section
variable {P : Program} {fn : Func} {a : Act} {w : World} {n : Nat} {e : List (Nat × Value)} {R : Ending → World → Prop} {t s b : Nat} {ty T : TypeId} {fr : Nat × Nat} {vs : List Value} {x : Value}
theorem run_cell_load (hb : w.heap[b]? = some (.cells vs.toArray T fr)) (hs : aggSize P ty = some vs.length) : (loadVar ty ⟨b, 0, none⟩).run P w = .ok (.agg vs.toArray) w := by
  have h2 : (loadCells ⟨b, 0, none⟩ vs.length).run P w = .ok vs.toArray w :=
    run_loadCells_list w ⟨b, 0, none⟩ vs fun i u hu => by rw [Addr.add_lit, cell_at hb]; simpa using hu
  simp [loadVar, run_isAgg_agg hs, run_sizeOf (info_agg hs), h2]
theorem ret_c (E : Fr a n e) (hr : fn.results = #[.cell t ty]) (hp : lk e t = some (.pointer (some ⟨b, 0, none⟩))) (hb : w.heap[b]? = some (.cells vs.toArray T fr)) (hs : aggSize P ty = some vs.length)
    (h : R (.returned (.agg vs.toArray)) w) : bodyPost P fn R .ret a w :=
  ⟨E.nod, .agg vs.toArray, by
    have h1 := run_cell_load (P := P) hb hs
    have h2 := E.get t _ hp
    simp [results, hr, h2, asAddr, h1], h⟩
theorem end_c (E : Fr a n e) (hr : fn.results = #[.cell t ty]) (hp : lk e t = some (.pointer (some ⟨b, 0, none⟩))) (hb : w.heap[b]? = some (.cells vs.toArray T fr)) (hs : aggSize P ty = some vs.length)
    (h : R (.returned (.agg vs.toArray)) w) : bodyPost P fn R .normal a w := ret_c (R := R) E hr hp hb hs h
theorem ret_ct (E : Fr a n e) (hr : fn.results = #[.cell t ty, .tmp s]) (hp : lk e t = some (.pointer (some ⟨b, 0, none⟩))) (hx : lk e s = some x) (hb : w.heap[b]? = some (.cells vs.toArray T fr)) (hs : aggSize P ty = some vs.length)
    (h : R (.returned (.tuple #[.agg vs.toArray, x])) w) : bodyPost P fn R .ret a w :=
  ⟨E.nod, .tuple #[.agg vs.toArray, x], by
    have h1 := run_cell_load (P := P) hb hs
    have h2 := E.get t _ hp
    have h3 := E.get s _ hx
    simp [results, hr, h2, h3, asAddr, h1], h⟩
end

/-- An element of an array at hand, one cell each. -/
theorem rn_index_arr {P : Program} {a : Act} {w : World} {o : Oper} {n : Nat} {e : List (Nat × Value)} {x y : Operand} (E : Fr a n e) {t el : TypeId} {l i : Nat} {k : IntKind} {q : Int} {cs : Array Value} {v : Value}
    (ho : o.op = .index t x y) (hx : ev e x = some (.agg cs)) (hy : ev e y = some (.int k q)) (ht : P.underlying t = some (.array l el)) (h1 : scalar P el = true) (hs : (P.info? el).map (·.size) = some 1)
    (hq : q = (i : Int)) (hi : i < l) (hv : cs[i]? = some v) : RunsTo P o a w v w := by
  subst hq
  simp [RunsTo, execOp, ho, E.eval hx, E.eval hy, Instr.index, asIntOf, run_underlying ht, hi, run_sizeOf hs, part, run_isAgg_scalar h1, hv]

theorem Buf.addr {C : Chunk} {T : TypeId} {s m c : Nat} {ad : Option Addr} {xs : List Value} (h : Buf C T s (.slice ad m c) m xs) (hm : 0 < m) : ∃ g, ad = some ⟨g, 0, none⟩ := by
  rcases h.2.2 with ⟨h, h0, _⟩ | ⟨g, c', r, h, _⟩
  · omega
  · cases h; exact ⟨g, rfl⟩
theorem flat_self (xs : List Value) : xs.flatMap (fun v => [v]) = xs := by induction xs with
  | nil => rfl
  | cons x r ih => rw [List.flatMap_cons, ih]; rfl
/-- A cell of an owned slice is stored. -/
theorem wp_elem1 {P : Program} {a : Act} {o : Oper} {n : Nat} {e : List (Nat × Value)} {x z : Operand} {v : Value} {K : Act → World → Prop} {Q : Exit → Act → World → Prop} {w0 w : World} {As Ls Rs : List Chunk} {C : Chunk}
    (E : Fr a n e) (S : St w0 As w Ls) {xs : List Value} {t T : TypeId} {b j i m c s : Nat} (ho : o.op = .store t x z) (hd : o.dst = none) (hx : ev e x = some (.pointer (some ⟨b, j, none⟩))) (hy : ev e z = some v)
    (h1 : v.oneCell' = true) (hs : (P.info? t).map (·.size) = some 1)
    (hB : Buf C T s (.slice (some ⟨b, 0, none⟩) m c) m xs) (hp : Ls.Perm (C :: Rs)) (hi : i < xs.length) (hj : j = i)
    (k : ∀ a' w' C', Fr a' n e → Buf C' T s (.slice (some ⟨b, 0, none⟩) m c) m (xs.set i v) → St w0 As w' (C' :: Rs) → K a' w') : o.wp P a w K Q := by
  subst hj
  rcases hB.2.2 with ⟨h, _⟩ | ⟨g, c', r, h, rfl, hn, hc, hcs⟩
  · cases h
  · cases h
    refine wp_store1 E S ho hd hx hy h1 hs hp (by rw [List.length_append]; omega) ?_
    intro a' w' E' S'
    rw [List.set_append, if_pos hi] at S'
    refine k a' w' _ E' ⟨by rw [List.length_set]; exact hB.1, fun u hu => ?_, .inr ⟨b, _, r, rfl, rfl, hn, hc, by rw [List.length_set]; exact hcs⟩⟩ S'
    rcases List.mem_or_eq_of_mem_set hu with hu | hu
    · exact hB.2.1 u hu
    · rw [hu]; exact h1
end Go.Sl
