/-
  Maps with keys that are numbers: a key's value changed, a key struck out, all keys gone through.
-/
import Derived.Test.YtenhebjhoicpjaaMap
import Derived.Laws.IdiomRangeMap
namespace Go.Sl
section
variable {P : Program} {a : Act} {o : Oper} {n : Nat} {e : List (Nat × Value)} {x y z : Operand} {w w0 : World} {v : Value} {As Ls Rs : List Chunk} {K : Act → World → Prop} {Q : Exit → Act → World → Prop}
/-- A map's entries: key, value, stamp. -/
structure Me where
  key : Int
  val : Value
  born : Nat
abbrev Me.en (k : IntKind) (m : Me) : MapEntry := { key := .int k m.key, val := m.val, born := m.born }
abbrev mes (k : IntKind) (L : List Me) : Array MapEntry := (L.map (Me.en k)).toArray
/-- Stamps below the clock, no stamp twice, no key twice. -/
structure MeOk (L : List Me) (clock : Nat) : Prop where
  born : ∀ m ∈ L, m.born < clock
  nb : (L.map (·.born)).Nodup
  nk : (L.map (·.key)).Nodup
theorem meOk_nil (c : Nat) : MeOk [] c := ⟨by simp, by simp, by simp⟩
theorem find_not {k : IntKind} {q : Int} : ∀ {L : List Me} (i : Nat), (∀ m ∈ L, m.key ≠ q) → Instr.findNow (.int k) (.int k q) (L.map (Me.en k)) i = some none
  | [], i, _ => rfl
  | m :: r, i, h => by
    have h1 := h m (List.mem_cons_self ..)
    have h2 := find_not (k := k) (L := r) (i + 1) fun z hz => h z (List.mem_cons_of_mem _ hz)
    have h3 : Instr.sameNow (.int k) (.int k q) (.int k m.key) = some false := by
      simp [Instr.sameNow, Ne.symm h1]
    simp [Instr.findNow, h3, h2]
theorem find_is {k : IntKind} {m : Me} : ∀ {A B : List Me} (i : Nat), (∀ z ∈ A, z.key ≠ m.key) → Instr.findNow (.int k) (.int k m.key) ((A ++ m :: B).map (Me.en k)) i = some (some (i + A.length, m.val))
  | [], B, i, _ => by
    have h3 : Instr.sameNow (.int k) (.int k m.key) (.int k m.key) = some true := by simp [Instr.sameNow]
    simp [Instr.findNow, h3]
  | z :: A, B, i, h => by
    have h1 := h z (List.mem_cons_self ..)
    have h2 := find_is (k := k) (m := m) (A := A) (B := B) (i + 1) fun u hu => h u (List.mem_cons_of_mem _ hu)
    have h3 : Instr.sameNow (.int k) (.int k m.key) (.int k z.key) = some false := by
      simp [Instr.sameNow, Ne.symm h1]
    rw [List.cons_append, List.map_cons]
    simp only [Instr.findNow, Me.en, h3]
    rw [h2, List.length_cons, Nat.add_assoc, Nat.add_comm 1]
theorem me_split {L : List Me} {q : Int} (h : ∃ m ∈ L, m.key = q) : ∃ A m B, L = A ++ m :: B ∧ m.key = q ∧ ∀ z ∈ A, z.key ≠ q := by
  induction L with
  | nil => obtain ⟨m, hm, _⟩ := h; cases hm
  | cons x r ih =>
    by_cases c : x.key = q
    · exact ⟨[], x, r, rfl, c, by simp⟩
    · obtain ⟨m, hm, hq⟩ := h
      rcases List.mem_cons.1 hm with rfl | hm
      · exact absurd hq c
      · obtain ⟨A, m', B, rfl, h2, h3⟩ := ih ⟨m, hm, hq⟩
        exact ⟨x :: A, m', B, rfl, h2, fun z hz => by
          rcases List.mem_cons.1 hz with rfl | hz
          · exact c
          · exact h3 z hz⟩
theorem mes_push (k : IntKind) (L : List Me) (m : Me) : (mes k L).push (Me.en k m) = mes k (L ++ [m]) := by
  apply Array.toList_inj.1; simp
theorem mes_modify (k : IntKind) (A B : List Me) (m : Me) (v : Value) : (mes k (A ++ m :: B)).modify A.length (fun e => { e with key := .int k m.key, val := v }) = mes k (A ++ { m with val := v } :: B) := by
  apply Array.ext
  · simp
  · intro i h1 h2
    rw [Array.getElem_modify]
    simp only [mes, List.map_append, List.map_cons, List.getElem_toArray]
    by_cases c : A.length = i
    · subst c
      rw [if_pos rfl]
      simp [Me.en]
    · rw [if_neg c, List.getElem_append, List.getElem_append]
      split
      · rfl
      · rename_i hc
        simp only [List.length_map] at hc ⊢
        obtain ⟨j, hj⟩ : ∃ j, i - A.length = j + 1 := ⟨i - A.length - 1, by omega⟩
        simp only [hj, List.getElem_cons_succ]
theorem mes_erase (k : IntKind) (A B : List Me) (m : Me) : (mes k (A ++ m :: B)).eraseIdxIfInBounds A.length = mes k (A ++ B) := by
  apply Array.toList_inj.1
  rw [Array.eraseIdxIfInBounds]
  rw [dif_pos (by simp)]
  simp [List.eraseIdx_append_of_length_le]
theorem meOk_push {L : List Me} {clock : Nat} (h : MeOk L clock) {m : Me} (hm : m.born = clock) (hk : ∀ z ∈ L, z.key ≠ m.key) : MeOk (L ++ [m]) (clock + 1) := by
  refine ⟨fun z hz => ?_, ?_, ?_⟩
  · rcases List.mem_append.1 hz with hz | hz
    · have := h.born z hz; omega
    · rw [List.mem_singleton.1 hz]; omega
  · rw [List.map_append, List.nodup_append]
    refine ⟨h.nb, by simp, fun i hi j hj => ?_⟩
    obtain ⟨z, hz, rfl⟩ := List.mem_map.1 hi
    simp only [List.map_cons, List.map_nil, List.mem_singleton] at hj
    have := h.born z hz; omega
  · rw [List.map_append, List.nodup_append]
    refine ⟨h.nk, by simp, fun i hi j hj => ?_⟩
    obtain ⟨z, hz, rfl⟩ := List.mem_map.1 hi
    simp only [List.map_cons, List.map_nil, List.mem_singleton] at hj
    rw [hj]; exact hk z hz
theorem meOk_sub {L M : List Me} {clock : Nat} (h : MeOk L clock) (hs : M.Sublist L) : MeOk M clock :=
  ⟨fun z hz => h.born z (hs.subset hz), (hs.map _).nodup h.nb, (hs.map _).nodup h.nk⟩
theorem meOk_val {A B : List Me} {m : Me} {clock : Nat} {v : Value} (h : MeOk (A ++ m :: B) clock) : MeOk (A ++ { m with val := v } :: B) clock := by
  obtain ⟨h1, h2, h3⟩ := h
  refine ⟨fun z hz => ?_, by simpa using h2, by simpa using h3⟩
  rcases List.mem_append.1 hz with hz | hz
  · exact h1 z (List.mem_append_left _ hz)
  · rcases List.mem_cons.1 hz with rfl | hz
    · exact h1 m (List.mem_append_right _ (List.mem_cons_self ..))
    · exact h1 z (List.mem_append_right _ (List.mem_cons_of_mem _ hz))
/-- A key that is there gets another value. -/
theorem wp_mapMod (E : Fr a n e) (S : St w0 As w Ls) {t kt et : TypeId} {r clock : Nat} {k : IntKind} {A B : List Me} {m : Me} (ho : o.op = .mapUpdate t x y z) (hd : o.dst = none) (hx : ev e x = some (.map (some r))) (hy : ev e y = some (.int k m.key)) (hz : ev e z = some v)
    (ht : P.underlying t = some (.map kt et)) (hk : P.underlying kt = some (.int k)) (hp : Ls.Perm ([(r, .map (mes k (A ++ m :: B)) clock)] :: Rs)) (hA : ∀ z ∈ A, z.key ≠ m.key)
    (kk : ∀ a' w', Fr a' n e → St w0 As w' ([(r, .map (mes k (A ++ { m with val := v } :: B)) clock)] :: Rs) → K a' w') : o.wp P a w K Q := by
  have hb := S.get hp
  have hf := find_is (k := k) (m := m) (A := A) (B := B) 0 hA
  rw [Nat.zero_add] at hf
  have hj : (mes k (A ++ m :: B))[A.length]? = some (Me.en k m) := by simp
  have hmd := mes_modify k A B m v
  have hf : Instr.findNow (.int k) (.int k m.key) (mes k (A ++ m :: B)).toList 0 = some (some (A.length, m.val)) := hf
  rw [← hmd] at kk
  clear hmd
  generalize mes k (A ++ m :: B) = es at *
  refine Skips.wp (w' := { w with heap := w.heap.setIfInBounds r (.map (es.modify A.length (fun e => { e with key := .int k m.key, val := v })) clock) }) ?_ (by rw [hd]; exact kk _ _ (E.put0 _) (heap_set_block S hp))
  unfold Skips
  have hsame : (Instr.keyThatStays (.int k m.key) (.int k m.key)).run P w = .ok (.int k m.key) w := Go.MapKept.run_keyThatStays (d := .int k) (by simp [Go.MapKept.IsKey])
  simp [execOp, ho, E.eval hx, E.eval hy, E.eval hz, Instr.mapUpdate, run_underlying ht, Go.MapKept.run_getObj_map hb, checkKey_int hk, Go.MapKept.run_findKey hk hf, hj, hsame, Go.MapKept.run_setObj_map _ hb]
/-- A key that is there is struck out. -/
theorem wp_mapDel (E : Fr a n e) (S : St w0 As w Ls) {t tk kt et : TypeId} {r clock : Nat} {k : IntKind} {A B : List Me} {m : Me} (ho : o.op = .call { callee := .builtin .delete, args := #[x, y], argTypes := #[t, tk] }) (hd : o.dst = none) (hx : ev e x = some (.map (some r))) (hy : ev e y = some (.int k m.key))
    (ht : P.underlying t = some (.map kt et)) (hk : P.underlying kt = some (.int k)) (hp : Ls.Perm ([(r, .map (mes k (A ++ m :: B)) clock)] :: Rs)) (hA : ∀ z ∈ A, z.key ≠ m.key)
    (kk : ∀ a' w', Fr a' n e → St w0 As w' ([(r, .map (mes k (A ++ B)) clock)] :: Rs) → K a' w') : o.wp P a w K Q := by
  have hb := S.get hp
  have hf := find_is (k := k) (m := m) (A := A) (B := B) 0 hA
  rw [Nat.zero_add] at hf
  have hf : Instr.findNow (.int k) (.int k m.key) (mes k (A ++ m :: B)).toList 0 = some (some (A.length, m.val)) := hf
  rw [← mes_erase k A B m] at kk
  generalize mes k (A ++ m :: B) = es at *
  have hrun : RunsTo P o a w (.tuple #[]) { w with heap := w.heap.setIfInBounds r (.map (es.eraseIdxIfInBounds A.length) clock) } := by
    simp [RunsTo, execOp, ho, resolve, invoke, builtin, E.eval hx, E.eval hy, Builtin.delete_, run_underlying ht, Go.MapKept.run_getObj_map hb, checkKey_int hk, Go.MapKept.run_findKey hk hf, Go.MapKept.run_setObj_map _ hb]
  refine hrun.wp ?_
  rw [hd]; exact kk _ _ (E.put0 _) (heap_set_block S hp)
/-- All keys are to be gone through. -/
theorem wp_range (E : Fr a n e) (S : St w0 As w Ls) {t kt et : TypeId} {d r clock : Nat} {es : Array MapEntry} (ho : o.op = .range t x) (hd : o.dst = some d) (hn : d < n) (hx : ev e x = some (.map (some r)))
    (ht : P.underlying t = some (.map kt et)) (hp : Ls.Perm ([(r, .map es clock)] :: Rs))
    (kk : ∀ a' w' b, Fr a' n ((d, ptr b) :: e) → St w0 As w' ([(b, .mapIter (some r) clock #[] clock)] :: Ls) → K a' w') : o.wp P a w K Q := by
  have hb := S.get hp
  have hrun : RunsTo P o a w (ptr w.heap.size) (w.alloc (.mapIter (some r) clock #[] clock)) := by
    simp [RunsTo, execOp, ho, E.eval hx, Instr.range, run_underlying ht, Go.MapKept.run_getObj_map hb]
  exact hrun.wp (by rw [hd]; exact kk _ _ w.heap.size (E.put hn _) (S.alloc _))
/-- One more key, whichever; or all have been. -/
theorem wp_next (E : Fr a n e) (S : St w0 As w Ls) {d r it since last clock : Nat} {seen : Array Nat} {es : Array MapEntry} (ho : o.op = .next x false) (hd : o.dst = some d) (hn : d < n) (hx : ev e x = some (ptr it))
    (hp : Ls.Perm ([(it, .mapIter (some r) since seen last)] :: [(r, .map es clock)] :: Rs)) (hold : ∀ m ∈ es.toList, m.born < since) (hsl : since ≤ last)
    (kk : ∀ a' w' u, Fr a' n ((d, u) :: e) → ((u = .tuple #[.bool false] ∧ (∀ m ∈ es.toList, m.born ∈ seen.toList) ∧ St w0 As w' ([(it, .mapIter (some r) since seen last)] :: [(r, .map es clock)] :: Rs)) ∨
      ∃ m ∈ es.toList, m.born ∉ seen.toList ∧ u = .tuple #[.bool true, m.key, m.val] ∧ St w0 As w' ([(it, .mapIter (some r) since (seen.push m.born) clock)] :: [(r, .map es clock)] :: Rs)) → K a' w') : o.wp P a w K Q := by
  have hi := S.get hp
  have hb := S.get (hp.trans (List.Perm.swap _ _ _))
  have hmem : ∀ m ∈ (es.filter fun e => !seen.contains e.born).toList, m ∈ es.toList ∧ m.born ∉ seen.toList := fun m hm => by
    simp at hm ⊢; exact hm
  have hfull : (es.filter fun e => !seen.contains e.born).size = 0 → ∀ m ∈ es.toList, m.born ∈ seen.toList := fun h0 m hm => by
    have h1 := Array.eq_empty_of_size_eq_zero h0
    rw [Array.filter_eq_empty_iff] at h1
    have := h1 m (by simpa using hm)
    simpa using this
  have hstep : ((es.filter fun e => !seen.contains e.born).size = 0 ∧ RunsTo P o a w (.tuple #[.bool false]) w) ∨
      ∃ m ∈ (es.filter fun e => !seen.contains e.born).toList, ∃ w1 : World, (w1 = w ∨ w1 = w.drew) ∧ RunsTo P o a w (.tuple #[.bool true, m.key, m.val]) { w1 with heap := w1.heap.setIfInBounds it (.mapIter (some r) since (seen.push m.born) clock) } := by
    have hgi : (getObj it).run P w = .ok (.mapIter (some r) since seen last) w := by simp [getObj, Sem.run, hi, Result.andThen]
    simp only [RunsTo, execOp, ho, E.eval hx, Instr.next, Sem.run_bind, hgi, Result.andThen, Go.MapKept.run_getObj_map hb, next_test_false seen es since last hold hsl, Bool.false_eq_true, if_false]
    have hm2 : ∀ x ∈ (Array.filter (fun e => !seen.contains e.born) es).toList, x.born < since := fun x hx => hold x (hmem x hx).1
    generalize Array.filter (fun e => !seen.contains e.born) es = L at hm2 ⊢
    have e1 : L.filter (fun x => decide (x.born < since)) = L := Array.filter_eq_self.2 (fun x hx => by simpa using hm2 x (by simpa using hx))
    have e2 : L.filter (fun x => decide (x.born ≥ since)) = #[] := by
      rw [Array.filter_eq_empty_iff]
      intro x hx
      have := hm2 x (by simpa using hx)
      simp
      omega
    simp only [e1, e2, Array.append_empty]
    by_cases h0 : L.size = 0
    · left
      have : L = #[] := Array.eq_empty_of_size_eq_zero h0
      subst this
      refine ⟨rfl, ?_⟩
      simp [choose, Sem.run, Question.forced, Result.andThen]
    · right
      have hne : L.isEmpty = false := by simp [Array.isEmpty, h0]
      simp only [hne, Bool.false_eq_true, if_false, Array.empty_append, Array.size_map]
      have hch : ∃ (j : Nat) (w1 : World), j < L.size ∧ (w1 = w ∨ w1 = w.drew) ∧ (choose (Question.mapNext L.size)).run P w = .ok j w1 := by
        by_cases hf : L.size ≤ 1
        · exact ⟨0, w, by omega, .inl rfl, by simp [choose, Sem.run, Question.forced, hf]⟩
        · exact ⟨_, w.drew, Nat.mod_lt _ (by omega), .inr rfl, by
            simp only [choose, Sem.run, Question.forced, decide_eq_true_eq, hf, if_false, Question.cut]
            rfl⟩
      obtain ⟨j, w1, hj, hal, hrun⟩ := hch
      have hi1 : w1.heap[it]? = some (.mapIter (some r) since seen last) := by rcases hal with rfl | rfl <;> exact hi
      have hset : (setObj it (.mapIter (some r) since (seen.push L[j].born) clock)).run P w1 = .ok () { w1 with heap := w1.heap.setIfInBounds it (.mapIter (some r) since (seen.push L[j].born) clock) } := by
        simp [setObj, Sem.run, hi1]
      refine ⟨L[j], by simp, w1, hal, ?_⟩
      simp only [hrun, Array.getElem?_map, Array.getElem?_eq_getElem hj, Option.map_some, Sem.run_bind, hset, Result.andThen]
      rfl
  rcases hstep with ⟨h0, hr⟩ | ⟨m, hm, w1, hal, hr⟩
  · exact hr.wp (by rw [hd]; exact kk _ _ _ (E.put hn _) (.inl ⟨rfl, hfull h0, S.perm hp⟩))
  · obtain ⟨h1, h2⟩ := hmem m hm
    refine hr.wp ?_
    rw [hd]
    refine kk _ _ _ (E.put hn _) (.inr ⟨m, h1, h2, rfl, ?_⟩)
    rcases hal with rfl | rfl
    · exact heap_set_block S hp
    · exact heap_set_block S.drew hp
theorem wp_nextM (E : Fr a n e) (S : St w0 As w Ls) {d r it since last clock : Nat} {seen : Array Nat} {k : IntKind} {L : List Me} (ho : o.op = .next x false) (hd : o.dst = some d) (hn : d < n) (hx : ev e x = some (ptr it))
    (hp : Ls.Perm ([(it, .mapIter (some r) since seen last)] :: [(r, .map (mes k L) clock)] :: Rs)) (hold : ∀ m ∈ L, m.born < since) (hsl : since ≤ last)
    (kk : ∀ a' w' u, Fr a' n ((d, u) :: e) → ((u = .tuple #[.bool false] ∧ (∀ m ∈ L, m.born ∈ seen.toList) ∧ St w0 As w' ([(it, .mapIter (some r) since seen last)] :: [(r, .map (mes k L) clock)] :: Rs)) ∨
      ∃ m ∈ L, m.born ∉ seen.toList ∧ u = .tuple #[.bool true, .int k m.key, m.val] ∧ St w0 As w' ([(it, .mapIter (some r) since (seen.push m.born) clock)] :: [(r, .map (mes k L) clock)] :: Rs)) → K a' w') : o.wp P a w K Q := by
  have hin : ∀ m, m ∈ (mes k L).toList ↔ ∃ z ∈ L, Me.en k z = m := fun m => by simp
  refine wp_next E S ho hd hn hx hp (fun m hm => ?_) hsl fun a' w' u E' h => kk a' w' u E' ?_
  · obtain ⟨z, hz, rfl⟩ := (hin m).1 hm
    exact hold z hz
  · rcases h with ⟨h1, h2, h3⟩ | ⟨m, hm, h1, h2, h3⟩
    · exact .inl ⟨h1, fun m hm => h2 (Me.en k m) ((hin _).2 ⟨m, hm, rfl⟩), h3⟩
    · obtain ⟨z, hz, rfl⟩ := (hin m).1 hm
      exact .inr ⟨z, hz, h1, h2, h3⟩
/-- The key and the value that have just come. -/
theorem rn_entry (E : Fr a n e) {it r since clock : Nat} {seen : Array Nat} {k : IntKind} {L : List Me} {m : Me} (ho : o.op = .entry x) (hx : ev e x = some (ptr it)) (hi : w.heap[it]? = some (.mapIter (some r) since (seen.push m.born) clock)) (hb : w.heap[r]? = some (.map (mes k L) clock)) (hm : m ∈ L) (hn : (L.map (·.born)).Nodup) : RunsTo P o a w (.tuple #[.int k m.key, m.val]) w := by
  have hf : (mes k L).find? (·.born == m.born) = some (Me.en k m) := by
    rw [← Array.find?_toList]
    exact find_born (Me.en k m) (mes k L).toList (by rw [show (mes k L).toList.map (·.born) = L.map (·.born) by simp]; exact hn) (by simp; exact ⟨m, hm, rfl, rfl, rfl⟩)
  generalize mes k L = es at *
  simp [RunsTo, execOp, ho, E.eval hx, Instr.entry, getObj, Sem.run, hi, hb, hf, Result.andThen, Array.back?_push]
end
end Go.Sl
