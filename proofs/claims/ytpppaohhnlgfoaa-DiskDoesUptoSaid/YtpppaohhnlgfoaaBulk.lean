/-
  What the bound of the second form gives.
-/
import Derived.Test.YtpppaohhnlgfoaaRows
import Derived.Test.YtpppaohhnlgfoaaOld
namespace Go.Proofs.Ytpppaohhnlgfoaa
open Go.Sl Go.ChangeShapes Go.WideShapes Go.ChangeAt Go.RowKit
section
variable {H : Type} {enc : TypeId × Value → H} {P : Program} {w : World} {t e : TypeId} {s : Nat} {α : Type} {lay : α → List Value} {good : α → Prop} {size : α → Nat}
theorem bulk_one (d : DataW H) : 1 ≤ Rows.uptoBulk d := by
  cases d with
  | lit l => cases l <;> simp [Rows.uptoBulk]
  | nil => simp [Rows.uptoBulk]
  | ptr d => simp [Rows.uptoBulk]
  | slice elems spare => simp [Rows.uptoBulk]
  | agg parts => simp [Rows.uptoBulk]
  | iface t d => simp [Rows.uptoBulk]
  | map entries => simp [Rows.uptoBulk]
  | held h => simp [Rows.uptoBulk]
theorem bulk_part {d : DataW H} : ∀ {l : List (DataW H)}, d ∈ l → Rows.uptoBulk d ≤ Rows.uptoBulkAll l
  | x :: r, h => by
    simp only [Rows.uptoBulkAll]
    rcases List.mem_cons.1 h with rfl | h
    · omega
    · have := bulk_part h; omega
  | [], h => by cases h
/-- What is known of the cells, and that it is not more than the reading's bulk. -/
def DecB (enc : TypeId × Value → H) (P : Program) (w : World) (e : TypeId) (s : Nat) (lay : α → List Value) (good : α → Prop) (size : α → Nat) : Prop :=
  ∀ n cs x, DataW.trod enc P w 0 (fun _ => true) true n e cs = some x → cs.length = s → (x.1.weights P e).all (· ≤ reachBytes) = true → ∃ a, cs = lay a ∧ good a ∧ size a ≤ Rows.uptoBulk x.1
theorem dec_one (hd : Dec enc P w e s lay good) : DecB enc P w e s lay good (fun _ => 1) := fun n cs x h1 h2 h3 => by
  obtain ⟨a, h4, h5⟩ := hd n cs x h1 h2 h3
  exact ⟨a, h4, h5, bulk_one _⟩
theorem sum_bulk : ∀ {al : List α} {ds : List (DataW H)}, al.length = ds.length → (∀ (i : Nat) (a : α) (d : DataW H), al[i]? = some a → ds[i]? = some d → size a ≤ Rows.uptoBulk d) → (al.map size).sum ≤ Rows.uptoBulkAll ds
  | [], [], _, _ => by simp
  | a :: al, d :: ds, hl, h => by
    have h1 := h 0 a d rfl rfl
    have h2 := sum_bulk (al := al) (ds := ds) (by simpa using hl) (fun i a d ha hd => h (i + 1) a d (by simpa using ha) (by simpa using hd))
    simp only [List.map_cons, List.sum_cons, Rows.uptoBulkAll]; omega
  | [], _ :: _, hl, _ => by simp at hl
  | _ :: _, [], hl, _ => by simp at hl
theorem size_mem {al : List α} {a : α} (h : a ∈ al) : size a ≤ (al.map size).sum := by
  induction al with
  | nil => cases h
  | cons b r ih =>
    rw [List.map_cons, List.sum_cons]
    rcases List.mem_cons.1 h with rfl | h
    · omega
    · have := ih h; omega
theorem size_len {al : List α} (h : ∀ a, 1 ≤ size a) : al.length ≤ (al.map size).sum := by
  induction al with
  | nil => simp
  | cons b r ih => have := h b; rw [List.map_cons, List.sum_cons, List.length_cons]; omega
theorem decB_slice (ht : P.underlying t = some (.slice e)) (hs : P.cellsOf e = s) (h0 : 0 < s) {sz : Nat} (hz : P.bytesOf e = sz) (hd : DecB enc P w e s lay good size) (one : ∀ a, good a → ∀ u ∈ lay a, u.oneCell' = true) :
    DecB enc P w t 1 (fun x : Value × List α => [x.1]) (OldS w s sz lay good) (fun x => (x.2.map size).sum + 1) := fun n cs x h _ hw => by
  rcases Deep.open_slice ht h with ⟨rfl, rfl⟩ | ⟨a, len, cap, m, n, D, Pl, rfl, _, hl, hm, hmm, rfl, hx⟩
  · exact ⟨(.slice none 0 0, []), rfl, ⟨none, 0, rfl, Nat.le_refl _, by simp, ⟨by simp, by simp, Nat.zero_le _, .inl ⟨rfl, none, 0, rfl⟩⟩, by simp⟩, by simp [Rows.uptoBulk]⟩
  · simp only [if_true] at hmm
    subst hmm
    simp only [DataW.weights, ht, List.length_map, List.length_range, List.all_cons, Bool.and_eq_true, decide_eq_true_eq, List.all_append] at hw
    obtain ⟨hw1, hw2, _⟩ := hw
    have hstep : ∀ i, i < len → ∃ b : α, w.cells? 0 (a.add (i * s)) s = some (lay b) ∧ good b ∧ size b ≤ Rows.uptoBulk (D i) := fun i hi => by
      obtain ⟨cs', h1, h2⟩ := hx i (by omega)
      rw [hs] at h1
      have hlen : cs'.length = s := (World.cells?_some h1).2.1
      obtain ⟨b, rfl, hb, hsz⟩ := hd _ _ _ h2 hlen (List.all_eq_true.2 fun n hn => List.all_eq_true.1 hw2 n (weightsAll_mem (List.mem_map.2 ⟨i, by simpa using hi, rfl⟩) n hn))
      exact ⟨b, h1, hb, hsz⟩
    obtain ⟨al, hal, has⟩ := list_of hstep
    have hgood : ∀ b ∈ al, good b := fun b hb => by
      obtain ⟨i, hi⟩ := List.getElem?_of_mem hb
      exact (has i b hi).2.1
    have hlay : ∀ b ∈ al, (lay b).length = s := fun b hb => by
      obtain ⟨i, hi⟩ := List.getElem?_of_mem hb
      exact (World.cells?_some (has i b hi).1).2.1
    have hlen := flat_length hlay
    refine ⟨(.slice (some a) len m, al), rfl, ⟨some a, m, by rw [hal], by simp only [hal]; exact hl, ?_, ?_, hgood⟩, ?_⟩
    · rw [hz, show len + (m - len) = m by omega] at hw1
      exact hw1
    · simp only [hal]
      refine ⟨by rw [hlen, hal], fun u hu => ?_, by omega, ?_⟩
      · obtain ⟨b, hb, hu⟩ := List.mem_flatMap.1 hu
        exact one b (hgood b hb) u hu
      · by_cases hl0 : len = 0
        · exact .inl ⟨hl0, some a, m, by rw [hl0]⟩
        · obtain ⟨b0, hb0, -⟩ := hstep 0 (by omega)
          have hc0 := (World.cells?_some hb0).2.2 0 h0
          have hlb : (lay b0).length = s := (World.cells?_some hb0).2.1
          rw [List.getElem?_eq_getElem (by omega)] at hc0
          obtain ⟨b, off, spot⟩ := a
          simp only [World.cell?, Addr.add, Nat.zero_mul, Nat.add_zero] at hc0
          split at hc0
          · rename_i l T fr hh
            have hh' : w.heap[b]? = some (.cells l T fr) := hh
            cases spot with
            | some q => simp at hc0
            | none =>
              refine .inr ⟨b, off, m, l, T, fr, rfl, mem_old hh', ?_⟩
              have := flat_get (lay := lay) («as» := al) (s := s) (l := l) (off := off) hlay 0 (fun i c hc j v hv => by
                obtain ⟨h1, _⟩ := has i c hc
                have hls : (lay c).length = s := (World.cells?_some h1).2.1
                have hj : j < s := by
                  have := (List.getElem?_eq_some_iff.1 hv).1
                  omega
                have h3 := (World.cells?_some h1).2.2 j hj
                rw [Addr.add_lit, Addr.add_lit, cell_at hh', hv] at h3
                rw [Nat.zero_add]
                exact h3)
              simpa using this
          · cases hc0
    · have := sum_bulk (size := size) (al := al) (ds := (List.range len).map D) (by simp [hal]) (fun i b d hb hd => by
        rw [List.getElem?_map] at hd
        have hi := (List.getElem?_eq_some_iff.1 hb).1
        rw [List.getElem?_range (by omega)] at hd
        cases hd
        exact (has i b hb).2.2)
      simp only [Rows.uptoBulk]; omega
/-- An argument of one cell. -/
theorem DecB.arg (hd : DecB enc P w t 1 lay good size) {v : Value} {d : DataW H} {p : List MemPlace} (h : DataW.Trod enc P w 0 (fun _ => true) true t v d p) (h1 : v.cells.toList = [v]) {ts : List TypeId} {ds : List (DataW H)}
    (hw : (DataW.weightsEach P ts ds).all (· ≤ reachBytes) = true) (hk : Rows.uptoSmall H ds = true) {j : Nat} (ht : ts[j]? = some t) (hdj : ds[j]? = some d) : ∃ a, [v] = lay a ∧ good a ∧ size a ≤ 1048576 := by
  obtain ⟨n, hn⟩ := h
  rw [h1] at hn
  obtain ⟨a, h2, h3, h4⟩ := hd n _ _ hn rfl (List.all_eq_true.2 fun k hk => List.all_eq_true.1 hw k (DataW.weights_mem_each ht hdj k hk))
  have hb : Rows.uptoBulkAll ds ≤ 1048576 := of_decide_eq_true hk
  have := bulk_part (List.mem_of_getElem? hdj)
  have h5 : size a ≤ Rows.uptoBulk d := h4
  exact ⟨a, h2, h3, by omega⟩
end
end Go.Proofs.Ytpppaohhnlgfoaa
