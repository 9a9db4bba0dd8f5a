/-
  What a call is handed: the old memory as one chunk, and what an argument's data say of its cells.
-/
import Derived.Test.YtenhebjhoicpjaaMore
import Derived.ProofKit
import Derived.OpenShut
import Derived.SizedLaws
import Derived.Deep.Slices
namespace Go.Sl
open Go.ChangeShapes Go.WideShapes Go.ChangeAt Go.RowKit Go.ChangeMaps

/-- All that was there. -/
def old (w : World) : Chunk := w.heap.toList.zipIdx.map fun x => (x.2, x.1)

theorem mem_old {w : World} {b : Nat} {o : Obj} (h : w.heap[b]? = some o) : (b, o) ∈ old w := by
  refine List.mem_map.2 ⟨(o, b), ?_, rfl⟩
  rw [List.mem_zipIdx_iff_getElem?]
  simpa using h
theorem old_own (w : World) : Own w (old w) := by
  refine ⟨?_, fun x hx => ?_⟩
  · have : (old w).map (·.1) = List.range' 0 w.heap.toList.length := by simp [old, Function.comp_def]
    rw [this]; exact List.nodup_range'
  · obtain ⟨y, hy, rfl⟩ := List.mem_map.1 hx
    rw [List.mem_zipIdx_iff_getElem?] at hy
    simpa using hy
theorem hp_old (w : World) : Hp w [old w] := by simpa [Hp] using old_own w

theorem below_old {w w' : World} {Bs : List Chunk} (h : Trs w w' [old w] (old w :: Bs)) : Below w.heap.size w w' :=
  ⟨h.os, h.tape, h.output, h.size, fun k hk => by
    have e : w.heap[k]? = some w.heap[k] := Array.getElem?_eq_getElem hk
    rw [e]
    have h1 := h.own [] (by simpa using old_own w)
    exact h1.2 (k, w.heap[k]) (by simp [mem_old e])⟩

/-- What data of a type say of its cells. -/
def Dec {H : Type} (enc : TypeId × Value → H) (P : Program) (w : World) (e : TypeId) (s : Nat) {α : Type} (lay : α → List Value) (good : α → Prop) : Prop :=
  ∀ n cs x, DataW.trod enc P w 0 (fun _ => true) true n e cs = some x → cs.length = s → (x.1.weights P e).all (· ≤ reachBytes) = true → ∃ a, cs = lay a ∧ good a

section
variable {H : Type} {enc : TypeId × Value → H} {P : Program} {w : World} {t e : TypeId} {s : Nat} {α : Type} {lay : α → List Value} {good : α → Prop}

theorem Dec.imp {good' : α → Prop} (h : Dec enc P w e s lay good) (k : ∀ a, good a → good' a) : Dec enc P w e s lay good' := fun n cs x h1 h2 h3 => by
  obtain ⟨a, h4, h5⟩ := h n cs x h1 h2 h3
  exact ⟨a, h4, k a h5⟩
theorem Dec.map {β : Type} {lay' : β → List Value} {good' : β → Prop} (h : Dec enc P w e s lay good) (k : ∀ a, good a → ∃ b, lay a = lay' b ∧ good' b) : Dec enc P w e s lay' good' := fun n cs x h1 h2 h3 => by
  obtain ⟨a, h4, h5⟩ := h n cs x h1 h2 h3
  obtain ⟨b, h6, h7⟩ := k a h5
  exact ⟨b, h4.trans h6, h7⟩

theorem dec_int {k : IntKind} (ht : P.underlying t = some (.int k)) : Dec enc P w t 1 (fun z => [.int k z]) (fun z => (Lit.int k z).wf = true) := fun n cs x h _ _ => by
  obtain ⟨z, h1, _, h2⟩ := DataW.trod_int ht h
  exact ⟨z, h1, h2⟩
theorem dec_i64 (ht : P.underlying t = some (.int .i64)) : Dec enc P w t 1 (fun z => [.int .i64 z]) (fun z => -9223372036854775808 ≤ z ∧ z ≤ 9223372036854775807) :=
  (dec_int ht).imp fun z hz => by simpa [Lit.wf, IntKind.min, IntKind.max, IntKind.signed, IntKind.bits] using hz
theorem dec_u64 (ht : P.underlying t = some (.int .u64)) : Dec enc P w t 1 (fun z : Nat => [.int .u64 z]) (fun z => z < 18446744073709551616) :=
  (dec_int ht).map fun z hz => by
    have hz : 0 ≤ z ∧ z ≤ 18446744073709551615 := by simpa [Lit.wf, IntKind.min, IntKind.max, IntKind.signed, IntKind.bits] using hz
    exact ⟨z.toNat, by rw [Int.toNat_of_nonneg hz.1], by omega⟩
theorem dec_u8 (ht : P.underlying t = some (.int .u8)) : Dec enc P w t 1 (fun b : UInt8 => [.int .u8 b.toNat]) (fun _ => True) :=
  (dec_int ht).map fun z hz => by
    have hz : 0 ≤ z ∧ z ≤ 255 := by simpa [Lit.wf, IntKind.min, IntKind.max, IntKind.signed, IntKind.bits] using hz
    refine ⟨UInt8.ofNat z.toNat, ?_, trivial⟩
    have : (UInt8.ofNat z.toNat).toNat = z.toNat := by simp; omega
    rw [this, Int.toNat_of_nonneg hz.1]
theorem dec_u32 (ht : P.underlying t = some (.int .u32)) : Dec enc P w t 1 (fun z : Nat => [.int .u32 z]) (fun z => z < 4294967296) :=
  (dec_int ht).map fun z hz => by
    have hz : 0 ≤ z ∧ z ≤ 4294967295 := by simpa [Lit.wf, IntKind.min, IntKind.max, IntKind.signed, IntKind.bits] using hz
    exact ⟨z.toNat, by rw [Int.toNat_of_nonneg hz.1], by omega⟩
theorem dec_bool (ht : P.underlying t = some .bool) : Dec enc P w t 1 (fun b => [.bool b]) (fun _ => True) := fun n cs x h _ _ => by
  obtain ⟨z, h1, _⟩ := DataW.trod_bool ht h
  exact ⟨z, h1, trivial⟩
theorem dec_string (ht : P.underlying t = some .string) : Dec enc P w t 1 (fun b => [str b]) (fun b => b.length ≤ 140737488351232) := fun n cs x h _ hz => by
  obtain ⟨z, h1, rfl, _⟩ := DataW.trod_string ht h
  refine ⟨z.data.toList, by rw [h1], ?_⟩
  simp only [DataW.weights, List.all_cons, List.all_nil, Bool.and_true, reachBytes] at hz
  exact of_decide_eq_true hz

theorem weightsAll_mem : ∀ {ds : List (DataW H)} {d : DataW H}, d ∈ ds → ∀ n ∈ d.weights P e, n ∈ DataW.weightsAll P e ds
  | d0 :: ds, d, hd, n, hn => by
    simp only [DataW.weightsAll, List.mem_append]
    rcases List.mem_cons.1 hd with rfl | hd
    · exact .inl hn
    · exact .inr (weightsAll_mem hd n hn)
  | [], _, hd, _, _ => by cases hd

theorem list_of {n : Nat} {p : Nat → α → Prop} (h : ∀ i, i < n → ∃ a, p i a) : ∃ as : List α, as.length = n ∧ ∀ i a, as[i]? = some a → p i a := by
  induction n with
  | zero => exact ⟨[], rfl, by simp⟩
  | succ n ih =>
    obtain ⟨as, h1, h2⟩ := ih (fun i hi => h i (by omega))
    obtain ⟨a, ha⟩ := h n (by omega)
    refine ⟨as ++ [a], by simp [h1], fun i b hb => ?_⟩
    by_cases hi : i < n
    · rw [List.getElem?_append_left (by omega)] at hb; exact h2 i b hb
    · rw [List.getElem?_append_right (by omega)] at hb
      have : i = n := by
        have := (List.getElem?_eq_some_iff.1 hb).1
        simp at this; omega
      subst this
      simp [h1] at hb
      exact hb ▸ ha

theorem flat_get {as : List α} (hl : ∀ a ∈ as, (lay a).length = s) {l : Array Value} {off : Nat} : ∀ (k : Nat), (∀ i a, as[i]? = some a → ∀ j v, (lay a)[j]? = some v → l[off + (k + i) * s + j]? = some v) →
    ∀ i u, (as.flatMap lay)[i]? = some u → l[off + k * s + i]? = some u := by
  induction as with
  | nil => intro k _ i u h; simp at h
  | cons a r ih =>
    intro k h i u hu
    rw [List.flatMap_cons] at hu
    have ha := hl a (List.mem_cons_self ..)
    by_cases hi : i < s
    · rw [List.getElem?_append_left (by omega)] at hu
      exact h 0 a rfl i u hu
    · rw [List.getElem?_append_right (by omega), ha] at hu
      have := ih (fun b hb => hl b (List.mem_cons_of_mem _ hb)) (k + 1) (fun i b hb j v hv => by
        have := h (i + 1) b (by simpa using hb) j v hv
        rwa [show k + 1 + i = k + (i + 1) by omega]) (i - s) u hu
      rw [Nat.succ_mul] at this
      rwa [show off + (k * s + s) + (i - s) = off + k * s + i by omega] at this

theorem flat_length {as : List α} (hl : ∀ a ∈ as, (lay a).length = s) : (as.flatMap lay).length = as.length * s := by
  induction as with
  | nil => simp
  | cons a r ih => rw [List.flatMap_cons, List.length_append, ih (fun b hb => hl b (List.mem_cons_of_mem _ hb)), hl a (List.mem_cons_self ..), List.length_cons, Nat.succ_mul, Nat.add_comm]

/-- What is known of a slice among the old. -/
def OldS (w : World) (s sz : Nat) (lay : α → List Value) (good : α → Prop) (x : Value × List α) : Prop :=
  ∃ ad c, x.1 = .slice ad x.2.length c ∧ x.2.length ≤ c ∧ c * sz ≤ 140737488351232 ∧ Rd (old w) s x.1 x.2.length (x.2.flatMap lay) ∧ ∀ a ∈ x.2, good a

theorem dec_slice (ht : P.underlying t = some (.slice e)) (hs : P.cellsOf e = s) (h0 : 0 < s) {sz : Nat} (hz : P.bytesOf e = sz) (hd : Dec enc P w e s lay good) (one : ∀ a, good a → ∀ u ∈ lay a, u.oneCell' = true) :
    Dec enc P w t 1 (fun x : Value × List α => [x.1]) (OldS w s sz lay good) := fun n cs x h _ hw => by
  rcases Deep.open_slice ht h with ⟨rfl, rfl⟩ | ⟨a, len, cap, m, n, D, Pl, rfl, _, hl, hm, hmm, rfl, hx⟩
  · exact ⟨(.slice none 0 0, []), rfl, none, 0, rfl, Nat.le_refl _, by simp, ⟨by simp, by simp, Nat.zero_le _, .inl ⟨rfl, none, 0, rfl⟩⟩, by simp⟩
  · simp only [if_true] at hmm
    subst hmm
    simp only [DataW.weights, ht, List.length_map, List.length_range, List.all_cons, Bool.and_eq_true, decide_eq_true_eq, List.all_append] at hw
    obtain ⟨hw1, hw2, _⟩ := hw
    have hstep : ∀ i, i < len → ∃ b : α, w.cells? 0 (a.add (i * s)) s = some (lay b) ∧ good b := fun i hi => by
      obtain ⟨cs', h1, h2⟩ := hx i (by omega)
      rw [hs] at h1
      have hlen : cs'.length = s := (World.cells?_some h1).2.1
      obtain ⟨b, rfl, hb⟩ := hd _ _ _ h2 hlen (List.all_eq_true.2 fun n hn => List.all_eq_true.1 hw2 n (weightsAll_mem (List.mem_map.2 ⟨i, by simpa using hi, rfl⟩) n hn))
      exact ⟨b, h1, hb⟩
    obtain ⟨as, hal, has⟩ := list_of hstep
    have hgood : ∀ b ∈ as, good b := fun b hb => by
      obtain ⟨i, hi⟩ := List.getElem?_of_mem hb
      exact (has i b hi).2
    have hlay : ∀ b ∈ as, (lay b).length = s := fun b hb => by
      obtain ⟨i, hi⟩ := List.getElem?_of_mem hb
      exact (World.cells?_some (has i b hi).1).2.1
    have hlen := flat_length hlay
    refine ⟨(.slice (some a) len m, as), rfl, some a, m, by rw [hal], by simp only [hal]; exact hl, ?_, ?_, hgood⟩
    · rw [hz, show len + (m - len) = m by omega] at hw1
      exact hw1
    · simp only [hal]
      refine ⟨by rw [hlen, hal], fun u hu => ?_, by omega, ?_⟩
      · obtain ⟨b, hb, hu⟩ := List.mem_flatMap.1 hu
        exact one b (hgood b hb) u hu
      · by_cases hl0 : len = 0
        · exact .inl ⟨hl0, some a, m, by rw [hl0]⟩
        · obtain ⟨b0, hb0, -⟩ := hstep 0 (by omega)
          have hc0 := (World.cells?_some hb0).2.2 0 h0
          have hlb : (lay b0).length = s := (World.cells?_some hb0).2.1
          rw [List.getElem?_eq_getElem (by omega)] at hc0
          obtain ⟨b, off, spot⟩ := a
          simp only [World.cell?, Addr.add, Nat.zero_mul, Nat.add_zero] at hc0
          split at hc0
          · rename_i l T fr hh
            have hh' : w.heap[b]? = some (.cells l T fr) := hh
            cases spot with
            | some q => simp at hc0
            | none =>
              refine .inr ⟨b, off, m, l, T, fr, rfl, mem_old hh', ?_⟩
              have := flat_get (lay := lay) (as := as) (s := s) (l := l) (off := off) hlay 0 (fun i c hc j v hv => by
                obtain ⟨h1, _⟩ := has i c hc
                have hls : (lay c).length = s := (World.cells?_some h1).2.1
                have hj : j < s := by
                  have := (List.getElem?_eq_some_iff.1 hv).1
                  omega
                have h3 := (World.cells?_some h1).2.2 j hj
                rw [Addr.add_lit, Addr.add_lit, cell_at hh', hv] at h3
                rw [Nat.zero_add]
                exact h3)
              simpa using this
          · cases hc0

/-- A struct's fields, one by one. -/
theorem dec_fields {fs : Array Field} (ht : P.underlying t = some (.struct fs)) {n : Nat} {cs : List Value} {x : DataW H × List MemPlace} (h : DataW.trod enc P w 0 (fun _ => true) true n t cs = some x) (hw : (x.1.weights P t).all (· ≤ reachBytes) = true)
    {i : Nat} {f : Field} (hf : fs[i]? = some f) (hd : Dec enc P w f.type s lay good) (hs : ((cs.drop f.offset).take (P.cellsOf f.type)).length = s) : ∃ a, (cs.drop f.offset).take (P.cellsOf f.type) = lay a ∧ good a := by
  obtain ⟨xs, m, rfl, rfl, hl, hxs, hx⟩ := DataW.trod_struct ht h
  have hi : i < fs.size := (Array.getElem?_eq_some_iff.1 hf).1
  have h1 := hx i f hf
  rw [List.getElem?_eq_getElem (by omega)] at h1
  refine hd _ _ _ h1 hs (List.all_eq_true.2 fun k hk => ?_)
  simp only [DataW.weights, ht] at hw
  exact List.all_eq_true.1 hw k (DataW.weights_mem_each (j := i) (by simpa using ⟨f, hf, rfl⟩) (by simp [List.getElem?_eq_getElem (show i < xs.length by omega)]) k hk)
theorem dec_field {fs : Array Field} (i off : Nat) {ft : TypeId} (ht : P.underlying t = some (.struct fs)) {n : Nat} {cs : List Value} {x : DataW H × List MemPlace} (h : DataW.trod enc P w 0 (fun _ => true) true n t cs = some x) (hw : (x.1.weights P t).all (· ≤ reachBytes) = true)
    (hf : (fs[i]?).map (fun f => (f.type, f.offset)) = some (ft, off)) (hc : P.cellsOf ft = s) (hd : Dec enc P w ft s lay good) (hs : off + s ≤ cs.length) : ∃ a, (cs.drop off).take s = lay a ∧ good a := by
  rw [Option.map_eq_some_iff] at hf
  obtain ⟨f, h1, h2⟩ := hf
  cases h2
  have := dec_fields ht h hw h1 hd (by rw [hc, List.length_take, List.length_drop]; omega)
  rwa [hc] at this
theorem dec_len {fs : Array Field} (ht : P.underlying t = some (.struct fs)) {n : Nat} {cs : List Value} {x : DataW H × List MemPlace} (h : DataW.trod enc P w 0 (fun _ => true) true n t cs = some x) : cs.length = P.cellsOf t := by
  obtain ⟨xs, m, rfl, rfl, hl, hxs, hx⟩ := DataW.trod_struct ht h
  exact hl

/-- An argument of one cell. -/
theorem Dec.arg (hd : Dec enc P w t 1 lay good) {v : Value} {d : DataW H} {p : List MemPlace} (h : DataW.Trod enc P w 0 (fun _ => true) true t v d p) (h1 : v.cells.toList = [v]) {ts : List TypeId} {ds : List (DataW H)}
    (hw : (DataW.weightsEach P ts ds).all (· ≤ reachBytes) = true) {j : Nat} (ht : ts[j]? = some t) (hdj : ds[j]? = some d) : ∃ a, [v] = lay a ∧ good a := by
  obtain ⟨n, hn⟩ := h
  rw [h1] at hn
  exact hd n _ _ hn rfl (List.all_eq_true.2 fun k hk => List.all_eq_true.1 hw k (DataW.weights_mem_each ht hdj k hk))

/-- An argument of many cells. -/
theorem Dec.argN (hd : Dec enc P w t s lay good) {cs : Array Value} {d : DataW H} {p : List MemPlace} (h : DataW.Trod enc P w 0 (fun _ => true) true t (.agg cs) d p) (h1 : cs.size = s) {ts : List TypeId} {ds : List (DataW H)}
    (hw : (DataW.weightsEach P ts ds).all (· ≤ reachBytes) = true) {j : Nat} (ht : ts[j]? = some t) (hdj : ds[j]? = some d) : ∃ a, cs = (lay a).toArray ∧ good a := by
  obtain ⟨n, hn⟩ := h
  obtain ⟨a, h2, h3⟩ := hd n _ _ hn (by rw [Array.length_toList]; exact h1) (List.all_eq_true.2 fun k hk => List.all_eq_true.1 hw k (DataW.weights_mem_each ht hdj k hk))
  exact ⟨a, by rw [← h2]; rfl, h3⟩

theorem one_slice {b : Nat} (ht : P.underlying t = some (.slice e)) {v : Value} (h : Value.okWide P w .any b t v) : v.cells.toList = [v] := by
  obtain ⟨a, l, c, rfl⟩ := okWide_slice ht h
  rfl
theorem one_string {b : Nat} (ht : P.underlying t = some .string) {v : Value} (h : Value.okWide P w .any b t v) : v.cells.toList = [v] := by
  obtain ⟨s, rfl⟩ := okWide_string ht h
  rfl
theorem one_int {b : Nat} {k : IntKind} (ht : P.underlying t = some (.int k)) {v : Value} (h : Value.okWide P w .any b t v) : v.cells.toList = [v] := by
  obtain ⟨s, rfl⟩ := okWide_int ht h
  rfl
theorem one_bool {b : Nat} (ht : P.underlying t = some .bool) {v : Value} (h : Value.okWide P w .any b t v) : v.cells.toList = [v] := by
  obtain ⟨s, rfl⟩ := okWide_bool ht h
  rfl
theorem flat_byt (bs : List UInt8) : (bs.flatMap fun b => [Value.int .u8 b.toNat]) = byt bs := by
  induction bs with
  | nil => rfl
  | cons b r ih => rw [List.flatMap_cons, ih]; rfl
end
end Go.Sl
