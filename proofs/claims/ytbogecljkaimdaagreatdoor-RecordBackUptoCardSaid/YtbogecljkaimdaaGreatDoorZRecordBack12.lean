/-
  Texts put together (12).
-/
import Derived.Test.YtbogecljkaimdaaGreatDoorZRecordBack11
namespace Go.Proofs.YtbogecljkaimdaaGreatDoor
open Go.Sl Go.ChangeShapes Go.WideShapes Go.ChangeAt Go.RowKit
section
variable {H : Type} {enc : TypeId × Value → H} {P : Program} {w : World} {t e : TypeId} {s : Nat} {α : Type} {lay : α → List Value} {good : α → Prop} {size : α → Nat}
theorem bulk_one (d : DataW H) : 1 ≤ Rows.uptoBulk d := by
  cases d with
  | lit l => cases l <;> simp [Rows.uptoBulk]
  | nil => simp [Rows.uptoBulk]
  | ptr d => simp [Rows.uptoBulk]
  | slice elems spare => simp [Rows.uptoBulk]
  | agg parts => simp [Rows.uptoBulk]
  | iface t d => simp [Rows.uptoBulk]
  | map entries => simp [Rows.uptoBulk]
  | held h => simp [Rows.uptoBulk]
theorem zJr {d : DataW H} : ∀ {l : List (DataW H)}, d ∈ l → Rows.uptoBulk d ≤ Rows.uptoBulkAll l
  | x :: r, h => by
    simp only [Rows.uptoBulkAll]
    rcases List.mem_cons.1 h with rfl | h
    · omega
    · have := zJr h; omega
  | [], h => by cases h
def DecB (enc : TypeId × Value → H) (P : Program) (w : World) (e : TypeId) (s : Nat) (lay : α → List Value) (good : α → Prop) (size : α → Nat) : Prop :=
  ∀ n cs x, DataW.trod enc P w 0 (fun _ => true) true n e cs = some x → cs.length = s → (x.1.weights P e).all (· ≤ reachBytes) = true → ∃ a, cs = lay a ∧ good a ∧ size a ≤ Rows.uptoBulk x.1
theorem dec_one (hd : Dec enc P w e s lay good) : DecB enc P w e s lay good (fun _ => 1) := fun n cs x h1 h2 h3 => by
  obtain ⟨a, h4, h5⟩ := hd n cs x h1 h2 h3
  exact ⟨a, h4, h5, bulk_one _⟩
theorem sum_bulk : ∀ {al : List α} {ds : List (DataW H)}, al.length = ds.length → (∀ (i : Nat) (a : α) (d : DataW H), al[i]? = some a → ds[i]? = some d → size a ≤ Rows.uptoBulk d) → (al.map size).sum ≤ Rows.uptoBulkAll ds
  | [], [], _, _ => by simp
  | a :: al, d :: ds, hl, h => by
    have h1 := h 0 a d rfl rfl
    have h2 := sum_bulk (al := al) (ds := ds) (by simpa using hl) (fun i a d ha hd => h (i + 1) a d (by simpa using ha) (by simpa using hd))
    simp only [List.map_cons, List.sum_cons, Rows.uptoBulkAll]; omega
  | [], _ :: _, hl, _ => by simp at hl
  | _ :: _, [], hl, _ => by simp at hl
theorem size_mem {al : List α} {a : α} (h : a ∈ al) : size a ≤ (al.map size).sum := by
  induction al with
  | nil => cases h
  | cons b r ih =>
    rw [List.map_cons, List.sum_cons]
    rcases List.mem_cons.1 h with rfl | h
    · omega
    · have := ih h; omega
theorem size_len {al : List α} (h : ∀ a, 1 ≤ size a) : al.length ≤ (al.map size).sum := by
  induction al with
  | nil => simp
  | cons b r ih => have := h b; rw [List.map_cons, List.sum_cons, List.length_cons]; omega
theorem decB_slice (ht : P.underlying t = some (.slice e)) (hs : P.cellsOf e = s) (h0 : 0 < s) {sz : Nat} (hz : P.bytesOf e = sz) (hd : DecB enc P w e s lay good size) (one : ∀ a, good a → ∀ u ∈ lay a, u.oneCell' = true) :
    DecB enc P w t 1 (fun x : Value × List α => [x.1]) (OldS w s sz lay good) (fun x => (x.2.map size).sum + 1) := fun n cs x h _ hw => by
  rcases Deep.open_slice ht h with ⟨rfl, rfl⟩ | ⟨a, len, cap, m, n, D, Pl, rfl, _, hl, hm, hmm, rfl, hx⟩
  · exact ⟨(.slice none 0 0, []), rfl, ⟨none, 0, rfl, Nat.le_refl _, by simp, ⟨by simp, by simp, Nat.zero_le _, .inl ⟨rfl, none, 0, rfl⟩⟩, by simp⟩, by simp [Rows.uptoBulk]⟩
  · simp only [if_true] at hmm
    subst hmm
    simp only [DataW.weights, ht, List.length_map, List.length_range, List.all_cons, Bool.and_eq_true, decide_eq_true_eq, List.all_append] at hw
    obtain ⟨hw1, hw2, _⟩ := hw
    have hstep : ∀ i, i < len → ∃ b : α, w.cells? 0 (a.add (i * s)) s = some (lay b) ∧ good b ∧ size b ≤ Rows.uptoBulk (D i) := fun i hi => by
      obtain ⟨cs', h1, h2⟩ := hx i (by omega)
      rw [hs] at h1
      have hlen : cs'.length = s := (World.cells?_some h1).2.1
      obtain ⟨b, rfl, hb, hsz⟩ := hd _ _ _ h2 hlen (List.all_eq_true.2 fun n hn => List.all_eq_true.1 hw2 n (zGw (List.mem_map.2 ⟨i, by simpa using hi, rfl⟩) n hn))
      exact ⟨b, h1, hb, hsz⟩
    obtain ⟨al, hal, has⟩ := list_of hstep
    have hgood : ∀ b ∈ al, good b := fun b hb => by
      obtain ⟨i, hi⟩ := List.getElem?_of_mem hb
      exact (has i b hi).2.1
    have hlay : ∀ b ∈ al, (lay b).length = s := fun b hb => by
      obtain ⟨i, hi⟩ := List.getElem?_of_mem hb
      exact (World.cells?_some (has i b hi).1).2.1
    have hlen := flat_length hlay
    refine ⟨(.slice (some a) len m, al), rfl, ⟨some a, m, by rw [hal], by simp only [hal]; exact hl, ?_, ?_, hgood⟩, ?_⟩
    · rw [hz, show len + (m - len) = m by omega] at hw1
      exact hw1
    · simp only [hal]
      refine ⟨by rw [hlen, hal], fun u hu => ?_, by omega, ?_⟩
      · obtain ⟨b, hb, hu⟩ := List.mem_flatMap.1 hu
        exact one b (hgood b hb) u hu
      · by_cases hl0 : len = 0
        · exact .inl ⟨hl0, some a, m, by rw [hl0]⟩
        · obtain ⟨b0, hb0, -⟩ := hstep 0 (by omega)
          have hc0 := (World.cells?_some hb0).2.2 0 h0
          have hlb : (lay b0).length = s := (World.cells?_some hb0).2.1
          rw [List.getElem?_eq_getElem (by omega)] at hc0
          obtain ⟨b, off, spot⟩ := a
          simp only [World.cell?, Addr.add, Nat.zero_mul, Nat.add_zero] at hc0
          split at hc0
          · rename_i l T fr hh
            have hh' : w.heap[b]? = some (.cells l T fr) := hh
            cases spot with
            | some q => simp at hc0
            | none =>
              refine .inr ⟨b, off, m, l, T, fr, rfl, mem_old hh', ?_⟩
              have := flat_get (lay := lay) (asx := al) (s := s) (l := l) (off := off) hlay 0 (fun i c hc j v hv => by
                obtain ⟨h1, _⟩ := has i c hc
                have hls : (lay c).length = s := (World.cells?_some h1).2.1
                have hj : j < s := by
                  have := (List.getElem?_eq_some_iff.1 hv).1
                  omega
                have h3 := (World.cells?_some h1).2.2 j hj
                rw [Addr.add_lit, Addr.add_lit, zGx hh', hv] at h3
                rw [Nat.zero_add]
                exact h3)
              simpa using this
          · cases hc0
    · have := sum_bulk (size := size) (al := al) (ds := (List.range len).map D) (by simp [hal]) (fun i b d hb hd => by
        rw [List.getElem?_map] at hd
        have hi := (List.getElem?_eq_some_iff.1 hb).1
        rw [List.getElem?_range (by omega)] at hd
        cases hd
        exact (has i b hb).2.2)
      simp only [Rows.uptoBulk]; omega
theorem DecB.arg (hd : DecB enc P w t 1 lay good size) {v : Value} {d : DataW H} {p : List MemPlace} (h : DataW.Trod enc P w 0 (fun _ => true) true t v d p) (h1 : v.cells.toList = [v]) {ts : List TypeId} {ds : List (DataW H)}
    (hw : (DataW.weightsEach P ts ds).all (· ≤ reachBytes) = true) (hk : Rows.uptoSmall H ds = true) {j : Nat} (ht : ts[j]? = some t) (hdj : ds[j]? = some d) : ∃ a, [v] = lay a ∧ good a ∧ size a ≤ 1048576 := by
  obtain ⟨n, hn⟩ := h
  rw [h1] at hn
  obtain ⟨a, h2, h3, h4⟩ := hd n _ _ hn rfl (List.all_eq_true.2 fun k hk => List.all_eq_true.1 hw k (DataW.weights_mem_each ht hdj k hk))
  have hb : Rows.uptoBulkAll ds ≤ 1048576 := of_decide_eq_true hk
  have := zJr (List.mem_of_getElem? hdj)
  have h5 : size a ≤ Rows.uptoBulk d := h4
  exact ⟨a, h2, h3, by omega⟩
end
end Go.Proofs.YtbogecljkaimdaaGreatDoor
namespace Go.Proofs.YtbogecljkaimdaaGreatDoor
open Go.Sl Go.ChangeShapes Go.WideShapes Go.ChangeAt Go.RowKit
section
variable {H : Type} {enc : TypeId × Value → H} {P : Program} {w : World} {t e : TypeId} {s : Nat} {α : Type} {lay : α → List Value} {good : α → Prop} {size : α → Nat}
theorem DecB.imp {good' : α → Prop} {size' : α → Nat} (h : DecB enc P w e s lay good size) (k : ∀ a, good a → good' a) (k2 : ∀ a, size' a ≤ size a) : DecB enc P w e s lay good' size' := fun n cs x h1 h2 h3 => by
  obtain ⟨a, h4, h5, h6⟩ := h n cs x h1 h2 h3
  exact ⟨a, h4, k a h5, Nat.le_trans (k2 a) h6⟩
theorem zFy (ht : P.underlying t = some .string) : DecB enc P w t 1 (fun b => [str b]) (fun _ => True) (fun b => b.length) := fun n cs x h _ _ => by
  obtain ⟨z, h1, h2, _⟩ := DataW.trod_string ht h
  refine ⟨z.data.toList, by rw [h1], trivial, ?_⟩
  rw [h2]
  simp [Rows.uptoBulk]
theorem zEq {fs : Array Field} (i off : Nat) {ft : TypeId} (ht : P.underlying t = some (.struct fs)) {n : Nat} {cs : List Value} {x : DataW H × List MemPlace} (h : DataW.trod enc P w 0 (fun _ => true) true n t cs = some x) (hw : (x.1.weights P t).all (· ≤ reachBytes) = true)
    (hf : (fs[i]?).map (fun f => (f.type, f.offset)) = some (ft, off)) (hc : P.cellsOf ft = s) (hd : DecB enc P w ft s lay good size) (hs : off + s ≤ cs.length) : ∃ a, (cs.drop off).take s = lay a ∧ good a ∧ size a + 1 ≤ Rows.uptoBulk x.1 := by
  rw [Option.map_eq_some_iff] at hf
  obtain ⟨f, h1, h2⟩ := hf
  cases h2
  obtain ⟨xs, m, rfl, rfl, hl, hxs, hx⟩ := DataW.trod_struct ht h
  have hi : i < fs.size := (Array.getElem?_eq_some_iff.1 h1).1
  have h3 := hx i f h1
  rw [List.getElem?_eq_getElem (by omega)] at h3
  have hsl : ((cs.drop f.offset).take (P.cellsOf f.type)).length = s := by rw [hc, List.length_take, List.length_drop]; omega
  obtain ⟨a, h4, h5, h6⟩ := hd _ _ _ h3 hsl (List.all_eq_true.2 fun k hk => by
    simp only [DataW.weights, ht] at hw
    exact List.all_eq_true.1 hw k (DataW.weights_mem_each (j := i) (by simpa using ⟨f, h1, rfl⟩) (by simp [List.getElem?_eq_getElem (show i < xs.length by omega)]) k hk))
  rw [hc] at h4
  refine ⟨a, h4, h5, ?_⟩
  have hp := zJr (H := H) (d := (xs[i]'(by omega)).1) (l := xs.map (·.1)) (List.mem_map.2 ⟨_, List.getElem_mem _, rfl⟩)
  simp only [Rows.uptoBulk]
  omega
theorem witness_row_zip {C : Checked} {os : Os} {f : FuncId} {fn : Func} {s : OpenSpec} {conds : List PathCond} {apart : Bool} {laid : List (String × DataW Unit)} (modest : Bool) (w0 : World) (args : Array Value) (hos : w0.os = os)
    (hsh : (w0.forCall (fun _ _ => 0) ⟨#[], args, []⟩).Shaped C.prog)
    (hok : Input.okWideB C.prog (w0.forCall (fun _ _ => 0) ⟨#[], args, []⟩) f ⟨#[], args, []⟩ = true)
    (hrow : s.preRow enc C.prog fn conds apart laid (w0.forCall (fun _ _ => 0) ⟨#[], args, []⟩).memory args) :
    ∃ (w : World) (tape : Tape) (i : Input), w.os = os ∧ (w.forCall tape i).Shaped C.prog ∧ i.vars = [] ∧ Input.okWide C.prog (w.forCall tape i) .any w.heap.size f i ∧
      s.preRow enc C.prog fn conds apart laid (w.forCall tape i).memory i.args ∧ ({ modest := modest } : Assume).holds C.prog (lone (Frame.enter C.prog f i.args .normal) [] (w.forCall tape i)) :=
  ⟨w0, fun _ _ => 0, ⟨#[], args, []⟩, hos, hsh, (Input.okWide_of_okWideB (base := 0) hok).1, (Input.okWide_of_okWideB hok).2, hrow, by
    simp only [Assume.holds]
    exact ⟨by simp, by simp, fun _ => Modest.zero, by simp, by simp⟩⟩
end
theorem ones_sum {α : Type} (l : List α) : (l.map fun _ => 1).sum = l.length := by
  induction l with
  | nil => rfl
  | cons a l ih => rw [List.map_cons, List.sum_cons, ih, List.length_cons, Nat.add_comm]
def recSz (r : Rec) : Nat := max r.name.length (max r.snap.length (max (r.props.map fun p => max p.name.length p.value.length + 1).sum (max r.keep.length r.data.length)))
theorem recSz_sml {r : Rec} (h : recSz r ≤ 1048576) : Sml r := by
  unfold recSz at h
  have h1 : (r.props.map fun p => max p.name.length p.value.length + 1).sum ≤ 1048576 := by omega
  have h2 := size_len (al := r.props) (size := fun p => max p.name.length p.value.length + 1) (fun _ => by omega)
  refine ⟨by omega, by omega, by omega, fun p hp => ?_, by omega, by omega⟩
  have h3 := size_mem (size := fun p : Prp => max p.name.length p.value.length + 1) hp
  omega
section
variable {H : Type} {enc : TypeId × Value → H} {w : World}
theorem decB_prop : DecB enc Tryz.prog w 70 2 Prp.lay (fun _ => True) (fun p => max p.name.length p.value.length + 1) := fun n cs x h hlen hw => by
  match cs, hlen with
  | [c0, c1], _ =>
  have ks : Tryz.prog.cellsOf 9 = 1 := by kernel_rfl
  have ht := Tryz.underlying70
  obtain ⟨a0, e0, -, s0⟩ := zEq 0 0 ht h hw rfl ks (zFy (enc := enc) Tryz.underlying9) (by simp)
  obtain ⟨a1, e1, -, s1⟩ := zEq 1 1 ht h hw rfl ks (zFy (enc := enc) Tryz.underlying9) (by simp)
  simp only [List.drop_succ_cons, List.drop_zero, List.take_succ_cons, List.take_zero, List.cons.injEq, and_true] at e0 e1
  subst e0 e1
  refine ⟨⟨a0, a1⟩, rfl, trivial, ?_⟩
  show max a0.length a1.length + 1 ≤ _
  omega
theorem decB_rec : DecB enc Tryz.prog w 26 13 RV.lay (fun x => RecR (old w) x.r x.pv x.kv x.dv) (fun x => recSz x.r + 1) := fun n cs x h hlen hw => by
  match cs, hlen with
  | [c0, c1, c2, c3, c4, c5, c6, c7, c8, c9, c10, c11, c12], _ =>
  have ki : Tryz.prog.cellsOf 3 = 1 := by kernel_rfl
  have ks : Tryz.prog.cellsOf 9 = 1 := by kernel_rfl
  have kp : Tryz.prog.cellsOf 22 = 1 := by kernel_rfl
  have kk : Tryz.prog.cellsOf 23 = 1 := by kernel_rfl
  have kb : Tryz.prog.cellsOf 24 = 1 := by kernel_rfl
  have ht := Tryz.underlying26
  obtain ⟨a0, e0, h0⟩ := zEu 0 0 ht h hw rfl ki (zFx (enc := enc) Tryz.underlying3) (by simp)
  obtain ⟨a1, e1, -, s1⟩ := zEq 1 1 ht h hw rfl ks (zFy (enc := enc) Tryz.underlying9) (by simp)
  obtain ⟨a2, e2, h2⟩ := zEu 2 2 ht h hw rfl ki (zFx (enc := enc) Tryz.underlying3) (by simp)
  obtain ⟨a3, e3, h3⟩ := zEu 3 3 ht h hw rfl ki (zFx (enc := enc) Tryz.underlying3) (by simp)
  obtain ⟨a4, e4, h4⟩ := zEu 4 4 ht h hw rfl ki (zFx (enc := enc) Tryz.underlying3) (by simp)
  obtain ⟨a5, e5, h5⟩ := zEu 5 5 ht h hw rfl ki (zFx (enc := enc) Tryz.underlying3) (by simp)
  obtain ⟨a6, e6, -, s6⟩ := zEq 6 6 ht h hw rfl ks (zFy (enc := enc) Tryz.underlying9) (by simp)
  obtain ⟨⟨v7, l7⟩, e7, g7, s7⟩ := zEq 7 7 ht h hw rfl kp (decB_slice (enc := enc) (s := 2) (sz := 32) Tryz.underlying22 (by kernel_rfl) (by decide) (by kernel_rfl) decB_prop (fun p _ u hu => by simp only [Prp.lay, List.mem_cons, List.not_mem_nil, or_false] at hu; rcases hu with rfl | rfl <;> rfl)) (by simp)
  obtain ⟨a8, e8, h8⟩ := zEu 8 8 ht h hw rfl ki (zFx (enc := enc) Tryz.underlying3) (by simp)
  obtain ⟨a9, e9, h9⟩ := zEu 9 9 ht h hw rfl ki (zFx (enc := enc) Tryz.underlying3) (by simp)
  obtain ⟨a10, e10, h10⟩ := zEu 10 10 ht h hw rfl ki (zFx (enc := enc) Tryz.underlying3) (by simp)
  obtain ⟨⟨v11, l11⟩, e11, g11, s11⟩ := zEq 11 11 ht h hw rfl kk (decB_slice (enc := enc) (s := 1) (sz := 8) Tryz.underlying23 (by kernel_rfl) (by decide) (by kernel_rfl) (dec_one (zFx Tryz.underlying3)) (fun _ _ u hu => by rw [List.mem_singleton.1 hu]; rfl)) (by simp)
  obtain ⟨⟨v12, l12⟩, e12, g12, s12⟩ := zEq 12 12 ht h hw rfl kb (decB_slice (enc := enc) (s := 1) (sz := 1) Tryz.underlying24 (by kernel_rfl) (by decide) (by kernel_rfl) (dec_one (dec_u8 Tryz.underlying5)) (fun _ _ u hu => by rw [List.mem_singleton.1 hu]; rfl)) (by simp)
  simp only [List.drop_succ_cons, List.drop_zero, List.take_succ_cons, List.take_zero, List.cons.injEq, and_true] at e0 e1 e2 e3 e4 e5 e6 e7 e8 e9 e10 e11 e12
  subst e0 e1 e2 e3 e4 e5 e6 e7 e8 e9 e10 e11 e12
  obtain ⟨_, _, -, -, -, r7, -⟩ := g7
  obtain ⟨_, _, -, -, -, r11, -⟩ := g11
  obtain ⟨_, _, -, -, -, r12, -⟩ := g12
  simp only at r7 r11 r12 s7 s11 s12
  have f11 : ∀ l : List Int, (l.flatMap fun z => [Value.int .i64 z]) = ints l := fun l => by
    induction l with
    | nil => rfl
    | cons a l ih => rw [List.flatMap_cons, ih]; rfl
  rw [f11] at r11
  rw [flat_byt] at r12
  have o11 : (l11.map fun _ => 1).sum = l11.length := ones_sum _
  have o12 : (l12.map fun _ => 1).sum = l12.length := ones_sum _
  refine ⟨⟨⟨a0, a1, a2, a3, a4, a5, a6, l7, a8, a9, a10, l11, l12⟩, c7, c11, c12⟩, rfl, ⟨r7, r11, r12⟩, ?_⟩
  simp only [recSz]
  omega
theorem rv_one {W : World} (x : RV) (h : RecR (old W) x.r x.pv x.kv x.dv) : ∀ u ∈ x.lay, u.oneCell' = true := fun u hu => rvs_one (X := old W) (l := [x]) (fun y hy => by rw [List.mem_singleton.1 hy]; exact h) u (by simpa using hu)
end
theorem laid4s {W : World} (h : laidMetH Tryz.prog [("unicode/utf8.acceptRanges", Rows.laid_unicode_utf8_acceptRanges), ("undercroft/sum.rounds", Rows.laid_undercroft_sum_rounds), ("unicode/utf8.first", Rows.laid_unicode_utf8_first)] W) : Tab [old W] 2 shaK := by
  rw [MakeChecks.laidMetH_plain _ _ _ (by kernel_rfl)] at h
  obtain ⟨ps, ⟨gx, tx, csx, fx, px, qx, hgx, htx, hvx, hdx, ⟨g2, t2, cs2, f2, p2, q2, hg2, ht2, hv2, hd2, _, _⟩, _⟩, _, _⟩ := h
  have a2 : Tryz.prog.globalNamed "undercroft/sum.rounds" = some 2 := by kernel_rfl
  obtain rfl := Option.some.inj (a2.symm.trans hg2)
  obtain rfl := Option.some.inj ((show (Tryz.prog.globals[(2 : Nat)]?).map (·.type) = some 127 by kernel_rfl).symm.trans ht2)
  exact tab_of_var shaK a2 Tryz.underlying127 Tryz.underlying121 (by kernel_rfl) (by kernel_rfl) (by kernel_rfl) hv2 hd2
theorem recs_old {W : World} {X : Value × List RV} (g : OldS W 13 168 RV.lay (fun x => RecR (old W) x.r x.pv x.kv x.dv) X) (s : (X.2.map fun x => recSz x.r + 1).sum + 1 ≤ 1048576) :
    Rd (old W) 13 X.1 X.2.length (X.2.flatMap RV.lay) ∧ RVs (old W) X.2 ∧ (∀ x ∈ X.2, Sml x.r) ∧ X.2.length ≤ 1048576 := by
  obtain ⟨v, l⟩ := X
  obtain ⟨ad, c, h1, h2, h3, h4, h5⟩ := g
  simp only at s
  have h6 := size_len (al := l) (size := fun x : RV => recSz x.r + 1) (fun _ => by omega)
  refine ⟨h4, h5, fun x hx => recSz_sml ?_, by simp only; omega⟩
  have hx : x ∈ l := hx
  have := size_mem (size := fun x : RV => recSz x.r + 1) hx
  omega
theorem bytes_old {W : World} {X : Value × List UInt8} (g : OldS W 1 1 (fun b : UInt8 => [.int .u8 b.toNat]) (fun _ => True) X) (s : (X.2.map fun _ => 1).sum + 1 ≤ 1048576) :
    ∃ ad c, X.1 = .slice ad X.2.length c ∧ Rd (old W) 1 (.slice ad X.2.length c) X.2.length (byt X.2) ∧ X.2.length ≤ c ∧ X.2.length ≤ 1048576 := by
  obtain ⟨v, l⟩ := X
  obtain ⟨ad, c, h1, h2, h3, h4, h5⟩ := g
  simp only at h1 h2 h4 s
  subst h1
  rw [ones_sum] at s
  rw [flat_byt] at h4
  exact ⟨ad, c, rfl, h4, h2, by show l.length ≤ _; omega⟩
theorem back_upto (W : World) (hL : laidMetH Tryz.prog Rows.recordBackUptoRow.laid W) (X : Value × List RV) (g : OldS W 13 168 RV.lay (fun x => RecR (old W) x.r x.pv x.kv x.dv) X) (s : (X.2.map fun x => recSz x.r + 1).sum + 1 ≤ 1048576)
    (Y : Value × List UInt8) (gy : OldS W 1 1 (fun b : UInt8 => [.int .u8 b.toNat]) (fun _ => True) Y) (sy : (Y.2.map fun _ => 1).sum + 1 ≤ 1048576) :
    Ret Tryz.prog 8 #[X.1, Y.1] W fun u w' => u = .bool true ∧ Trs W w' [old W] [old W] := by
  obtain ⟨h1, h2, h3, h4⟩ := recs_old g s
  obtain ⟨ad, c, k1, k2, k3, k4⟩ := bytes_old gy sy
  rw [k1]
  exact back_walk (old W) (laid4s hL) X.1 X.2 h1 h2 h3 h4 ad c Y.2 k2 k3 W (hp_old W)
end Go.Proofs.YtbogecljkaimdaaGreatDoor
namespace Go.Sl
open Go.ChangeShapes Go.WideShapes Go.ChangeAt Go.RowKit
section
variable {H : Type} {enc : TypeId × Value → H} {P : Program}
theorem zKq (hl : laidOutB P = true) {W W' : World} (hb : Below W.heap.size W W') {sp : Nat → Bool} : ∀ (ts : List TypeId) (vs : List Value) (ds : List (DataW H)) (ps : List MemPlace),
    (∀ t ∈ ts, P.readableRec t = true ∧ t < P.types.size) → DataW.TrodAll enc P W 0 (fun _ => true) true ts vs ds ps → (∀ x ∈ ps, x.block < W.heap.size) → (∀ x ∈ ps, sp x.block = true) → DataW.TrodAll enc P W' 0 sp true ts vs ds ps
  | [], vs, ds, ps, _, h, _, _ => by
    obtain ⟨rfl, rfl, rfl⟩ := trodAll_nil h
    exact trodAll_mk0
  | t :: ts, vs, ds, ps, ht, h, hlt, hsp => by
    obtain ⟨v0, vs0, d0, ds0, p0, q0, rfl, rfl, rfl, h0, r0⟩ := trodAll_cons h
    refine trodAll_cons_mk ?_ (zKq hl hb ts vs0 ds0 q0 (fun u hu => ht u (List.mem_cons_of_mem _ hu)) r0 (fun x hx => hlt x (List.mem_append_right _ hx)) (fun x hx => hsp x (List.mem_append_right _ hx)))
    exact WideElems.Trod_stays hl (ht t (List.mem_cons_self ..)).1 (ht t (List.mem_cons_self ..)).2 h0 (fun x hx => hb.same (hlt x (List.mem_append_left _ hx))) (fun x hx => hsp x (List.mem_append_left _ hx))
theorem post_below {f : Func} {s : ChangeSpec} {apart fresh handsOn again : Bool} {W W' : World} {args : Array Value} {ds gs : List (DataW H)} {before : List MemPlace} {tb : TypeId}
    (hl : laidOutB P = true) (hW : DataW.Whole enc P f.params.toList s.vars apart W args.toList ds gs before) (hvars : s.vars = [])
    (hts : ∀ t ∈ f.params.toList, P.readableRec t = true ∧ t < P.types.size) (hrt : f.resultTypes = #[tb]) (htb : P.underlying tb = some .bool)
    (hs : (s.fn H (ds ++ gs)) = { results := [.lit (.bool true)], args := ds }) (hb : Below W.heap.size W W') :
    s.post enc P f apart fresh handsOn again W args (.bool true) W' := by
  have hlt : ∀ p ∈ before, p.block < W.heap.size := fun p hp => hW.lt p hp
  obtain ⟨p, q, hA, hV, rfl, hz, hn⟩ := id hW
  rw [hvars] at hV
  obtain ⟨rfl, rfl⟩ := trodVars_none hV
  simp only [List.append_nil] at *
  have hargs : ∀ sp : Nat → Bool, (∀ x ∈ p, sp x.block = true) → DataW.TrodAll enc P W' 0 sp true f.params.toList args.toList (s.fn H ds).args p := fun sp hsp => by
    rw [hs]; exact zKq hl hb _ _ _ _ hts hA hlt hsp
  have hres : ∀ (b : Nat) (sp : Nat → Bool) (hd : Bool), DataW.TrodAll enc P W' b sp hd f.resultTypes.toList ((Value.bool true).resultList f.resultTypes.size) (s.fn H ds).results [] := fun b sp hd => by
    rw [hs, hrt]; exact trodAll_mk1 (shut_bool htb true)
  have hvs : ∀ sp : Nat → Bool, DataW.TrodVars enc P W' sp s.vars (s.fn H ds).vars [] := fun sp => by
    rw [hvars, hs]; exact rfl
  refine ⟨ds, [], p, [], p, [], hW, by simpa using hres _ _ _, by simpa using hargs _ (fun x hx => by simpa using hlt x hx), by simpa using hvs _, World.keptBut_mono (fun x hx => ⟨hx, ?_⟩) (hb.frame (· ∈ p)), fun _ => ?_⟩
  · exact Or.inr (Or.inl hx)
  · have hok : ∀ (j : Nat) (t : TypeId) (r : Value), f.resultTypes[j]? = some t → ((Value.bool true).resultList f.resultTypes.size)[j]? = some r → Value.okWide P W' .any 0 t r :=
      ok_one hrt rfl (okWide_bool_mk htb true)
    have h1 := trodAll_append (hargs (fun _ => true) (fun _ _ => rfl)) (hres 0 (fun _ => true) true)
    refine ⟨hok, _, [], [] ++ p, ⟨[] ++ p, [], h1, by have := hvs (fun _ => true); rw [hs] at this; exact this, by simp, ?_, ?_⟩, fun x hx _ => by simpa using hx⟩
    · intro b off hx
      have hin : MemPlace.cell b off ∈ p := by simpa using hx
      rw [hb.frozen (hlt _ hin)]
      exact hz b off hin
    · intro ha
      simpa using hn ha
end
end Go.Sl
