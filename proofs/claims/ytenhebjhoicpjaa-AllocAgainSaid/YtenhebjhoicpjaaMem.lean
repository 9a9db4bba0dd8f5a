/-
  The operations that turn memory, over the owned blocks: stores, new blocks, slices that are made, appended to, copied into.
-/
import Derived.Test.YtenhebjhoicpjaaOps
import Derived.Deep.AppendSrc
import Derived.Laws.OwnMore
import Derived.Lib.ConvBytes
namespace Go.Sl

/-- A block of cells that may be written. -/
abbrev cel (l : List Value) (T : TypeId) : Obj := .cells l.toArray T (0, 0)

/-- A slice value of n elements of s cells each reads as 'xs' off the chunk. -/
def Rd (C : Chunk) (s : Nat) (v : Value) (n : Nat) (xs : List Value) : Prop :=
  xs.length = n * s ∧ (∀ u ∈ xs, u.oneCell' = true) ∧ n ≤ maxLen ∧
    ((n = 0 ∧ ∃ ad c, v = .slice ad 0 c) ∨
     ∃ b off c l T fr, v = .slice (some ⟨b, off, none⟩) n c ∧ (b, .cells l T fr) ∈ C ∧ ∀ i u, xs[i]? = some u → l[off + i]? = some u)

/-- A slice value that owns its chunk: nil and no chunk, or the head of a block. -/
def Buf (C : Chunk) (T : TypeId) (s : Nat) (v : Value) (n : Nat) (xs : List Value) : Prop :=
  xs.length = n * s ∧ (∀ u ∈ xs, u.oneCell' = true) ∧
    ((v = .slice none 0 0 ∧ n = 0 ∧ C = []) ∨
     ∃ g c r, v = .slice (some ⟨g, 0, none⟩) n c ∧ C = [(g, cel (xs ++ r) T)] ∧ n ≤ c ∧ c ≤ maxLen ∧ xs.length + r.length = c * s)

section
variable {C D : Chunk} {s n m : Nat} {v y : Value} {xs ys : List Value} {T : TypeId}

theorem Buf.nil (T : TypeId) (s : Nat) : Buf [] T s (.slice none 0 0) 0 [] := ⟨by simp, by simp, .inl ⟨rfl, rfl, rfl⟩⟩

theorem Buf.slice (h : Buf C T s v n xs) : ∃ ad c, v = .slice ad n c := by
  rcases h.2.2 with ⟨rfl, rfl, _⟩ | ⟨g, c, r, rfl, _⟩
  · exact ⟨none, 0, rfl⟩
  · exact ⟨_, c, rfl⟩
theorem Rd.slice (h : Rd C s v n xs) : ∃ ad c, v = .slice ad n c := by
  rcases h.2.2.2 with ⟨rfl, ad, c, rfl⟩ | ⟨b, off, c, l, T, fr, rfl, _⟩
  · exact ⟨ad, c, rfl⟩
  · exact ⟨_, c, rfl⟩

theorem Buf.rd (h : Buf C T s v n xs) : Rd C s v n xs := by
  refine ⟨h.1, h.2.1, ?_, ?_⟩
  · rcases h.2.2 with ⟨_, rfl, _⟩ | ⟨g, c, r, _, _, hn, hc, _⟩
    · simp [maxLen]
    · omega
  · rcases h.2.2 with ⟨rfl, rfl, _⟩ | ⟨g, c, r, rfl, rfl, hn, hc, _⟩
    · exact .inl ⟨rfl, none, 0, rfl⟩
    · refine .inr ⟨g, 0, c, _, T, (0, 0), rfl, List.mem_singleton.2 rfl, fun i u hu => ?_⟩
      have hi : i < xs.length := (List.getElem?_eq_some_iff.1 hu).1
      simp [hi, List.getElem?_append]
      exact (List.getElem?_eq_some_iff.1 hu).2

theorem Rd.sub (h : Rd C s v n xs) (hs : ∀ x ∈ C, x ∈ D) : Rd D s v n xs := by
  refine ⟨h.1, h.2.1, h.2.2.1, ?_⟩
  rcases h.2.2.2 with h0 | ⟨b, off, c, l, T, fr, rfl, hm, hc⟩
  · exact .inl h0
  · exact .inr ⟨b, off, c, l, T, fr, rfl, hs _ hm, hc⟩

theorem Rd.nil (C : Chunk) (s : Nat) : Rd C s (.slice none 0 0) 0 [] := ⟨by simp, by simp, by simp [maxLen], .inl ⟨rfl, none, 0, rfl⟩⟩

theorem Rd.cells {w : World} (h : Rd C s v n xs) (hC : ∀ x ∈ C, w.heap[x.1]? = some x.2) {b off c : Nat} (hv : v = .slice (some ⟨b, off, none⟩) n c) : ∀ i u, xs[i]? = some u → w.cell? ⟨b, off + i, none⟩ = some u := by
  intro i u hu
  rcases h.2.2.2 with ⟨rfl, ad, c', _⟩ | ⟨b', off', c', l, T, fr, rfl, hm, hc⟩
  · have := h.1
    simp at this
    subst this
    simp at hu
  · cases hv
    rw [cell_at (hC _ hm)]
    exact hc i u hu

theorem Rd.src {P : Program} {w : World} {tx e' : TypeId} (h : Rd C s v n xs) (hC : ∀ x ∈ C, w.heap[x.1]? = some x.2) (hk : P.underlying tx = some (.slice e')) : Src P s tx v n xs w := by
  rcases h.2.2.2 with ⟨rfl, ad, c, rfl⟩ | ⟨b, off, c, l, T, fr, rfl, hm, hc⟩
  · have h0 : xs = [] := List.eq_nil_of_length_eq_zero (by simpa using h.1)
    subst h0
    cases ad with
    | none => exact Src.ofNil w hk c
    | some ad => exact Src.ofSlice w hk ad 0 c [] (by simp) (by simp) (by simp)
  · exact Src.ofSlice w hk ⟨b, off, none⟩ n c xs h.1 (fun j u hu => by rw [Addr.add_lit]; exact h.cells hC rfl j u hu) h.2.1
end

/-! ### Stores -/
section
variable {P : Program} {a : Act} {w w0 : World} {o : Oper} {n : Nat} {e : List (Nat × Value)} {x y z : Operand} {v u : Value} {As Ls Rs : List Chunk} {K : Act → World → Prop} {Q : Exit → Act → World → Prop}

theorem Skips.wp {w' : World} (h : Skips P o a w w') (k : K (a.put o.dst undef) w') : o.wp P a w K Q := by
  unfold Oper.wp; rw [h]; exact k

theorem run_storeVar {b j : Nat} {l vs : List Value} {t T : TypeId} {v : Value} (hs : (P.info? t).map (·.size) = some vs.length) (hv : v.cells = vs.toArray) (h1 : ∀ u ∈ vs, u.oneCell' = true)
    (hb : w.heap[b]? = some (cel l T)) (hj : j + vs.length ≤ l.length) :
    (storeVar t ⟨b, j, none⟩ v).run P w = .ok () (w.setRow b (l.take j ++ vs ++ l.drop (j + vs.length)).toArray) := by
  have hst := run_storeCells_at P b j T vs 0 l.toArray w hb (by simpa using hj) h1
  simp only [Nat.add_zero] at hst
  simp [storeVar, hv, run_sizeOf hs, hst]

theorem St.row {b : Nat} {l l' : List Value} {T : TypeId} (S : St w0 As w Ls) (hp : Ls.Perm ([(b, cel l T)] :: Rs)) : St w0 As (w.setRow b l'.toArray) ([(b, cel l' T)] :: Rs) :=
  S.block hp rfl rfl rfl (by simp) (fun h => setRow_heap w b _ _ T (0, 0) h) (fun k hk => setRow_other w b k _ hk)

theorem St.get {b : Nat} {ob : Obj} (S : St w0 As w Ls) (hp : Ls.Perm ([(b, ob)] :: Rs)) : w.heap[b]? = some ob :=
  S.stab.one (hp.mem_iff.2 (List.mem_cons_self ..))

/-- A store of one cell. -/
theorem wp_store1 (E : Fr a n e) (S : St w0 As w Ls) {t T : TypeId} {b j : Nat} {l : List Value} (ho : o.op = .store t x y) (hd : o.dst = none) (hx : ev e x = some (.pointer (some ⟨b, j, none⟩))) (hy : ev e y = some v)
    (h1 : v.oneCell' = true) (hs : (P.info? t).map (·.size) = some 1) (hp : Ls.Perm ([(b, cel l T)] :: Rs)) (hj : j < l.length)
    (k : ∀ a' w', Fr a' n e → St w0 As w' ([(b, cel (l.set j v) T)] :: Rs) → K a' w') : o.wp P a w K Q := by
  have hc : v.cells = [v].toArray := by cases v <;> first | rfl | (simp [Value.oneCell'] at h1)
  have hr := run_storeVar (P := P) (w := w) (j := j) (vs := [v]) (v := v) hs hc (by simpa using h1) (S.get hp) (by simp; omega)
  have e1 : l.take j ++ [v] ++ l.drop (j + 1) = l.set j v := by rw [List.set_eq_take_append_cons_drop, if_pos hj]; simp
  refine Skips.wp (w' := w.setRow b (l.set j v).toArray) ?_ (by rw [hd]; exact k _ _ (E.put0 _) (S.row hp))
  unfold Skips
  simp only [List.length_singleton, e1] at hr
  simp [execOp, ho, E.eval hx, E.eval hy, Instr.storeAt, Instr.sureAddr, hr]

/-- A store of a struct or an array. -/
theorem wp_storeN (E : Fr a n e) (S : St w0 As w Ls) {t T : TypeId} {b j : Nat} {l vs : List Value} (ho : o.op = .store t x y) (hd : o.dst = none) (hx : ev e x = some (.pointer (some ⟨b, j, none⟩))) (hy : ev e y = some (.agg vs.toArray))
    (h1 : ∀ u ∈ vs, u.oneCell' = true) (hs : (P.info? t).map (·.size) = some vs.length) (hp : Ls.Perm ([(b, cel l T)] :: Rs)) (hj : j + vs.length ≤ l.length)
    (k : ∀ a' w', Fr a' n e → St w0 As w' ([(b, cel (l.take j ++ vs ++ l.drop (j + vs.length)) T)] :: Rs) → K a' w') : o.wp P a w K Q := by
  have hr := run_storeVar (P := P) (w := w) (j := j) (vs := vs) (v := .agg vs.toArray) hs rfl h1 (S.get hp) hj
  refine Skips.wp (w' := w.setRow b (l.take j ++ vs ++ l.drop (j + vs.length)).toArray) ?_ (by rw [hd]; exact k _ _ (E.put0 _) (S.row hp))
  unfold Skips
  simp [execOp, ho, E.eval hx, E.eval hy, Instr.storeAt, Instr.sureAddr, hr]

/-- A value in a new block. -/
theorem wp_box (E : Fr a n e) (S : St w0 As w Ls) {t : TypeId} {d : Nat} {vs : List Value} (ho : o.op = .box t x) (hd : o.dst = some d) (hn : d < n) (hx : ev e x = some v) (hv : v.cells = vs.toArray)
    (k : ∀ a' w' b, Fr a' n ((d, .pointer (some ⟨b, 0, none⟩)) :: e) → St w0 As w' ([(b, cel vs t)] :: Ls) → K a' w') : o.wp P a w K Q :=
  (rn_box E ho hx).wp (by rw [hd]; exact k _ _ w.heap.size (E.put hn _) (by rw [hv]; exact S.alloc _))
theorem wp_alloc (E : Fr a n e) (S : St w0 As w Ls) {t : TypeId} {d : Nat} {i : TypeInfo} {zv : Value} {vs : List Value} (ho : o.op = .alloc t) (hd : o.dst = some d) (hn : d < n) (hi : P.info? t = some i) (hz : i.zero = some zv) (hv : zv.cells = vs.toArray)
    (k : ∀ a' w' b, Fr a' n ((d, .pointer (some ⟨b, 0, none⟩)) :: e) → St w0 As w' ([(b, cel vs t)] :: Ls) → K a' w') : o.wp P a w K Q :=
  (rn_alloc E ho hi hz).wp (by rw [hd]; exact k _ _ w.heap.size (E.put hn _) (by rw [hv]; exact S.alloc _))

/-! ### Slices: made, appended to, copied into -/

theorem zeros_one (z : Value) (k : Nat) : madeCells #[z] (k * 1) = (List.replicate k z).toArray := by
  apply Array.ext
  · simp [madeCells]
  · intro i h1 h2
    simp [madeCells, Nat.mod_one]

/-- What stands in a made row. -/
def zeros (z : Array Value) (k : Nat) : List Value := (madeCells z k).toList

theorem wp_makeSlice (E : Fr a n e) (S : St w0 As w Ls) {t el : TypeId} {d k : Nat} {i : TypeInfo} {zv : Value} {kl kc : IntKind} {q r : Int} (ho : o.op = .makeSlice t x y) (hd : o.dst = some d) (hn : d < n)
    (hx : ev e x = some (.int kl q)) (hy : ev e y = some (.int kc r)) (hq : q = (k : Int)) (hr : r = (k : Int))
    (ht : P.underlying t = some (.slice el)) (hi : P.info? el = some i) (hz : i.zero = some zv) (h1 : ∀ u ∈ zeros zv.cells (k * i.size), u.oneCell' = true) (hb : i.bytes * k ≤ 281474976710656) (h63 : k ≤ maxLen)
    (kk : ∀ a' w' v' C, Fr a' n ((d, v') :: e) → St w0 As w' (C :: Ls) → Buf C el i.size v' k (zeros zv.cells (k * i.size)) → (∃ g, v' = .slice (some ⟨g, 0, none⟩) k k) → K a' w') : o.wp P a w K Q := by
  subst hq hr
  have h63' : (k : Int) ≤ 9223372036854775807 := by simp only [maxLen] at h63; omega
  have hb' : (i.bytes : Int) * (k : Int) ≤ 281474976710656 := by
    have h : ((i.bytes * k : Nat) : Int) ≤ 281474976710656 := by omega
    rwa [Int.natCast_mul] at h
  have hr := run_make (P := P) w t el i zv ht hi hz kl kc k k (by omega) (Int.le_refl _) hb' h63'
  simp only [Int.toNat_natCast] at hr
  have hrun : RunsTo P o a w (.slice (some ⟨w.heap.size, 0, none⟩) k k) (w.alloc (.cells (madeCells zv.cells (k * i.size)) el)) := by
    simp [RunsTo, execOp, ho, E.eval hx, E.eval hy, hr]
  refine hrun.wp ?_
  rw [hd]
  refine kk _ _ _ [(w.heap.size, .cells (madeCells zv.cells (k * i.size)) el)] (E.put hn _) (S.alloc _) ?_ ⟨_, rfl⟩
  have hlen : (zeros zv.cells (k * i.size)).length = k * i.size := by simp [zeros, madeCells]
  exact ⟨hlen, h1, .inr ⟨w.heap.size, k, [], rfl, by simp [zeros], Nat.le_refl _, h63, by simp [hlen]⟩⟩

theorem Trs.row {b : Nat} {l l' : List Value} {T : TypeId} : Trs w (w.setRow b l'.toArray) [[(b, cel l T)]] [[(b, cel l' T)]] := by
  unfold Trs
  simp only [List.flatten_cons, List.flatten_nil, List.append_nil]
  exact tr_block (w := w) (w' := w.setRow b l'.toArray) rfl rfl rfl (by simp) (fun h => setRow_heap w b _ _ T (0, 0) h) (fun k hk => setRow_other w b k _ hk) []

/-- append: what the slice holds and what is appended; the chunk is turned, or another takes its place. -/
theorem run_append_buf {C : Chunk} {T t tx ty : TypeId} {i : TypeInfo} {zv : Value} {m : Nat} {xs ys : List Value} (hB : Buf C T i.size v n xs) (hC : ∀ x ∈ C, w.heap[x.1]? = some x.2) (hs : Src P i.size tx u m ys w)
    (ht : P.underlying t = some (.slice T)) (hi : P.info? T = some i) (hz : i.zero = some zv) (hzs : zv.cells.size = i.size)
    (h63 : n + m ≤ maxLen) (hby : (n + m) * i.bytes ≤ 140737488355328) :
    ∃ v' w' C', (Builtin.append_ #[t, tx] ty #[v, u]).run P w = .ok v' w' ∧ Buf C' T i.size v' (n + m) (xs ++ ys) ∧ Trs w w' [C] [C'] := by
  have hlen : (xs ++ ys).length = (n + m) * i.size := by rw [List.length_append, hB.1, hs.newsLen, Nat.add_mul]
  have hone : ∀ z ∈ xs ++ ys, z.oneCell' = true := fun z hz => by
    rcases List.mem_append.1 hz with h | h
    · exact hB.2.1 z h
    · exact hs.one z h
  have h63' : ((n + m : Nat) : Int) ≤ 9223372036854775807 := by simp only [maxLen] at h63; omega
  -- a new row
  have grown : ∀ (old : Nat) (C : Chunk), old < n + m →
      Buf [(w.heap.size, .cells ((xs ++ ys).toArray ++ Builtin.zeroCells zv.cells (grownCap w (n + m) old T - (n + m))) T)] T i.size (.slice (some ⟨w.heap.size, 0, none⟩) (n + m) (grownCap w (n + m) old T)) (n + m) (xs ++ ys) ∧
      Trs w (w.drew.alloc (.cells ((xs ++ ys).toArray ++ Builtin.zeroCells zv.cells (grownCap w (n + m) old T - (n + m))) T)) [C] [[(w.heap.size, .cells ((xs ++ ys).toArray ++ Builtin.zeroCells zv.cells (grownCap w (n + m) old T - (n + m))) T)]] := by
    intro old C ho
    have hge := grownCap_ge w (n + m) old T
    have hcm : grownCap w (n + m) old T ≤ maxLen := grownCap_le_maxLen w (n + m) old T h63
    refine ⟨⟨hlen, hone, .inr ⟨w.heap.size, _, (Builtin.zeroCells zv.cells (grownCap w (n + m) old T - (n + m))).toList, rfl, ?_, hge, hcm, ?_⟩⟩, ?_⟩
    · simp [cel]
    · rw [hlen]
      simp only [Array.length_toList, size_zeroCells, hzs, ← Nat.add_mul]
      congr 1
      omega
    · unfold Trs
      simp only [List.flatten_cons, List.flatten_nil, List.append_nil]
      have h1 := tr_alloc w.drew (.cells ((xs ++ ys).toArray ++ Builtin.zeroCells zv.cells (grownCap w (n + m) old T - (n + m))) T) C
      exact Tr.drop (C := C) (Tr.pre h1)
  rcases hB.2.2 with ⟨rfl, rfl, rfl⟩ | ⟨g, c, r, rfl, rfl, hnc, hcm, hcs⟩
  · have hx : xs = [] := List.eq_nil_of_length_eq_zero (by simpa using hB.1)
    subst hx
    by_cases hm : m = 0
    · subst hm
      have hy : ys = [] := List.eq_nil_of_length_eq_zero (by simpa using hs.newsLen)
      subst hy
      refine ⟨.slice none 0 0, w, [], ?_, by simpa using Buf.nil T i.size, Trs.refl _ _⟩
      rcases hs.kind with ⟨e', hk⟩ | hk <;> simp [Builtin.append_, run_underlying ht, run_underlying hk, sizeOf, typeInfo, hi, hs.len, hs.cells]
    · have hr := run_append_grow_src (P := P) w t tx ty T i zv ht hi hz none 0 0 [] (run_firstCells_none w.drew i.size 0 0 0) u m ys hs (by omega) h63' (growslice_fits (by omega) hby)
      obtain ⟨h1, h2⟩ := grown 0 [] (by omega)
      exact ⟨_, _, _, hr, h1, h2⟩
  · have hg : w.heap[g]? = some (cel (xs ++ r) T) := hC _ (List.mem_singleton.2 rfl)
    by_cases hroom : n + m ≤ c
    · have hfit : n * i.size + ys.length ≤ (xs ++ r).length := by
        rw [hs.newsLen, ← Nat.add_mul, List.length_append, hcs]; exact Nat.mul_le_mul_right _ hroom
      have hst := run_storeCells_at P g (n * i.size) T ys 0 (xs ++ r).toArray w hg (by simpa using hfit) hs.one
      simp only [Nat.add_zero] at hst
      have e1 : (xs ++ r).take (n * i.size) ++ ys ++ (xs ++ r).drop (n * i.size + ys.length) = xs ++ ys ++ r.drop ys.length := by
        rw [← hB.1, List.take_left, ← List.drop_drop, List.drop_left]
      rw [e1] at hst
      refine ⟨.slice (some ⟨g, 0, none⟩) (n + m) c, w.setRow g (xs ++ ys ++ r.drop ys.length).toArray, [(g, cel (xs ++ ys ++ r.drop ys.length) T)], ?_, ⟨hlen, hone, .inr ⟨g, c, r.drop ys.length, rfl, rfl, hroom, hcm, ?_⟩⟩, Trs.row⟩
      · rcases hs.kind with ⟨e', hk⟩ | hk <;> simp [Builtin.append_, run_underlying ht, run_underlying hk, sizeOf, typeInfo, hi, hs.len, hroom, hs.cells, Addr.add_lit, hst]
      · have := hB.1
        rw [List.length_append] at hfit ⊢
        rw [List.length_drop]
        omega
    · have hold : (Builtin.firstCells i.size n (.slice (some ⟨g, 0, none⟩) n c)).run P w.drew = .ok xs.toArray w.drew :=
        run_firstCells_some w.drew i.size n ⟨g, 0, none⟩ n c xs hB.1 fun j z hz => by
          rw [Addr.add_lit, World.cell?_drew, cell_at hg]
          have hj : j < xs.length := (List.getElem?_eq_some_iff.1 hz).1
          simp only [Nat.zero_add, List.getElem?_toArray, List.getElem?_append_left hj]
          exact hz
      have hr := run_append_grow_src (P := P) w t tx ty T i zv ht hi hz (some ⟨g, 0, none⟩) n c xs hold u m ys hs (by omega) h63' (growslice_fits (by omega) hby)
      obtain ⟨h1, h2⟩ := grown c [(g, cel (xs ++ r) T)] (by omega)
      exact ⟨_, _, _, hr, h1, h2⟩

/-- append, in a walk. -/
theorem wp_append (E : Fr a n e) (S : St w0 As w Ls) {C : Chunk} {t tx T : TypeId} {d m q s by' : Nat} {i : TypeInfo} {zv : Value} {xs ys : List Value} (ho : o.op = .call { callee := .builtin .append, args := #[x, y], argTypes := #[t, tx] }) (hd : o.dst = some d) (hn : d < n)
    (hx : ev e x = some v) (hy : ev e y = some u) (hB : Buf C T s v q xs) (hp : Ls.Perm (C :: Rs)) (hs : Src P s tx u m ys w)
    (ht : P.underlying t = some (.slice T)) (hi : P.info? T = some i) (hz : i.zero = some zv) (hsz : i.size = s) (hzs : zv.cells.size = s) (hbz : i.bytes = by')
    (h63 : q + m ≤ maxLen) (hby : (q + m) * by' ≤ 140737488355328)
    (k : ∀ a' w' v' C', Fr a' n ((d, v') :: e) → St w0 As w' (C' :: Rs) → Buf C' T s v' (q + m) (xs ++ ys) → K a' w') : o.wp P a w K Q := by
  subst hsz hbz
  have hC : ∀ x ∈ C, w.heap[x.1]? = some x.2 := S.stab.at (hp.mem_iff.2 (List.mem_cons_self ..))
  obtain ⟨v', w', C', hr, hB', hT⟩ := run_append_buf (P := P) (w := w) (ty := o.type) hB hC hs ht hi hz hzs h63 hby
  have hrun : RunsTo P o a w v' w' := by
    simp [RunsTo, execOp, ho, resolve, invoke, builtin, E.eval hx, E.eval hy, hr]
  refine hrun.wp ?_
  rw [hd]
  exact k _ _ v' C' (E.put hn _) ((S.perm hp).call1 (sel_cons (pick_head _ _) (sel_nil _)) hT) hB'

/-- make, elements of one cell. -/
theorem wp_make1 (E : Fr a n e) (S : St w0 As w Ls) {t el : TypeId} {d k by' : Nat} {i : TypeInfo} {zv : Value} {kl kc : IntKind} {q r : Int} (ho : o.op = .makeSlice t x y) (hd : o.dst = some d) (hn : d < n)
    (hx : ev e x = some (.int kl q)) (hy : ev e y = some (.int kc r)) (hq : q = (k : Int)) (hr : r = (k : Int))
    (ht : P.underlying t = some (.slice el)) (hi : P.info? el = some i) (hz : i.zero = some zv) (hsz : i.size = 1) (hzv : zv.cells = #[zv]) (h1 : zv.oneCell' = true) (hbz : i.bytes = by') (hb : by' * k ≤ 281474976710656) (h63 : k ≤ maxLen)
    (kk : ∀ a' w' g, Fr a' n ((d, .slice (some ⟨g, 0, none⟩) k k) :: e) → St w0 As w' ([(g, cel (List.replicate k zv) el)] :: Ls) → K a' w') : o.wp P a w K Q := by
  subst hbz
  have hz1 : zeros zv.cells (k * i.size) = List.replicate k zv := by
    have h := zeros_one zv k
    unfold zeros
    rw [hsz, hzv, h]
  refine wp_makeSlice E S ho hd hn hx hy hq hr ht hi hz ?_ hb h63 ?_
  · rw [hz1]; intro u hu; rw [(List.mem_replicate.1 hu).2]; exact h1
  · intro a' w' v' C E' S' hB hv
    obtain ⟨g, rfl⟩ := hv
    rw [hz1] at hB
    rcases hB.2.2 with ⟨h, _⟩ | ⟨g', c, r, h, hC, hc, _, hl⟩
    · cases h
    · cases h
      have : r = [] := by
        refine List.eq_nil_of_length_eq_zero ?_
        rw [hsz] at hl; simp at hl; exact List.length_eq_zero_iff.2 hl
      subst this
      subst hC
      rw [List.append_nil] at S'
      exact kk a' w' g E' S'

/-- copy into a piece of an owned block, elements of one cell. -/
theorem wp_copy (E : Fr a n e) (S : St w0 As w Ls) {t tx el T : TypeId} {d b j dl dc m : Nat} {l ys : List Value} (ho : o.op = .call { callee := .builtin .copy, args := #[x, y], argTypes := #[t, tx] }) (hd : o.dst = some d) (hn : d < n)
    (hx : ev e x = some (.slice (some ⟨b, j, none⟩) dl dc)) (hy : ev e y = some u) (hp : Ls.Perm ([(b, cel l T)] :: Rs)) (hs : ∀ k, k ≤ m → Src P 1 tx u m ys w ∧ (Builtin.firstCells 1 k u).run P w = .ok (ys.take k).toArray w)
    (ht : P.underlying t = some (.slice el)) (h1 : (P.info? el).map (·.size) = some 1) (hfit : j + min m dl ≤ l.length)
    (k : ∀ a' w', Fr a' n ((d, .int .i64 (min m dl : Nat)) :: e) → St w0 As w' ([(b, cel (l.take j ++ ys.take (min m dl) ++ l.drop (j + min m dl)) T)] :: Rs) → K a' w') : o.wp P a w K Q := by
  have hq := (hs (min m dl) (Nat.min_le_left _ _)).2
  have hsrc := (hs 0 (Nat.zero_le _)).1
  have hyl : (ys.take (min m dl)).length = min m dl := by have := hsrc.newsLen; simp; omega
  have hone : ∀ z ∈ ys.take (min m dl), z.oneCell' = true := fun z hz => hsrc.one z (List.mem_of_mem_take hz)
  have hst := run_storeCells_at P b j T (ys.take (min m dl)) 0 l.toArray w (S.get hp) (by rw [hyl]; simpa using hfit) hone
  simp only [Nat.add_zero, hyl] at hst
  have hrun : RunsTo P o a w (.int .i64 (min m dl : Nat)) (w.setRow b (l.take j ++ ys.take (min m dl) ++ l.drop (j + min m dl)).toArray) := by
    have hm : Nat.min m dl = min m dl := rfl
    simp [RunsTo, execOp, ho, resolve, invoke, builtin, E.eval hx, E.eval hy, Builtin.copy_, run_underlying ht, hsrc.len, run_sizeOf h1, hm, hq, hst, goInt]
  refine hrun.wp ?_
  rw [hd]
  exact k _ _ (E.put hn _) (S.row hp)
end
end Go.Sl
