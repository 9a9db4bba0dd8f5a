/-
  A literal's row that is marked ([]byte of a constant), and append to a slice that has no room.
-/
import Derived.Test.YtenhebjhoicpjaaMore4
namespace Go.Sl
/-- A block behind '[]byte("..")' of a constant: the place behind its last cell is marked. -/
abbrev mcel (l : List Value) (T : TypeId) : Obj := .cells l.toArray T (l.length, l.length + 1)
section
variable {P : Program} {a : Act} {o : Oper} {n : Nat} {e : List (Nat × Value)} {x y : Operand} {v u : Value} {K : Act → World → Prop} {Q : Exit → Act → World → Prop} {w0 w : World} {As Ls Rs : List Chunk}

theorem wp_mark (E : Fr a n e) (S : St w0 As w Ls) {t t' el T : TypeId} {d g m c : Nat} {l : List Value} (ho : o.op = .convert t t' x) (htt : t = t') (hd : o.dst = some d) (hn : d < n)
    (hx : ev e x = some (.slice (some ⟨g, 0, none⟩) m c)) (ht : P.underlying t = some (.slice el)) (hel : P.underlying el = some (.int .u8)) (hp : Ls.Perm ([(g, cel l T)] :: Rs))
    (k : ∀ a' w', Fr a' n ((d, .slice (some ⟨g, 0, none⟩) m c) :: e) → St w0 As w' ([(g, mcel l T)] :: Rs) → K a' w') : o.wp P a w K Q := by
  subst htt
  have hg : w.heap[g]? = some (cel l T) := S.get hp
  have hsh : w.shape? g = some (T, l.length) := by unfold World.shape?; rw [hg]; simp
  have hrun : RunsTo P o a w (.slice (some ⟨g, 0, none⟩) m c) (w.freeze ⟨g, l.length, none⟩ 1) := by
    simp [RunsTo, execOp, ho, E.eval hx, convert, run_underlying ht, run_underlying hel, markStringish, hsh]
  refine hrun.wp ?_
  rw [hd]
  have hh : (w.freeze ⟨g, l.length, none⟩ 1).heap = w.heap.modify g (fun
      | .cells c elem (lo, hi) => .cells c elem (if lo == hi then (l.length, l.length + 1) else (min lo l.length, max hi (l.length + 1)))
      | o => o) := by
    unfold World.freeze; rw [if_neg (by decide)]; rfl
  refine k _ _ (E.put hn _) (S.block hp ?_ ?_ ?_ ?_ ?_ ?_)
  · unfold World.freeze; rw [if_neg (by decide)]
  · unfold World.freeze; rw [if_neg (by decide)]
  · unfold World.freeze; rw [if_neg (by decide)]
  · rw [hh]; simp
  · intro h
    rw [hh, Array.getElem?_modify, if_pos rfl, h]
    rfl
  · intro k hk
    rw [hh, Array.getElem?_modify, if_neg (fun q => hk q.symm)]

/-- append to a slice that has no room: a new row. -/
theorem wp_appendf (E : Fr a n e) (S : St w0 As w Ls) {C : Chunk} {t tx T : TypeId} {d m q s by' b off : Nat} {i : TypeInfo} {zv : Value} {xs ys : List Value} (ho : o.op = .call { callee := .builtin .append, args := #[x, y], argTypes := #[t, tx] }) (hd : o.dst = some d) (hn : d < n)
    (hx : ev e x = some (.slice (some ⟨b, off, none⟩) q q)) (hy : ev e y = some u) (hB : Rd C s (.slice (some ⟨b, off, none⟩) q q) q xs) (hC : C ∈ Ls) (hs : Src P s tx u m ys w)
    (ht : P.underlying t = some (.slice T)) (hi : P.info? T = some i) (hz : i.zero = some zv) (hsz : i.size = s) (hzs : zv.cells.size = s) (hbz : i.bytes = by')
    (h63 : q + m ≤ maxLen) (hby : (q + m) * by' ≤ 140737488355328) (hm : 0 < m)
    (k : ∀ a' w' v' C', Fr a' n ((d, v') :: e) → St w0 As w' (C' :: Ls) → Buf C' T s v' (q + m) (xs ++ ys) → K a' w') : o.wp P a w K Q := by
  subst hsz hbz
  have hCC := S.stab.at hC
  have hcells := hB.cells hCC (b := b) (off := off) (c := q) rfl
  have h63' : ((q + m : Nat) : Int) ≤ 9223372036854775807 := by simp only [maxLen] at h63; omega
  have hold : (Builtin.firstCells i.size q (.slice (some ⟨b, off, none⟩) q q)).run P w.drew = .ok xs.toArray w.drew :=
    run_firstCells_some w.drew i.size q ⟨b, off, none⟩ q q xs hB.1 fun j z hz => by
      rw [Addr.add_lit, World.cell?_drew]; exact hcells j z hz
  have hr := run_append_grow_src (P := P) w t tx o.type T i zv ht hi hz (some ⟨b, off, none⟩) q q xs hold u m ys hs (by omega) h63' (growslice_fits (by omega) hby)
  have hlen : (xs ++ ys).length = (q + m) * i.size := by rw [List.length_append, hB.1, hs.newsLen, Nat.add_mul]
  have hone : ∀ z ∈ xs ++ ys, z.oneCell' = true := fun z hz => by
    rcases List.mem_append.1 hz with h | h
    · exact hB.2.1 z h
    · exact hs.one z h
  have hge := grownCap_ge w (q + m) q T
  have hcm : grownCap w (q + m) q T ≤ maxLen := grownCap_le_maxLen w (q + m) q T h63
  have hrun : RunsTo P o a w (.slice (some ⟨w.heap.size, 0, none⟩) (q + m) (grownCap w (q + m) q T)) (w.drew.alloc (.cells ((xs ++ ys).toArray ++ Builtin.zeroCells zv.cells (grownCap w (q + m) q T - (q + m))) T)) := by
    simp [RunsTo, execOp, ho, resolve, invoke, builtin, E.eval hx, E.eval hy, hr]
  refine hrun.wp ?_
  rw [hd]
  refine k _ _ _ _ (E.put hn _) (S.drew.alloc _) ⟨hlen, hone, .inr ⟨w.heap.size, _, (Builtin.zeroCells zv.cells (grownCap w (q + m) q T - (q + m))).toList, rfl, ?_, hge, hcm, ?_⟩⟩
  · simp [cel]
  · rw [hlen]
    simp only [Array.length_toList, size_zeroCells, hzs, ← Nat.add_mul]
    congr 1
    omega
end
/-- A literal's bytes, marked, read. -/
theorem rd_mark {g : Nat} {T : TypeId} (b : List UInt8) (hb : b.length ≤ 4611686018427387904) : Rd [(g, mcel (byt b) T)] 1 (.slice (some ⟨g, 0, none⟩) b.length b.length) b.length (byt b) :=
  ⟨by simp [byt_length], byt_one b, by simp only [maxLen]; omega, .inr ⟨g, 0, b.length, _, T, _, rfl, List.mem_singleton.2 rfl, fun i u hu => by simpa using hu⟩⟩
end Go.Sl
