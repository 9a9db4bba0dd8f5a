/-
  AllocSafe, the walk: no room is given out that is held, or was let go less than two groups ago.
-/
import Derived.Test.YtenhebjhoicpjaaAllT
namespace Go.Sl
theorem single_bad {size : Int} (h : 1 ≤ size ∧ size ≤ 8191) : Al.badSizes [size] = false := by
  simp only [Al.badSizes, Bool.or_eq_false_iff, decide_eq_false_iff_not, List.any_eq_false, decide_eq_true_eq, List.length_singleton, List.mem_singleton]
  exact ⟨⟨by omega, by omega⟩, fun n hn => by omega⟩
/-- The head of an owned list. -/
theorem Buf.prefix {C : Chunk} {T : TypeId} {s n k c : Nat} {ad : Option Addr} {xs : List Value} (h : Buf C T s (.slice ad n c) n xs) (hk : k ≤ n) : Buf C T s (.slice ad k c) k (xs.take (k * s)) := by
  obtain ⟨h1, h2, h3⟩ := h
  have hle : k * s ≤ xs.length := by rw [h1]; exact Nat.mul_le_mul_right s hk
  refine ⟨by rw [List.length_take]; omega, fun u hu => h2 u (List.mem_of_mem_take hu), ?_⟩
  rcases h3 with ⟨e1, e2, e3⟩ | ⟨g, c', r, e1, e2, e3, e4, e5⟩
  · cases e1
    obtain rfl : k = 0 := by omega
    exact .inl ⟨rfl, rfl, e3⟩
  · cases e1
    refine .inr ⟨g, c, xs.drop (k * s) ++ r, rfl, ?_, by omega, e4, ?_⟩
    · rw [e2, ← List.append_assoc, List.take_append_drop]
    · rw [List.length_append, List.length_drop, List.length_take]; omega
/-- What a Take's place and another place are to each other. -/
theorem safe_meets {p q : Pl} (h : Ap p q) (hp : p.sp.may = true) (hq : q.sp.may = true) : bool2 p q = false := by
  unfold bool2; exact decide_eq_false (h.meets hp hq)
theorem flat_take {l : List Pl} {k : Nat} (hk : k ≤ l.length) : (l.flatMap Pl.lay).take (k * 3) = (l.take k).flatMap Pl.lay := by
  conv => lhs; rw [← List.take_append_drop k l, List.flatMap_append]
  rw [List.take_append_of_le_length (by rw [flat_len Pl.lay_len, List.length_take]; omega), List.take_of_length_le (by rw [flat_len Pl.lay_len, List.length_take]; omega)]
end Go.Sl
namespace Go.Proofs.Ytenhebjhoicpjaa
open Go.Sl
set_option maxRecDepth 10000

abbrev PlB (C : Chunk) (v : Value) (l : List Pl) : Prop := Buf C 33 3 v l.length (l.flatMap Pl.lay)
/-- A round's state. -/
structure Sfe (size : Int) (i : Nat) (y : Al) (held old fresh : List Pl) : Prop where
  sc : Sc y held (old ++ fresh)
  sz : y.sizes = [size]
  by_ : y.by_ = gby ((i : Int) - 1) old ++ gby i fresh
  o1 : old.length ≤ 1
  f1 : fresh.length ≤ 1
/-- In the middle of a round. -/
structure Sfm (size : Int) (i : Nat) (y : Al) (held old fresh news : List Pl) : Prop where
  sc : Sc y held ((old ++ fresh) ++ news)
  sz : y.sizes = [size]
  by_ : y.by_ = gby ((i : Int) - 1) old ++ gby i fresh ++ gby ((i : Int) + 1) news
  o1 : old.length ≤ 1
  f1 : fresh.length ≤ 1
  n1 : news.length ≤ 1
theorem Sfe.hl {size : Int} {i : Nat} {y : Al} {held old fresh : List Pl} (h : Sfe size i y held old fresh) (hs : size ≤ 8191) : held.length ≤ 8191 := by
  have := h.sc.len
  rw [h.sz] at this
  simp only [sumL] at this
  omega
theorem Sfe.size0 {size : Int} {i : Nat} {y : Al} {held old fresh : List Pl} (h : Sfe size i y held old fresh) : y.size 0 = size := by
  unfold Al.size; rw [h.sz]; rfl
/-- What is given out meets nothing. -/
theorem Sfe.take {size : Int} {i : Nat} {y : Al} {held old fresh : List Pl} (h : Sfe size i y held old fresh) (n : Int) :
    ((y.take [n]).2.2 ≠ 0 ∧ (y.take [n]).1 = y) ∨ ((y.take [n]).2.2 = 0 ∧ Sfe size i (y.take [n]).1 (held ++ [(y.take [n]).2.1]) old fresh ∧ (y.take [n]).2.1.sp.may = true ∧ 0 ≤ (y.take [n]).2.1.sp.at_ ∧ (y.take [n]).2.1.sp.many = n ∧ (y.take [n]).2.1.sp.at_ + n ≤ size ∧
      ∀ q ∈ held ++ (old ++ fresh), q.sp.may = true ∧ bool2 (y.take [n]).2.1 q = false) := by
  rcases h.sc.take [n] with hno | ⟨t, c, m, e1, e2, ht, hm, -, hf, hc, hm1, hcs, hap, hS⟩
  · exact .inl hno
  right
  simp only [List.length_singleton] at ht
  obtain rfl : t = 0 := by omega
  simp only [List.getD_cons_zero] at hm
  subst hm
  have hs := h.size0
  rw [hs] at hcs
  have e3 : (y.take [n]).2.1 = ⟨((0 : Nat) : Int), ⟨c, n⟩⟩ := by rw [e1]
  have e4 : (y.take [n]).2.2 = 0 := by rw [e1]
  have hbd := (h.sc.size 0).2
  rw [hs] at hbd
  have hmay : (⟨c, n⟩ : Sp).may = true := by rw [Sp.may_iff]; simp only; omega
  rw [e3]
  refine ⟨e4, ⟨hS, by rw [e2]; exact h.sz, by rw [e2]; exact h.by_, h.o1, h.f1⟩, hmay, hc, rfl, hcs, fun q hq => ?_⟩
  have hq2 := (h.sc.top q hq).2.1
  exact ⟨hq2, safe_meets (hap q hq) hmay hq2⟩
theorem Sfe.mid {size : Int} {i : Nat} {y : Al} {held old fresh : List Pl} (h : Sfe size i y held old fresh) : Sfm size i y held old fresh [] :=
  ⟨by rw [List.append_nil]; exact h.sc, h.sz, by rw [h.by_]; simp [gby], h.o1, h.f1, by simp⟩
/-- One is let go. -/
theorem Sfe.drop {size : Int} {i : Nat} {y : Al} {held old fresh : List Pl} (h : Sfe size i y held old fresh) {k : Nat} (hk : k < held.length) (hi : i < 1000000000000000) :
    (y.letgo held[k] ((i + 1 : Nat) : Int)).2 = 0 ∧ Sfm size i (y.letgo held[k] ((i + 1 : Nat) : Int)).1 (held.take k ++ held.drop (k + 1)) old fresh [held[k]] := by
  have hsc := h.sc
  have e : held = held.take k ++ held[k] :: held.drop (k + 1) := by rw [← List.drop_eq_getElem_cons hk, List.take_append_drop]
  have hsc : Sc y (held.take k ++ held[k] :: held.drop (k + 1)) (old ++ fresh) := e ▸ hsc
  obtain ⟨l1, l2, l3, -, l5⟩ := hsc.letgo (txg := ((i + 1 : Nat) : Int)) (by omega)
  refine ⟨l1, l5, by rw [l3]; exact h.sz, ?_, h.o1, h.f1, by simp⟩
  rw [l2, h.by_, addBy_new fun g hg => ?_]
  · rfl
  · rcases List.mem_append.1 hg with hg | hg <;> rw [gby_mem hg] <;> omega
theorem Sfm.sync {size : Int} {i : Nat} {y b : Al} {held old fresh news : List Pl} (h : Sfm size i y held old fresh news) (hs : y.Sync ((i + 1 : Nat) : Int) b) : Sfe size (i + 1) b held fresh news := by
  obtain ⟨h1, h2, h3⟩ := h.sc.sync (k := i) h.o1 h.by_ hs
  refine ⟨h1, by rw [h3]; exact h.sz, ?_, h.f1, h.n1⟩
  rw [h2]
  congr 2
  omega
theorem gby_one {k : Int} {l : List Pl} {g : Int × List Pl} (h : g ∈ gby k l) : g.2.length = 1 := by
  obtain ⟨p, _, rfl⟩ := List.mem_map.1 h; rfl
theorem Sfe.bl {size : Int} {i : Nat} {y : Al} {held old fresh : List Pl} (h : Sfe size i y held old fresh) : ∀ g ∈ y.by_, g.2.length ≤ 1000000000000 := fun g hg => by
  rw [h.by_] at hg
  rcases List.mem_append.1 hg with hg | hg <;> rw [gby_one hg] <;> omega
theorem tmod_at {a : Int} {n : Nat} (ha : 0 ≤ a) (hn : 0 < n) : ∃ k : Nat, a.tmod (n : Int) = (k : Int) ∧ k < n := by
  have h1 := Int.emod_nonneg a (b := (n : Int)) (by omega)
  have h2 := Int.emod_lt_of_pos a (b := (n : Int)) (by omega)
  exact ⟨(a % n).toNat, by rw [Int.tmod_eq_emod_of_nonneg ha]; omega, by omega⟩
theorem flat_drop {l : List Pl} {k : Nat} (hk : k ≤ l.length) : ((l.flatMap Pl.lay).drop (k * 3)).take ((l.length - k) * 3) = (l.drop k).flatMap Pl.lay := by
  have h1 : ((l.take k).flatMap Pl.lay).length = k * 3 := by rw [flat_len Pl.lay_len, List.length_take, Nat.min_eq_left hk]
  conv => lhs; rw [← List.take_append_drop k l, List.flatMap_append]
  rw [← h1, List.drop_left, List.take_append_drop, List.take_of_length_le]
  rw [flat_len Pl.lay_len, List.length_drop]
  exact Nat.le_refl _
theorem sliced_to (g k c s : Nat) : sliced (some ⟨g, 0, none⟩) 0 k c s = .slice (some ⟨g, 0, none⟩) k c := by
  simp [sliced, Addr.add_lit]
theorem plB_cut {C : Chunk} {v : Value} {l : List Pl} {k : Nat} (hk : k < l.length) (h : Buf C 33 3 v (k + (0 + (l.length - (k + 1)))) ((l.flatMap Pl.lay).take (k * 3) ++ ([] ++ ((l.flatMap Pl.lay).drop ((k + 1) * 3)).take ((l.length - (k + 1)) * 3)))) : PlB C v (l.take k ++ l.drop (k + 1)) := by
  have e1 : (l.flatMap Pl.lay).take (k * 3) ++ ([] ++ ((l.flatMap Pl.lay).drop ((k + 1) * 3)).take ((l.length - (k + 1)) * 3)) = (l.take k ++ l.drop (k + 1)).flatMap Pl.lay := by
    rw [flat_take (by omega), flat_drop (by omega), List.flatMap_append, List.nil_append]
  have e2 : k + (0 + (l.length - (k + 1))) = (l.take k ++ l.drop (k + 1)).length := by
    rw [List.length_append, List.length_take, List.length_drop]; omega
  rw [e1, e2] at h
  exact h
end Go.Proofs.Ytenhebjhoicpjaa
