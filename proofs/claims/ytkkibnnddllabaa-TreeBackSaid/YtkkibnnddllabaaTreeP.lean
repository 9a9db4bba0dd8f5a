/-
  Objects as blocks, plain: lists of lists in owned blocks; what is cut into pieces; blocks of noughts.
-/
import Derived.Test.YtkkibnnddllabaaPtrD
namespace Go.Sl

section
variable {α : Type} {T : TypeId} {s : Nat} {lay : List α → List Value}
/-- Slices, each with its own block. -/
def Inn (T : TypeId) (s : Nat) (lay : List α → List Value) : Chunk → List Value → List (List α) → Prop
  | D, [], [] => D = []
  | D, v :: vs, x :: xs => ∃ C D', D = C ++ D' ∧ Buf C T s v x.length (lay x) ∧ Inn T s lay D' vs xs
  | _, _, _ => False
theorem Inn.len : ∀ {D : Chunk} {vs : List Value} {xs : List (List α)}, Inn T s lay D vs xs → vs.length = xs.length
  | _, [], [], _ => rfl
  | _, _ :: _, _ :: _, ⟨_, _, _, _, h⟩ => by simp [h.len]
  | _, [], _ :: _, h => h.elim
  | _, _ :: _, [], h => h.elim
theorem Inn.nil : Inn T s lay [] [] [] := rfl
theorem Inn.one : ∀ {D : Chunk} {vs : List Value} {xs : List (List α)}, Inn T s lay D vs xs → ∀ u ∈ vs, u.oneCell' = true
  | _, [], [], _ => fun u hu => by cases hu
  | _, _ :: _, _ :: _, ⟨_, _, _, hC, h⟩ => fun u hu => by
    rcases List.mem_cons.1 hu with rfl | hu
    · obtain ⟨ad, c, rfl⟩ := hC.slice; rfl
    · exact h.one u hu
  | _, [], _ :: _, h => h.elim
  | _, _ :: _, [], h => h.elim
theorem Inn.snoc {C : Chunk} {v : Value} {x : List α} (hC : Buf C T s v x.length (lay x)) : ∀ {D : Chunk} {vs : List Value} {xs : List (List α)}, Inn T s lay D vs xs → Inn T s lay (D ++ C) (vs ++ [v]) (xs ++ [x])
  | _, [], [], h => by
    cases h
    exact ⟨C, [], by simp, hC, rfl⟩
  | _, _ :: _, _ :: _, ⟨C0, D', e, hC0, h⟩ => ⟨C0, D' ++ C, by rw [e, List.append_assoc], hC0, h.snoc hC⟩
  | _, [], _ :: _, h => h.elim
  | _, _ :: _, [], h => h.elim
theorem Inn.at : ∀ {D : Chunk} {vs : List Value} {xs : List (List α)}, Inn T s lay D vs xs → ∀ {i : Nat} (hi : i < xs.length),
    ∃ A C B v, D = A ++ (C ++ B) ∧ vs[i]? = some v ∧ Buf C T s v xs[i].length (lay xs[i]) ∧ ∀ C' v' x', Buf C' T s v' x'.length (lay x') → Inn T s lay (A ++ (C' ++ B)) (vs.set i v') (xs.set i x')
  | _, v :: vs, x :: xs, ⟨C, D', e, hC, h⟩, 0, _ => ⟨[], C, D', v, by simpa using e, rfl, hC, fun C' v' x' hC' => ⟨C', D', by simp, hC', h⟩⟩
  | _, v :: vs, x :: xs, ⟨C, D', e, hC, h⟩, i + 1, hi => by
    obtain ⟨A, C2, B, v2, e2, hv, hB, hk⟩ := h.at (i := i) (by simpa using hi)
    refine ⟨C ++ A, C2, B, v2, by rw [e, e2, List.append_assoc], hv, hB, fun C' v' x' hC' => ?_⟩
    exact ⟨C, A ++ (C' ++ B), by rw [List.append_assoc], hC, hk C' v' x' hC'⟩
  | _, [], [], _, _, hi => absurd hi (by simp)
  | _, [], _ :: _, h, _, _ => h.elim
  | _, _ :: _, [], h, _, _ => h.elim
theorem Inn.rd {D : Chunk} {vs : List Value} {xs : List (List α)} (h : Inn T s lay D vs xs) {i : Nat} (hi : i < xs.length) : ∃ v, vs[i]? = some v ∧ Rd D s v xs[i].length (lay xs[i]) := by
  obtain ⟨A, C, B, v, rfl, hv, hC, -⟩ := h.at hi
  exact ⟨v, hv, hC.rd.sub fun x hx => by simp [hx]⟩
theorem Inn.app {E : Chunk} {us : List Value} {ys : List (List α)} (k : Inn T s lay E us ys) : ∀ {D : Chunk} {vs : List Value} {xs : List (List α)}, Inn T s lay D vs xs → Inn T s lay (D ++ E) (vs ++ us) (xs ++ ys)
  | _, [], [], h => by cases h; exact k
  | _, _ :: _, _ :: _, ⟨C0, D', e, hC0, h⟩ => ⟨C0, D' ++ E, by rw [e, List.append_assoc], hC0, Inn.app k h⟩
  | _, [], _ :: _, h => h.elim
  | _, _ :: _, [], h => h.elim
end

section
variable {w0 w : World} {As Ls : List Chunk} {A B C : Chunk}
theorem St.cutMid (S : St w0 As w ((A ++ (C ++ B)) :: Ls)) : St w0 As w ((A ++ B) :: Ls) := by
  have S := S.split.perm2.split.perm (List.Perm.refl _)
  -- C :: B :: A :: Ls
  exact ((S.only (Bs := B :: A :: Ls) (Rs := [C]) (by
    have := List.perm_append_comm (l₁ := [C]) (l₂ := B :: A :: Ls)
    simpa [Sel] using this)).perm2).join
theorem St.openMid (S : St w0 As w ((A ++ (C ++ B)) :: Ls)) : St w0 As w (C :: A :: B :: Ls) :=
  (S.split.perm2.split).perm ((List.Perm.swap _ _ _).cons _)
theorem St.closeMid (S : St w0 As w (C :: A :: B :: Ls)) : St w0 As w ((A ++ (C ++ B)) :: Ls) :=
  ((S.perm ((List.Perm.swap _ _ _).cons _)).join.perm2).join
end

section
variable {α : Type} {lay : α → List Value} {s : Nat}
theorem flat_drop (hl : ∀ a, (lay a).length = s) : ∀ (k : Nat) (l : List α), (l.flatMap lay).drop (k * s) = (l.drop k).flatMap lay
  | 0, l => by simp
  | k + 1, [] => by simp
  | k + 1, y :: r => by rw [List.flatMap_cons, Nat.succ_mul, List.drop_succ_cons, ← flat_drop hl k r, Nat.add_comm (k * s) s, ← List.drop_drop, List.drop_left' (hl y)]
theorem flat_take (hl : ∀ a, (lay a).length = s) : ∀ (k : Nat) (l : List α), (l.flatMap lay).take (k * s) = (l.take k).flatMap lay
  | 0, l => by simp
  | k + 1, [] => by simp
  | k + 1, y :: r => by rw [List.flatMap_cons, List.take_succ_cons, List.flatMap_cons, ← flat_take hl k r, Nat.succ_mul, Nat.add_comm (k * s) s, List.take_add, List.take_left' (hl y), List.drop_left' (hl y)]
theorem Rd.lays (hs : ∀ a, (lay a).length = s) {C : Chunk} {ad : Option Addr} {c : Nat} {l : List α} (h : Rd C s (.slice ad l.length c) l.length (l.flatMap lay)) {lo hi mx : Nat} (h1 : lo ≤ hi) (h2 : hi ≤ l.length) (h3 : hi ≤ mx) :
    Rd C s (sliced ad lo hi mx s) ((l.drop lo).take (hi - lo)).length (((l.drop lo).take (hi - lo)).flatMap lay) := by
  have h4 := h.piece rfl h1 h2 h3
  rw [flat_drop hs, flat_take hs] at h4
  rwa [List.length_take, List.length_drop, Nat.min_eq_left (by omega)]
end
theorem Rd.bytes {C : Chunk} {ad : Option Addr} {c : Nat} {l : List UInt8} (h : Rd C 1 (.slice ad l.length c) l.length (byt l)) {lo hi mx : Nat} (h1 : lo ≤ hi) (h2 : hi ≤ l.length) (h3 : hi ≤ mx) :
    Rd C 1 (sliced ad lo hi mx 1) ((l.drop lo).take (hi - lo)).length (byt ((l.drop lo).take (hi - lo))) := by
  have h4 := h.piece rfl h1 h2 h3
  rw [Nat.mul_one, Nat.mul_one, byt_drop, byt_take] at h4
  rwa [List.length_take, List.length_drop, Nat.min_eq_left (by omega)]

theorem Rd.tailc {C : Chunk} {s m n : Nat} {ad : Option Addr} {c : Nat} {xs : List Value} (h : Rd C s (.slice ad m c) m xs) (h1 : n ≤ m) (h2 : m ≤ c) :
    ∃ ad2 c2, sliced ad n m c s = .slice ad2 (m - n) c2 ∧ m - n ≤ c2 ∧ Rd C s (.slice ad2 (m - n) c2) (m - n) (xs.drop (n * s)) := by
  have h4 := h.piece rfl h1 (Nat.le_refl m) h2
  rw [List.take_of_length_le (by rw [List.length_drop, h.1, ← Nat.sub_mul]; exact Nat.le_refl _)] at h4
  exact ⟨_, _, rfl, by omega, h4⟩

theorem byt_set (xs : List UInt8) (i : Nat) (x : UInt8) : (byt xs).set i (.int .u8 x.toNat) = byt (xs.set i x) := by simp [byt, List.map_set]

/-! ### Pieces -/
section
variable {α : Type}
def nch (n k : Nat) : Nat := (n + (k - 1)) / k
/-- The first i pieces. -/
def chopN (k : Nat) (l : List α) (i : Nat) : List (List α) := (List.range i).map fun j => (l.drop (j * k)).take k
def chop (k : Nat) (l : List α) : List (List α) := chopN k l (nch l.length k)
theorem chopN_succ (k : Nat) (l : List α) (i : Nat) : chopN k l (i + 1) = chopN k l i ++ [(l.drop (i * k)).take k] := by simp [chopN, List.range_succ]
theorem chopN_zero (k : Nat) (l : List α) : chopN k l 0 = [] := rfl
theorem chopN_length (k : Nat) (l : List α) (i : Nat) : (chopN k l i).length = i := by simp [chopN]
theorem chop_length (k : Nat) (l : List α) : (chop k l).length = nch l.length k := chopN_length _ _ _
theorem chop_at {k : Nat} {l : List α} {i : Nat} (h : i < (chop k l).length) : (chop k l)[i] = (l.drop (i * k)).take k := by simp [chop, chopN]
theorem nch_eq {n k i : Nat} (h1 : n ≤ i * k) (h2 : i * k < n + k) : nch n k = i := by
  unfold nch
  have hk : 0 < k := by
    rcases Nat.eq_zero_or_pos k with rfl | h
    · simp at h2; omega
    · exact h
  rw [Nat.div_eq_iff hk]
  constructor
  · omega
  · have := Nat.succ_mul i k; omega
theorem chop_done {k i : Nat} {l : List α} (h1 : l.length ≤ i * k) (h2 : i * k < l.length + k) : chopN k l i = chop k l := by rw [chop, nch_eq h1 h2]
theorem chop_lt {k i : Nat} {l : List α} (hk : 0 < k) (h : i < (chop k l).length) : i * k < l.length := by
  rw [chop_length, nch] at h
  have h1 : (i + 1) * k ≤ l.length + (k - 1) := (Nat.le_div_iff_mul_le hk).1 h
  have h2 : (i + 1) * k = i * k + k := Nat.succ_mul i k
  omega
theorem nch_cover (n : Nat) {k : Nat} (hk : 0 < k) : n ≤ nch n k * k := by
  unfold nch
  have h := Nat.div_add_mod (n + (k - 1)) k
  have h2 := Nat.mod_lt (n + (k - 1)) hk
  rw [Nat.mul_comm] at h
  omega
theorem chop_flat {k : Nat} (hk : 0 < k) (l : List α) : ∀ i, (chopN k l i).flatten = l.take (i * k)
  | 0 => by simp [chopN]
  | i + 1 => by rw [chopN_succ, List.flatten_append, chop_flat hk l i, Nat.succ_mul, List.take_add]; simp
end
/-- A block of noughts alone is none. -/
def thinB (x : List UInt8) : List UInt8 := if x = List.replicate x.length 0 then [] else x
def blankB (x : List UInt8) : Bool := decide (x = List.replicate x.length 0)
theorem thinB_of {x : List UInt8} (h : blankB x = true) : thinB x = [] := by simp only [blankB, decide_eq_true_eq] at h; simp only [thinB]; rw [if_pos h]
theorem thinB_no {x : List UInt8} (h : blankB x = false) : thinB x = x := by simp only [blankB, decide_eq_false_iff_not] at h; simp only [thinB]; rw [if_neg h]
def splitL (b : List UInt8) : List (List UInt8) := (chop 1024 b).map thinB
theorem blank_step {b : List UInt8} {i : Nat} (hi : i < b.length) (h : b.take i = List.replicate i 0) (hz : b[i] = 0) : b.take (i + 1) = List.replicate (i + 1) 0 := by
  rw [List.take_add_one, h, List.getElem?_eq_getElem hi, hz, List.replicate_succ']; rfl
theorem blank_not {b : List UInt8} {i : Nat} (hi : i < b.length) (hz : b[i] ≠ 0) : blankB b = false := by
  simp only [blankB, decide_eq_false_iff_not]
  intro h
  apply hz
  have : b[i]? = some 0 := by rw [h, List.getElem?_replicate, if_pos hi]
  rw [List.getElem?_eq_getElem hi] at this
  exact Option.some.inj this
theorem blank_yes {b : List UInt8} (h : b.take b.length = List.replicate b.length 0) : blankB b = true := by
  rw [List.take_length] at h
  simpa [blankB] using h
end Go.Sl
