/-
  Frames cut anywhere, plain.
-/
import Derived.Test.YtjhmjdgdgpgcdaaDoorFeedL
namespace Go.Sl
/-- Bytes that are one frame, by their length. -/
def Fok (x : List UInt8) : Prop := 13 ≤ x.length ∧ x.length ≤ 65536 ∧ nm x 0 4 = x.length - 4
theorem nm_left {x y : List UInt8} (h : 4 ≤ x.length) : nm (x ++ y) 0 4 = nm x 0 4 := by
  simp only [nm, List.drop_zero]
  rw [List.take_append, show 4 - x.length = 0 by omega, List.take_zero, List.append_nil]
theorem nm_takeL {x : List UInt8} {n : Nat} (h : 4 ≤ n) : nm (x.take n) 0 4 = nm x 0 4 := by
  simp only [nm, List.drop_zero, List.take_take, Nat.min_eq_left h]
theorem rqO_ok {r : Rq} (h : r.may) : Fok (rqO r) := by
  have hs := rqB_small h
  have hl : (rqO r).length = (rqB r).length + 13 := by rw [rqO_yes h, frm_length, List.length_cons]
  have hn : nm (rqO r) 0 4 = (rqB r).length + 9 := by
    have := nm_form [] (1 :: rqB r ++ formOf (shaF (1 :: rqB r)).a 8) ((rqB r).length + 1 + 8) (q := 0) (k := 4) rfl (by rw [p4]; omega)
    rw [List.nil_append] at this
    rw [rqO_yes h, frm, List.length_cons, List.append_assoc]; exact this
  exact ⟨by omega, by omega, by omega⟩
theorem cutR_front {x rest : List UInt8} (h : Fok x) : cutR (x ++ rest) = (x :: (cutR rest).1, (cutR rest).2) := by
  obtain ⟨h1, h2, h3⟩ := h
  have hn : nm (x ++ rest) 0 4 = x.length - 4 := by rw [nm_left (by omega), h3]
  have hl : (x ++ rest).length = x.length + rest.length := List.length_append
  rw [cutR_step (by omega) (by omega) (by omega), hn, show 4 + (x.length - 4) = x.length by omega, List.take_left, List.drop_left]
theorem cutR_part {x : List UInt8} {n : Nat} (h : Fok x) (hn : n < x.length) : cutR (x.take n) = ([], x.take n, 0) := by
  obtain ⟨h1, h2, h3⟩ := h
  have hl : (x.take n).length = n := by rw [List.length_take]; omega
  rcases Nat.lt_or_ge n 4 with h4 | h4
  · exact cutR_short (by omega)
  · have := nm_takeL (x := x) h4
    exact cutR_wait (by omega) (by omega) (by omega)
theorem cutR_frames : ∀ (fs : List (List UInt8)), (∀ x ∈ fs, Fok x) → ∀ n, (cutR (fs.flatten.take n)).2.2 = 0 ∧ (fs.flatten.length ≤ n → cutR (fs.flatten.take n) = (fs, [], 0))
  | [], _, n => by simp [cutR_short]
  | x :: fs, h, n => by
    have hx := h x (List.mem_cons_self ..)
    have ih := cutR_frames fs fun y hy => h y (List.mem_cons_of_mem _ hy)
    rw [List.flatten_cons]
    rcases Nat.lt_or_ge n x.length with hn | hn
    · rw [List.take_append, show n - x.length = 0 by omega, List.take_zero, List.append_nil, cutR_part hx hn]
      exact ⟨rfl, fun q => by rw [List.length_append] at q; omega⟩
    · rw [List.take_append, List.take_of_length_le hn, cutR_front hx]
      have := ih (n - x.length)
      refine ⟨this.1, fun q => ?_⟩
      rw [this.2 (by rw [List.length_append] at q; omega)]
theorem cutR_append : ∀ (k : Nat) (b c : List UInt8), b.length ≤ k → (cutR b).2.2 = 0 → cutR (b ++ c) = ((cutR b).1 ++ (cutR ((cutR b).2.1 ++ c)).1, (cutR ((cutR b).2.1 ++ c)).2) := by
  intro k
  induction k with
  | zero =>
    intro b c hk _
    obtain rfl := List.eq_nil_of_length_eq_zero (Nat.le_zero.1 hk)
    rw [show cutR ([] : List UInt8) = ([], [], 0) from cutR_short (by simp)]; rfl
  | succ k ih =>
    intro b c hk he
    rcases Nat.lt_or_ge b.length 4 with h4 | h4
    · rw [cutR_short h4]; rfl
    · by_cases h2 : nm b 0 4 < 9 ∨ 65532 < nm b 0 4
      · rw [cutR_bad h4 h2] at he; cases he
      · by_cases h3 : b.length < 4 + nm b 0 4
        · rw [cutR_wait h4 h2 h3]; rfl
        · have hs := cutR_step h4 h2 h3
          have hn : nm (b ++ c) 0 4 = nm b 0 4 := nm_left h4
          have hl : (b ++ c).length = b.length + c.length := List.length_append
          have hs2 := cutR_step (b := b ++ c) (by omega) (by omega) (by omega)
          rw [hs] at he
          have := ih (b.drop (4 + nm b 0 4)) c (by rw [List.length_drop]; omega) he
          rw [hs2, hn, List.drop_append_of_le_length (by omega), this, hs, List.take_append_of_le_length (by omega)]
          rfl
theorem cutN_count : ∀ (k : Nat) (b : List UInt8), b.length ≤ k → 13 * (cutN k b).1.length ≤ b.length
  | 0, b, h => by simp [cutN]
  | k + 1, b, h => by
    rw [cutN]
    split
    · simp
    · split
      · simp
      · split
        · simp
        · rename_i h1 h2 h3
          have := cutN_count k (b.drop (4 + nm b 0 4)) (by rw [List.length_drop]; omega)
          rw [List.length_drop] at this
          simp only [List.length_cons]; omega
theorem cutR_count (b : List UInt8) : 13 * (cutR b).1.length ≤ b.length := cutN_count _ b (Nat.le_refl _)
theorem take_two (l : List UInt8) {p q : Nat} (h : p ≤ q) : l.take p ++ (l.drop p).take (q - p) = l.take q := by
  conv => rhs; rw [← Nat.add_sub_cancel' h, List.take_add]
/-- A request's cells. -/
def qlay (x : Value × Rq) : List Value := [.int .i64 x.2.ses, .int .i64 x.2.id, .int .i64 x.2.verb, str x.2.name, str x.2.item, str x.2.other, str x.2.path, .int .i64 x.2.at_, .int .i64 x.2.many, x.1]
theorem qlay_len (x : Value × Rq) : (qlay x).length = 10 := rfl
def qall (l : List (Value × Rq)) : List UInt8 := (l.map fun x => rqO x.2).flatten
theorem qall_len : ∀ (l : List (Value × Rq)), (qall l).length ≤ 3049 * l.length
  | [] => by simp [qall]
  | x :: l => by
    have := qall_len l
    have h := rqO_small x.2
    simp only [qall, List.map_cons, List.flatten_cons, List.length_append, List.length_cons] at *
    omega
theorem qall_snoc (l : List (Value × Rq)) (x : Value × Rq) : qall (l ++ [x]) = qall l ++ rqO x.2 := by simp [qall]
theorem Inn.rdc {T : TypeId} {s : Nat} {α : Type} {lay : List α → List Value} {D : Chunk} {vs : List Value} {xs : List (List α)} (h : Inn T s lay D vs xs) {i : Nat} (hi : i < xs.length) :
    ∃ ad c, vs[i]? = some (.slice ad xs[i].length c) ∧ xs[i].length ≤ c ∧ Rd D s (.slice ad xs[i].length c) xs[i].length (lay xs[i]) := by
  obtain ⟨A, C, B, v, rfl, hv, hC, -⟩ := h.at hi
  obtain ⟨ad, c, rfl⟩ := hC.slice
  exact ⟨ad, c, hv, hC.cap_le, hC.rd.sub fun x hx => by simp [hx]⟩
end Go.Sl
