/-
  Lists of slices, each with its own block.
-/
import Derived.Test.YtpppaohhnlgfoaaMore6
namespace Go.Sl

section
variable {α : Type} {T : TypeId} {s : Nat} {lay : List α → List Value}
/-- Slices, each with its own block. -/
def Inn (T : TypeId) (s : Nat) (lay : List α → List Value) : Chunk → List Value → List (List α) → Prop
  | D, [], [] => D = []
  | D, v :: vs, x :: xs => ∃ C D', D = C ++ D' ∧ Buf C T s v x.length (lay x) ∧ Inn T s lay D' vs xs
  | _, _, _ => False
theorem Inn.len : ∀ {D : Chunk} {vs : List Value} {xs : List (List α)}, Inn T s lay D vs xs → vs.length = xs.length
  | _, [], [], _ => rfl
  | _, _ :: _, _ :: _, ⟨_, _, _, _, h⟩ => by simp [h.len]
  | _, [], _ :: _, h => h.elim
  | _, _ :: _, [], h => h.elim
theorem Inn.nil : Inn T s lay [] [] [] := rfl
theorem Inn.one : ∀ {D : Chunk} {vs : List Value} {xs : List (List α)}, Inn T s lay D vs xs → ∀ u ∈ vs, u.oneCell' = true
  | _, [], [], _ => fun u hu => by cases hu
  | _, _ :: _, _ :: _, ⟨_, _, _, hC, h⟩ => fun u hu => by
    rcases List.mem_cons.1 hu with rfl | hu
    · obtain ⟨ad, c, rfl⟩ := hC.slice; rfl
    · exact h.one u hu
  | _, [], _ :: _, h => h.elim
  | _, _ :: _, [], h => h.elim
theorem Inn.snoc {C : Chunk} {v : Value} {x : List α} (hC : Buf C T s v x.length (lay x)) : ∀ {D : Chunk} {vs : List Value} {xs : List (List α)}, Inn T s lay D vs xs → Inn T s lay (D ++ C) (vs ++ [v]) (xs ++ [x])
  | _, [], [], h => by
    cases h
    exact ⟨C, [], by simp, hC, rfl⟩
  | _, _ :: _, _ :: _, ⟨C0, D', e, hC0, h⟩ => ⟨C0, D' ++ C, by rw [e, List.append_assoc], hC0, h.snoc hC⟩
  | _, [], _ :: _, h => h.elim
  | _, _ :: _, [], h => h.elim
theorem Inn.at : ∀ {D : Chunk} {vs : List Value} {xs : List (List α)}, Inn T s lay D vs xs → ∀ {i : Nat} (hi : i < xs.length),
    ∃ A C B v, D = A ++ (C ++ B) ∧ vs[i]? = some v ∧ Buf C T s v xs[i].length (lay xs[i]) ∧ ∀ C' v' x', Buf C' T s v' x'.length (lay x') → Inn T s lay (A ++ (C' ++ B)) (vs.set i v') (xs.set i x')
  | _, v :: vs, x :: xs, ⟨C, D', e, hC, h⟩, 0, _ => ⟨[], C, D', v, by simpa using e, rfl, hC, fun C' v' x' hC' => ⟨C', D', by simp, hC', h⟩⟩
  | _, v :: vs, x :: xs, ⟨C, D', e, hC, h⟩, i + 1, hi => by
    obtain ⟨A, C2, B, v2, e2, hv, hB, hk⟩ := h.at (i := i) (by simpa using hi)
    refine ⟨C ++ A, C2, B, v2, by rw [e, e2, List.append_assoc], hv, hB, fun C' v' x' hC' => ?_⟩
    exact ⟨C, A ++ (C' ++ B), by rw [List.append_assoc], hC, hk C' v' x' hC'⟩
  | _, [], [], _, _, hi => absurd hi (by simp)
  | _, [], _ :: _, h, _, _ => h.elim
  | _, _ :: _, [], h, _, _ => h.elim
theorem Inn.rd {D : Chunk} {vs : List Value} {xs : List (List α)} (h : Inn T s lay D vs xs) {i : Nat} (hi : i < xs.length) : ∃ v, vs[i]? = some v ∧ Rd D s v xs[i].length (lay xs[i]) := by
  obtain ⟨A, C, B, v, rfl, hv, hC, -⟩ := h.at hi
  exact ⟨v, hv, hC.rd.sub fun x hx => by simp [hx]⟩
theorem Inn.app {E : Chunk} {us : List Value} {ys : List (List α)} (k : Inn T s lay E us ys) : ∀ {D : Chunk} {vs : List Value} {xs : List (List α)}, Inn T s lay D vs xs → Inn T s lay (D ++ E) (vs ++ us) (xs ++ ys)
  | _, [], [], h => by cases h; exact k
  | _, _ :: _, _ :: _, ⟨C0, D', e, hC0, h⟩ => ⟨C0, D' ++ E, by rw [e, List.append_assoc], hC0, Inn.app k h⟩
  | _, [], _ :: _, h => h.elim
  | _, _ :: _, [], h => h.elim
end

section
variable {w0 w : World} {As Ls : List Chunk} {A B C : Chunk}
theorem St.call4 {As Ls Bs Rs : List Chunk} {w0 w w' : World} {C D F G : Chunk} (S : St w0 As w Ls) (s : Sel Ls Bs Rs) (t : Trs w w' Bs [C, D, F, G]) : St w0 As w' (C :: D :: F :: G :: Rs) := S.call s t
theorem St.cutMid (S : St w0 As w ((A ++ (C ++ B)) :: Ls)) : St w0 As w ((A ++ B) :: Ls) := by
  have S := S.split.perm2.split.perm (List.Perm.refl _)
  -- C :: B :: A :: Ls
  exact ((S.only (Bs := B :: A :: Ls) (Rs := [C]) (by
    have := List.perm_append_comm (l₁ := [C]) (l₂ := B :: A :: Ls)
    simpa [Sel] using this)).perm2).join
theorem St.openMid (S : St w0 As w ((A ++ (C ++ B)) :: Ls)) : St w0 As w (C :: A :: B :: Ls) :=
  (S.split.perm2.split).perm ((List.Perm.swap _ _ _).cons _)
theorem St.closeMid (S : St w0 As w (C :: A :: B :: Ls)) : St w0 As w ((A ++ (C ++ B)) :: Ls) :=
  ((S.perm ((List.Perm.swap _ _ _).cons _)).join.perm2).join
end

theorem Rd.bytes {C : Chunk} {ad : Option Addr} {c : Nat} {l : List UInt8} (h : Rd C 1 (.slice ad l.length c) l.length (byt l)) {lo hi mx : Nat} (h1 : lo ≤ hi) (h2 : hi ≤ l.length) (h3 : hi ≤ mx) :
    Rd C 1 (sliced ad lo hi mx 1) ((l.drop lo).take (hi - lo)).length (byt ((l.drop lo).take (hi - lo))) := by
  have h4 := h.piece rfl h1 h2 h3
  rw [Nat.mul_one, Nat.mul_one, byt_drop, byt_take] at h4
  rwa [List.length_take, List.length_drop, Nat.min_eq_left (by omega)]

theorem Rd.tailc {C : Chunk} {s m n : Nat} {ad : Option Addr} {c : Nat} {xs : List Value} (h : Rd C s (.slice ad m c) m xs) (h1 : n ≤ m) (h2 : m ≤ c) :
    ∃ ad2 c2, sliced ad n m c s = .slice ad2 (m - n) c2 ∧ m - n ≤ c2 ∧ Rd C s (.slice ad2 (m - n) c2) (m - n) (xs.drop (n * s)) := by
  have h4 := h.piece rfl h1 (Nat.le_refl m) h2
  rw [List.take_of_length_le (by rw [List.length_drop, h.1, ← Nat.sub_mul]; exact Nat.le_refl _)] at h4
  exact ⟨_, _, rfl, by omega, h4⟩

end Go.Sl
