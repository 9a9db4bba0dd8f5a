/-
  Objects as blocks, plain: pointers packed and unpacked.
-/
import Derived.Test.YtkkibnnddllabaaTreeT
namespace Go.Sl

/-- What Pack answers. -/
def packE (l : List Pt) : Int := if 4096 < l.length then 2 else if ∀ p ∈ l, ptE p = 0 then 0 else 40
def encs (l : List Pt) : List UInt8 := l.flatMap ptenc
def packR (l : List Pt) (i : Nat) : List (List UInt8) := (chopN 16 l i).map encs
def packL (l : List Pt) : List (List UInt8) := if packE l = 0 then ((chop 16 l).map encs).map thinB else []
theorem encs_length (l : List Pt) : (encs l).length = 64 * l.length := by
  induction l with
  | nil => rfl
  | cons p r ih => rw [encs, List.flatMap_cons, List.length_append, ptenc_length, List.length_cons]; have : (r.flatMap ptenc).length = 64 * r.length := ih; omega
theorem encs_snoc (l : List Pt) (p : Pt) : encs (l ++ [p]) = encs l ++ ptenc p := by simp [encs]
theorem encs_take {l : List Pt} {k : Nat} (h : k < l.length) : encs (l.take (k + 1)) = encs (l.take k) ++ ptenc l[k] := by
  rw [List.take_add_one, List.getElem?_eq_getElem h]; exact encs_snoc _ _
theorem pack_long {l : List Pt} (h : 4096 < l.length) : packE l = 2 ∧ packL l = [] := by
  have : packE l = 2 := by simp [packE, h]
  exact ⟨this, by simp [packL, this]⟩
theorem ptE_or (p : Pt) : ptE p = 0 ∨ ptE p = 40 := by
  unfold ptE; split
  · exact .inl rfl
  · split
    · exact .inl rfl
    · exact .inr rfl
theorem pack_bad {l : List Pt} (h : l.length ≤ 4096) {p : Pt} (hp : p ∈ l) (hb : ptE p ≠ 0) : packE l = ptE p ∧ packL l = [] := by
  have h1 : packE l = 40 := by
    unfold packE
    rw [if_neg (by omega), if_neg (fun q => hb (q p hp))]
  have h2 : ptE p = 40 := (ptE_or p).resolve_left hb
  exact ⟨by rw [h1, h2], by simp [packL, h1]⟩
theorem pack_good {l : List Pt} (h : l.length ≤ 4096) (hg : ∀ p ∈ l, ptE p = 0) : packE l = 0 ∧ packL l = ((chop 16 l).map encs).map thinB := by
  have h1 : packE l = 0 := by unfold packE; rw [if_neg (by omega), if_pos hg]
  exact ⟨h1, by rw [packL, if_pos h1]⟩
theorem mem_take_succ {α : Type} {l : List α} {k : Nat} (h : k < l.length) {q : α → Prop} (h1 : ∀ p ∈ l.take k, q p) (h2 : q l[k]) : ∀ p ∈ l.take (k + 1), q p := by
  intro p hp
  rw [List.take_add_one, List.getElem?_eq_getElem h] at hp
  rcases List.mem_append.1 hp with hp | hp
  · exact h1 p hp
  · have e : p = l[k] := by simpa using hp
    rw [e]; exact h2

/-- What Unpack answers. -/
def unpE (b : List UInt8) : Int := if b.length = 0 ∨ 1024 < b.length ∨ b.length % 64 ≠ 0 then 120 else if ∀ x ∈ chop 64 b, ptdecE x = 0 then 0 else 120
def unpL (b : List UInt8) : List Pt := if unpE b = 0 then (chop 64 b).map ptdec else []
theorem unp_form {b : List UInt8} (h : b.length = 0 ∨ 1024 < b.length ∨ b.length % 64 ≠ 0) : unpE b = 120 ∧ unpL b = [] := by
  have : unpE b = 120 := by simp only [unpE]; rw [if_pos h]
  exact ⟨this, by simp [unpL, this]⟩
theorem unp_bad {b : List UInt8} {x : List UInt8} (hx : x ∈ chop 64 b) (h : ptdecE x ≠ 0) : unpE b = 120 ∧ unpL b = [] := by
  have : unpE b = 120 := by
    simp only [unpE]; split
    · rfl
    · rw [if_neg (fun q => h (q x hx))]
  exact ⟨this, by simp [unpL, this]⟩
theorem unp_good {b : List UInt8} (h : ¬ (b.length = 0 ∨ 1024 < b.length ∨ b.length % 64 ≠ 0)) (hg : ∀ x ∈ chop 64 b, ptdecE x = 0) : unpE b = 0 ∧ unpL b = (chop 64 b).map ptdec := by
  have : unpE b = 0 := by simp only [unpE]; rw [if_neg h, if_pos hg]
  exact ⟨this, by rw [unpL, if_pos this]⟩
end Go.Sl
