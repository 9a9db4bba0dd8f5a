/-
  Spans out of a call's arguments.
-/
import Derived.Test.YtkkpeggkoijlhaaRangeS
import Derived.Test.YtkkpeggkoijlhaaOld
namespace Go.Sl
/-- Numbers that an int may be. -/
def Sp.i64 (x : Sp) : Prop := (-9223372036854775808 ≤ x.at_ ∧ x.at_ ≤ 9223372036854775807) ∧ -9223372036854775808 ≤ x.many ∧ x.many ≤ 9223372036854775807
theorem Sp.lay_one (x : Sp) : ∀ u ∈ x.lay, u.oneCell' = true := fun u hu => by
  simp only [Sp.lay, List.mem_cons, List.not_mem_nil, or_false] at hu
  rcases hu with rfl | rfl <;> rfl
end Go.Sl
namespace Go.Proofs.Ytkkpeggkoijlhaa
open Go.Sl Go.ChangeShapes Go.WideShapes Go.ChangeAt Go.RowKit Go.ChangeMaps
set_option maxRecDepth 10000

theorem dec_span {H : Type} {enc : TypeId × Value → H} {w : World} : Dec enc Try.prog w 39 2 Sp.lay Sp.i64 := fun n cs x h hlen hw => by
  match cs, hlen with
  | [c0, c1], _ =>
  have ki : Try.prog.cellsOf 3 = 1 := by kernel_rfl
  have ht := Try.underlying39
  obtain ⟨a, e0, h0⟩ := dec_field 0 0 ht h hw rfl ki (dec_i64 (enc := enc) Try.underlying3) (by simp)
  obtain ⟨b, e1, h1⟩ := dec_field 1 1 ht h hw rfl ki (dec_i64 (enc := enc) Try.underlying3) (by simp)
  simp only [List.drop_succ_cons, List.drop_zero, List.take_succ_cons, List.take_zero, List.cons.injEq, and_true] at e0 e1
  subst e0 e1
  exact ⟨⟨a, b⟩, rfl, h0, h1⟩
end Go.Proofs.Ytkkpeggkoijlhaa
