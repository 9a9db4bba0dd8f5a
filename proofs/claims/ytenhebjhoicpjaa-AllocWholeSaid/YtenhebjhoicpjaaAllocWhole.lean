/-
  AllocWhole, the row: the law returns true for every input and leaves the old memory as it was.
-/
import Derived.Test.YtenhebjhoicpjaaRows
import Derived.Test.YtenhebjhoicpjaaAllT
import Derived.Test.YtenhebjhoicpjaaOld
import Derived.Test.YtenhebjhoicpjaaEnd
namespace Go.Proofs.Ytenhebjhoicpjaa
open Go.Sl Go.ChangeShapes Go.WideShapes Go.ChangeAt Go.RowKit Go.ChangeMaps

theorem allocWhole_own : ownKnob Try.prog.godebug = none := by kernel_rfl
theorem allocWhole_laidOut : laidOutB Try.prog = true := by kernel_rfl

set_option maxRecDepth 100000 in
theorem allocWhole_lifted (os : Os) (started : os.Started) (H : Type) (enc : TypeId × Value → H) :
    ReturnsInHanded {} Try.checked os 4 .any (Rows.allocWholeSpec.pre6 enc Try.prog Try.f4 Rows.allocWholeRow.domain false) (Rows.allocWholeSpec.post enc Try.prog Try.f4 false true false false) := by
  refine returnsInHanded_of_change_sized (C := Try.checked) allocWhole_own started (by kernel_rfl) Try.func4
    (ChangeSpec.witness6 (enc := enc) (C := Try.checked) false ⟨#[], #[.slice none 0 0, .int .i64 0], []⟩ 8 (by kernel_rfl) (by kernel_rfl) (by kernel_rfl) (by kernel_rfl)) ?_
  intro W base args ds gs before hval0 hW _ hz _
  have hval : ∀ (j : Nat) t v, Try.f4.params[j]? = some t → args[j]? = some v → Value.okWide Try.prog W .any base t v := hval0
  have hW' := hW
  obtain ⟨p, q, hA0, hV, rfl, hfz, hnd⟩ := hW
  have hA : DataW.TrodAll enc Try.prog W 0 (fun _ => true) true Try.f4.params.toList args.toList ds p := hA0
  rw [Try.params4] at hA hval
  obtain ⟨v0, vs0, d0, ds0, p0, q0, hargs, rfl, rfl, h0, r0⟩ := trodAll_cons hA
  obtain ⟨v1, vs1, d1, ds1, p1, q1, rfl, rfl, rfl, h1, r1⟩ := trodAll_cons r0
  obtain ⟨rfl, rfl, rfl⟩ := trodAll_nil r1
  obtain rfl : args = #[v0, v1] := by cases args; simp_all
  obtain ⟨rfl, rfl⟩ := trodVars_none hV
  obtain ⟨⟨w0, a0⟩, e0, ad0, c0, x0, y0, z0, k0, g0⟩ := (dec_slice (s := 1) (sz := 8) Try.underlying22 (by kernel_rfl) (by decide) (by kernel_rfl) (dec_i64 Try.underlying3) (fun _ _ u hu => by rw [List.mem_singleton.1 hu]; rfl)).arg h0 (one_slice Try.underlying22 (hval 0 _ v0 rfl rfl)) hz (j := 0) rfl rfl
  obtain ⟨a1, e1, g1⟩ := (dec_i64 Try.underlying3).arg h1 (one_int Try.underlying3 (hval 1 _ v1 rfl rfl)) hz (j := 1) rfl rfl
  simp only [List.cons.injEq, and_true] at e0 e1
  subst e0 e1
  simp only at x0 y0 z0 k0 g0
  refine Calls.mono (whole_row (old W) _ a0 k0 g0 (by omega) a1 g1 W (hp_old W)) fun e W' ⟨v, he, hv, hT⟩ => ?_
  subst he hv
  exact ⟨_, rfl, post_below allocWhole_laidOut hW' rfl (by intro t ht; rw [Try.params4] at ht; simp at ht; rcases ht with rfl | rfl <;> exact ⟨by kernel_rfl, of_decide_eq_true (by kernel_rfl)⟩) rfl Try.underlying4 rfl (below_old hT)⟩

theorem allocWhole_holds : Rows.AllocWholeSaid :=
  OpenClaim.holds_of_wide 4 Try.f4 rfl rfl rfl rfl rfl rfl rfl ⟨rfl, rfl, rfl, rfl, rfl⟩ rfl rfl rfl rfl rfl (by kernel_rfl) Try.func4 (by kernel_rfl)
    (of_decide_eq_true (by kernel_rfl)) (by unfold Func.isWrapper; first | (rw [if_pos (by decide +kernel)]; kernel_rfl) | (rw [if_neg (by decide +kernel)]; exact ⟨rfl, rfl⟩))
    (fun os started H enc _ => allocWhole_lifted os started H enc)

#print axioms allocWhole_holds
end Go.Proofs.Ytenhebjhoicpjaa
