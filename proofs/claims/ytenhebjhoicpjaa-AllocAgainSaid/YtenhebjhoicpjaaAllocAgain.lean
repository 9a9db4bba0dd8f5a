/-
  AllocAgain, the row: the law returns true for every input and leaves the old memory as it was.
-/
import Derived.Test.YtenhebjhoicpjaaRows
import Derived.Test.YtenhebjhoicpjaaAllX
import Derived.Test.YtenhebjhoicpjaaOld
import Derived.Test.YtenhebjhoicpjaaEnd
namespace Go.Proofs.Ytenhebjhoicpjaa
open Go.Sl Go.ChangeShapes Go.WideShapes Go.ChangeAt Go.RowKit Go.ChangeMaps

theorem allocAgain_own : ownKnob Try.prog.godebug = none := by kernel_rfl
theorem allocAgain_laidOut : laidOutB Try.prog = true := by kernel_rfl

set_option maxRecDepth 100000 in
theorem allocAgain_lifted (os : Os) (started : os.Started) (H : Type) (enc : TypeId × Value → H) :
    ReturnsInHanded {} Try.checked os 5 .any (Rows.allocAgainSpec.pre6 enc Try.prog Try.f5 Rows.allocAgainRow.domain false) (Rows.allocAgainSpec.post enc Try.prog Try.f5 false true false false) := by
  refine returnsInHanded_of_change_sized (C := Try.checked) allocAgain_own started (by kernel_rfl) Try.func5
    (ChangeSpec.witness6 (enc := enc) (C := Try.checked) false ⟨#[], #[.slice none 0 0, .slice none 0 0, .slice none 0 0], []⟩ 8 (by kernel_rfl) (by kernel_rfl) (by kernel_rfl) (by kernel_rfl)) ?_
  intro W base args ds gs before hval0 hW _ hz _
  have hval : ∀ (j : Nat) t v, Try.f5.params[j]? = some t → args[j]? = some v → Value.okWide Try.prog W .any base t v := hval0
  have hW' := hW
  obtain ⟨p, q, hA0, hV, rfl, hfz, hnd⟩ := hW
  have hA : DataW.TrodAll enc Try.prog W 0 (fun _ => true) true Try.f5.params.toList args.toList ds p := hA0
  rw [Try.params5] at hA hval
  obtain ⟨v0, vs0, d0, ds0, p0, q0, hargs, rfl, rfl, h0, r0⟩ := trodAll_cons hA
  obtain ⟨v1, vs1, d1, ds1, p1, q1, rfl, rfl, rfl, h1, r1⟩ := trodAll_cons r0
  obtain ⟨v2, vs2, d2, ds2, p2, q2, rfl, rfl, rfl, h2, r2⟩ := trodAll_cons r1
  obtain ⟨rfl, rfl, rfl⟩ := trodAll_nil r2
  obtain rfl : args = #[v0, v1, v2] := by cases args; simp_all
  obtain ⟨rfl, rfl⟩ := trodVars_none hV
  obtain ⟨⟨w0, a0⟩, e0, ad0, c0, x0, y0, z0, k0, g0⟩ := (dec_slice (s := 1) (sz := 8) Try.underlying22 (by kernel_rfl) (by decide) (by kernel_rfl) (dec_i64 Try.underlying3) (fun _ _ u hu => by rw [List.mem_singleton.1 hu]; rfl)).arg h0 (one_slice Try.underlying22 (hval 0 _ v0 rfl rfl)) hz (j := 0) rfl rfl
  obtain ⟨⟨w1, a1⟩, e1, ad1, c1, x1, y1, z1, k1, g1⟩ := (dec_slice (s := 1) (sz := 24) Try.underlying44 (by kernel_rfl) (by decide) (by kernel_rfl) (dec_slice (s := 1) (sz := 8) Try.underlying22 (by kernel_rfl) (by decide) (by kernel_rfl) (dec_i64 Try.underlying3) (fun _ _ u hu => by rw [List.mem_singleton.1 hu]; rfl)) (fun _ h u hu => olds_one h hu)).arg h1 (one_slice Try.underlying44 (hval 1 _ v1 rfl rfl)) hz (j := 1) rfl rfl
  obtain ⟨⟨w2, a2⟩, e2, ad2, c2, x2, y2, z2, k2, g2⟩ := (dec_slice (s := 1) (sz := 24) Try.underlying44 (by kernel_rfl) (by decide) (by kernel_rfl) (dec_slice (s := 1) (sz := 8) Try.underlying22 (by kernel_rfl) (by decide) (by kernel_rfl) (dec_i64 Try.underlying3) (fun _ _ u hu => by rw [List.mem_singleton.1 hu]; rfl)) (fun _ h u hu => olds_one h hu)).arg h2 (one_slice Try.underlying44 (hval 2 _ v2 rfl rfl)) hz (j := 2) rfl rfl
  simp only [List.cons.injEq, and_true] at e0 e1 e2
  subst e0 e1 e2
  simp only at x0 y0 z0 k0 g0
  simp only at x1 y1 z1 k1 g1
  simp only at x2 y2 z2 k2 g2
  refine Calls.mono (again_row W _ a0 k0 g0 (by omega) _ a1 k1 g1 (by omega) _ a2 k2 g2 (by omega) W (hp_old W)) fun e W' ⟨v, he, hv, hT⟩ => ?_
  subst he hv
  exact ⟨_, rfl, post_below allocAgain_laidOut hW' rfl (by intro t ht; rw [Try.params5] at ht; simp at ht; rcases ht with rfl | rfl | rfl <;> exact ⟨by kernel_rfl, of_decide_eq_true (by kernel_rfl)⟩) rfl Try.underlying4 rfl (below_old hT)⟩

theorem allocAgain_holds : Rows.AllocAgainSaid :=
  OpenClaim.holds_of_wide 5 Try.f5 rfl rfl rfl rfl rfl rfl rfl ⟨rfl, rfl, rfl, rfl, rfl⟩ rfl rfl rfl rfl rfl (by kernel_rfl) Try.func5 (by kernel_rfl)
    (of_decide_eq_true (by kernel_rfl)) (by unfold Func.isWrapper; first | (rw [if_pos (by decide +kernel)]; kernel_rfl) | (rw [if_neg (by decide +kernel)]; exact ⟨rfl, rfl⟩))
    (fun os started H enc _ => allocAgain_lifted os started H enc)

#print axioms allocAgain_holds
end Go.Proofs.Ytenhebjhoicpjaa
