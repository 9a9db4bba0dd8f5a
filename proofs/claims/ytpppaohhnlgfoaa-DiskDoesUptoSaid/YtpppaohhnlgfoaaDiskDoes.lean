/-
  DiskDoes, the second form: where what it reads is small, the law returns true and leaves the old memory as it was.
-/
import Derived.Test.YtpppaohhnlgfoaaRows
import Derived.Test.YtpppaohhnlgfoaaDocZ
import Derived.Test.YtpppaohhnlgfoaaBulk
import Derived.Test.YtpppaohhnlgfoaaEnd
import Derived.Deep.CondSized
namespace Go.Proofs.Ytpppaohhnlgfoaa
open Go.Sl Go.ChangeShapes Go.WideShapes Go.ChangeAt Go.RowKit Go.ChangeMaps

theorem diskDoesUpto_own : ownKnob Try.prog.godebug = none := by kernel_rfl
theorem diskDoesUpto_laidOut : laidOutB Try.prog = true := by kernel_rfl

set_option maxRecDepth 100000 in
theorem diskDoesUpto_lifted (os : Os) (started : os.Started) (H : Type) (enc : TypeId × Value → H) (F : Stop.Interp) :
    ReturnsInHanded {} Try.checked os 6 .any ((Rows.OpenSpec.upto Rows.diskDoesSpec).pre6 enc Try.prog Try.f6 Rows.diskDoesUptoRow.domain false) (((Rows.OpenSpec.upto Rows.diskDoesSpec).at F).post enc Try.prog Try.f6 false true false false) := by
  refine returnsInHanded_of_cond_sized (C := Try.checked) (s := Rows.OpenSpec.upto Rows.diskDoesSpec) (k := Rows.uptoSmall) rfl diskDoesUpto_own started (by kernel_rfl) Try.func6
    (OpenSpec.witness (enc := enc) (C := Try.checked) (s := Rows.OpenSpec.upto Rows.diskDoesSpec) (k := Rows.uptoSmall) rfl false ⟨#[], #[.slice none 0 0, .slice none 0 0], []⟩ 8 (by kernel_rfl) (by kernel_rfl) (by kernel_rfl)
      (x := ([.nil, .nil], [], [])) (by kernel_rfl) rfl (by kernel_rfl)) ?_
  intro W base args ds gs before hval0 hW _ hk hz _
  have hval : ∀ (j : Nat) t v, Try.f6.params[j]? = some t → args[j]? = some v → Value.okWide Try.prog W .any base t v := hval0
  have hW' := hW
  obtain ⟨p, q, hA0, hV, rfl, hfz, hnd⟩ := hW
  have hA : DataW.TrodAll enc Try.prog W 0 (fun _ => true) true Try.f6.params.toList args.toList ds p := hA0
  rw [Try.params6] at hA hval
  obtain ⟨v0, vs0, d0, ds0, p0, q0, hargs, rfl, rfl, h0, r0⟩ := trodAll_cons hA
  obtain ⟨v1, vs1, d1, ds1, p1, q1, rfl, rfl, rfl, h1, r1⟩ := trodAll_cons r0
  obtain ⟨rfl, rfl, rfl⟩ := trodAll_nil r1
  obtain rfl : args = #[v0, v1] := by cases args; simp_all
  obtain ⟨rfl, rfl⟩ := trodVars_none hV
  obtain ⟨X0, e0, g0, s0⟩ := (decB_slice (s := 1) (sz := 8) Try.underlying45 (by kernel_rfl) (by decide) (by kernel_rfl) (dec_one (dec_i64 Try.underlying3)) (fun _ _ u hu => by rw [List.mem_singleton.1 hu]; rfl)).arg h0 (one_slice Try.underlying45 (hval 0 _ v0 rfl rfl)) hz hk (j := 0) rfl rfl
  obtain ⟨X1, e1, g1, s1⟩ := (decB_slice (s := 6) (sz := 80) Try.underlying22 (by kernel_rfl) (by decide) (by kernel_rfl) (dec_one dec_dop) (fun _ h => Dop.lay_one h)).arg h1 (one_slice Try.underlying22 (hval 1 _ v1 rfl rfl)) hz hk (j := 1) rfl rfl
  simp only [List.cons.injEq, and_true] at e0 e1
  subst e0 e1
  refine Calls.mono (does_upto W X0 g0 s0 X1 g1 s1) fun e W' ⟨v, he, hv, hT⟩ => ?_
  subst he hv
  exact ⟨_, rfl, post_below diskDoesUpto_laidOut hW' rfl (by intro t ht; rw [Try.params6] at ht; simp at ht; rcases ht with rfl | rfl <;> exact ⟨by kernel_rfl, of_decide_eq_true (by kernel_rfl)⟩) rfl Try.underlying4 rfl (below_old hT)⟩

theorem diskDoesUpto_holds : Rows.DiskDoesUptoSaid :=
  OpenClaim.holds_of_cond 6 Try.f6 rfl rfl rfl rfl rfl rfl rfl ⟨rfl, rfl, rfl, rfl, rfl⟩ rfl rfl rfl rfl rfl (by kernel_rfl) Try.func6 (by kernel_rfl)
    (of_decide_eq_true (by kernel_rfl)) (by unfold Func.isWrapper; first | (rw [if_pos (by decide +kernel)]; kernel_rfl) | (rw [if_neg (by decide +kernel)]; exact ⟨rfl, rfl⟩))
    (fun os started H enc _ F => diskDoesUpto_lifted os started H enc F)

#print axioms diskDoesUpto_holds
end Go.Proofs.Ytpppaohhnlgfoaa
