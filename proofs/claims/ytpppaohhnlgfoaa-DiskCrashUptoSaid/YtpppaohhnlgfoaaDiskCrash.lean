/-
  DiskCrash, the second form: where what it reads is small, the law returns true and leaves the old memory as it was.
-/
import Derived.Test.YtpppaohhnlgfoaaRows
import Derived.Test.YtpppaohhnlgfoaaCrashM
import Derived.Test.YtpppaohhnlgfoaaBulk
import Derived.Test.YtpppaohhnlgfoaaEnd
import Derived.Deep.CondSized
namespace Go.Proofs.Ytpppaohhnlgfoaa
open Go.Sl Go.ChangeShapes Go.WideShapes Go.ChangeAt Go.RowKit Go.ChangeMaps

theorem diskCrashUpto_own : ownKnob Try.prog.godebug = none := by kernel_rfl
theorem diskCrashUpto_laidOut : laidOutB Try.prog = true := by kernel_rfl

set_option maxRecDepth 100000 in
theorem diskCrashUpto_lifted (os : Os) (started : os.Started) (H : Type) (enc : TypeId × Value → H) (F : Stop.Interp) :
    ReturnsInHanded {} Try.checked os 3 .any ((Rows.OpenSpec.upto Rows.diskCrashSpec).pre6 enc Try.prog Try.f3 Rows.diskCrashUptoRow.domain false) (((Rows.OpenSpec.upto Rows.diskCrashSpec).at F).post enc Try.prog Try.f3 false true false false) := by
  refine returnsInHanded_of_cond_sized (C := Try.checked) (s := Rows.OpenSpec.upto Rows.diskCrashSpec) (k := Rows.uptoSmall) rfl diskCrashUpto_own started (by kernel_rfl) Try.func3
    (OpenSpec.witness (enc := enc) (C := Try.checked) (s := Rows.OpenSpec.upto Rows.diskCrashSpec) (k := Rows.uptoSmall) rfl false ⟨#[], #[.slice none 0 0, .slice none 0 0, .slice none 0 0], []⟩ 8 (by kernel_rfl) (by kernel_rfl) (by kernel_rfl)
      (x := ([.nil, .nil, .nil], [], [])) (by kernel_rfl) rfl (by kernel_rfl)) ?_
  intro W base args ds gs before hval0 hW _ hk hz _
  have hval : ∀ (j : Nat) t v, Try.f3.params[j]? = some t → args[j]? = some v → Value.okWide Try.prog W .any base t v := hval0
  have hW' := hW
  obtain ⟨p, q, hA0, hV, rfl, hfz, hnd⟩ := hW
  have hA : DataW.TrodAll enc Try.prog W 0 (fun _ => true) true Try.f3.params.toList args.toList ds p := hA0
  rw [Try.params3] at hA hval
  obtain ⟨v0, vs0, d0, ds0, p0, q0, hargs, rfl, rfl, h0, r0⟩ := trodAll_cons hA
  obtain ⟨v1, vs1, d1, ds1, p1, q1, rfl, rfl, rfl, h1, r1⟩ := trodAll_cons r0
  obtain ⟨v2, vs2, d2, ds2, p2, q2, rfl, rfl, rfl, h2, r2⟩ := trodAll_cons r1
  obtain ⟨rfl, rfl, rfl⟩ := trodAll_nil r2
  obtain rfl : args = #[v0, v1, v2] := by cases args; simp_all
  obtain ⟨rfl, rfl⟩ := trodVars_none hV
  obtain ⟨X0, e0, g0, s0⟩ := (decB_slice (s := 6) (sz := 80) Try.underlying22 (by kernel_rfl) (by decide) (by kernel_rfl) (dec_one dec_dop) (fun _ h => Dop.lay_one h)).arg h0 (one_slice Try.underlying22 (hval 0 _ v0 rfl rfl)) hz hk (j := 0) rfl rfl
  obtain ⟨X1, e1, g1, s1⟩ := (decB_slice (s := 6) (sz := 80) Try.underlying22 (by kernel_rfl) (by decide) (by kernel_rfl) (dec_one dec_dop) (fun _ h => Dop.lay_one h)).arg h1 (one_slice Try.underlying22 (hval 1 _ v1 rfl rfl)) hz hk (j := 1) rfl rfl
  obtain ⟨X2, e2, g2, s2⟩ := (decB_slice (s := 1) (sz := 1) Try.underlying23 (by kernel_rfl) (by decide) (by kernel_rfl) (dec_one (dec_bool Try.underlying4)) (fun _ _ u hu => by rw [List.mem_singleton.1 hu]; rfl)).arg h2 (one_slice Try.underlying23 (hval 2 _ v2 rfl rfl)) hz hk (j := 2) rfl rfl
  simp only [List.cons.injEq, and_true] at e0 e1 e2
  subst e0 e1 e2
  refine Calls.mono (crash_upto W X0 g0 s0 X1 g1 s1 X2 g2 s2) fun e W' ⟨v, he, hv, hT⟩ => ?_
  subst he hv
  exact ⟨_, rfl, post_below diskCrashUpto_laidOut hW' rfl (by intro t ht; rw [Try.params3] at ht; simp at ht; rcases ht with rfl | rfl | rfl <;> exact ⟨by kernel_rfl, of_decide_eq_true (by kernel_rfl)⟩) rfl Try.underlying4 rfl (below_old hT)⟩

theorem diskCrashUpto_holds : Rows.DiskCrashUptoSaid :=
  OpenClaim.holds_of_cond 3 Try.f3 rfl rfl rfl rfl rfl rfl rfl ⟨rfl, rfl, rfl, rfl, rfl⟩ rfl rfl rfl rfl rfl (by kernel_rfl) Try.func3 (by kernel_rfl)
    (of_decide_eq_true (by kernel_rfl)) (by unfold Func.isWrapper; first | (rw [if_pos (by decide +kernel)]; kernel_rfl) | (rw [if_neg (by decide +kernel)]; exact ⟨rfl, rfl⟩))
    (fun os started H enc _ F => diskCrashUpto_lifted os started H enc F)

#print axioms diskCrashUpto_holds
end Go.Proofs.Ytpppaohhnlgfoaa
