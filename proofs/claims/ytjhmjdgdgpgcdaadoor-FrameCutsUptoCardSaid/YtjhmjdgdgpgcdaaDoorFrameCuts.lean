/-
  FrameCuts, the second form: row and card: where what it reads is small, the law returns true and leaves the old memory as it was.
-/
import Derived.Test.YtjhmjdgdgpgcdaaDoorCards
import Derived.Test.YtjhmjdgdgpgcdaaDoorTie
import Derived.Test.YtjhmjdgdgpgcdaaDoorCutL
import Derived.Test.YtjhmjdgdgpgcdaaDoorBulk
import Derived.Test.YtjhmjdgdgpgcdaaDoorEnd
import Derived.Deep.DeepHandedRow
import Derived.LaidMore
import Derived.SevenTiedAt
namespace Go.Proofs.YtjhmjdgdgpgcdaaDoor
open Go.Sl Go.ChangeShapes Go.WideShapes Go.ChangeAt Go.RowKit Go.ChangeMaps

theorem frameCutsUpto_own : ownKnob Tryd.prog.godebug = none := by kernel_rfl
theorem frameCutsUpto_laidOut : laidOutB Tryd.prog = true := by kernel_rfl
/-- The door's own heap meets the condition. -/
theorem frameCutsUpto_door (os : Os) (args : Array Value) : laidMetH Tryd.prog Rows.frameCutsUptoRow.laid ((World.doorLaid Tryd.prog 24 os).forCall (fun _ _ => 0) ⟨#[], args, []⟩).memory :=
  laidMetH_of_parts3 (fuel := 8) (laidMet_of_run' 8 (by kernel_rfl) (by kernel_rfl)) (by kernel_rfl) (by kernel_rfl)

set_option maxRecDepth 100000 in
theorem frameCutsUpto_lifted (os : Os) (started : os.Started) (H : Type) (enc : TypeId × Value → H) (F : Stop.Interp) :
    ReturnsInHanded {} Tryd.checked os 5 .any ((Rows.OpenSpec.upto Rows.frameCutsSpec).preRow enc Tryd.prog Tryd.f5 Rows.frameCutsUptoRow.domain false Rows.frameCutsUptoRow.laid) (((Rows.OpenSpec.upto Rows.frameCutsSpec).at F).post enc Tryd.prog Tryd.f5 false true false false) := by
  refine returnsInHanded_of_row (C := Tryd.checked) (s := Rows.OpenSpec.upto Rows.frameCutsSpec) frameCutsUpto_own started (by kernel_rfl) Tryd.func5
    (witness_row_at (enc := enc) (C := Tryd.checked) false (World.doorLaid Tryd.prog 24 os) #[.slice none 0 0, .slice none 0 0] rfl (by kernel_rfl) (by kernel_rfl) (by kernel_rfl)
      (OpenSpec.preRow_of_cond 8 (x := ([.nil, .nil], [], [])) (by kernel_rfl) (by kernel_rfl) (fun k hk => by cases hk; kernel_rfl) (by kernel_rfl) (frameCutsUpto_door os _))) ?_
  intro W base args ds gs before hval0 hW _ hcond hz hL _ _
  have hk := hcond _ rfl
  have hval : ∀ (j : Nat) t v, Tryd.f5.params[j]? = some t → args[j]? = some v → Value.okWide Tryd.prog W .any base t v := hval0
  have hW' := hW
  obtain ⟨p, q, hA0, hV, rfl, hfz, hnd⟩ := hW
  have hA : DataW.TrodAll enc Tryd.prog W 0 (fun _ => true) true Tryd.f5.params.toList args.toList ds p := hA0
  rw [Tryd.params5] at hA hval
  obtain ⟨v0, vs0, d0, ds0, p0, q0, hargs, rfl, rfl, h0, r0⟩ := trodAll_cons hA
  obtain ⟨v1, vs1, d1, ds1, p1, q1, rfl, rfl, rfl, h1, r1⟩ := trodAll_cons r0
  obtain ⟨rfl, rfl, rfl⟩ := trodAll_nil r1
  obtain rfl : args = #[v0, v1] := by cases args; simp_all
  obtain ⟨rfl, rfl⟩ := trodVars_none hV
  obtain ⟨X0, e0, g0, s0⟩ := (decB_slice (s := 10) (sz := 128) Tryd.underlying41 (by kernel_rfl) (by decide) (by kernel_rfl) (dec_one dec_rq) rq_one).arg h0 (one_slice Tryd.underlying41 (hval 0 _ v0 rfl rfl)) hz hk (j := 0) rfl rfl
  obtain ⟨X1, e1, g1, s1⟩ := (decB_slice (s := 1) (sz := 8) Tryd.underlying42 (by kernel_rfl) (by decide) (by kernel_rfl) (dec_one (dec_i64 Tryd.underlying3)) (fun _ _ u hu => by rw [List.mem_singleton.1 hu]; rfl)).arg h1 (one_slice Tryd.underlying42 (hval 1 _ v1 rfl rfl)) hz hk (j := 1) rfl rfl
  simp only [List.cons.injEq, and_true] at e0 e1
  subst e0 e1
  refine Calls.mono (cuts_upto W hL X0 g0 s0 X1 g1 s1) fun e W' ⟨v, he, hv, hT⟩ => ?_
  subst he hv
  exact ⟨_, rfl, post_below frameCutsUpto_laidOut hW' rfl (by intro t ht; rw [Tryd.params5] at ht; simp at ht; rcases ht with rfl | rfl <;> exact ⟨by kernel_rfl, of_decide_eq_true (by kernel_rfl)⟩) rfl Tryd.underlying4 rfl (below_old hT)⟩

theorem frameCutsUpto_row : Rows.FrameCutsUptoSaid :=
  OpenClaim.holds_of_cond 5 Tryd.f5 rfl rfl rfl rfl rfl rfl rfl ⟨rfl, rfl, rfl, rfl, rfl⟩ rfl rfl rfl rfl rfl (by kernel_rfl) Tryd.func5 (by kernel_rfl)
    (of_decide_eq_true (by kernel_rfl)) (by unfold Func.isWrapper; first | (rw [if_pos (by decide +kernel)]; kernel_rfl) | (rw [if_neg (by decide +kernel)]; exact ⟨rfl, rfl⟩))
    (fun os started H enc _ F => by rw [OpenClaim.pre_eq_preRow]; exact frameCutsUpto_lifted os started H enc F)

theorem frameCutsUpto_holds : Rows.FrameCutsUptoCardSaid :=
  Claim7.holds_tied_plain_at .later [] _ _ _ _ frameCutsUpto_row (fun _ h => by cases h) (by kernel_rfl) (fun _ h => by cases h) frameCutsUpto_row_tie rfl ⟨rfl, rfl⟩ (by kernel_rfl) rfl
    (fun f fn hf hfn => by
      obtain rfl : f = 5 := Option.some.inj ((show Tryd.prog.funcNamed "undercroft/undercroftlaw23.FrameCuts" = some 5 by kernel_rfl).symm.trans hf) |>.symm
      obtain rfl : fn = Tryd.f5 := (Option.some.inj (Tryd.func5.symm.trans hfn)).symm
      exact ⟨by kernel_rfl, fun j t ht => by
        have hm : t ∈ Tryd.f5.params.toList := by simpa using Array.mem_of_getElem? ht
        have hall : (Tryd.f5.params.toList.all fun u => !Tryd.prog.wantsStandIn u) = true := by kernel_rfl
        exact (show Tryd.prog.wantsStandIn t = false by simpa using List.all_eq_true.1 hall t hm)⟩)
    (by kernel_rfl)

#print axioms frameCutsUpto_holds
end Go.Proofs.YtjhmjdgdgpgcdaaDoor
