/-
  PtrReads, the row and its card: the law returns true for every input and leaves the old memory as it was.
-/
import Derived.Test.YtmghbcaookahaaaDoorRows
import Derived.Test.YtmghbcaookahaaaDoorCards
import Derived.Test.YtmghbcaookahaaaDoorTie
import Derived.Test.YtmghbcaookahaaaDoorPtrL
import Derived.Test.YtmghbcaookahaaaDoorOld
import Derived.Test.YtmghbcaookahaaaDoorEnd
import Derived.LaidMore
import Derived.SevenTiedAt
import Derived.Stop.Joined
namespace Go.Proofs.YtmghbcaookahaaaDoor
open Go.Sl Go.ChangeShapes Go.WideShapes Go.ChangeAt Go.RowKit Go.ChangeMaps

theorem ptrReads_own : ownKnob Tryd.prog.godebug = none := by kernel_rfl
theorem ptrReads_laidOut : laidOutB Tryd.prog = true := by kernel_rfl

/-- The door's own heap meets the condition. -/
theorem ptrReads_door (os : Os) (args : Array Value) : laidMetH Tryd.prog [("undercroft/sum.rounds", Rows.laid_undercroft_sum_rounds)] ((World.doorLaid Tryd.prog 14 os).forCall (fun _ _ => 0) ⟨#[], args, []⟩).memory :=
  laidMetH_of_parts3 (fuel := 8) (laidMet_of_run' 8 (by kernel_rfl) (by kernel_rfl)) (by kernel_rfl) (by kernel_rfl)

set_option maxRecDepth 100000 in
theorem ptrReads_lifted (os : Os) (started : os.Started) (H : Type) (enc : TypeId × Value → H) :
    ReturnsInHanded {} Tryd.checked os 6 .any (fun w args => (Rows.ptrReadsSpec.pre enc Tryd.prog Tryd.f6 [] false w args ∧ laidMetH Tryd.prog [("undercroft/sum.rounds", Rows.laid_undercroft_sum_rounds)] w) ∧ sizedMet enc Tryd.prog Tryd.f6 (OpenSpec.ofChange Rows.ptrReadsSpec) false w args) (Rows.ptrReadsSpec.post enc Tryd.prog Tryd.f6 false true false false) := by
  refine returnsInHanded_of_change_and (C := Tryd.checked) (X := fun w _ => laidMetH Tryd.prog [("undercroft/sum.rounds", Rows.laid_undercroft_sum_rounds)] w) (fun _ _ _ hh h => h.of_heap hh) ptrReads_own started (by kernel_rfl) Tryd.func6
    (ChangeSpec.witness_shaped (enc := enc) (C := Tryd.checked) (os := os) (X := fun w _ => laidMetH Tryd.prog [("undercroft/sum.rounds", Rows.laid_undercroft_sum_rounds)] w) false (World.doorLaid Tryd.prog 14 os) #[.slice none 0 0] 8 rfl (World.shaped_of_RefB (by kernel_rfl) (by kernel_rfl)) (by kernel_rfl) (by kernel_rfl) (by kernel_rfl) (ptrReads_door os _)) ?_
  intro W base args ds gs before hval0 hW _ hz _ _
  have hval : ∀ (j : Nat) t v, Tryd.f6.params[j]? = some t → args[j]? = some v → Value.okWide Tryd.prog W .any base t v := hval0
  have hW' := hW
  obtain ⟨p, q, hA0, hV, rfl, hfz, hnd⟩ := hW
  have hA : DataW.TrodAll enc Tryd.prog W 0 (fun _ => true) true Tryd.f6.params.toList args.toList ds p := hA0
  rw [Tryd.params6] at hA hval
  obtain ⟨v0, vs0, d0, ds0, p0, q0, hargs, rfl, rfl, h0, r0⟩ := trodAll_cons hA
  obtain ⟨rfl, rfl, rfl⟩ := trodAll_nil r0
  obtain rfl : args = #[v0] := by cases args; simp_all
  obtain ⟨rfl, rfl⟩ := trodVars_none hV
  obtain ⟨⟨w0, a0⟩, e0, ad0, c0, x0, y0, z0, k0, g0⟩ := (dec_slice (s := 1) (sz := 1) Tryd.underlying28 (by kernel_rfl) (by decide) (by kernel_rfl) (dec_u8 Tryd.underlying5) (fun _ _ u hu => by rw [List.mem_singleton.1 hu]; rfl)).arg h0 (one_slice Tryd.underlying28 (hval 0 _ v0 rfl rfl)) hz (j := 0) rfl rfl
  simp only [List.cons.injEq, and_true] at e0
  subst e0
  simp only at x0 y0 z0 k0 g0
  rw [flat_byt] at k0
  refine Calls.mono (reads_walk (old W) _ a0 k0 (by omega) ⟨_, _, x0, y0⟩ W (hp_old W)) fun e W' ⟨v, he, hv, hT⟩ => ?_
  subst he hv
  exact ⟨_, rfl, post_below ptrReads_laidOut hW' rfl (by intro t ht; rw [Tryd.params6] at ht; simp at ht; rcases ht with rfl <;> exact ⟨by kernel_rfl, of_decide_eq_true (by kernel_rfl)⟩) rfl Tryd.underlying4 rfl (below_old hT)⟩

theorem ptrReads_row : Rows.PtrReadsSaid :=
  OpenClaim.holds_of_wide 6 Tryd.f6 rfl rfl rfl rfl rfl rfl rfl ⟨rfl, rfl, rfl, rfl, rfl⟩ rfl rfl rfl rfl rfl (by kernel_rfl) Tryd.func6 (by kernel_rfl)
    (of_decide_eq_true (by kernel_rfl)) (by unfold Func.isWrapper; first | (rw [if_pos (by decide +kernel)]; kernel_rfl) | (rw [if_neg (by decide +kernel)]; exact ⟨rfl, rfl⟩))
    (fun os started H enc _ => ptrReads_lifted os started H enc)

theorem ptrReads_holds : Rows.PtrReadsCardSaid :=
  Claim7.holds_tied_plain_at .later [] [.data] true (true, "b0198489a36787f1748066e9b700b74c0b5cd2fa703209f9b59089813e0d5e74") false ptrReads_row (fun _ h => by cases h) (by kernel_rfl) (fun _ h => by cases h) ptrReads_row_tie rfl ⟨rfl, rfl⟩ (by kernel_rfl) rfl
    (fun f fn hf hfn => by
      obtain rfl : f = 6 := Option.some.inj ((show Tryd.prog.funcNamed "undercroft/undercroftlaw04.PtrReads" = some 6 by kernel_rfl).symm.trans hf) |>.symm
      obtain rfl : fn = Tryd.f6 := (Option.some.inj (Tryd.func6.symm.trans hfn)).symm
      exact ⟨by kernel_rfl, fun j t ht => by
        have hm : t ∈ Tryd.f6.params.toList := by simpa using Array.mem_of_getElem? ht
        have hall : (Tryd.f6.params.toList.all fun u => !Tryd.prog.wantsStandIn u) = true := by kernel_rfl
        exact (show Tryd.prog.wantsStandIn t = false by simpa using List.all_eq_true.1 hall t hm)⟩)
    (by kernel_rfl)

#print axioms ptrReads_holds
end Go.Proofs.YtmghbcaookahaaaDoor
