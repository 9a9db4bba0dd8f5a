/-
  RecordBack, the second form: row and card: where what it reads is small, the law returns true and leaves the old memory as it was.
-/
import Derived.Test.YtbogecljkaimdaaGreatDoorCards
import Derived.Test.YtbogecljkaimdaaGreatDoorTie
import Derived.Deep.DeepHandedRow
import Derived.LaidMore
import Derived.Lay
import Derived.SevenTiedAt
import Derived.Test.YtbogecljkaimdaaGreatDoorZRecordBack12
namespace Go.Proofs.YtbogecljkaimdaaGreatDoor
open Go.Sl Go.ChangeShapes Go.WideShapes Go.ChangeAt Go.RowKit Go.ChangeMaps
theorem recordBackUpto_own : ownKnob Tryz.prog.godebug = none := by kernel_rfl
theorem recordBackUpto_laidOut : laidOutB Tryz.prog = true := by kernel_rfl
theorem recordBackUpto_door (os : Os) (args : Array Value) : laidMetH Tryz.prog Rows.recordBackUptoRow.laid ((World.laidAll Tryz.prog os Rows.recordBackUptoRow.laid).forCall (fun _ _ => 0) ⟨#[], args, []⟩).memory := by
  rw [MakeChecks.laidMetH_plain _ _ _ (by kernel_rfl)]; exact laidMet_laidAll _ (by kernel_rfl) (by kernel_rfl)
set_option maxRecDepth 100000 in
theorem recordBackUpto_lifted (os : Os) (started : os.Started) (H : Type) (enc : TypeId × Value → H) (F : Stop.Interp) :
    ReturnsInHanded {} Tryz.checked os 8 .any ((Rows.OpenSpec.upto Rows.recordBackSpec).preRow enc Tryz.prog Tryz.f8 Rows.recordBackUptoRow.domain false Rows.recordBackUptoRow.laid) (((Rows.OpenSpec.upto Rows.recordBackSpec).at F).post enc Tryz.prog Tryz.f8 false true false false) := by
  refine returnsInHanded_of_row (C := Tryz.checked) (s := Rows.OpenSpec.upto Rows.recordBackSpec) recordBackUpto_own started (by kernel_rfl) Tryz.func8
    (witness_row_zip (enc := enc) (C := Tryz.checked) false (World.laidAll Tryz.prog os Rows.recordBackUptoRow.laid) #[.slice none 0 0, .slice none 0 0] (World.laidAll_os _ _ _) (World.shaped_of_ZipB (by kernel_rfl) (by kernel_rfl)) (by kernel_rfl)
      (OpenSpec.preRow_of_cond 8 (x := ([.nil, .nil], [], [])) (by kernel_rfl) (by kernel_rfl) (fun k hk => by cases hk; kernel_rfl) (by kernel_rfl) (recordBackUpto_door os _))) ?_
  intro W base args ds gs before hval0 hW _ hcond hz hL _ _
  have hk := hcond _ rfl
  have hval : ∀ (j : Nat) t v, Tryz.f8.params[j]? = some t → args[j]? = some v → Value.okWide Tryz.prog W .any base t v := hval0
  have hW' := hW
  obtain ⟨p, q, hA0, hV, rfl, hfz, hnd⟩ := hW
  have hA : DataW.TrodAll enc Tryz.prog W 0 (fun _ => true) true Tryz.f8.params.toList args.toList ds p := hA0
  rw [Tryz.params8] at hA hval
  obtain ⟨v0, vs0, d0, ds0, p0, q0, hargs, rfl, rfl, h0, r0⟩ := trodAll_cons hA
  obtain ⟨v1, vs1, d1, ds1, p1, q1, rfl, rfl, rfl, h1, r1⟩ := trodAll_cons r0
  obtain ⟨rfl, rfl, rfl⟩ := trodAll_nil r1
  obtain rfl : args = #[v0, v1] := by cases args; simp_all
  obtain ⟨rfl, rfl⟩ := trodVars_none hV
  obtain ⟨X0, e0, g0, s0⟩ := ((decB_slice (s := 13) (sz := 168) Tryz.underlying46 (by kernel_rfl) (by decide) (by kernel_rfl) decB_rec rv_one)).arg h0 (one_slice Tryz.underlying46 (hval 0 _ v0 rfl rfl)) hz hk (j := 0) rfl rfl
  obtain ⟨X1, e1, g1, s1⟩ := ((decB_slice (s := 1) (sz := 1) Tryz.underlying24 (by kernel_rfl) (by decide) (by kernel_rfl) (dec_one (dec_u8 Tryz.underlying5)) (fun _ _ u hu => by rw [List.mem_singleton.1 hu]; rfl))).arg h1 (one_slice Tryz.underlying24 (hval 1 _ v1 rfl rfl)) hz hk (j := 1) rfl rfl
  simp only [List.cons.injEq, and_true] at e0 e1
  subst e0 e1
  refine Calls.mono (back_upto W hL X0 g0 s0 X1 g1 s1) fun e W' ⟨v, he, hv, hT⟩ => ?_
  subst he hv
  exact ⟨_, rfl, post_below recordBackUpto_laidOut hW' rfl (by intro t ht; rw [Tryz.params8] at ht; simp at ht; rcases ht with rfl | rfl <;> exact ⟨by kernel_rfl, of_decide_eq_true (by kernel_rfl)⟩) rfl Tryz.underlying4 rfl (below_old hT)⟩
theorem recordBackUpto_row : Rows.RecordBackUptoSaid :=
  OpenClaim.holds_of_cond 8 Tryz.f8 rfl rfl rfl rfl rfl rfl rfl ⟨rfl, rfl, rfl, rfl, rfl⟩ rfl rfl rfl rfl rfl (by kernel_rfl) Tryz.func8 (by kernel_rfl)
    (of_decide_eq_true (by kernel_rfl)) (by unfold Func.isWrapper; first | (rw [if_pos (by decide +kernel)]; kernel_rfl) | (rw [if_neg (by decide +kernel)]; exact ⟨rfl, rfl⟩))
    (fun os started H enc _ F => by rw [OpenClaim.pre_eq_preRow]; exact recordBackUpto_lifted os started H enc F)
theorem recordBackUpto_holds : Rows.RecordBackUptoCardSaid :=
  Claim7.holds_tied_plain_at .later [] _ _ _ _ recordBackUpto_row (fun _ h => by cases h) (by kernel_rfl) (fun _ h => by cases h) recordBackUpto_row_tie rfl ⟨rfl, rfl⟩ (by kernel_rfl) rfl
    (fun f fn hf hfn => by
      obtain rfl : f = 8 := Option.some.inj ((show Tryz.prog.funcNamed "undercroft/undercroftlaw20.RecordBack" = some 8 by kernel_rfl).symm.trans hf) |>.symm
      obtain rfl : fn = Tryz.f8 := (Option.some.inj (Tryz.func8.symm.trans hfn)).symm
      exact ⟨by kernel_rfl, fun j t ht => by
        have hm : t ∈ Tryz.f8.params.toList := by simpa using Array.mem_of_getElem? ht
        have hall : (Tryz.f8.params.toList.all fun u => !Tryz.prog.wantsStandIn u) = true := by kernel_rfl
        exact (show Tryz.prog.wantsStandIn t = false by simpa using List.all_eq_true.1 hall t hm)⟩)
    (by kernel_rfl)
#print axioms recordBackUpto_holds
end Go.Proofs.YtbogecljkaimdaaGreatDoor
