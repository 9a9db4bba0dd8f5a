/-
  RecordChain, the second form: row and card: where what it reads is small, the law returns true and leaves the old memory as it was.
-/
import Derived.Test.YtbogecljkaimdaaGreatDoorCards
import Derived.Test.YtbogecljkaimdaaGreatDoorTie
import Derived.Deep.DeepHandedRow
import Derived.LaidMore
import Derived.Lay
import Derived.SevenTiedAt
import Derived.Test.YtbogecljkaimdaaGreatDoorZRecordChain18
namespace Go.Proofs.YtbogecljkaimdaaGreatDoor
open Go.Sl Go.ChangeShapes Go.WideShapes Go.ChangeAt Go.RowKit Go.ChangeMaps
theorem recordChainUpto_own : ownKnob Tryz.prog.godebug = none := by kernel_rfl
theorem recordChainUpto_laidOut : laidOutB Tryz.prog = true := by kernel_rfl
theorem recordChainUpto_door (os : Os) (args : Array Value) : laidMetH Tryz.prog Rows.recordChainUptoRow.laid ((World.laidAll Tryz.prog os Rows.recordChainUptoRow.laid).forCall (fun _ _ => 0) ⟨#[], args, []⟩).memory := by
  rw [MakeChecks.laidMetH_plain _ _ _ (by kernel_rfl)]; exact laidMet_laidAll _ (by kernel_rfl) (by kernel_rfl)
set_option maxRecDepth 100000 in
theorem recordChainUpto_lifted (os : Os) (started : os.Started) (H : Type) (enc : TypeId × Value → H) (F : Stop.Interp) :
    ReturnsInHanded {} Tryz.checked os 6 .any ((Rows.OpenSpec.upto Rows.recordChainSpec).preRow enc Tryz.prog Tryz.f6 Rows.recordChainUptoRow.domain false Rows.recordChainUptoRow.laid) (((Rows.OpenSpec.upto Rows.recordChainSpec).at F).post enc Tryz.prog Tryz.f6 false true false false) := by
  refine returnsInHanded_of_row (C := Tryz.checked) (s := Rows.OpenSpec.upto Rows.recordChainSpec) recordChainUpto_own started (by kernel_rfl) Tryz.func6
    (witness_row_zip (enc := enc) (C := Tryz.checked) false (World.laidAll Tryz.prog os Rows.recordChainUptoRow.laid) #[.slice none 0 0, .int .i64 0, .int .i64 0] (World.laidAll_os _ _ _) (World.shaped_of_ZipB (by kernel_rfl) (by kernel_rfl)) (by kernel_rfl)
      (OpenSpec.preRow_of_cond 8 (x := ([.nil, .lit (.int .i64 0), .lit (.int .i64 0)], [], [])) (by kernel_rfl) (by kernel_rfl) (fun k hk => by cases hk; kernel_rfl) (by kernel_rfl) (recordChainUpto_door os _))) ?_
  intro W base args ds gs before hval0 hW _ hcond hz hL _ _
  have hk := hcond _ rfl
  have hval : ∀ (j : Nat) t v, Tryz.f6.params[j]? = some t → args[j]? = some v → Value.okWide Tryz.prog W .any base t v := hval0
  have hW' := hW
  obtain ⟨p, q, hA0, hV, rfl, hfz, hnd⟩ := hW
  have hA : DataW.TrodAll enc Tryz.prog W 0 (fun _ => true) true Tryz.f6.params.toList args.toList ds p := hA0
  rw [Tryz.params6] at hA hval
  obtain ⟨v0, vs0, d0, ds0, p0, q0, hargs, rfl, rfl, h0, r0⟩ := trodAll_cons hA
  obtain ⟨v1, vs1, d1, ds1, p1, q1, rfl, rfl, rfl, h1, r1⟩ := trodAll_cons r0
  obtain ⟨v2, vs2, d2, ds2, p2, q2, rfl, rfl, rfl, h2, r2⟩ := trodAll_cons r1
  obtain ⟨rfl, rfl, rfl⟩ := trodAll_nil r2
  obtain rfl : args = #[v0, v1, v2] := by cases args; simp_all
  obtain ⟨rfl, rfl⟩ := trodVars_none hV
  obtain ⟨X0, e0, g0, s0⟩ := ((decB_slice (s := 13) (sz := 168) Tryz.underlying46 (by kernel_rfl) (by decide) (by kernel_rfl) decB_rec rv_one)).arg h0 (one_slice Tryz.underlying46 (hval 0 _ v0 rfl rfl)) hz hk (j := 0) rfl rfl
  obtain ⟨X1, e1, g1, s1⟩ := ((dec_one (dec_i64 Tryz.underlying3))).arg h1 (one_int Tryz.underlying3 (hval 1 _ v1 rfl rfl)) hz hk (j := 1) rfl rfl
  obtain ⟨X2, e2, g2, s2⟩ := ((dec_one (dec_i64 Tryz.underlying3))).arg h2 (one_int Tryz.underlying3 (hval 2 _ v2 rfl rfl)) hz hk (j := 2) rfl rfl
  simp only [List.cons.injEq, and_true] at e0 e1 e2
  subst e0 e1 e2
  refine Calls.mono (chain_upto W hL X0 g0 s0 X1 g1 s1 X2 g2 s2) fun e W' ⟨v, he, hv, hT⟩ => ?_
  subst he hv
  exact ⟨_, rfl, post_below recordChainUpto_laidOut hW' rfl (by intro t ht; rw [Tryz.params6] at ht; simp at ht; rcases ht with rfl | rfl | rfl <;> exact ⟨by kernel_rfl, of_decide_eq_true (by kernel_rfl)⟩) rfl Tryz.underlying4 rfl (below_old hT)⟩
theorem recordChainUpto_row : Rows.RecordChainUptoSaid :=
  OpenClaim.holds_of_cond 6 Tryz.f6 rfl rfl rfl rfl rfl rfl rfl ⟨rfl, rfl, rfl, rfl, rfl⟩ rfl rfl rfl rfl rfl (by kernel_rfl) Tryz.func6 (by kernel_rfl)
    (of_decide_eq_true (by kernel_rfl)) (by unfold Func.isWrapper; first | (rw [if_pos (by decide +kernel)]; kernel_rfl) | (rw [if_neg (by decide +kernel)]; exact ⟨rfl, rfl⟩))
    (fun os started H enc _ F => by rw [OpenClaim.pre_eq_preRow]; exact recordChainUpto_lifted os started H enc F)
theorem recordChainUpto_holds : Rows.RecordChainUptoCardSaid :=
  Claim7.holds_tied_plain_at .later [] _ _ _ _ recordChainUpto_row (fun _ h => by cases h) (by kernel_rfl) (fun _ h => by cases h) recordChainUpto_row_tie rfl ⟨rfl, rfl⟩ (by kernel_rfl) rfl
    (fun f fn hf hfn => by
      obtain rfl : f = 6 := Option.some.inj ((show Tryz.prog.funcNamed "undercroft/undercroftlaw20.RecordChain" = some 6 by kernel_rfl).symm.trans hf) |>.symm
      obtain rfl : fn = Tryz.f6 := (Option.some.inj (Tryz.func6.symm.trans hfn)).symm
      exact ⟨by kernel_rfl, fun j t ht => by
        have hm : t ∈ Tryz.f6.params.toList := by simpa using Array.mem_of_getElem? ht
        have hall : (Tryz.f6.params.toList.all fun u => !Tryz.prog.wantsStandIn u) = true := by kernel_rfl
        exact (show Tryz.prog.wantsStandIn t = false by simpa using List.all_eq_true.1 hall t hm)⟩)
    (by kernel_rfl)
#print axioms recordChainUpto_holds
end Go.Proofs.YtbogecljkaimdaaGreatDoor
