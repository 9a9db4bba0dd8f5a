/-
  RecordReads, the row and its card: the law returns true for every input and leaves the old memory as it was.
-/
import Derived.Test.YtbogecljkaimdaaGreatDoorRows
import Derived.Test.YtbogecljkaimdaaGreatDoorCards
import Derived.Test.YtbogecljkaimdaaGreatDoorTie
import Derived.LaidMore
import Derived.Lay
import Derived.SevenTiedAt
import Derived.Stop.Joined
import Derived.Test.YtbogecljkaimdaaGreatDoorZRecordReadsW12
namespace Go.Proofs.YtbogecljkaimdaaGreatDoor
open Go.Sl Go.ChangeShapes Go.WideShapes Go.ChangeAt Go.RowKit Go.ChangeMaps
theorem recordReads_own : ownKnob Tryz.prog.godebug = none := by kernel_rfl
theorem recordReads_laidOut : laidOutB Tryz.prog = true := by kernel_rfl
theorem recordReads_door (os : Os) (args : Array Value) : laidMetH Tryz.prog Rows.recordReadsRow.laid ((World.laidAll Tryz.prog os Rows.recordReadsRow.laid).forCall (fun _ _ => 0) ⟨#[], args, []⟩).memory := by
 rw [MakeChecks.laidMetH_plain _ _ _ yZ]; exact laidMet_laidAll _ yZ yZ
set_option maxRecDepth 100000 in
theorem recordReads_lifted (os : Os) (started : os.Started) (H : Type) (enc : TypeId × Value → H) :
  ReturnsInHanded {} Tryz.checked os 4 .any (fun w args => (Rows.recordReadsSpec.pre enc Tryz.prog Tryz.f4 [] false w args ∧ laidMetH Tryz.prog [("undercroft/undercroftref02.first", Rows.laid_undercroft_undercroftref02_first), ("undercroft/undercroftref02.rounds", Rows.laid_undercroft_undercroftref02_rounds), ("unicode/utf8.acceptRanges", Rows.laid_unicode_utf8_acceptRanges), ("undercroft/sum.rounds", Rows.laid_undercroft_sum_rounds), ("unicode/utf8.first", Rows.laid_unicode_utf8_first)] w) ∧ sizedMet enc Tryz.prog Tryz.f4 (OpenSpec.ofChange Rows.recordReadsSpec) false w args) (Rows.recordReadsSpec.post enc Tryz.prog Tryz.f4 false true false false) := by
 refine returnsInHanded_of_change_and (C := Tryz.checked) (X := fun w _ => laidMetH Tryz.prog [("undercroft/undercroftref02.first", Rows.laid_undercroft_undercroftref02_first), ("undercroft/undercroftref02.rounds", Rows.laid_undercroft_undercroftref02_rounds), ("unicode/utf8.acceptRanges", Rows.laid_unicode_utf8_acceptRanges), ("undercroft/sum.rounds", Rows.laid_undercroft_sum_rounds), ("unicode/utf8.first", Rows.laid_unicode_utf8_first)] w) (fun _ _ _ hh h => h.of_heap hh) recordReads_own started yZ Tryz.func4
  (ChangeSpec.witness_shaped (enc := enc) (C := Tryz.checked) (os := os) (X := fun w _ => laidMetH Tryz.prog [("undercroft/undercroftref02.first", Rows.laid_undercroft_undercroftref02_first), ("undercroft/undercroftref02.rounds", Rows.laid_undercroft_undercroftref02_rounds), ("unicode/utf8.acceptRanges", Rows.laid_unicode_utf8_acceptRanges), ("undercroft/sum.rounds", Rows.laid_undercroft_sum_rounds), ("unicode/utf8.first", Rows.laid_unicode_utf8_first)] w) false (World.laidAll Tryz.prog os Rows.recordReadsRow.laid) #[.slice none 0 0, .agg #[.int .u64 0, .int .u64 0, .int .u64 0, .int .u64 0], .int .i64 0] 8 (World.laidAll_os _ _ _) (World.shaped_of_ZipB yZ yZ) yZ yZ yZ (recordReads_door os _)) ?_
 intro W base args ds gs before hval0 hW _ hz hL _
 have hval : ∀ (j : Nat) t v, Tryz.f4.params[j]? = some t → args[j]? = some v → Value.okWide Tryz.prog W .any base t v := hval0
 have hW' := hW
 obtain ⟨p, q, hA0, hV, rfl, hfz, hnd⟩ := hW
 have hA : DataW.TrodAll enc Tryz.prog W 0 (fun _ => true) true Tryz.f4.params.toList args.toList ds p := hA0
 rw [Tryz.params4] at hA hval
 obtain ⟨v0, vs0, d0, ds0, p0, q0, hargs, rfl, rfl, h0, r0⟩ := trodAll_cons hA
 obtain ⟨v1, vs1, d1, ds1, p1, q1, rfl, rfl, rfl, h1, r1⟩ := trodAll_cons r0
 obtain ⟨v2, vs2, d2, ds2, p2, q2, rfl, rfl, rfl, h2, r2⟩ := trodAll_cons r1
 obtain ⟨rfl, rfl, rfl⟩ := trodAll_nil r2
 obtain rfl : args = #[v0, v1, v2] := by cases args; simp_all
 obtain ⟨rfl, rfl⟩ := trodVars_none hV
 obtain ⟨⟨w0, a0⟩, e0, ad0, c0, x0, y0, z0, k0, g0⟩ := (dec_slice (s := 1) (sz := 1) Tryz.underlying24 yZ dZ yZ (dec_u8 Tryz.underlying5) (fun _ _ u hu => by rw [List.mem_singleton.1 hu]; rfl)).arg h0 (one_slice Tryz.underlying24 (hval 0 _ v0 rfl rfl)) hz (j := 0) rfl rfl
 obtain ⟨cs1, rfl, hcs1⟩ := okWide_struct Tryz.underlying29 (hval 1 _ v1 rfl rfl)
 obtain ⟨a1, rfl, g1⟩ := (dec_sum (enc := enc)).argN h1 (hcs1.trans yZ) hz (j := 1) rfl rfl
 obtain ⟨a2, e2, g2⟩ := (dec_i64 Tryz.underlying3).arg h2 (one_int Tryz.underlying3 (hval 2 _ v2 rfl rfl)) hz (j := 2) rfl rfl
 simp only [List.cons.injEq, and_true] at e0 e2
 subst e0 e2
 simp only at x0 y0 z0 k0 g0
 rw [flat_byt] at k0
 refine Calls.mono (reads_row W (laid4 hL) _ a0 k0 oZ ⟨_, _, x0, y0⟩ a1 g1 a2 g2 W (hp_old W)) fun e W' ⟨v, he, hv, hT⟩ => ?_
 subst he hv
 exact ⟨_, rfl, post_below recordReads_laidOut hW' rfl (by intro t ht; rw [Tryz.params4] at ht; simp at ht; rcases ht with rfl | rfl | rfl <;> exact ⟨by kernel_rfl, of_decide_eq_true yZ⟩) rfl Tryz.underlying4 rfl (below_old hT)⟩
theorem recordReads_row : Rows.RecordReadsSaid :=
 OpenClaim.holds_of_wide 4 Tryz.f4 rfl rfl rfl rfl rfl rfl rfl ⟨rfl, rfl, rfl, rfl, rfl⟩ rfl rfl rfl rfl rfl yZ Tryz.func4 yZ
  (of_decide_eq_true yZ) (by unfold Func.isWrapper; first | (rw [if_pos (by decide +kernel)]; kernel_rfl) | (rw [if_neg (by decide +kernel)]; exact ⟨rfl, rfl⟩))
  (fun os started H enc _ => recordReads_lifted os started H enc)
theorem recordReads_holds : Rows.RecordReadsCardSaid :=
 Claim7.holds_tied_plain_at .later [] [.data, .data, .data, .data, .pinned] true (true, "fc4d034265d2cc0540c7b670c4835906d719cd5834292f37869f4a0effbf3c66") false recordReads_row (fun _ h => by cases h) yZ (fun _ h => by cases h) recordReads_row_tie rfl ⟨rfl, rfl⟩ yZ rfl
  (fun f fn hf hfn => by
   obtain rfl : f = 4 := Option.some.inj ((show Tryz.prog.funcNamed "undercroft/undercroftlaw20.RecordReads" = some 4 by kernel_rfl).symm.trans hf) |>.symm
   obtain rfl : fn = Tryz.f4 := (Option.some.inj (Tryz.func4.symm.trans hfn)).symm
   exact ⟨by kernel_rfl, fun j t ht => by
    have hm : t ∈ Tryz.f4.params.toList := by simpa using Array.mem_of_getElem? ht
    have hall : (Tryz.f4.params.toList.all fun u => !Tryz.prog.wantsStandIn u) = true := by kernel_rfl
    exact (show Tryz.prog.wantsStandIn t = false by simpa using List.all_eq_true.1 hall t hm)⟩)
  yZ
#print axioms recordReads_holds
end Go.Proofs.YtbogecljkaimdaaGreatDoor
