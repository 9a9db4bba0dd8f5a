/-
  ParityKeeps, the row and its card: the law returns true for every input and leaves the old memory as it was.
-/
import Derived.Test.YtpjidiaekifmbaaGreatDoorRows
import Derived.Test.YtpjidiaekifmbaaGreatDoorCards
import Derived.Test.YtpjidiaekifmbaaGreatDoorTie
import Derived.LaidMore
import Derived.SevenTiedAt
import Derived.Stop.Joined
import Derived.Test.YtpjidiaekifmbaaGreatDoorZParityKeeps16
namespace Go.Proofs.YtpjidiaekifmbaaGreatDoor
open Go.Sl Go.ChangeShapes Go.WideShapes Go.ChangeAt Go.RowKit Go.ChangeMaps
theorem parityKeeps_own : ownKnob Tryz.prog.godebug = none := by kernel_rfl
theorem parityKeeps_laidOut : laidOutB Tryz.prog = true := by kernel_rfl
theorem parityKeeps_door (os : Os) (args : Array Value) : laidMetH Tryz.prog [("undercroft/undercroftref02.first", Rows.laid_undercroft_undercroftref02_first), ("undercroft/undercroftref02.rounds", Rows.laid_undercroft_undercroftref02_rounds), ("undercroft/sum.rounds", Rows.laid_undercroft_sum_rounds)] ((World.doorLaid Tryz.prog 24 os).forCall (fun _ _ => 0) ⟨#[], args, []⟩).memory :=
 laidMetH_of_parts3 (fuel := 8) (laidMet_of_run' 8 yZ yZ) yZ yZ
set_option maxRecDepth 100000 in
theorem parityKeeps_lifted (os : Os) (started : os.Started) (H : Type) (enc : TypeId × Value → H) :
  ReturnsInHanded {} Tryz.checked os 3 .any (fun w args => (Rows.parityKeepsSpec.pre enc Tryz.prog Tryz.f3 [] false w args ∧ laidMetH Tryz.prog [("undercroft/undercroftref02.first", Rows.laid_undercroft_undercroftref02_first), ("undercroft/undercroftref02.rounds", Rows.laid_undercroft_undercroftref02_rounds), ("undercroft/sum.rounds", Rows.laid_undercroft_sum_rounds)] w) ∧ sizedMet enc Tryz.prog Tryz.f3 (OpenSpec.ofChange Rows.parityKeepsSpec) false w args) (Rows.parityKeepsSpec.post enc Tryz.prog Tryz.f3 false true false false) := by
 refine returnsInHanded_of_change_and (C := Tryz.checked) (X := fun w _ => laidMetH Tryz.prog [("undercroft/undercroftref02.first", Rows.laid_undercroft_undercroftref02_first), ("undercroft/undercroftref02.rounds", Rows.laid_undercroft_undercroftref02_rounds), ("undercroft/sum.rounds", Rows.laid_undercroft_sum_rounds)] w) (fun _ _ _ hh h => h.of_heap hh) parityKeeps_own started yZ Tryz.func3
  (ChangeSpec.witness_shaped (enc := enc) (C := Tryz.checked) (os := os) (X := fun w _ => laidMetH Tryz.prog [("undercroft/undercroftref02.first", Rows.laid_undercroft_undercroftref02_first), ("undercroft/undercroftref02.rounds", Rows.laid_undercroft_undercroftref02_rounds), ("undercroft/sum.rounds", Rows.laid_undercroft_sum_rounds)] w) false (World.doorLaid Tryz.prog 24 os) #[.int .i64 0, .int .i64 0, .int .i64 0, .int .i64 0, .slice none 0 0, .int .i64 0, .slice none 0 0, .bool false] 8 rfl (World.shaped_of_RefB yZ yZ) yZ yZ yZ (parityKeeps_door os _)) ?_
 intro W base args ds gs before hval0 hW _ hz hL _
 have hval : ∀ (j : Nat) t v, Tryz.f3.params[j]? = some t → args[j]? = some v → Value.okWide Tryz.prog W .any base t v := hval0
 have hW' := hW
 obtain ⟨p, q, hA0, hV, rfl, hfz, hnd⟩ := hW
 have hA : DataW.TrodAll enc Tryz.prog W 0 (fun _ => true) true Tryz.f3.params.toList args.toList ds p := hA0
 rw [Tryz.params3] at hA hval
 obtain ⟨v0, vs0, d0, ds0, p0, q0, hargs, rfl, rfl, h0, r0⟩ := trodAll_cons hA
 obtain ⟨v1, vs1, d1, ds1, p1, q1, rfl, rfl, rfl, h1, r1⟩ := trodAll_cons r0
 obtain ⟨v2, vs2, d2, ds2, p2, q2, rfl, rfl, rfl, h2, r2⟩ := trodAll_cons r1
 obtain ⟨v3, vs3, d3, ds3, p3, q3, rfl, rfl, rfl, h3, r3⟩ := trodAll_cons r2
 obtain ⟨v4, vs4, d4, ds4, p4, q4, rfl, rfl, rfl, h4, r4⟩ := trodAll_cons r3
 obtain ⟨v5, vs5, d5, ds5, p5, q5, rfl, rfl, rfl, h5, r5⟩ := trodAll_cons r4
 obtain ⟨v6, vs6, d6, ds6, p6, q6, rfl, rfl, rfl, h6, r6⟩ := trodAll_cons r5
 obtain ⟨v7, vs7, d7, ds7, p7, q7, rfl, rfl, rfl, h7, r7⟩ := trodAll_cons r6
 obtain ⟨rfl, rfl, rfl⟩ := trodAll_nil r7
 obtain rfl : args = #[v0, v1, v2, v3, v4, v5, v6, v7] := by cases args; simp_all
 obtain ⟨rfl, rfl⟩ := trodVars_none hV
 obtain ⟨a0, e0, g0⟩ := (dec_i64 Tryz.underlying3).arg h0 (one_int Tryz.underlying3 (hval 0 _ v0 rfl rfl)) hz (j := 0) rfl rfl
 obtain ⟨a1, e1, g1⟩ := (dec_i64 Tryz.underlying3).arg h1 (one_int Tryz.underlying3 (hval 1 _ v1 rfl rfl)) hz (j := 1) rfl rfl
 obtain ⟨a2, e2, g2⟩ := (dec_i64 Tryz.underlying3).arg h2 (one_int Tryz.underlying3 (hval 2 _ v2 rfl rfl)) hz (j := 2) rfl rfl
 obtain ⟨a3, e3, g3⟩ := (dec_i64 Tryz.underlying3).arg h3 (one_int Tryz.underlying3 (hval 3 _ v3 rfl rfl)) hz (j := 3) rfl rfl
 obtain ⟨⟨w4, a4⟩, e4, ad4, c4, x4, y4, z4, k4, g4⟩ := (dec_slice (s := 1) (sz := 1) Tryz.underlying22 yZ dZ yZ (dec_u8 Tryz.underlying5) (fun _ _ u hu => by rw [List.mem_singleton.1 hu]; rfl)).arg h4 (one_slice Tryz.underlying22 (hval 4 _ v4 rfl rfl)) hz (j := 4) rfl rfl
 obtain ⟨a5, e5, g5⟩ := (dec_i64 Tryz.underlying3).arg h5 (one_int Tryz.underlying3 (hval 5 _ v5 rfl rfl)) hz (j := 5) rfl rfl
 obtain ⟨⟨w6, a6⟩, e6, ad6, c6, x6, y6, z6, k6, g6⟩ := (dec_slice (s := 1) (sz := 1) Tryz.underlying22 yZ dZ yZ (dec_u8 Tryz.underlying5) (fun _ _ u hu => by rw [List.mem_singleton.1 hu]; rfl)).arg h6 (one_slice Tryz.underlying22 (hval 6 _ v6 rfl rfl)) hz (j := 6) rfl rfl
 obtain ⟨a7, e7, g7⟩ := (dec_bool Tryz.underlying4).arg h7 (one_bool Tryz.underlying4 (hval 7 _ v7 rfl rfl)) hz (j := 7) rfl rfl
 simp only [List.cons.injEq, and_true] at e0 e1 e2 e3 e4 e5 e6 e7
 subst e0 e1 e2 e3 e4 e5 e6 e7
 simp only at x4 y4 z4 k4 g4
 rw [flat_byt] at k4
 simp only at x6 y6 z6 k6 g6
 rw [flat_byt] at k6
 refine Calls.mono (keeps7_row W (laid3 hL) a0 g0 a1 g1 a2 g2 a3 g3 _ a4 k4 oZ a5 g5 _ a6 k6 oZ a7 W (hp_old W)) fun e W' ⟨v, he, hv, hT⟩ => ?_
 subst he hv
 exact ⟨_, rfl, post_below parityKeeps_laidOut hW' rfl (by intro t ht; rw [Tryz.params3] at ht; simp at ht; rcases ht with rfl | rfl | rfl | rfl | rfl | rfl | rfl | rfl <;> exact ⟨by kernel_rfl, of_decide_eq_true yZ⟩) rfl Tryz.underlying4 rfl (below_old hT)⟩
theorem parityKeeps_row : Rows.ParityKeepsSaid :=
 OpenClaim.holds_of_wide 3 Tryz.f3 rfl rfl rfl rfl rfl rfl rfl ⟨rfl, rfl, rfl, rfl, rfl⟩ rfl rfl rfl rfl rfl yZ Tryz.func3 yZ
  (of_decide_eq_true yZ) (by unfold Func.isWrapper; first | (rw [if_pos (by decide +kernel)]; kernel_rfl) | (rw [if_neg (by decide +kernel)]; exact ⟨rfl, rfl⟩))
  (fun os started H enc _ => parityKeeps_lifted os started H enc)
theorem parityKeeps_holds : Rows.ParityKeepsCardSaid :=
 Claim7.holds_tied_plain_at .later [] [.data, .data, .data] true (true, "28e8b3c98e59c4857baceb4a9b77fc0116defaf95f3c2f3a8d0d7ee20d472391") false parityKeeps_row (fun _ h => by cases h) yZ (fun _ h => by cases h) parityKeeps_row_tie rfl ⟨rfl, rfl⟩ yZ rfl
  (fun f fn hf hfn => by
   obtain rfl : f = 3 := Option.some.inj ((show Tryz.prog.funcNamed "undercroft/undercroftlaw07.ParityKeeps" = some 3 by kernel_rfl).symm.trans hf) |>.symm
   obtain rfl : fn = Tryz.f3 := (Option.some.inj (Tryz.func3.symm.trans hfn)).symm
   exact ⟨by kernel_rfl, fun j t ht => by
    have hm : t ∈ Tryz.f3.params.toList := by simpa using Array.mem_of_getElem? ht
    have hall : (Tryz.f3.params.toList.all fun u => !Tryz.prog.wantsStandIn u) = true := by kernel_rfl
    exact (show Tryz.prog.wantsStandIn t = false by simpa using List.all_eq_true.1 hall t hm)⟩)
  yZ
#print axioms parityKeeps_holds
end Go.Proofs.YtpjidiaekifmbaaGreatDoor
