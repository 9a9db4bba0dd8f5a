/-
  ParityRows, the row and its card: the law returns true for every input and leaves the old memory as it was.
-/
import Derived.Test.YtpjidiaekifmbaaGreatDoorRows
import Derived.Test.YtpjidiaekifmbaaGreatDoorCards
import Derived.Test.YtpjidiaekifmbaaGreatDoorTie
import Derived.LaidMore
import Derived.SevenTiedAt
import Derived.Stop.Joined
import Derived.Test.YtpjidiaekifmbaaGreatDoorZParityRows15
namespace Go.Proofs.YtpjidiaekifmbaaGreatDoor
open Go.Sl Go.ChangeShapes Go.WideShapes Go.ChangeAt Go.RowKit Go.ChangeMaps
theorem parityRows_own : ownKnob Tryz.prog.godebug = none := by kernel_rfl
theorem parityRows_laidOut : laidOutB Tryz.prog = true := by kernel_rfl
theorem parityRows_door (os : Os) (args : Array Value) : laidMetH Tryz.prog [("undercroft/undercroftref02.first", Rows.laid_undercroft_undercroftref02_first), ("undercroft/undercroftref02.rounds", Rows.laid_undercroft_undercroftref02_rounds), ("undercroft/sum.rounds", Rows.laid_undercroft_sum_rounds)] ((World.doorLaid Tryz.prog 24 os).forCall (fun _ _ => 0) ⟨#[], args, []⟩).memory :=
 laidMetH_of_parts3 (fuel := 8) (laidMet_of_run' 8 yZ yZ) yZ yZ
set_option maxRecDepth 100000 in
theorem parityRows_lifted (os : Os) (started : os.Started) (H : Type) (enc : TypeId × Value → H) :
  ReturnsInHanded {} Tryz.checked os 4 .any (fun w args => (Rows.parityRowsSpec.pre enc Tryz.prog Tryz.f4 [] false w args ∧ laidMetH Tryz.prog [("undercroft/undercroftref02.first", Rows.laid_undercroft_undercroftref02_first), ("undercroft/undercroftref02.rounds", Rows.laid_undercroft_undercroftref02_rounds), ("undercroft/sum.rounds", Rows.laid_undercroft_sum_rounds)] w) ∧ sizedMet enc Tryz.prog Tryz.f4 (OpenSpec.ofChange Rows.parityRowsSpec) false w args) (Rows.parityRowsSpec.post enc Tryz.prog Tryz.f4 false true false false) := by
 refine returnsInHanded_of_change_and (C := Tryz.checked) (X := fun w _ => laidMetH Tryz.prog [("undercroft/undercroftref02.first", Rows.laid_undercroft_undercroftref02_first), ("undercroft/undercroftref02.rounds", Rows.laid_undercroft_undercroftref02_rounds), ("undercroft/sum.rounds", Rows.laid_undercroft_sum_rounds)] w) (fun _ _ _ hh h => h.of_heap hh) parityRows_own started yZ Tryz.func4
  (ChangeSpec.witness_shaped (enc := enc) (C := Tryz.checked) (os := os) (X := fun w _ => laidMetH Tryz.prog [("undercroft/undercroftref02.first", Rows.laid_undercroft_undercroftref02_first), ("undercroft/undercroftref02.rounds", Rows.laid_undercroft_undercroftref02_rounds), ("undercroft/sum.rounds", Rows.laid_undercroft_sum_rounds)] w) false (World.doorLaid Tryz.prog 24 os) #[.int .i64 0, .int .i64 0, .slice none 0 0] 8 rfl (World.shaped_of_RefB yZ yZ) yZ yZ yZ (parityRows_door os _)) ?_
 intro W base args ds gs before hval0 hW _ hz hL _
 have hval : ∀ (j : Nat) t v, Tryz.f4.params[j]? = some t → args[j]? = some v → Value.okWide Tryz.prog W .any base t v := hval0
 have hW' := hW
 obtain ⟨p, q, hA0, hV, rfl, hfz, hnd⟩ := hW
 have hA : DataW.TrodAll enc Tryz.prog W 0 (fun _ => true) true Tryz.f4.params.toList args.toList ds p := hA0
 rw [Tryz.params4] at hA hval
 obtain ⟨v0, vs0, d0, ds0, p0, q0, hargs, rfl, rfl, h0, r0⟩ := trodAll_cons hA
 obtain ⟨v1, vs1, d1, ds1, p1, q1, rfl, rfl, rfl, h1, r1⟩ := trodAll_cons r0
 obtain ⟨v2, vs2, d2, ds2, p2, q2, rfl, rfl, rfl, h2, r2⟩ := trodAll_cons r1
 obtain ⟨rfl, rfl, rfl⟩ := trodAll_nil r2
 obtain rfl : args = #[v0, v1, v2] := by cases args; simp_all
 obtain ⟨rfl, rfl⟩ := trodVars_none hV
 obtain ⟨a0, e0, g0⟩ := (dec_i64 Tryz.underlying3).arg h0 (one_int Tryz.underlying3 (hval 0 _ v0 rfl rfl)) hz (j := 0) rfl rfl
 obtain ⟨a1, e1, g1⟩ := (dec_i64 Tryz.underlying3).arg h1 (one_int Tryz.underlying3 (hval 1 _ v1 rfl rfl)) hz (j := 1) rfl rfl
 obtain ⟨⟨w2, a2⟩, e2, ad2, c2, x2, y2, z2, k2, g2⟩ := (dec_slice (s := 1) (sz := 1) Tryz.underlying22 yZ dZ yZ (dec_u8 Tryz.underlying5) (fun _ _ u hu => by rw [List.mem_singleton.1 hu]; rfl)).arg h2 (one_slice Tryz.underlying22 (hval 2 _ v2 rfl rfl)) hz (j := 2) rfl rfl
 simp only [List.cons.injEq, and_true] at e0 e1 e2
 subst e0 e1 e2
 simp only at x2 y2 z2 k2 g2
 rw [flat_byt] at k2
 refine Calls.mono (rows7_row W (laid3 hL) a0 g0 a1 g1 _ a2 k2 oZ W (hp_old W)) fun e W' ⟨v, he, hv, hT⟩ => ?_
 subst he hv
 exact ⟨_, rfl, post_below parityRows_laidOut hW' rfl (by intro t ht; rw [Tryz.params4] at ht; simp at ht; rcases ht with rfl | rfl | rfl <;> exact ⟨by kernel_rfl, of_decide_eq_true yZ⟩) rfl Tryz.underlying4 rfl (below_old hT)⟩
theorem parityRows_row : Rows.ParityRowsSaid :=
 OpenClaim.holds_of_wide 4 Tryz.f4 rfl rfl rfl rfl rfl rfl rfl ⟨rfl, rfl, rfl, rfl, rfl⟩ rfl rfl rfl rfl rfl yZ Tryz.func4 yZ
  (of_decide_eq_true yZ) (by unfold Func.isWrapper; first | (rw [if_pos (by decide +kernel)]; kernel_rfl) | (rw [if_neg (by decide +kernel)]; exact ⟨rfl, rfl⟩))
  (fun os started H enc _ => parityRows_lifted os started H enc)
theorem parityRows_holds : Rows.ParityRowsCardSaid :=
 Claim7.holds_tied_plain_at .later [] [.data, .data, .data] true (true, "28e8b3c98e59c4857baceb4a9b77fc0116defaf95f3c2f3a8d0d7ee20d472391") false parityRows_row (fun _ h => by cases h) yZ (fun _ h => by cases h) parityRows_row_tie rfl ⟨rfl, rfl⟩ yZ rfl
  (fun f fn hf hfn => by
   obtain rfl : f = 4 := Option.some.inj ((show Tryz.prog.funcNamed "undercroft/undercroftlaw07.ParityRows" = some 4 by kernel_rfl).symm.trans hf) |>.symm
   obtain rfl : fn = Tryz.f4 := (Option.some.inj (Tryz.func4.symm.trans hfn)).symm
   exact ⟨by kernel_rfl, fun j t ht => by
    have hm : t ∈ Tryz.f4.params.toList := by simpa using Array.mem_of_getElem? ht
    have hall : (Tryz.f4.params.toList.all fun u => !Tryz.prog.wantsStandIn u) = true := by kernel_rfl
    exact (show Tryz.prog.wantsStandIn t = false by simpa using List.all_eq_true.1 hall t hm)⟩)
  yZ
#print axioms parityRows_holds
end Go.Proofs.YtpjidiaekifmbaaGreatDoor
