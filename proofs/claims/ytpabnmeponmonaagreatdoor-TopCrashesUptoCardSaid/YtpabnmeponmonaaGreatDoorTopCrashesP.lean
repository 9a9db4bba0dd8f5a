/-
  TopCrashes: the card: the law returns true and leaves the old memory as it was.
-/
import Derived.Test.YtpabnmeponmonaaGreatDoorCards
import Derived.Test.YtpabnmeponmonaaGreatDoorTie
import Derived.Deep.DeepHandedRow
import Derived.LaidMore
import Derived.SevenTiedAt
import Derived.Test.YtpabnmeponmonaaGreatDoorZTopCrashes20
namespace Go.Proofs.YtpabnmeponmonaaGreatDoor
open Go.Sl Go.ChangeShapes Go.WideShapes Go.ChangeAt Go.RowKit Go.ChangeMaps
theorem topCrashesUpto_holds : Rows.TopCrashesUptoCardSaid :=
 Claim7.holds_tied_plain_at .later [] _ _ _ _ p9 (fun _ h => by cases h) (by as_aux_lemma => kernel_rfl) (fun _ h => by cases h) topCrashesUpto_row_tie rfl ⟨rfl, rfl⟩ (by as_aux_lemma => kernel_rfl) rfl
  (fun f fn hf xV => by
   obtain rfl : f = 3 := Option.some.inj ((show Tryz.prog.funcNamed "undercroft/undercrofttop.TopCrashes" = some 3 by as_aux_lemma => kernel_rfl).symm.trans hf) |>.symm
   obtain rfl : fn = Tryz.f3 := (Option.some.inj (Tryz.func3.symm.trans xV)).symm
   exact ⟨by as_aux_lemma => kernel_rfl, fun j t ht => by
    have hm : t ∈ Tryz.f3.params.toList := by simpa using Array.mem_of_getElem? ht
    have hall : (Tryz.f3.params.toList.all fun u => !Tryz.prog.wantsStandIn u) = true := by as_aux_lemma => kernel_rfl
    exact (show Tryz.prog.wantsStandIn t = false by simpa using List.all_eq_true.1 hall t hm)⟩)
  (by as_aux_lemma => kernel_rfl)
#print axioms topCrashesUpto_holds
end Go.Proofs.YtpabnmeponmonaaGreatDoor
