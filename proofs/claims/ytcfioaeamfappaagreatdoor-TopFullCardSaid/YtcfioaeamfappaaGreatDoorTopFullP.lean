/-
  TopFull: the card: the law returns true and leaves the old memory as it was.
-/
import Derived.Test.YtcfioaeamfappaaGreatDoorRows
import Derived.Test.YtcfioaeamfappaaGreatDoorCards
import Derived.Test.YtcfioaeamfappaaGreatDoorTie
import Derived.LaidMore
import Derived.SevenTiedAt
import Derived.Stop.Joined
import Derived.Test.YtcfioaeamfappaaGreatDoorZTopFull19
namespace Go.Proofs.YtcfioaeamfappaaGreatDoor
open Go.Sl Go.ChangeShapes Go.WideShapes Go.ChangeAt Go.RowKit Go.ChangeMaps
theorem topFull_holds : Rows.TopFullCardSaid :=
 Claim7.holds_tied_plain_at .later [] [.data] true (true, "5d253df4f71723a2895e197c3001737a7e39aeacd161222ac0e96a5a5e2f975a") true EZ (fun _ h => by cases h) (by as_aux_lemma => kernel_rfl) (fun _ h => by cases h) topFull_row_tie rfl ⟨rfl, rfl⟩ (by as_aux_lemma => kernel_rfl) rfl
  (fun f fn hf zl => by
   obtain rfl : f = 3 := Option.some.inj ((show Tryz.prog.funcNamed "undercroft/undercrofttop.TopFull" = some 3 by as_aux_lemma => kernel_rfl).symm.trans hf) |>.symm
   obtain rfl : fn = Tryz.f3 := (Option.some.inj (Tryz.func3.symm.trans zl)).symm
   exact ⟨by as_aux_lemma => kernel_rfl, fun j t ht => by
    have hm : t ∈ Tryz.f3.params.toList := by simpa using Array.mem_of_getElem? ht
    have hall : (Tryz.f3.params.toList.all fun u => !Tryz.prog.wantsStandIn u) = true := by as_aux_lemma => kernel_rfl
    exact (show Tryz.prog.wantsStandIn t = false by simpa using List.all_eq_true.1 hall t hm)⟩)
  (by as_aux_lemma => kernel_rfl)
#print axioms topFull_holds
end Go.Proofs.YtcfioaeamfappaaGreatDoor
