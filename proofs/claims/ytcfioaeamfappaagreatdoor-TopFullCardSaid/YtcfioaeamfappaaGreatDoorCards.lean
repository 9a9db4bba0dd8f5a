/-
  DERIVED. GIVEN WITH THE SEED: THE CARDS: each row of YtcfioaeamfappaaGreatDoorRows.lean that lists a variable, with what it lists TIED to the program's text (the seventh form; the later family's looks); each row that meets fmt, with fmt's text TOLD by the authors' own Lean function (tested against real Go, not proved from fmt's source: count such statements apart). THE CARD IS WHAT COUNTS. Prove the row's statement (the work); the ties are given (YtcfioaeamfappaaGreatDoorTie.lean); close each card by the builder's one call (the guide's Derived/Test/ToyasCard.lean, 'card_holds'). Laid BY PROGRAM, IN A SANDBOX (cutbox-door.mjs). By AI agents, Wed Nov 11 2026. No macro, syntax, notation, axiom, sorry.
-/
import Derived.Test.YtcfioaeamfappaaGreatDoorRows
import GoSem.ClaimSeven
namespace Go.Proofs.YtcfioaeamfappaaGreatDoor
namespace Rows

/-- THE TIED CARD OF 'undercrofttop.TopFull'. -/
def topFullCard : Claim7 := { stood := { row := topFullRow, standIns := [], harness := (true, "5d253df4f71723a2895e197c3001737a7e39aeacd161222ac0e96a5a5e2f975a"), looks := true }, kinds := [], alts := [], laidByText := true, laidKinds := [.data], laidTests := true, laidLooks := .later }
def TopFullCardSaid : Prop := Claim7.holds Tryz.pinned (.plain (OpenSpec.ofChange topFullSpec)) topFullCard

/-- THE SECOND FORM's CARD OF 'undercrofttop.TopFull'. -/
def topFullUptoCard : Claim7 := { stood := { row := topFullUptoRow, standIns := [], harness := (true, "5d253df4f71723a2895e197c3001737a7e39aeacd161222ac0e96a5a5e2f975a"), looks := true }, kinds := [], alts := [], laidByText := true, laidKinds := [.data], laidTests := true, laidLooks := .later }
def TopFullUptoCardSaid : Prop := Claim7.holds Tryz.pinned (.plain (OpenSpec.upto topFullSpec)) topFullUptoCard
end Rows
end Go.Proofs.YtcfioaeamfappaaGreatDoor
