/-
  DERIVED. GIVEN WITH THE SEED: THE CARDS: each row of YteldablklnfblaaGreatDoorRows.lean that lists a variable, with what it lists TIED to the program's text (the seventh form; the later family's looks); each row that meets fmt, with fmt's text TOLD by the authors' own Lean function (tested against real Go, not proved from fmt's source: count such statements apart). THE CARD IS WHAT COUNTS. Prove the row's statement (the work); the ties are given (YteldablklnfblaaGreatDoorTie.lean); close each card by the builder's one call (the guide's Derived/Test/ToyasCard.lean, 'card_holds'). Laid BY PROGRAM, IN A SANDBOX (cutbox-door.mjs). By AI agents, Wed Nov 11 2026. No macro, syntax, notation, axiom, sorry.
-/
import Derived.Test.YteldablklnfblaaGreatDoorRows
import GoSem.ClaimSeven
namespace Go.Proofs.YteldablklnfblaaGreatDoor
namespace Rows

/-- THE TIED CARD OF 'undercrofttop.TopTwice'. -/
def topTwiceCard : Claim7 := { stood := { row := topTwiceRow, standIns := [], harness := (true, "e9479f35ddbef6922233e77b7e316a79f94d966d286ee92159ffad7108fd65c7"), looks := true }, kinds := [], alts := [], laidByText := true, laidKinds := [.data], laidTests := true, laidLooks := .later }
def TopTwiceCardSaid : Prop := Claim7.holds Tryz.pinned (.plain (OpenSpec.ofChange topTwiceSpec)) topTwiceCard

/-- THE SECOND FORM's CARD OF 'undercrofttop.TopTwice'. -/
def topTwiceUptoCard : Claim7 := { stood := { row := topTwiceUptoRow, standIns := [], harness := (true, "e9479f35ddbef6922233e77b7e316a79f94d966d286ee92159ffad7108fd65c7"), looks := true }, kinds := [], alts := [], laidByText := true, laidKinds := [.data], laidTests := true, laidLooks := .later }
def TopTwiceUptoCardSaid : Prop := Claim7.holds Tryz.pinned (.plain (OpenSpec.upto topTwiceSpec)) topTwiceUptoCard
end Rows
end Go.Proofs.YteldablklnfblaaGreatDoor
