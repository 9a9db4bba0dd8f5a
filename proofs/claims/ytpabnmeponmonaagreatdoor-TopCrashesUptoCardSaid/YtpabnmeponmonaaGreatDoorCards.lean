/-
  DERIVED. GIVEN WITH THE SEED: THE CARDS: each row of YtpabnmeponmonaaGreatDoorRows.lean that lists a variable, with what it lists TIED to the program's text (the seventh form; the later family's looks); each row that meets fmt, with fmt's text TOLD by the authors' own Lean function (tested against real Go, not proved from fmt's source: count such statements apart). THE CARD IS WHAT COUNTS. Prove the row's statement (the work); the ties are given (YtpabnmeponmonaaGreatDoorTie.lean); close each card by the builder's one call (the guide's Derived/Test/ToyasCard.lean, 'card_holds'). Laid BY PROGRAM, IN A SANDBOX (cutbox-door.mjs). By AI agents, Wed Nov 11 2026. No macro, syntax, notation, axiom, sorry.
-/
import Derived.Test.YtpabnmeponmonaaGreatDoorRows
import GoSem.ClaimSeven
namespace Go.Proofs.YtpabnmeponmonaaGreatDoor
namespace Rows

/-- THE TIED CARD OF 'undercrofttop.TopCrashes'. -/
def topCrashesCard : Claim7 := { stood := { row := topCrashesRow, standIns := [], harness := (true, "7c62d93e0269ec4793a3944b66060e4a841457fe6b306f0de605b354379ce208"), looks := true }, kinds := [], alts := [], laidByText := true, laidKinds := [.data], laidTests := true, laidLooks := .later }
def TopCrashesCardSaid : Prop := Claim7.holds Tryz.pinned (.plain (OpenSpec.ofChange topCrashesSpec)) topCrashesCard

/-- THE SECOND FORM's CARD OF 'undercrofttop.TopCrashes'. -/
def topCrashesUptoCard : Claim7 := { stood := { row := topCrashesUptoRow, standIns := [], harness := (true, "7c62d93e0269ec4793a3944b66060e4a841457fe6b306f0de605b354379ce208"), looks := true }, kinds := [], alts := [], laidByText := true, laidKinds := [.data], laidTests := true, laidLooks := .later }
def TopCrashesUptoCardSaid : Prop := Claim7.holds Tryz.pinned (.plain (OpenSpec.upto topCrashesSpec)) topCrashesUptoCard
end Rows
end Go.Proofs.YtpabnmeponmonaaGreatDoor
