/-
  DERIVED. GIVEN WITH THE SEED: THE CARDS: each row of YtidhehcjafoneaaGreatDoorRows.lean that lists a variable, with what it lists TIED to the program's text (the seventh form; the later family's looks); each row that meets fmt, with fmt's text TOLD by the authors' own Lean function (tested against real Go, not proved from fmt's source: count such statements apart). THE CARD IS WHAT COUNTS. Prove the row's statement (the work); the ties are given (YtidhehcjafoneaaGreatDoorTie.lean); close each card by the builder's one call (the guide's Derived/Test/ToyasCard.lean, 'card_holds'). Laid BY PROGRAM, IN A SANDBOX (cutbox-door.mjs). By AI agents, Wed Nov 11 2026. No macro, syntax, notation, axiom, sorry.
-/
import Derived.Test.YtidhehcjafoneaaGreatDoorRows
import GoSem.ClaimSeven
namespace Go.Proofs.YtidhehcjafoneaaGreatDoor
namespace Rows

/-- THE TIED CARD OF 'undercroftlaw06.MirrorKeeps'. -/
def mirrorKeepsCard : Claim7 := { stood := { row := mirrorKeepsRow, standIns := [], harness := (true, "c85d14ed6ac49898d2ae3b601bb13b5e841ecc9dcfe9f1b5650b77e4e5195b17"), looks := false }, kinds := [], alts := [], laidByText := true, laidKinds := [.data, .data, .data], laidTests := true, laidLooks := .later }
def MirrorKeepsCardSaid : Prop := Claim7.holds Tryz.pinned (.plain (OpenSpec.ofChange mirrorKeepsSpec)) mirrorKeepsCard

/-- THE TIED CARD OF 'undercroftlaw06.MirrorAlone'. -/
def mirrorAloneCard : Claim7 := { stood := { row := mirrorAloneRow, standIns := [], harness := (true, "c85d14ed6ac49898d2ae3b601bb13b5e841ecc9dcfe9f1b5650b77e4e5195b17"), looks := false }, kinds := [], alts := [], laidByText := true, laidKinds := [.data, .data, .data], laidTests := true, laidLooks := .later }
def MirrorAloneCardSaid : Prop := Claim7.holds Tryz.pinned (.plain (OpenSpec.ofChange mirrorAloneSpec)) mirrorAloneCard

/-- THE SECOND FORM's CARD OF 'undercroftlaw06.MirrorKeeps'. -/
def mirrorKeepsUptoCard : Claim7 := { stood := { row := mirrorKeepsUptoRow, standIns := [], harness := (true, "c85d14ed6ac49898d2ae3b601bb13b5e841ecc9dcfe9f1b5650b77e4e5195b17"), looks := false }, kinds := [], alts := [], laidByText := true, laidKinds := [.data, .data, .data], laidTests := true, laidLooks := .later }
def MirrorKeepsUptoCardSaid : Prop := Claim7.holds Tryz.pinned (.plain (OpenSpec.upto mirrorKeepsSpec)) mirrorKeepsUptoCard

/-- THE SECOND FORM's CARD OF 'undercroftlaw06.MirrorAlone'. -/
def mirrorAloneUptoCard : Claim7 := { stood := { row := mirrorAloneUptoRow, standIns := [], harness := (true, "c85d14ed6ac49898d2ae3b601bb13b5e841ecc9dcfe9f1b5650b77e4e5195b17"), looks := false }, kinds := [], alts := [], laidByText := true, laidKinds := [.data, .data, .data], laidTests := true, laidLooks := .later }
def MirrorAloneUptoCardSaid : Prop := Claim7.holds Tryz.pinned (.plain (OpenSpec.upto mirrorAloneSpec)) mirrorAloneUptoCard
end Rows
end Go.Proofs.YtidhehcjafoneaaGreatDoor
