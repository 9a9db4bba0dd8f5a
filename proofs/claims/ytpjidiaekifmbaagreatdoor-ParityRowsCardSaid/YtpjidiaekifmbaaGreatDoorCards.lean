/-
  DERIVED. GIVEN WITH THE SEED: THE CARDS: each row of YtpjidiaekifmbaaGreatDoorRows.lean that lists a variable, with what it lists TIED to the program's text (the seventh form; the later family's looks); each row that meets fmt, with fmt's text TOLD by the authors' own Lean function (tested against real Go, not proved from fmt's source: count such statements apart). THE CARD IS WHAT COUNTS. Prove the row's statement (the work); the ties are given (YtpjidiaekifmbaaGreatDoorTie.lean); close each card by the builder's one call (the guide's Derived/Test/ToyasCard.lean, 'card_holds'). Laid BY PROGRAM, IN A SANDBOX (cutbox-door.mjs). By AI agents, Wed Nov 11 2026. No macro, syntax, notation, axiom, sorry.
-/
import Derived.Test.YtpjidiaekifmbaaGreatDoorRows
import GoSem.ClaimSeven
namespace Go.Proofs.YtpjidiaekifmbaaGreatDoor
namespace Rows

/-- THE TIED CARD OF 'undercroftlaw07.ParityKeeps'. -/
def parityKeepsCard : Claim7 := { stood := { row := parityKeepsRow, standIns := [], harness := (true, "28e8b3c98e59c4857baceb4a9b77fc0116defaf95f3c2f3a8d0d7ee20d472391"), looks := false }, kinds := [], alts := [], laidByText := true, laidKinds := [.data, .data, .data], laidTests := true, laidLooks := .later }
def ParityKeepsCardSaid : Prop := Claim7.holds Tryz.pinned (.plain (OpenSpec.ofChange parityKeepsSpec)) parityKeepsCard

/-- THE TIED CARD OF 'undercroftlaw07.ParityRows'. -/
def parityRowsCard : Claim7 := { stood := { row := parityRowsRow, standIns := [], harness := (true, "28e8b3c98e59c4857baceb4a9b77fc0116defaf95f3c2f3a8d0d7ee20d472391"), looks := false }, kinds := [], alts := [], laidByText := true, laidKinds := [.data, .data, .data], laidTests := true, laidLooks := .later }
def ParityRowsCardSaid : Prop := Claim7.holds Tryz.pinned (.plain (OpenSpec.ofChange parityRowsSpec)) parityRowsCard

/-- THE SECOND FORM's CARD OF 'undercroftlaw07.ParityKeeps'. -/
def parityKeepsUptoCard : Claim7 := { stood := { row := parityKeepsUptoRow, standIns := [], harness := (true, "28e8b3c98e59c4857baceb4a9b77fc0116defaf95f3c2f3a8d0d7ee20d472391"), looks := false }, kinds := [], alts := [], laidByText := true, laidKinds := [.data, .data, .data], laidTests := true, laidLooks := .later }
def ParityKeepsUptoCardSaid : Prop := Claim7.holds Tryz.pinned (.plain (OpenSpec.upto parityKeepsSpec)) parityKeepsUptoCard

/-- THE SECOND FORM's CARD OF 'undercroftlaw07.ParityRows'. -/
def parityRowsUptoCard : Claim7 := { stood := { row := parityRowsUptoRow, standIns := [], harness := (true, "28e8b3c98e59c4857baceb4a9b77fc0116defaf95f3c2f3a8d0d7ee20d472391"), looks := false }, kinds := [], alts := [], laidByText := true, laidKinds := [.data, .data, .data], laidTests := true, laidLooks := .later }
def ParityRowsUptoCardSaid : Prop := Claim7.holds Tryz.pinned (.plain (OpenSpec.upto parityRowsSpec)) parityRowsUptoCard
end Rows
end Go.Proofs.YtpjidiaekifmbaaGreatDoor
