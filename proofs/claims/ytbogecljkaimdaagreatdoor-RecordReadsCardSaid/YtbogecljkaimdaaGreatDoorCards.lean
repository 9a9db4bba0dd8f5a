/-
  DERIVED. GIVEN WITH THE SEED: THE CARDS: each row of YtbogecljkaimdaaGreatDoorRows.lean that lists a variable, with what it lists TIED to the program's text (the seventh form; the later family's looks); each row that meets fmt, with fmt's text TOLD by the authors' own Lean function (tested against real Go, not proved from fmt's source: count such statements apart). THE CARD IS WHAT COUNTS. Prove the row's statement (the work); the ties are given (YtbogecljkaimdaaGreatDoorTie.lean); close each card by the builder's one call (the guide's Derived/Test/ToyasCard.lean, 'card_holds'). Laid BY PROGRAM, IN A SANDBOX (cutbox-door.mjs). By AI agents, Wed Nov 11 2026. No macro, syntax, notation, axiom, sorry.
-/
import Derived.Test.YtbogecljkaimdaaGreatDoorRows
import GoSem.ClaimSeven
namespace Go.Proofs.YtbogecljkaimdaaGreatDoor
namespace Rows

/-- THE TIED CARD OF 'undercroftlaw20.RecordWrites'. -/
def recordWritesCard : Claim7 := { stood := { row := recordWritesRow, standIns := [], harness := (true, "fc4d034265d2cc0540c7b670c4835906d719cd5834292f37869f4a0effbf3c66"), looks := false }, kinds := [], alts := [], laidByText := true, laidKinds := [.data, .data, .data, .data, .pinned], laidTests := true, laidLooks := .later }
def RecordWritesCardSaid : Prop := Claim7.holds Tryz.pinned (.plain (OpenSpec.ofChange recordWritesSpec)) recordWritesCard

/-- THE TIED CARD OF 'undercroftlaw20.RecordReads'. -/
def recordReadsCard : Claim7 := { stood := { row := recordReadsRow, standIns := [], harness := (true, "fc4d034265d2cc0540c7b670c4835906d719cd5834292f37869f4a0effbf3c66"), looks := false }, kinds := [], alts := [], laidByText := true, laidKinds := [.data, .data, .data, .data, .pinned], laidTests := true, laidLooks := .later }
def RecordReadsCardSaid : Prop := Claim7.holds Tryz.pinned (.plain (OpenSpec.ofChange recordReadsSpec)) recordReadsCard

/-- THE TIED CARD OF 'undercroftlaw20.RecordCut'. -/
def recordCutCard : Claim7 := { stood := { row := recordCutRow, standIns := [], harness := (true, "fc4d034265d2cc0540c7b670c4835906d719cd5834292f37869f4a0effbf3c66"), looks := false }, kinds := [], alts := [], laidByText := true, laidKinds := [.data, .data, .pinned], laidTests := true, laidLooks := .later }
def RecordCutCardSaid : Prop := Claim7.holds Tryz.pinned (.plain (OpenSpec.ofChange recordCutSpec)) recordCutCard

/-- THE TIED CARD OF 'undercroftlaw20.RecordChain'. -/
def recordChainCard : Claim7 := { stood := { row := recordChainRow, standIns := [], harness := (true, "fc4d034265d2cc0540c7b670c4835906d719cd5834292f37869f4a0effbf3c66"), looks := false }, kinds := [], alts := [], laidByText := true, laidKinds := [.data, .data, .data, .data, .pinned], laidTests := true, laidLooks := .later }
def RecordChainCardSaid : Prop := Claim7.holds Tryz.pinned (.plain (OpenSpec.ofChange recordChainSpec)) recordChainCard

/-- THE TIED CARD OF 'undercroftlaw20.RecordStreams'. -/
def recordStreamsCard : Claim7 := { stood := { row := recordStreamsRow, standIns := [], harness := (true, "fc4d034265d2cc0540c7b670c4835906d719cd5834292f37869f4a0effbf3c66"), looks := false }, kinds := [], alts := [], laidByText := true, laidKinds := [.data, .data, .data, .data, .pinned], laidTests := true, laidLooks := .later }
def RecordStreamsCardSaid : Prop := Claim7.holds Tryz.pinned (.plain (OpenSpec.ofChange recordStreamsSpec)) recordStreamsCard

/-- THE TIED CARD OF 'undercroftlaw20.RecordBack'. -/
def recordBackCard : Claim7 := { stood := { row := recordBackRow, standIns := [], harness := (true, "fc4d034265d2cc0540c7b670c4835906d719cd5834292f37869f4a0effbf3c66"), looks := false }, kinds := [], alts := [], laidByText := true, laidKinds := [.data, .data, .pinned], laidTests := true, laidLooks := .later }
def RecordBackCardSaid : Prop := Claim7.holds Tryz.pinned (.plain (OpenSpec.ofChange recordBackSpec)) recordBackCard

/-- THE SECOND FORM's CARD OF 'undercroftlaw20.RecordWrites'. -/
def recordWritesUptoCard : Claim7 := { stood := { row := recordWritesUptoRow, standIns := [], harness := (true, "fc4d034265d2cc0540c7b670c4835906d719cd5834292f37869f4a0effbf3c66"), looks := false }, kinds := [], alts := [], laidByText := true, laidKinds := [.data, .data, .data, .data, .pinned], laidTests := true, laidLooks := .later }
def RecordWritesUptoCardSaid : Prop := Claim7.holds Tryz.pinned (.plain (OpenSpec.upto recordWritesSpec)) recordWritesUptoCard

/-- THE SECOND FORM's CARD OF 'undercroftlaw20.RecordReads'. -/
def recordReadsUptoCard : Claim7 := { stood := { row := recordReadsUptoRow, standIns := [], harness := (true, "fc4d034265d2cc0540c7b670c4835906d719cd5834292f37869f4a0effbf3c66"), looks := false }, kinds := [], alts := [], laidByText := true, laidKinds := [.data, .data, .data, .data, .pinned], laidTests := true, laidLooks := .later }
def RecordReadsUptoCardSaid : Prop := Claim7.holds Tryz.pinned (.plain (OpenSpec.upto recordReadsSpec)) recordReadsUptoCard

/-- THE SECOND FORM's CARD OF 'undercroftlaw20.RecordCut'. -/
def recordCutUptoCard : Claim7 := { stood := { row := recordCutUptoRow, standIns := [], harness := (true, "fc4d034265d2cc0540c7b670c4835906d719cd5834292f37869f4a0effbf3c66"), looks := false }, kinds := [], alts := [], laidByText := true, laidKinds := [.data, .data, .pinned], laidTests := true, laidLooks := .later }
def RecordCutUptoCardSaid : Prop := Claim7.holds Tryz.pinned (.plain (OpenSpec.upto recordCutSpec)) recordCutUptoCard

/-- THE SECOND FORM's CARD OF 'undercroftlaw20.RecordChain'. -/
def recordChainUptoCard : Claim7 := { stood := { row := recordChainUptoRow, standIns := [], harness := (true, "fc4d034265d2cc0540c7b670c4835906d719cd5834292f37869f4a0effbf3c66"), looks := false }, kinds := [], alts := [], laidByText := true, laidKinds := [.data, .data, .data, .data, .pinned], laidTests := true, laidLooks := .later }
def RecordChainUptoCardSaid : Prop := Claim7.holds Tryz.pinned (.plain (OpenSpec.upto recordChainSpec)) recordChainUptoCard

/-- THE SECOND FORM's CARD OF 'undercroftlaw20.RecordStreams'. -/
def recordStreamsUptoCard : Claim7 := { stood := { row := recordStreamsUptoRow, standIns := [], harness := (true, "fc4d034265d2cc0540c7b670c4835906d719cd5834292f37869f4a0effbf3c66"), looks := false }, kinds := [], alts := [], laidByText := true, laidKinds := [.data, .data, .data, .data, .pinned], laidTests := true, laidLooks := .later }
def RecordStreamsUptoCardSaid : Prop := Claim7.holds Tryz.pinned (.plain (OpenSpec.upto recordStreamsSpec)) recordStreamsUptoCard

/-- THE SECOND FORM's CARD OF 'undercroftlaw20.RecordBack'. -/
def recordBackUptoCard : Claim7 := { stood := { row := recordBackUptoRow, standIns := [], harness := (true, "fc4d034265d2cc0540c7b670c4835906d719cd5834292f37869f4a0effbf3c66"), looks := false }, kinds := [], alts := [], laidByText := true, laidKinds := [.data, .data, .pinned], laidTests := true, laidLooks := .later }
def RecordBackUptoCardSaid : Prop := Claim7.holds Tryz.pinned (.plain (OpenSpec.upto recordBackSpec)) recordBackUptoCard
end Rows
end Go.Proofs.YtbogecljkaimdaaGreatDoor
