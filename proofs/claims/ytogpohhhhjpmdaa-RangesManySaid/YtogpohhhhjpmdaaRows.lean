/-
  No cell of these rows narrows 'for every input' (looked for: loops, veiled, ifaces, maps, wideKeys, modest, calm, conditions, laid).
  DERIVED. THE GIVEN ROWS OF THIS SEAT. 3 by the template 'for every input the law returns true; each argument reads behind the call as it read before'; 0 by the template 'total and deterministic' (their statements: YtogpohhhhjpmdaaTotals.lean).
  GIVEN WITH THE SEED: the statements are not yours to turn. If you find one false, say at which input.
  Laid BY PROGRAM, IN A SANDBOX (cutbox-rows.mjs): the forced cells as the released guide's own fill.sh prints them over the translation ed6fbf25eba0ae34… (all of the seat's roots in one cut). By AI agents, Wed Nov 11 2026. No macro, syntax, notation, axiom, sorry.
-/
import Derived.Test.YtogpohhhhjpmdaaChecked
import GoSem.Claim
import GoSem.ClaimJoined
import GoSem.ClaimMapViews
import Derived.JoinedTies
import Derived.KernelRfl
namespace Go.Proofs.Ytogpohhhhjpmdaa
/- THE CELL 'sum', in the pinned program and in every row, IS THE sha256 OF THE DUMP (.gsa) THAT YtogpohhhhjpmdaaProg.lean LOADS. Nothing in Lean hashes anything: it is a label: what it is worth is what the hold of that sum in a sandbox is worth. -/
noncomputable def Try.pinned : Pinned := { name := "ytogpohhhhjpmdaa", sum := "ed6fbf25eba0ae340dfc8bef93d3239481f1ec9ee3f9a086a52ea1ae400718ad", checked := Try.checked }
namespace Rows
def none {H : Type} : Left H := { results := [], args := [] }

/-- 'undercroftlaw09.RangesDoes': WHATEVER THE INPUT: true; the input reads as it did. -/
def rangesDoesSpec : ChangeSpec := { name := "rangesDoes", fn := fun _ => fun
  | [d] => { results := [.lit (.bool true)], args := [d] }
  | _ => none }
def rangesDoesRow : OpenClaim := { program := "ytogpohhhhjpmdaa", sum := "ed6fbf25eba0ae340dfc8bef93d3239481f1ec9ee3f9a086a52ea1ae400718ad", func := "undercroft/undercroftlaw09.RangesDoes", spec := "rangesDoes", apart := false }
def RangesDoesSaid : Prop := rangesDoesRow.holds Try.pinned (OpenSpec.ofChange rangesDoesSpec)

/-- ITS FALSE NEIGHBOUR: 'it returns false'. Refute it at one input. -/
def rangesDoesWrong : ChangeSpec := { name := "rangesDoes", fn := fun _ => fun
  | [d] => { results := [.lit (.bool false)], args := [d] }
  | _ => none }
def RangesDoesWrongFalsely : Prop := rangesDoesRow.holds Try.pinned (OpenSpec.ofChange rangesDoesWrong)

/-- 'undercroftlaw09.RangesMany': WHATEVER THE INPUT: true; the input reads as it did. -/
def rangesManySpec : ChangeSpec := { name := "rangesMany", fn := fun _ => fun
  | [d1, d2] => { results := [.lit (.bool true)], args := [d1, d2] }
  | _ => none }
def rangesManyRow : OpenClaim := { program := "ytogpohhhhjpmdaa", sum := "ed6fbf25eba0ae340dfc8bef93d3239481f1ec9ee3f9a086a52ea1ae400718ad", func := "undercroft/undercroftlaw09.RangesMany", spec := "rangesMany", apart := false }
def RangesManySaid : Prop := rangesManyRow.holds Try.pinned (OpenSpec.ofChange rangesManySpec)

/-- ITS FALSE NEIGHBOUR: 'it returns false'. Refute it at one input. -/
def rangesManyWrong : ChangeSpec := { name := "rangesMany", fn := fun _ => fun
  | [d1, d2] => { results := [.lit (.bool false)], args := [d1, d2] }
  | _ => none }
def RangesManyWrongFalsely : Prop := rangesManyRow.holds Try.pinned (OpenSpec.ofChange rangesManyWrong)

/-- 'undercroftlaw09.RangesOrder': WHATEVER THE INPUT: true; the input reads as it did. -/
def rangesOrderSpec : ChangeSpec := { name := "rangesOrder", fn := fun _ => fun
  | [d1, d2, d3, d4] => { results := [.lit (.bool true)], args := [d1, d2, d3, d4] }
  | _ => none }
def rangesOrderRow : OpenClaim := { program := "ytogpohhhhjpmdaa", sum := "ed6fbf25eba0ae340dfc8bef93d3239481f1ec9ee3f9a086a52ea1ae400718ad", func := "undercroft/undercroftlaw09.RangesOrder", spec := "rangesOrder", apart := false }
def RangesOrderSaid : Prop := rangesOrderRow.holds Try.pinned (OpenSpec.ofChange rangesOrderSpec)

/-- ITS FALSE NEIGHBOUR: 'it returns false'. Refute it at one input. -/
def rangesOrderWrong : ChangeSpec := { name := "rangesOrder", fn := fun _ => fun
  | [d1, d2, d3, d4] => { results := [.lit (.bool false)], args := [d1, d2, d3, d4] }
  | _ => none }
def RangesOrderWrongFalsely : Prop := rangesOrderRow.holds Try.pinned (OpenSpec.ofChange rangesOrderWrong)

/- THE SECOND FORM. 'bulk': how many values and letters a reading holds, each counted each time it is reached (what is shared counts as often as it is met; a slice's spare places count too). A statement '..UptoSaid' is the law's where the arguments, and the package variables that the reading takes, are together of bulk at most 1048576: NARROWER than '..Said'. Prove '..Said' where nothing that the law and all that it calls make is longer than what came in: it says more and counts as full. Else prove '..UptoSaid'. A law counts once. -/
mutual
def uptoBulk {H : Type} : DataW H → Nat
  | .lit (.string bytes) => bytes.length + 1
  | .lit _ => 1
  | .nil => 1
  | .ptr d => uptoBulk d + 1
  | .slice elems spare => uptoBulkAll elems + uptoBulkAll spare + 1
  | .agg parts => uptoBulkAll parts + 1
  | .iface _ d => uptoBulk d + 1
  | .map entries => uptoBulkEntries entries + 1
  | .held _ => 1
def uptoBulkAll {H : Type} : List (DataW H) → Nat
  | [] => 0
  | d :: r => uptoBulk d + uptoBulkAll r
def uptoBulkEntries {H : Type} : List (Lit × DataW H) → Nat
  | [] => 0
  | x :: r => uptoBulkEntry x + uptoBulkEntries r
def uptoBulkEntry {H : Type} : Lit × DataW H → Nat
  | (.string bytes, d) => bytes.length + uptoBulk d + 1
  | (_, d) => uptoBulk d + 1
 end
def uptoSmall : (H : Type) → List (DataW H) → Bool := fun _ ds => decide (uptoBulkAll ds ≤ 1048576)
def OpenSpec.upto (s : _root_.Go.ChangeSpec) : _root_.Go.OpenSpec := { _root_.Go.OpenSpec.ofChange s with cond := some uptoSmall }

/-- 'undercroftlaw09.RangesDoes', WHERE WHAT IT READS IS OF BULK AT MOST 1048576: true; the input reads as it did. -/
def rangesDoesUptoRow : OpenClaim := { program := "ytogpohhhhjpmdaa", sum := "ed6fbf25eba0ae340dfc8bef93d3239481f1ec9ee3f9a086a52ea1ae400718ad", func := "undercroft/undercroftlaw09.RangesDoes", spec := "rangesDoes", apart := false, narrowed := true }
def RangesDoesUptoSaid : Prop := rangesDoesUptoRow.holds Try.pinned (OpenSpec.upto rangesDoesSpec)

/-- 'undercroftlaw09.RangesMany', WHERE WHAT IT READS IS OF BULK AT MOST 1048576: true; the input reads as it did. -/
def rangesManyUptoRow : OpenClaim := { program := "ytogpohhhhjpmdaa", sum := "ed6fbf25eba0ae340dfc8bef93d3239481f1ec9ee3f9a086a52ea1ae400718ad", func := "undercroft/undercroftlaw09.RangesMany", spec := "rangesMany", apart := false, narrowed := true }
def RangesManyUptoSaid : Prop := rangesManyUptoRow.holds Try.pinned (OpenSpec.upto rangesManySpec)

/-- 'undercroftlaw09.RangesOrder', WHERE WHAT IT READS IS OF BULK AT MOST 1048576: true; the input reads as it did. -/
def rangesOrderUptoRow : OpenClaim := { program := "ytogpohhhhjpmdaa", sum := "ed6fbf25eba0ae340dfc8bef93d3239481f1ec9ee3f9a086a52ea1ae400718ad", func := "undercroft/undercroftlaw09.RangesOrder", spec := "rangesOrder", apart := false, narrowed := true }
def RangesOrderUptoSaid : Prop := rangesOrderUptoRow.holds Try.pinned (OpenSpec.upto rangesOrderSpec)

end Rows
end Go.Proofs.Ytogpohhhhjpmdaa
