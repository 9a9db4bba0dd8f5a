/-
  Spans and the small functions of the ranges, the program's and the document's.
-/
import Derived.Test.YtkkibnnddllabaaProg
import Derived.Test.YtkkibnnddllabaaMore2
namespace Go.Sl

structure Sp where
  at_ : Int
  many : Int
deriving DecidableEq
def Sp.lay (x : Sp) : List Value := [.int .i64 x.at_, .int .i64 x.many]
abbrev Sp.agg (x : Sp) : Value := .agg #[.int .i64 x.at_, .int .i64 x.many]
def Sp.fin (x : Sp) : Int := x.at_ + x.many
def Sp.may (x : Sp) : Bool := decide (0 ≤ x.at_ ∧ 1 ≤ x.many ∧ x.at_ ≤ 1099511627776 ∧ x.many ≤ 1099511627776 - x.at_)
theorem Sp.lay_len (x : Sp) : x.lay.length = 2 := rfl
/-- How many numbers two spans have in common. -/
def Sp.common (a b : Sp) : Int := if min a.fin b.fin < max a.at_ b.at_ then 0 else min a.fin b.fin - max a.at_ b.at_
end Go.Sl

namespace Go.Proofs.Ytkkibnnddllabaa
open Go.Sl
set_option maxRecDepth 10000

end Go.Proofs.Ytkkibnnddllabaa
