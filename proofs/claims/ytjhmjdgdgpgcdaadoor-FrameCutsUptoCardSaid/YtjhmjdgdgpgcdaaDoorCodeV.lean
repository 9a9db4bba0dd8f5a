/-
  The document's writer (package undercroftref01): each of its functions does what the plain one says.
-/
import Derived.Test.YtjhmjdgdgpgcdaaDoorCodeR
import Derived.Test.YtjhmjdgdgpgcdaaDoorMore
namespace Go.Sl
theorem ofNat_mod (x : Nat) : UInt8.ofNat (x % 256) = UInt8.ofNat x := by
  apply UInt8.toNat_inj.1
  simp
theorem formOf_succ (n j : Nat) : formOf n (j + 1) = formOf n j ++ [UInt8.ofNat (n / 256 ^ j % 256)] := by
  rw [ofNat_mod, formOf, Nat.pow_mul]
/-- What is laid down when an error's number and bytes are handed in. -/
def layE (e : Nat) (b : List UInt8) : Laid := if e = 0 then .inr b else .inl e
end Go.Sl

namespace Go.Proofs.YtjhmjdgdgpgcdaaDoor
open Go.Sl
set_option maxRecDepth 10000

end Go.Proofs.YtjhmjdgdgpgcdaaDoor
