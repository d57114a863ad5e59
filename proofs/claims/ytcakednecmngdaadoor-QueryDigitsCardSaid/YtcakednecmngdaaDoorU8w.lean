/-
  What a sum of octets wraps to, as the printed texts spell it.
  Conditions: none.
-/
import Derived.Test.YtcakednecmngdaaDoorWWords
namespace Go.Proofs.YtcakednecmngdaaDoor.P
open Go
theorem u8_w (n : Int) : IntKind.u8.wrap n = n % 256 := by simp [IntKind.wrap, IntKind.signed, IntKind.bits]
end Go.Proofs.YtcakednecmngdaaDoor.P
