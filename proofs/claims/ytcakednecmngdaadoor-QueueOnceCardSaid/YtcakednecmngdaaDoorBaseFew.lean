/-
  What tolllaw01.Few comes to.
  Conditions: as each theorem states them.
-/
import Derived.Test.YtcakednecmngdaaDoorBase
import Derived.Test.YtcakednecmngdaaDoorPf30
namespace Go.Proofs.YtcakednecmngdaaDoor.DnsPure
open Go Go.RowKit Go.Proofs.YtcakednecmngdaaDoor.P Go.Proofs.YtcakednecmngdaaDoorW.PrintWords Go.Proofs.YtcakednecmngdaaDoor.Plain

/-! ### Few; the chapter's examples -/
def fewB (s : ByteArray) : ByteArray := if 100 < s.size then s.extract 0 100 else s
theorem few_eq (s : ByteArray) : tolllaw01_Few.f s = some (fewB s) := by
  unfold tolllaw01_Few.f fewB
  by_cases h : (s.size : Int) > 100
  · rw [if_pos h, if_pos (by omega), if_pos (by omega), if_pos (by omega)]
  · rw [if_neg h, if_neg (by omega)]
theorem few_size (s : ByteArray) : (fewB s).size ≤ 100 := by
  unfold fewB
  split
  · simp; omega
  · omega

end Go.Proofs.YtcakednecmngdaaDoor.DnsPure
