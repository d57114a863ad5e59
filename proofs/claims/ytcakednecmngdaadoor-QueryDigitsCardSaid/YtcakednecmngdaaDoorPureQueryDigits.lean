/-
  The plain law of QueryDigits: each octet is read from its two digits, of either size (each of the 256 reckoned).
  Conditions: none.
-/
import Derived.Test.YtcakednecmngdaaDoorYf29
namespace Go.Proofs.YtcakednecmngdaaDoor.Pure
open Go Go.RowKit Go.Proofs.YtcakednecmngdaaDoor.Y Go.Proofs.YtcakednecmngdaaDoor.P Go.Proofs.YtcakednecmngdaaDoorW.PrintWords

set_option maxRecDepth 1000000 in
theorem digits_fin : ∀ n : Fin 256, tolllaw04_QueryDigits.f 40 (n.val : Int) = some true := by decide +kernel
theorem QueryDigits : tolllaw04_QueryDigits.Pure := by
  intro a h
  have hb : 0 ≤ a ∧ a < 256 := by
    simp [Lit.wf, IntKind.min, IntKind.max, IntKind.signed, IntKind.bits] at h
    omega
  have := digits_fin ⟨a.toNat, by omega⟩
  refine ⟨40, ?_⟩
  have e : ((a.toNat : Nat) : Int) = a := by omega
  simpa [e] using this

end Go.Proofs.YtcakednecmngdaaDoor.Pure
