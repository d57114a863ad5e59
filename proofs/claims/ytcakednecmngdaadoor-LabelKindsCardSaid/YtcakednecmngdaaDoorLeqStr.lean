/-
  A text's '<=' as the other's '<', turned about.
  Conditions: none.
-/
import Derived.Test.YtcakednecmngdaaDoorL0
namespace Go.Proofs.YtcakednecmngdaaDoor.Label
open Go

theorem leq_turn : ∀ x y : List UInt8, (Op.bytesLess x y || x == y) = !Op.bytesLess y x
  | [], [] => rfl
  | [], _ :: _ => rfl
  | _ :: _, [] => rfl
  | a :: x, b :: y => by
    have ih := leq_turn x y
    rw [Op.bytesLess, Op.bytesLess]
    by_cases h1 : a < b
    · have h2 : ¬ b < a := fun h => by have := UInt8.lt_iff_toNat_lt.1 h1; have := UInt8.lt_iff_toNat_lt.1 h; omega
      have h3 : b ≠ a := fun h => by rw [h] at h1; exact (UInt8.lt_irrefl _ h1)
      simp [h1, h2, h3]
    · by_cases h2 : b < a
      · have h3 : a ≠ b := fun h => by rw [h] at h2; exact (UInt8.lt_irrefl _ h2)
        have h4 : b ≠ a := fun h => h3 h.symm
        simp [h1, h2, h3]
      · have h3 : a = b := by
          apply UInt8.toNat_inj.1
          have e1 : ¬ a.toNat < b.toNat := fun h => h1 (UInt8.lt_iff_toNat_lt.2 h)
          have e2 : ¬ b.toNat < a.toNat := fun h => h2 (UInt8.lt_iff_toNat_lt.2 h)
          omega
        subst h3
        simpa using ih
@[go_sem] theorem binOp_string_leq_turned (t : TypeId) (a b : ByteArray) : binOp .leq t (.string a) (.string b) = pure (.bool !(Op.bytesLess b.toList a.toList)) := by
  rw [← leq_turn]; simp [binOp, Op.stringOp]
end Go.Proofs.YtcakednecmngdaaDoor.Label
