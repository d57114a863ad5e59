/-
  A region that draws its order: what is held, changed on the way.
  Conditions: whatever may still come up is among those behind which the first is not shown.
-/
import Derived.Test.YtcakednecmngdaaDoorLW
set_option linter.unusedVariables false
namespace Go.Proofs.YtcakednecmngdaaDoorW.PrintLast
open Go Go.RowKit
variable {P : Program} {ops : Array Oper} {Q : Exit → Act → World → Prop} {md : Region.Mode} {S S2 : World → Prop} {ds ds2 : List Nat}
theorem unlisted_set {l : Array Bool} {i j : Nat} (h : (l.setIfInBounds i true).getD j true = false) : l.getD j true = false := by
  by_cases e : i = j
  · subst e
    by_cases hl : i < l.size
    · simp [Array.getD, hl] at h
    · simp [Array.getD, hl] at h
  · simpa [Array.getD_eq_getD_getElem?, Array.getElem?_setIfInBounds, e] using h
theorem switch_core : ∀ (fuel : Nat) (l : Array Bool) (a : Act) (w : World), (∀ j, l.getD j true = false → j ∈ ds) → wpAnyLast P md ops Q S2 ds2 fuel l a w → wpAnyLast P md ops Q S ds fuel l a w
  | 0, _, _, _, _, h => h
  | fuel + 1, l, a, w, hd, h => ⟨h.1, fun i hi => wpOp_mono (fun a' w' h' => ⟨fun hn _ => absurd (hd i (mem_ready.1 hi).1) hn, switch_core fuel _ a' w' (fun j hj => hd j (unlisted_set hj)) h'.2⟩) (h.2 i hi)⟩
/-- From here on S2 is held. -/
theorem switch_ {fuel : Nat} {l : Array Bool} {a : Act} {w : World} (hd : ((List.range l.size).all fun j => l.getD j true || ds.contains j) = true) (hS : S2 w)
    (h : S2 w → wpAnyLast P md ops Q S2 ds2 fuel l a w) : wpAnyLast P md ops Q S ds fuel l a w := by
  refine switch_core fuel l a w (fun j hj => ?_) (h hS)
  have hlt : j < l.size := by
    rcases Nat.lt_or_ge j l.size with h1 | h1
    · exact h1
    · simp [Array.getD, Nat.not_lt.2 h1] at hj
  have := List.all_eq_true.1 hd j (List.mem_range.2 hlt)
  rw [hj, Bool.false_or] at this
  simpa using this
end Go.Proofs.YtcakednecmngdaaDoorW.PrintLast
