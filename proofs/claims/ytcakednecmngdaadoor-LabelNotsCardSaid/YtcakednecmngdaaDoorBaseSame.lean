/-
  What the document's Same comes to.
  Conditions: as each theorem states them.
-/
import Derived.Test.YtcakednecmngdaaDoorBase
import Derived.Test.YtcakednecmngdaaDoorPf48
namespace Go.Proofs.YtcakednecmngdaaDoor.DnsPure
open Go Go.RowKit Go.Proofs.YtcakednecmngdaaDoor.P Go.Proofs.YtcakednecmngdaaDoorW.PrintWords Go.Proofs.YtcakednecmngdaaDoor.Plain

theorem same_from (l m : List ByteArray) (hl : l.length ≤ 1000000) (hm : m.length = l.length) : ∀ (d i : Nat), l.length = i + d → Ev (fun k => tollref01_Same.l0 k l m i) (decide (l.drop i = m.drop i)) := by
  intro d
  induction d with
  | zero =>
    intro i hd
    refine Ev.step (f := fun _ => some true) (fun k => ?_) ?_
    · simp only [tollref01_Same.l0]; rw [if_neg (by omega)]
    · rw [List.drop_eq_nil_of_le (by omega), List.drop_eq_nil_of_le (by omega)]; exact Ev.now _
  | succ d ih =>
    intro i hd
    have hlt : i < l.length := by omega
    have hlm : i < m.length := by omega
    have e1 : wrap64 ((i : Int) + 1) = ((i + 1 : Nat) : Int) := by rw [wrap_in (by omega) (by omega)]; omega
    refine Ev.step (f := fun k => if l[i].toList = m[i].toList then tollref01_Same.l0 k l m ((i + 1 : Nat) : Int) else some false) (fun k => ?_) ?_
    · simp only [tollref01_Same.l0, e1]
      rw [if_pos (by omega), if_pos (by omega), if_pos (by omega), rd_at l i hlt, rd_at m i hlm]
    · rw [List.drop_eq_getElem_cons hlt, List.drop_eq_getElem_cons hlm]
      by_cases h : l[i] = m[i]
      · refine ev_pos (by rw [h]) ?_
        rw [show decide (l[i] :: List.drop (i + 1) l = m[i] :: List.drop (i + 1) m) = decide (List.drop (i + 1) l = List.drop (i + 1) m) by
          rw [decide_eq_decide, List.cons.injEq]; exact ⟨fun z => z.2, fun z => ⟨h, z⟩⟩]
        exact ih (i + 1) (by omega)
      · refine ev_neg (by rw [toList_inj]; exact h) ?_
        rw [decide_eq_false (by rw [List.cons.injEq]; exact fun z => h z.1)]
        exact Ev.now _
theorem Same (l m : List ByteArray) (hl : l.length ≤ 1000000) : Ev (fun k => tollref01_Same.f k l m) (decide (l = m)) := by
  unfold tollref01_Same.f
  by_cases h : (l.length : Int) = (m.length : Int)
  · refine ev_pos h ?_
    simpa using same_from l m hl (by omega) l.length 0 (by omega)
  · refine ev_neg h ?_
    rw [decide_eq_false (by rintro rfl; exact h rfl)]
    exact Ev.now _

end Go.Proofs.YtcakednecmngdaaDoor.DnsPure
