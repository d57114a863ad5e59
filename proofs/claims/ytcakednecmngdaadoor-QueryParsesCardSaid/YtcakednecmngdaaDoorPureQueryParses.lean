/-
  The plain law of QueryParses: any text is the document's pairs, or refused; what was read is read as it was when it is written.
  Conditions: texts of at most 140737488351232 octets.
-/
import Derived.Test.YtcakednecmngdaaDoorQueryB
import Derived.Test.YtcakednecmngdaaDoorYf24
namespace Go.Proofs.YtcakednecmngdaaDoor.Pure
open Go Go.RowKit Go.Proofs.YtcakednecmngdaaDoor.Y Go.Proofs.YtcakednecmngdaaDoor.P Go.Proofs.YtcakednecmngdaaDoorW.PrintWords Go.Proofs.YtcakednecmngdaaDoor.Plain Go.Proofs.YtcakednecmngdaaDoor.DnsPure Go.Proofs.YtcakednecmngdaaDoor.Query

theorem QueryParses : tolllaw04_QueryParses.Pure := by
  intro a _
  refine Ev.rounds (g := fun k => tolllaw04_QueryParses.f k a) ?_
  unfold tolllaw04_QueryParses.f
  have ha := short_size a
  refine ev_bind (short_eq a) (ev_bind (parse_f _ (by omega)) (Ev.bind (ParseRef _ (by omega)) ?_))
  rcases parse_cases (shortB a) with ⟨l, hl, hm⟩ | h
  · rw [hl]
    have hlen := (may_parts hm).1
    have hz := textL_length l hm
    refine Ev.bind (Query.Same _ _ (by simp only; omega)) (ev_pos (same_refl _) (ev_neg (by simp [refOf]) (ev_pos rfl ?_)))
    refine Ev.step (fun k => by rw [tolllaw04_QueryParses.j0, if_neg (by simp), if_pos (show (refOf (l, (0 : Int))).2 = true from rfl)]) ?_
    refine Ev.bind (text_ev l (by omega)) ?_
    rw [textB, if_pos hm]
    refine ev_bind (parse_f _ (by rw [txt_size]; omega)) (ev_pos rfl ?_)
    rw [parse_text l hm]
    exact Ev.bind (Query.Same _ _ (by simp only; omega)) (ev_pos (same_refl _) (ev_pos rfl (Ev.bind Query.awake (Ev.now _))))
  · rw [h]
    refine Ev.bind (Query.Same _ _ (by simp)) (ev_pos (same_refl _) (ev_neg (by simp [refOf]) (ev_neg (by simp [refOf]) ?_)))
    refine Ev.step (fun k => by rw [tolllaw04_QueryParses.j0, if_neg (by simp), if_neg (by simp [refOf])]) ?_
    exact Ev.bind Query.awake (Ev.now _)

end Go.Proofs.YtcakednecmngdaaDoor.Pure
