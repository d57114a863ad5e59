/-
  The plain law of DnsBacks: Cut gives back what Key glued; a refused key is no text.
  Conditions: texts of at most 140737488351232 octets.
-/
import Derived.Test.YtcakednecmngdaaDoorDnsPure4
namespace Go.Proofs.YtcakednecmngdaaDoor.Pure
open Go Go.RowKit Go.Proofs.YtcakednecmngdaaDoor.P Go.Proofs.YtcakednecmngdaaDoorW.PrintWords Go.Proofs.YtcakednecmngdaaDoor.Plain Go.Proofs.YtcakednecmngdaaDoor.DnsPure

theorem DnsBacks : tolllaw01_DnsBacks.Pure := by
  intro a b _ _
  refine Ev.rounds (g := fun k => tolllaw01_DnsBacks.f k a b) ?_
  unfold tolllaw01_DnsBacks.f
  have ha := few_size a
  have hb := few_size b
  refine ev_bind (few_eq a) (ev_bind (few_eq b) (ev_bind (key_eq _ _ (by omega) (by omega)) ?_))
  generalize fewB a = a at *
  generalize fewB b = b at *
  cases h : keyOk a b with
  | true =>
    have hz : (keyB a b).size = a.size + 1 + b.size := size_dot a b 47
    refine ev_pos rfl (ev_bind (cut_eq _ (by simp only [if_true]; omega)) ?_)
    simp only [if_true, cut_key a b h]
    refine ev_pos ?_ (Ev.bind awake (Ev.now _))
    rw [wrap_in (n := (a.size : Int) + 1) (by omega) (by omega), wrap_in (by omega) (by omega)]
    omega
  | false => exact ev_neg (by simp) (ev_pos (by rw [Lib.toList_data]; rfl) (Ev.bind awake (Ev.now _)))

end Go.Proofs.YtcakednecmngdaaDoor.Pure
