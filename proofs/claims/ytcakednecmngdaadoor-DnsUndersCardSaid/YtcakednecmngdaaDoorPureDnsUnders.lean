/-
  The plain law of DnsUnders: the program's Under and the document's one answer alike at all texts.
  Conditions: texts of at most 140737488351232 octets.
-/
import Derived.Test.YtcakednecmngdaaDoorDnsPure
namespace Go.Proofs.YtcakednecmngdaaDoor.Pure
open Go Go.RowKit Go.Proofs.YtcakednecmngdaaDoor.P Go.Proofs.YtcakednecmngdaaDoorW.PrintWords Go.Proofs.YtcakednecmngdaaDoor.Plain Go.Proofs.YtcakednecmngdaaDoor.DnsPure

theorem DnsUnders : tolllaw01_DnsUnders.Pure := by
  intro a b _ _
  refine Ev.rounds (g := fun k => tolllaw01_DnsUnders.f k a b) ?_
  unfold tolllaw01_DnsUnders.f
  have ha := few_size a
  have hb := few_size b
  refine ev_bind (few_eq a) (ev_bind (few_eq b) (ev_bind (under_eq _ _ (by omega) (by omega)) (Ev.bind (Under _ _ (by omega) (by omega)) (ev_pos (by simp) ?_))))
  exact Ev.bind awake (Ev.now _)

end Go.Proofs.YtcakednecmngdaaDoor.Pure
