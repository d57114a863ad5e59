/-
  The plain law of DnsKeys: the program's Key and Cut, and the document's, answer alike at all texts.
  Conditions: texts of at most 140737488351232 octets.
-/
import Derived.Test.YtcakednecmngdaaDoorDnsPure4
namespace Go.Proofs.YtcakednecmngdaaDoor.Pure
open Go Go.RowKit Go.Proofs.YtcakednecmngdaaDoor.P Go.Proofs.YtcakednecmngdaaDoorW.PrintWords Go.Proofs.YtcakednecmngdaaDoor.Plain Go.Proofs.YtcakednecmngdaaDoor.DnsPure

theorem keys_j0 (a : ByteArray) (ha : a.size ≤ 100) : Ev (fun k => tolllaw01_DnsKeys.j0 k a false) true := by
  refine Ev.step (fun k => by rw [tolllaw01_DnsKeys.j0, if_neg (by simp)]) ?_
  refine ev_bind (cut_eq a (by omega)) (Ev.bind (Cut a (by omega)) ?_)
  cases cutB a with
  | some p => exact ev_pos rfl (ev_pos rfl (ev_pos rfl (ev_pos rfl (Ev.bind awake (Ev.now _)))))
  | none => exact ev_pos rfl (ev_pos rfl (ev_pos rfl (ev_neg (by simp) (ev_pos rfl (Ev.bind awake (Ev.now _))))))

theorem DnsKeys : tolllaw01_DnsKeys.Pure := by
  intro a b c _ _ _
  refine Ev.rounds (g := fun k => tolllaw01_DnsKeys.f k a b c) ?_
  unfold tolllaw01_DnsKeys.f
  have ha := few_size a
  have hb := few_size b
  have hc := few_size c
  refine ev_bind (few_eq a) (ev_bind (few_eq b) (ev_bind (few_eq c) (ev_bind (key_eq _ _ (by omega) (by omega)) (Ev.bind (Key _ _ (by omega) (by omega)) ?_))))
  cases keyOk (fewB a) (fewB b) with
  | true => exact ev_pos rfl (ev_neg (by simp) (ev_pos rfl (keys_j0 _ hc)))
  | false => exact ev_pos rfl (ev_neg (by simp) (ev_neg (by simp) (keys_j0 _ hc)))

end Go.Proofs.YtcakednecmngdaaDoor.Pure
