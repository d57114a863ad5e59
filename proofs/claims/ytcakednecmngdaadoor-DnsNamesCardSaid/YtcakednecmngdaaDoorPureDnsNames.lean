/-
  The plain law of DnsNames: a label, a name, its labels and its small letters are what the document says.
  Conditions: texts of at most 140737488351232 octets.
-/
import Derived.Test.YtcakednecmngdaaDoorDnsPure3
namespace Go.Proofs.YtcakednecmngdaaDoor.Pure
open Go Go.RowKit Go.Proofs.YtcakednecmngdaaDoor.P Go.Proofs.YtcakednecmngdaaDoorW.PrintWords Go.Proofs.YtcakednecmngdaaDoor.Plain Go.Proofs.YtcakednecmngdaaDoor.DnsPure

theorem names_j0 (a : ByteArray) (ha : a.size ≤ 100) (want : List ByteArray) (hw : want = if nameB a = true then partsB 46 a else []) :
    Ev (fun k => tolllaw01_DnsNames.j0 k a want) true := by
  refine Ev.step (fun k => by rw [tolllaw01_DnsNames.j0]) ?_
  refine ev_bind (a := labelB a) rfl (Ev.bind (Label a (by omega)) (ev_pos (by simp) ?_))
  refine ev_bind (a := nameB a) rfl (Ev.bind (Name a (by omega)) (ev_pos (by simp) ?_))
  refine ev_bind (labelsB_eq a (by omega)) ?_
  rw [← hw]
  have hl : want.length ≤ 1000000 := by
    have := partsB_many 46 a
    rw [hw]
    split
    · omega
    · simp
  refine Ev.bind (Same _ _ hl) (ev_pos (by simp) (ev_bind (fold_eq a (by omega)) (Ev.bind (FoldRef a (by omega)) (ev_pos rfl ?_))))
  exact Ev.bind awake (Ev.now _)

theorem DnsNames : tolllaw01_DnsNames.Pure := by
  intro a _
  refine Ev.rounds (g := fun k => tolllaw01_DnsNames.f k a) ?_
  unfold tolllaw01_DnsNames.f
  have ha := few_size a
  refine ev_bind (few_eq a) (Ev.bind (Name _ (by omega)) ?_)
  cases h : nameB (fewB a) with
  | true => exact ev_pos rfl (Ev.bind (Split _ 46 (by omega)) (names_j0 _ ha _ (by rw [h, if_pos rfl])))
  | false => exact ev_neg (by simp) (names_j0 _ ha _ (by rw [h]; rfl))

end Go.Proofs.YtcakednecmngdaaDoor.Pure
