/-
  The plain law of DnsGoes: to be under is transitive and no name is under itself; a label more ahead is under it.
  Conditions: texts of at most 140737488351232 octets.
-/
import Derived.Test.YtcakednecmngdaaDoorP4
import Derived.Test.YtcakednecmngdaaDoorDnsPure2
namespace Go.Proofs.YtcakednecmngdaaDoor.Pure
open Go Go.RowKit Go.Proofs.YtcakednecmngdaaDoor.P Go.Proofs.YtcakednecmngdaaDoorW.PrintWords Go.Proofs.YtcakednecmngdaaDoor.Plain Go.Proofs.YtcakednecmngdaaDoor.DnsPure

theorem goes_j1 (a b : ByteArray) (ha : a.size ≤ 100) (hb : b.size ≤ 100) (na : nameB a = true) (lb : labelB b = true) :
    Ev (fun k => tolllaw01_DnsGoes.j1 k a b (decide ((wrap64 ((a.size : Int) + (b.size : Int))) ≥ 60))) true := by
  rw [wrap_in (by omega) (by omega)]
  by_cases h : (a.size : Int) + (b.size : Int) ≥ 60
  · rw [decide_eq_true h]
    refine Ev.step (fun k => by rw [tolllaw01_DnsGoes.j1, if_pos rfl]) ?_
    exact Ev.bind awake (Ev.now _)
  · rw [decide_eq_false h]
    refine Ev.step (fun k => by rw [tolllaw01_DnsGoes.j1, if_neg (by simp), if_pos (by omega), if_pos (by rw [size_one]; omega)]) ?_
    refine ev_bind (under_eq _ _ (by rw [size_dot]; omega) (by omega)) (ev_pos (under_more na lb (by omega)) (ev_pos (by omega) ?_))
    refine ev_bind (under_eq _ _ (by rw [ByteArray.size_append]; omega) (by omega)) (ev_neg (by rw [under_glued lb]; simp) ?_)
    exact Ev.bind awake (Ev.now _)
theorem goes_j1_yes (a b : ByteArray) : Ev (fun k => tolllaw01_DnsGoes.j1 k a b true) true := by
  refine Ev.step (fun k => by rw [tolllaw01_DnsGoes.j1, if_pos rfl]) ?_
  exact Ev.bind awake (Ev.now _)
theorem goes_j0 (a b : ByteArray) (ha : a.size ≤ 100) (hb : b.size ≤ 100) : Ev (fun k => tolllaw01_DnsGoes.j0 k a b false) true := by
  refine Ev.step (fun k => by rw [tolllaw01_DnsGoes.j0, if_neg (by simp)]) ?_
  refine ev_bind (a := nameB a) rfl ?_
  cases na : nameB a with
  | false => exact ev_neg (by simp) (goes_j1_yes a b)
  | true =>
    refine ev_pos rfl (ev_bind (a := labelB b) rfl ?_)
    cases lb : labelB b with
    | false => exact ev_neg (by simp) (goes_j1_yes a b)
    | true => exact ev_pos rfl (goes_j1 a b ha hb na lb)

theorem DnsGoes : tolllaw01_DnsGoes.Pure := by
  intro a b c _ _ _
  refine Ev.rounds (g := fun k => tolllaw01_DnsGoes.f k a b c) ?_
  unfold tolllaw01_DnsGoes.f
  have ha := few_size a
  have hb := few_size b
  have hc := few_size c
  refine ev_bind (few_eq a) (ev_bind (few_eq b) (ev_bind (few_eq c) (ev_bind (under_eq _ _ (by omega) (by omega)) ?_)))
  generalize fewB a = a at *
  generalize fewB b = b at *
  generalize fewB c = c at *
  rw [under_irrefl]
  refine ev_neg (by simp) (ev_bind (under_eq _ _ (by omega) (by omega)) ?_)
  cases hab : underB a b with
  | false => exact ev_neg (by simp) (goes_j0 a b ha hb)
  | true =>
    refine ev_pos rfl (ev_bind (under_eq _ _ (by omega) (by omega)) ?_)
    have hba : underB b a = false := by
      cases h : underB b a with
      | false => rfl
      | true => have := under_len h; have := under_len hab; omega
    rw [hba]
    refine ev_neg (by simp) (ev_bind (under_eq _ _ (by omega) (by omega)) ?_)
    cases hbc : underB b c with
    | false => exact ev_neg (by simp) (goes_j0 a b ha hb)
    | true =>
      refine ev_pos rfl (ev_bind (under_eq _ _ (by omega) (by omega)) ?_)
      rw [under_trans hab hbc]
      exact goes_j0 a b ha hb

end Go.Proofs.YtcakednecmngdaaDoor.Pure
