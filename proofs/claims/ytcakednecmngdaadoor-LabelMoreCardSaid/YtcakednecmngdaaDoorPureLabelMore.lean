/-
  The plain law of LabelMore: more needs are met by no more labels; in whatever order they are met by the same; no needs are met by all that may be.
  Conditions: none.
-/
import Derived.Test.YtcakednecmngdaaDoorLabelFew
import Derived.Test.YtcakednecmngdaaDoorLf15
set_option linter.unusedVariables false
set_option linter.unusedSimpArgs false
namespace Go.Proofs.YtcakednecmngdaaDoor.LabelPure
open Go Go.RowKit Go.Proofs.YtcakednecmngdaaDoor.L Go.Proofs.YtcakednecmngdaaDoor.P Go.Proofs.YtcakednecmngdaaDoorW.PrintWords Go.Proofs.YtcakednecmngdaaDoor.Plain Go.Proofs.YtcakednecmngdaaDoor.Label

theorem all_append (a b : List S58) (l : List S55) (ha : a.length ≤ 4) (hb : b.length ≤ 4) : allB (a ++ b) l = (allB a l && allB b l) := by
  unfold allB needsB
  rw [List.any_append, List.any_append, decide_eq_true (show (a ++ b).length ≤ 8 by simp; omega), decide_eq_true (show a.length ≤ 8 by omega), decide_eq_true (show b.length ≤ 8 by omega)]
  cases a.any noB <;> cases b.any noB <;> cases mayL l <;> cases (a.any fun x => !metS l x) <;> cases (b.any fun x => !metS l x) <;> rfl
theorem all_nil (l : List S55) : allB [] l = mayL l := by
  unfold allB needsB
  simp
end Go.Proofs.YtcakednecmngdaaDoor.LabelPure
namespace Go.Proofs.YtcakednecmngdaaDoor.Pure
open Go Go.RowKit Go.Proofs.YtcakednecmngdaaDoor.L Go.Proofs.YtcakednecmngdaaDoor.P Go.Proofs.YtcakednecmngdaaDoorW.PrintWords Go.Proofs.YtcakednecmngdaaDoor.Plain Go.Proofs.YtcakednecmngdaaDoor.DnsPure Go.Proofs.YtcakednecmngdaaDoor.Label Go.Proofs.YtcakednecmngdaaDoor.LabelPure

theorem more_2 (l : List S55) (a b : List S58) (t : Bool) (hl : l.length ≤ 31) (h1 : allB a l = t) (h2 : allB b l = t) : Ev (fun k => tolllaw08_LabelMore.j2 k l a b t) true := by
  refine Ev.step (fun k => by rw [tolllaw08_LabelMore.j2]) (ev_bind (show label_All.f _ _ = some (allB _ _) from rfl) ?_)
  rw [h1]
  refine ev_pos (by simp) (ev_bind (show label_All.f _ _ = some (allB _ _) from rfl) ?_)
  rw [h2]
  refine ev_pos (by simp) (ev_bind (show label_All.f _ _ = some (allB _ _) from rfl) (Ev.bind (MayEv l (by omega)) ?_))
  rw [all_nil]
  exact ev_pos (by simp) (ev_bind awake_true (Ev.now _))
theorem more_1 (a b : List S58) (l : List S55) (ha : a.length ≤ 4) (hb : b.length ≤ 4) (hl : l.length ≤ 31) : Ev (fun k => tolllaw08_LabelMore.j1 k a b l) true := by
  have e1 : allB (a ++ b) l = (allB a l && allB b l) := all_append a b l ha hb
  have e2 : allB (b ++ a) l = (allB a l && allB b l) := by rw [all_append b a l hb ha, Bool.and_comm]
  refine Ev.step (fun k => by rw [tolllaw08_LabelMore.j1]) ?_
  refine ev_bind rfl (ev_pos (by simp; omega) (ev_bind rfl (ev_pos (by simp; omega) (ev_bind rfl ?_))))
  refine ev_bind rfl (ev_pos (by simp; omega) (ev_bind rfl (ev_pos (by simp; omega) (ev_bind rfl ?_))))
  refine ev_bind (show label_All.f _ _ = some (allB _ _) from rfl) ?_
  rw [List.nil_append, List.nil_append]
  cases h : allB a l with
  | true =>
    rw [h, Bool.true_and] at e1 e2
    exact ev_pos rfl (ev_bind (show label_All.f _ _ = some (allB _ _) from rfl) (more_2 l _ _ _ hl e1 e2))
  | false =>
    rw [h, Bool.false_and] at e1 e2
    exact ev_neg (by simp) (more_2 l _ _ _ hl e1 e2)
theorem more_0 (a b : List S58) (l : List S55) (ha : a.length ≤ 4) (hb : b.length ≤ 9) (hl : l.length ≤ 31) : Ev (fun k => tolllaw08_LabelMore.j0 k a b l) true := by
  by_cases h : b.length > 4
  · refine Ev.step (fun k => by rw [tolllaw08_LabelMore.j0, if_pos (by omega), if_pos (by omega)]) (more_1 a _ l ha ?_ hl)
    rw [List.length_take]
    exact Nat.min_le_left _ _
  · exact Ev.step (fun k => by rw [tolllaw08_LabelMore.j0, if_neg (by omega)]) (more_1 a b l ha (by omega) hl)
theorem LabelMore (a b : List S58) (l : List S55) : ∃ k, tolllaw08_LabelMore.f k a b l = some true := by
  refine Ev.rounds (g := fun k => tolllaw08_LabelMore.f k a b l) ?_
  unfold tolllaw08_LabelMore.f
  refine Ev.bind (Few8 a) (Ev.bind (Few8 b) (Ev.bind (Few5 l) ?_))
  have h1 := few8_length a
  have h2 := few8_length b
  have h3 := few5_length l
  generalize few8 a = a at h1 ⊢
  by_cases h : a.length > 4
  · refine ev_pos (by omega) (ev_pos (by omega) (more_0 _ _ _ ?_ h2 h3))
    rw [List.length_take]
    exact Nat.min_le_left _ _
  · exact ev_neg (by omega) (more_0 _ _ _ (by omega) h2 h3)
theorem LabelMore_walk (A0 : Option Addr) (c0 : Nat) (l0 : List S58) (A1 : Option Addr) (c1 : Nat) (l1 : List S58) (A2 : Option Addr) (c2 : Nat) (l2 : List S55) (w : World) (hr0 : Kd.C k58 w A0 l0.length l0) (hc0 : l0.length ≤ c0)
    (hr1 : Kd.C k58 w A1 l1.length l1) (hc1 : l1.length ≤ c1) (hr2 : Kd.C k55 w A2 l2.length l2) (hc2 : l2.length ≤ c2) :
    Calls Tryd.prog 15 #[.slice A0 l0.length c0, .slice A1 l1.length c1, .slice A2 l2.length c2] w fun e w' => e = .returned (.bool true) ∧ Below w.heap.size w w' := by
  obtain ⟨k, hk⟩ := LabelMore l0 l1 l2
  exact tolllaw08_LabelMore.calls k A0 c0 l0 A1 c1 l1 A2 c2 l2 true w hr0 hc0 hr1 hc1 hr2 hc2 hk
end Go.Proofs.YtcakednecmngdaaDoor.Pure
