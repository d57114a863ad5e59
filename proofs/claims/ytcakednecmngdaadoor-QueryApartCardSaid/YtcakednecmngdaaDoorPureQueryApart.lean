/-
  The plain law of QueryApart: two lists have one text just if they are the same.
  Conditions: none.
-/
import Derived.Test.YtcakednecmngdaaDoorQueryB
import Derived.Test.YtcakednecmngdaaDoorYf27
namespace Go.Proofs.YtcakednecmngdaaDoor.Pure
open Go Go.RowKit Go.Proofs.YtcakednecmngdaaDoor.Y Go.Proofs.YtcakednecmngdaaDoor.P Go.Proofs.YtcakednecmngdaaDoorW.PrintWords Go.Proofs.YtcakednecmngdaaDoor.Plain Go.Proofs.YtcakednecmngdaaDoor.DnsPure Go.Proofs.YtcakednecmngdaaDoor.Query

theorem few4_eq' (l : List S55) : tolllaw04_Few.f l = some ((l.take 21).map fewP) := rfl
theorem few4_length' (l : List S55) : ((l.take 21).map fewP).length ≤ 21 := by simp; omega
theorem apart_awake (x y : List S55) (s t : ByteArray) : Ev (fun k => tolllaw04_QueryApart.j0 k x y s t true) true := by
  refine Ev.step (fun k => by rw [tolllaw04_QueryApart.j0, if_pos rfl]) ?_
  exact Ev.bind Query.awake (Ev.now _)
theorem QueryApart (a b : List S55) : ∃ k, tolllaw04_QueryApart.f k a b = some true := by
  refine Ev.rounds (g := fun k => tolllaw04_QueryApart.f k a b) ?_
  unfold tolllaw04_QueryApart.f
  have ha := few4_length' a
  have hb := few4_length' b
  refine ev_bind (few4_eq' a) (ev_bind (few4_eq' b) ?_)
  generalize (a.take 21).map fewP = x at *
  generalize (b.take 21).map fewP = y at *
  refine Ev.bind (text_ev x (by omega)) (Ev.bind (text_ev y (by omega)) ?_)
  cases hx : mayB x with
  | false =>
    rw [show textB x = (⟨#[]⟩, 1) by rw [textB, hx, if_neg (by simp)]]
    exact ev_neg (by decide) (apart_awake _ _ _ _)
  | true =>
    rw [show textB x = (txt (textL x), 0) by rw [textB, if_pos hx]]
    refine ev_pos rfl ?_
    cases hy : mayB y with
    | false =>
      rw [show textB y = (⟨#[]⟩, 1) by rw [textB, hy, if_neg (by simp)]]
      exact apart_awake _ _ _ _
    | true =>
      rw [show textB y = (txt (textL y), 0) by rw [textB, if_pos hy]]
      refine Ev.step (fun k => by rw [tolllaw04_QueryApart.j0, if_neg (by simp)]) ?_
      refine Ev.bind (Query.Same _ _ (by omega)) (ev_pos ?_ (Ev.bind Query.awake (Ev.now _)))
      by_cases h : x = y
      · rw [h, same_refl]; simp
      · have h1 : same x y = false := by
          cases hs : same x y with
          | false => rfl
          | true => exact absurd (same_iff.1 hs) h
        have h2 : ((txt (textL x)).toList == (txt (textL y)).toList) = false := by
          rw [beq_eq_false_iff_ne]
          intro he
          have hp := congrArg parseB (toList_inj.1 he)
          rw [parse_text x hx, parse_text y hy] at hp
          injection hp with hp
          exact h hp
        rw [h1, h2]; rfl

theorem QueryApart_walk (A0 : Option Addr) (c0 : Nat) (l0 : List S55) (A1 : Option Addr) (c1 : Nat) (l1 : List S55) (w : World) (hr0 : Kd.C k55 w A0 l0.length l0) (hc0 : l0.length ≤ c0) (hr1 : Kd.C k55 w A1 l1.length l1) (hc1 : l1.length ≤ c1) :
    Calls Tryd.prog 27 #[.slice A0 l0.length c0, .slice A1 l1.length c1] w fun e w' => e = .returned (.bool true) ∧ Below w.heap.size w w' := by
  obtain ⟨k, hk⟩ := QueryApart l0 l1
  exact tolllaw04_QueryApart.calls k A0 c0 l0 A1 c1 l1 true w hr0 hc0 hr1 hc1 hk

end Go.Proofs.YtcakednecmngdaaDoor.Pure
