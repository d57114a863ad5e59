/-
  The plain law of LabelNots: of a need that may be, and its Not, just one is met by labels that may be; its Not's Not is it.
  Conditions: none.
-/
import Derived.Test.YtcakednecmngdaaDoorLabelFew
import Derived.Test.YtcakednecmngdaaDoorBaseSame
import Derived.Test.YtcakednecmngdaaDoorLf14
set_option linter.unusedVariables false
set_option linter.unusedSimpArgs false
namespace Go.Proofs.YtcakednecmngdaaDoor.Pure
open Go Go.RowKit Go.Proofs.YtcakednecmngdaaDoor.L Go.Proofs.YtcakednecmngdaaDoor.P Go.Proofs.YtcakednecmngdaaDoorW.PrintWords Go.Proofs.YtcakednecmngdaaDoor.Plain Go.Proofs.YtcakednecmngdaaDoor.DnsPure Go.Proofs.YtcakednecmngdaaDoor.Label Go.Proofs.YtcakednecmngdaaDoor.LabelPure

theorem same_one (x : Int) (s : ByteArray) (vs : List ByteArray) (hv : vs.length ≤ 1000) : Ev (fun k => tollref08_Same.f k [⟨x, s, vs⟩] [⟨x, s, vs⟩]) true := by
  unfold tollref08_Same.f
  refine ev_pos rfl (Ev.step (fun k => by rw [tollref08_Same.l0, if_pos (by simp), if_pos (by omega), if_pos (by simp), if_pos rfl, if_pos rfl]) (Ev.bind (Same _ _ (by show vs.length ≤ 1000000; omega)) ?_))
  refine ev_pos (by simp) ?_
  exact Ev.step (f := fun _ => some true) (fun k => by rw [show wrap64 ((0 : Int) + 1) = 1 by rw [wrap_in (by omega) (by omega)]; rfl, tollref08_Same.l0, if_neg (by simp)]) (Ev.now _)
theorem nots_end (l : List S55) (x : Int) (s : ByteArray) (vs : List ByteArray) (hl : l.length ≤ 31) (h : isNo (askOf x s vs) = false) : Ev (fun k => tolllaw08_LabelNots.j0 k l false x s vs (notK x) s vs) true := by
  refine Ev.step (fun k => by rw [tolllaw08_LabelNots.j0, if_neg (by simp)]) (Ev.bind (MayEv l (by omega)) ?_)
  have e1 := met_not h l
  have e2 : mayL l = false → metN x s vs l = false := fun z => by unfold metN; rw [z]; rfl
  cases hm : mayL l with
  | true =>
    rw [hm] at e1
    refine ev_pos rfl (Ev.bind (MayEv l (by omega)) ?_)
    rw [hm]
    refine ev_pos rfl (ev_bind (show label_Met.f _ _ _ _ = some (metN _ _ _ _) from rfl) (ev_bind (show label_Met.f _ _ _ _ = some (metN _ _ _ _) from rfl) ?_))
    rw [e1]
    exact ev_pos (by cases metN x s vs l <;> rfl) (ev_bind awake_true (Ev.now _))
  | false =>
    rw [hm] at e1
    refine ev_neg (by simp) (ev_bind (show label_Met.f _ _ _ _ = some (metN _ _ _ _) from rfl) ?_)
    rw [e2 hm]
    refine ev_neg (by simp) (ev_bind (show label_Met.f _ _ _ _ = some (metN _ _ _ _) from rfl) ?_)
    rw [e1]
    exact ev_neg (by simp) (ev_bind awake_true (Ev.now _))
theorem LabelNots (x : Int) (s : ByteArray) (vs : List ByteArray) (l : List S55) : ∃ k, tolllaw08_LabelNots.f k x s vs l = some true := by
  refine Ev.rounds (g := fun k => tolllaw08_LabelNots.f k x s vs l) ?_
  unfold tolllaw08_LabelNots.f
  refine Ev.bind (Few8 [⟨x, s, vs⟩]) ?_
  have hs := few8_short [⟨x, s, vs⟩] (fewN ⟨x, s, vs⟩) (by simp [few8])
  rw [show few8 [⟨x, s, vs⟩] = [fewN ⟨x, s, vs⟩] from rfl]
  generalize fewN ⟨x, s, vs⟩ = n at hs ⊢
  obtain ⟨x, s, vs⟩ := n
  have hv : vs.length ≤ 9 := hs.2.1
  refine ev_pos (by simp) (Ev.bind (Few5 l) ?_)
  rw [rd_one]
  refine ev_bind (show label_Not.f x s vs = some (notN x s vs) from rfl) (ev_bind (needs_eq _) ?_)
  have hn : needsB [⟨x, s, vs⟩] = !isNo (askOf x s vs) := by unfold needsB; simp [noB]
  rw [hn]
  cases h : isNo (askOf x s vs) with
  | true =>
    rw [notN_bad h]
    refine ev_neg (by simp) (ev_neg (by simp) (ev_pos rfl (ev_pos ((nil_iff _).2 rfl) (ev_pos rfl (ev_bind awake_true (Ev.now _))))))
  | false =>
    obtain ⟨h2, hk, _⟩ := not_asks h
    rw [notN_good h]
    refine ev_neg (by simp) (ev_pos rfl (ev_bind (show label_Not.f (notK x) s vs = some (notN (notK x) s vs) from rfl) ?_))
    rw [notN_good h2, hk]
    refine ev_pos rfl (Ev.bind (same_one x s vs (by omega)) (ev_pos rfl (ev_pos rfl (Ev.bind (Same vs vs (by omega)) ?_))))
    rw [decide_eq_true rfl]
    exact nots_end _ x s vs (few5_length l) h
theorem LabelNots_walk (a0 : Int) (a1 : ByteArray) (A2 : Option Addr) (c2 : Nat) (l2 : List ByteArray) (A1 : Option Addr) (c1 : Nat) (l1 : List S55) (w : World) (hr : Kd.C Kd.string w A2 l2.length l2) (hc : l2.length ≤ c2) (hr1 : Kd.C k55 w A1 l1.length l1) (hc1 : l1.length ≤ c1) :
    Calls Tryd.prog 14 #[.agg #[.int .i64 a0, .string a1, .slice A2 l2.length c2], .slice A1 l1.length c1] w fun e w' => e = .returned (.bool true) ∧ Below w.heap.size w w' := by
  obtain ⟨k, hk⟩ := LabelNots a0 a1 l2 l1
  exact tolllaw08_LabelNots.calls k a0 a1 (fun _ => True) A2 c2 l2 A1 c1 l1 w (V_of_C hr hc _ _) hr1 hc1 hk
end Go.Proofs.YtcakednecmngdaaDoor.Pure
