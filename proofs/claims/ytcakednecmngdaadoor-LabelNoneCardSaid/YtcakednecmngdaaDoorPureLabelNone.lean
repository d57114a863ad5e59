/-
  The plain law of LabelNone: needs of which one is another one's Not are met by no labels; a need twice is met as once.
  Conditions: none.
-/
import Derived.Test.YtcakednecmngdaaDoorLabelFew
import Derived.Test.YtcakednecmngdaaDoorLf16
set_option linter.unusedVariables false
set_option linter.unusedSimpArgs false
namespace Go.Proofs.YtcakednecmngdaaDoor.Pure
open Go Go.RowKit Go.Proofs.YtcakednecmngdaaDoor.L Go.Proofs.YtcakednecmngdaaDoor.P Go.Proofs.YtcakednecmngdaaDoorW.PrintWords Go.Proofs.YtcakednecmngdaaDoor.Plain Go.Proofs.YtcakednecmngdaaDoor.DnsPure Go.Proofs.YtcakednecmngdaaDoor.Label Go.Proofs.YtcakednecmngdaaDoor.LabelPure

theorem all_bad (x : Int) (s : ByteArray) (vs : List ByteArray) (l : List S55) (h : isNo (askOf x s vs) = true) : allB [⟨x, s, vs⟩] l = false := by
  unfold allB needsB
  simp [noB, h]
theorem all_both (x : Int) (s : ByteArray) (vs : List ByteArray) (l : List S55) (h : isNo (askOf x s vs) = false) : allB [⟨x, s, vs⟩, ⟨notK x, s, vs⟩] l = false := by
  unfold allB
  simp only [List.any_cons, List.any_nil, metS, met_not h]
  cases needsB [⟨x, s, vs⟩, ⟨notK x, s, vs⟩] <;> cases mayL l <;> cases metN x s vs l <;> rfl
theorem all_twice (x : Int) (s : ByteArray) (vs : List ByteArray) (l : List S55) (h : isNo (askOf x s vs) = false) : allB [⟨x, s, vs⟩, ⟨x, s, vs⟩] l = metN x s vs l := by
  unfold allB needsB
  simp only [List.any_cons, List.any_nil, metS, noB, h]
  unfold metN
  cases mayL l <;> cases metB (askOf x s vs) l <;> rfl
theorem LabelNone (x : Int) (s : ByteArray) (vs : List ByteArray) (l : List S55) : ∃ k, tolllaw08_LabelNone.f k x s vs l = some true := by
  refine Ev.rounds (g := fun k => tolllaw08_LabelNone.f k x s vs l) ?_
  unfold tolllaw08_LabelNone.f
  refine Ev.bind (Few8 [⟨x, s, vs⟩]) ?_
  rw [show few8 [⟨x, s, vs⟩] = [fewN ⟨x, s, vs⟩] from rfl]
  obtain ⟨x, s, vs⟩ := fewN ⟨x, s, vs⟩
  refine ev_pos (by simp) (Ev.bind (Few5 l) ?_)
  rw [rd_one]
  refine ev_bind (show label_Not.f x s vs = some (notN x s vs) from rfl) ?_
  cases h : isNo (askOf x s vs) with
  | true =>
    rw [notN_bad h]
    refine ev_neg (by simp) (ev_bind (show label_All.f _ _ = some (allB _ _) from rfl) ?_)
    rw [all_bad x s vs _ h]
    exact ev_neg (by simp) (ev_bind awake_true (Ev.now _))
  | false =>
    rw [notN_good h]
    refine ev_pos rfl (ev_bind (show label_All.f _ _ = some (allB _ _) from rfl) ?_)
    rw [all_both x s vs _ h]
    refine ev_neg (by simp) (ev_bind (show label_All.f _ _ = some (allB _ _) from rfl) (ev_bind (show label_Met.f _ _ _ _ = some (metN _ _ _ _) from rfl) ?_))
    rw [all_twice x s vs _ h]
    exact ev_pos (by simp) (ev_bind awake_true (Ev.now _))
theorem LabelNone_walk (a0 : Int) (a1 : ByteArray) (A2 : Option Addr) (c2 : Nat) (l2 : List ByteArray) (A1 : Option Addr) (c1 : Nat) (l1 : List S55) (w : World) (hr : Kd.C Kd.string w A2 l2.length l2) (hc : l2.length ≤ c2) (hr1 : Kd.C k55 w A1 l1.length l1) (hc1 : l1.length ≤ c1) :
    Calls Tryd.prog 16 #[.agg #[.int .i64 a0, .string a1, .slice A2 l2.length c2], .slice A1 l1.length c1] w fun e w' => e = .returned (.bool true) ∧ Below w.heap.size w w' := by
  obtain ⟨k, hk⟩ := LabelNone a0 a1 l2 l1
  exact tolllaw08_LabelNone.calls k a0 a1 (fun _ => True) A2 c2 l2 A1 c1 l1 w (V_of_C hr hc _ _) hr1 hc1 hk
end Go.Proofs.YtcakednecmngdaaDoor.Pure
