/-
  The plain law of LabelKinds: Is of more values is met wherever Is of fewer is, and only where Has is; IsNot of fewer wherever IsNot of more is, and wherever Has is not.
  Conditions: none.
-/
import Derived.Test.YtcakednecmngdaaDoorLabelPure
import Derived.Test.YtcakednecmngdaaDoorLf12
set_option linter.unusedVariables false
set_option linter.unusedSimpArgs false
namespace Go.Proofs.YtcakednecmngdaaDoor.Pure
open Go Go.RowKit Go.Proofs.YtcakednecmngdaaDoor.L Go.Proofs.YtcakednecmngdaaDoor.P Go.Proofs.YtcakednecmngdaaDoorW.PrintWords Go.Proofs.YtcakednecmngdaaDoor.Plain Go.Proofs.YtcakednecmngdaaDoor.DnsPure Go.Proofs.YtcakednecmngdaaDoor.Label Go.Proofs.YtcakednecmngdaaDoor.LabelPure

theorem ask_vals {x : Int} {s : ByteArray} {vs : List ByteArray} (h : isNo (askOf x s vs) = false) (hv : 0 < vs.length) : nameB s = true ∧ fewVals vs = true ∧ (x = 1 ∨ x = 2) := by
  unfold askOf at h
  split at h
  · next hN =>
    refine ⟨hN, ?_⟩
    split at h
    · next q => exact ⟨q.2, .inl q.1⟩
    · split at h
      · next q => exact ⟨q.2, .inr q.1⟩
      · split at h
        · next q => omega
        · split at h
          · next q => omega
          · cases h
  · cases h
theorem few_wide {vs : List ByteArray} {m : ByteArray} (h : fewVals vs = true) (h7 : vs.length ≤ 7) (hm : valueB m = true) : fewVals (vs ++ [m]) = true := by
  unfold fewVals at h ⊢
  simp only [Bool.and_eq_true, decide_eq_true_eq, Bool.not_eq_true'] at h ⊢
  refine ⟨⟨by simp, by simp; omega⟩, ?_⟩
  rw [List.any_append, h.2]
  simp [hm]
theorem mem_wide {v m : ByteArray} {vs : List ByteArray} (h : memB v vs = true) : memB v (vs ++ [m]) = true := by
  rw [memB_iff] at h ⊢
  exact List.mem_append_left _ h
theorem met_three (s : ByteArray) (l : List S55) (hN : nameB s = true) : metN 3 s [] l = (mayL l && (findB l s).isSome) := by
  unfold metN askOf
  simp [hN, metB]
theorem met_1 (s : ByteArray) (vs : List ByteArray) (l : List S55) (hN : nameB s = true) (hf : fewVals vs = true) : metN 1 s vs l = (mayL l && hasB l s vs) := by
  unfold metN askOf
  simp [hN, hf, metB]
theorem met_2 (s : ByteArray) (vs : List ByteArray) (l : List S55) (hN : nameB s = true) (hf : fewVals vs = true) : metN 2 s vs l = (mayL l && !hasB l s vs) := by
  unfold metN askOf
  simp [hN, hf, metB]
theorem has_wide {l : List S55} {s m : ByteArray} {vs : List ByteArray} (h : hasB l s vs = true) : hasB l s (vs ++ [m]) = true ∧ (findB l s).isSome = true := by
  unfold hasB at h ⊢
  cases hf : findB l s with
  | none => rw [hf] at h; cases h
  | some v => rw [hf] at h; exact ⟨mem_wide h, rfl⟩
theorem has_some {l : List S55} {s : ByteArray} {vs : List ByteArray} (h : (findB l s).isSome = false) : hasB l s vs = false := by
  unfold hasB
  cases hf : findB l s with
  | none => rfl
  | some v => rw [hf] at h; cases h
theorem value_of {m : ByteArray} (h : labelB m = true) : valueB m = true := by
  unfold valueB
  rw [h, Bool.or_true]
theorem kinds_end (m : ByteArray) (l : List S55) (b : Bool) (x : Int) (s : ByteArray) (vs : List ByteArray) (hv : vs.length ≤ 9) (hb : b = false → isNo (askOf x s vs) = false ∧ mayL l = true ∧ 0 < vs.length ∧ vs.length ≤ 7 ∧ valueB m = true) : Ev (fun k => tolllaw08_LabelKinds.j0 k m l b x s vs) true := by
  cases b with
  | true => exact Ev.step (fun k => by rw [tolllaw08_LabelKinds.j0, if_pos rfl]) (ev_bind awake_true (Ev.now _))
  | false =>
    obtain ⟨h, hm, h0, h7, hval⟩ := hb rfl
    obtain ⟨hN, hf, hx⟩ := ask_vals h h0
    have hw := few_wide hf h7 hval
    refine Ev.step (fun k => by rw [tolllaw08_LabelKinds.j0, if_neg (by simp)]) ?_
    refine ev_bind rfl (ev_pos (by simp; omega) (ev_bind rfl (ev_pos (by simp; omega) ?_)))
    refine ev_bind (show label_Met.f _ _ _ _ = some (metN _ _ _ _) from rfl) (ev_bind (show label_Met.f _ _ _ _ = some (metN _ _ _ _) from rfl) (ev_bind (show label_Met.f _ _ _ _ = some (metN _ _ _ _) from rfl) ?_))
    rw [List.nil_append, met_three s l hN, hm, Bool.true_and]
    refine Ev.step (fun k => by rw [tolllaw08_LabelKinds.j1]) ?_
    rcases hx with rfl | rfl
    · refine ev_pos rfl ?_
      rw [met_1 s vs l hN hf, met_1 s _ l hN hw, hm, Bool.true_and, Bool.true_and]
      cases ha : hasB l s vs with
      | true =>
        obtain ⟨h1, h2⟩ := has_wide (m := m) ha
        rw [h1, h2]
        exact ev_pos rfl (ev_pos rfl (ev_pos rfl (ev_bind awake_true (Ev.now _))))
      | false => exact ev_neg (by simp) (ev_bind awake_true (Ev.now _))
    · refine ev_neg (by decide) ?_
      rw [met_2 s vs l hN hf, met_2 s _ l hN hw, hm, Bool.true_and, Bool.true_and]
      cases hc : (findB l s).isSome with
      | false =>
        rw [has_some hc, has_some hc]
        exact ev_pos rfl (ev_pos rfl (ev_neg (by simp) (ev_bind awake_true (Ev.now _))))
      | true =>
        cases hw2 : hasB l s (vs ++ [m]) with
        | true => exact ev_neg (by simp) (ev_pos rfl (ev_bind awake_true (Ev.now _)))
        | false =>
          have : hasB l s vs = false := by
            cases ha : hasB l s vs with
            | false => rfl
            | true => rw [(has_wide (m := m) ha).1] at hw2; cases hw2
          rw [this]
          exact ev_pos rfl (ev_pos rfl (ev_pos rfl (ev_bind awake_true (Ev.now _))))
theorem LabelKinds (x : Int) (s : ByteArray) (vs : List ByteArray) (more : ByteArray) (l : List S55) (hm : more.size ≤ 140737488351232) : ∃ k, tolllaw08_LabelKinds.f k x s vs more l = some true := by
  refine Ev.rounds (g := fun k => tolllaw08_LabelKinds.f k x s vs more l) ?_
  unfold tolllaw08_LabelKinds.f
  refine Ev.bind (Few8 [⟨x, s, vs⟩]) ?_
  have hs := few8_short [⟨x, s, vs⟩] (fewN ⟨x, s, vs⟩) (by simp [few8])
  rw [show few8 [⟨x, s, vs⟩] = [fewN ⟨x, s, vs⟩] from rfl]
  generalize fewN ⟨x, s, vs⟩ = n at hs ⊢
  have hv : n.f2.length ≤ 9 := hs.2.1
  refine ev_pos (by simp) (ev_bind (few_eq more) (Ev.bind (Few5 l) ?_))
  have hm2 := few_size more
  generalize fewB more = m at hm2 ⊢
  rw [rd_one]
  refine Ev.bind (RefNeeds [⟨n.f0, n.f1, n.f2⟩] (by simp) (by intro y hy; simp at hy; subst hy; exact hs)) ?_
  have hn : needsB [⟨n.f0, n.f1, n.f2⟩] = !isNo (askOf n.f0 n.f1 n.f2) := by unfold needsB; simp [noB]
  rw [hn]
  cases h : isNo (askOf n.f0 n.f1 n.f2) with
  | true => exact ev_neg (by simp) (kinds_end m _ true _ _ _ hv (fun z => by cases z))
  | false =>
    refine ev_pos rfl (Ev.bind (RefMay (few5 l) (by have := few5_length l; omega) (few5_short l)) ?_)
    cases hma : mayL (few5 l) with
    | false => exact ev_neg (by simp) (kinds_end m _ true _ _ _ hv (fun z => by cases z))
    | true =>
      refine ev_pos rfl ?_
      by_cases h0 : n.f2.length = 0
      · exact ev_pos (by omega) (kinds_end m _ true _ _ _ hv (fun z => by cases z))
      · refine ev_neg (by omega) ?_
        by_cases h7 : n.f2.length > 7
        · exact ev_pos (by omega) (kinds_end m _ true _ _ _ hv (fun z => by cases z))
        · refine ev_neg (by omega) ?_
          by_cases he : m.toList = []
          · exact ev_pos he (kinds_end m _ false _ _ _ hv (fun _ => ⟨h, hma, by omega, by omega, by unfold valueB; rw [decide_eq_true ((nil_iff m).1 he)]; rfl⟩))
          · refine ev_neg he (Ev.bind (Label m (by omega)) ?_)
            exact kinds_end m _ _ _ _ _ hv (fun z => ⟨h, hma, by omega, by omega, value_of (by simpa using z)⟩)
theorem LabelKinds_walk (a0 : Int) (a1 : ByteArray) (A2 : Option Addr) (c2 : Nat) (l2 : List ByteArray) (more : ByteArray) (A1 : Option Addr) (c1 : Nat) (l1 : List S55) (w : World) (hr : Kd.C Kd.string w A2 l2.length l2) (hc : l2.length ≤ c2) (hm : more.size ≤ 140737488351232) (hr1 : Kd.C k55 w A1 l1.length l1) (hc1 : l1.length ≤ c1) :
    Calls Tryd.prog 12 #[.agg #[.int .i64 a0, .string a1, .slice A2 l2.length c2], .string more, .slice A1 l1.length c1] w fun e w' => e = .returned (.bool true) ∧ Below w.heap.size w w' := by
  obtain ⟨k, hk⟩ := LabelKinds a0 a1 l2 more l1 hm
  exact tolllaw08_LabelKinds.calls k a0 a1 (fun _ => True) A2 c2 l2 more A1 c1 l1 w (V_of_C hr hc _ _) hr1 hc1 hk
end Go.Proofs.YtcakednecmngdaaDoor.Pure
