/-
  What the functions over labels and needs come to, in plain words: the document's answers beside the code's.
  Conditions: texts of at most 1000 octets, lists of at most 1000.
-/
import Derived.Test.YtcakednecmngdaaDoorLf56
import Derived.Test.YtcakednecmngdaaDoorLf57
import Derived.Test.YtcakednecmngdaaDoorBaseLabel
import Derived.Test.YtcakednecmngdaaDoorLabelFew
set_option linter.unusedVariables false
set_option linter.unusedSimpArgs false
namespace Go.Proofs.YtcakednecmngdaaDoor.LabelPure
open Go Go.RowKit Go.Proofs.YtcakednecmngdaaDoor.L Go.Proofs.YtcakednecmngdaaDoor.P Go.Proofs.YtcakednecmngdaaDoorW.PrintWords Go.Proofs.YtcakednecmngdaaDoor.Plain Go.Proofs.YtcakednecmngdaaDoor.DnsPure Go.Proofs.YtcakednecmngdaaDoor.Label

/-! ### the document's answers -/
theorem RefValue (s : ByteArray) (h : s.size ≤ 100) : Ev (fun k => tollref08_value.f k s) (valueB s) := by
  unfold tollref08_value.f valueB
  by_cases h0 : s.size = 0
  · rw [decide_eq_true h0, Bool.true_or]
    exact ev_pos ((nil_iff s).2 h0) (Ev.now _)
  · rw [decide_eq_false h0, Bool.false_or]
    exact ev_neg (fun z => h0 ((nil_iff s).1 z)) (Ev.bind (Label s (by omega)) (Ev.now _))
theorem refMay_from (l : List S55) (hl : l.length ≤ 1000) (hs : shortP l) : ∀ (d i : Nat), l.length = i + d → Ev (fun k => tollref08_May.l0 k l i) (mayFrom (if i = 0 then none else (l[i - 1]?).map (·.f0)) (l.drop i) && decide (l.length ≤ 8)) := by
  intro d
  induction d with
  | zero =>
    intro i hd
    refine Ev.step (f := fun _ => some _) (fun k => by rw [tollref08_May.l0, if_neg (by omega)]) ?_
    rw [List.drop_eq_nil_of_le (by omega), mayFrom_nil, Bool.true_and, show decide ((l.length : Int) ≤ 8) = decide (l.length ≤ 8) by rw [decide_eq_decide]; omega]
    exact Ev.now _
  | succ d ih =>
    intro i hd
    have hlt : i < l.length := by omega
    have hn := ih (i + 1) (by omega)
    rw [if_neg (by omega), Nat.add_sub_cancel, List.getElem?_eq_getElem hlt, Option.map_some] at hn
    have h1 := hs _ (List.getElem_mem hlt)
    refine Ev.step (fun k => by rw [tollref08_May.l0, if_pos (by omega), if_pos (by omega), rd55 l i hlt, succ_w hlt (by omega)]) (Ev.bind (Name _ (by omega)) ?_)
    rw [List.drop_eq_getElem_cons hlt, mayFrom_cons]
    cases nameB l[i].f0 with
    | false => exact ev_neg (by simp) (Ev.now _)
    | true =>
      refine ev_pos rfl (Ev.bind (RefValue _ (by omega)) ?_)
      cases valueB l[i].f1 with
      | false => exact ev_neg (by simp) (Ev.now _)
      | true =>
        refine ev_pos rfl ?_
        by_cases h0 : i = 0
        · subst h0
          exact ev_neg (by omega) (by simpa using hn)
        · have e : wrap64 ((i : Int) - 1) = ((i - 1 : Nat) : Int) := by rw [wrap_in (by omega) (by omega)]; omega
          have hlt1 : i - 1 < l.length := by omega
          rw [if_neg h0, List.getElem?_eq_getElem hlt1, Option.map_some]
          rw [e, rd55 l _ hlt1]
          refine ev_pos (by omega) (ev_pos (by omega) (ev_pos (by omega) ?_))
          cases hb : Op.bytesLess l[i - 1].f0.toList l[i].f0.toList with
          | true => exact ev_pos rfl (by simpa [hb] using hn)
          | false =>
            refine ev_neg (by simp) ?_
            simp only [hb, Bool.and_false, Bool.false_and]
            exact Ev.now _
theorem RefMay (l : List S55) (hl : l.length ≤ 1000) (hs : shortP l) : Ev (fun k => tollref08_May.f k l) (mayL l) := by
  have := refMay_from l hl hs l.length 0 (by omega)
  rw [if_pos rfl, List.drop_zero] at this
  exact this
theorem no_bad (x : Int) (s : ByteArray) (vs : List ByteArray) (h : (vs.any fun s => !valueB s) = true) : isNo (askOf x s vs) = true := by
  have hf : fewVals vs = false := by unfold fewVals; rw [h]; simp
  have hne : ¬ vs.length = 0 := fun z => by
    rw [List.length_eq_zero_iff.1 z] at h
    cases h
  unfold askOf
  rw [hf]
  simp [hne]
  rfl
def oneB (x : Int) (s : ByteArray) (vs : List ByteArray) : Bool := if x = 1 ∨ x = 2 then nameB s && (decide (1 ≤ vs.length) && decide (vs.length ≤ 8)) else if x = 3 ∨ x = 4 then nameB s && decide (vs.length = 0) else false
theorem one_good (x : Int) (s : ByteArray) (vs : List ByteArray) (h : (vs.any fun s => !valueB s) = false) : (!isNo (askOf x s vs)) = oneB x s vs := by
  have hf : fewVals vs = (decide (1 ≤ vs.length) && decide (vs.length ≤ 8)) := by unfold fewVals; rw [h]; simp
  unfold askOf oneB
  rw [hf]
  cases nameB s with
  | false => simp [isNo]
  | true =>
    by_cases h1 : x = 1
    · subst h1
      cases decide (1 ≤ vs.length) && decide (vs.length ≤ 8) <;> simp [isNo]
    · by_cases h2 : x = 2
      · subst h2
        cases decide (1 ≤ vs.length) && decide (vs.length ≤ 8) <;> simp [isNo]
      · by_cases h3 : x = 3
        · subst h3
          by_cases h0 : vs.length = 0 <;> simp [isNo, h0]
        · by_cases h4 : x = 4
          · subst h4
            by_cases h0 : vs.length = 0 <;> simp [isNo, h0]
          · simp [isNo, h1, h2, h3, h4]
theorem one_end (x : Int) (s : ByteArray) (vs : List ByteArray) (hs : s.size ≤ 100) (b : Bool) (hb : b = (x == 1 || x == 2)) : Ev (fun k => tollref08_One.j1 k x b x s vs) (oneB x s vs) := by
  have hN := Name s (by omega)
  unfold oneB
  by_cases h1 : x = 1 ∨ x = 2
  · have e : b = true := by rw [hb]; rcases h1 with rfl | rfl <;> rfl
    rw [if_pos h1]
    refine Ev.step (fun k => by rw [tollref08_One.j1, if_pos e]) (Ev.bind hN ?_)
    cases nameB s with
    | false => exact ev_neg (by simp) (Ev.now _)
    | true =>
      refine ev_pos rfl ?_
      by_cases h : 1 ≤ vs.length
      · refine ev_pos (by omega) ?_
        rw [decide_eq_true h, Bool.true_and, Bool.true_and, show decide ((vs.length : Int) ≤ 8) = decide (vs.length ≤ 8) by rw [decide_eq_decide]; omega]
        exact Ev.now _
      · refine ev_neg (by omega) ?_
        rw [decide_eq_false h, Bool.false_and, Bool.true_and]
        exact Ev.now _
  · have e : ¬ b = true := by rw [hb]; simpa using h1
    rw [if_neg h1]
    have hz : ((vs.length : Int) == 0) = decide (vs.length = 0) := by
      by_cases h : vs.length = 0
      · rw [decide_eq_true h]; simpa using h
      · rw [decide_eq_false h]; exact beq_eq_false_iff_ne.2 (by omega)
    by_cases h3 : x = 3
    · rw [if_pos (.inl h3)]
      refine Ev.step (fun k => by rw [tollref08_One.j1, if_neg e, if_pos h3]) (Ev.bind hN ?_)
      cases nameB s with
      | false => exact ev_neg (by simp) (Ev.now _)
      | true => exact ev_pos rfl (by rw [hz, Bool.true_and]; exact Ev.now _)
    · by_cases h4 : x = 4
      · rw [if_pos (.inr h4)]
        refine Ev.step (fun k => by rw [tollref08_One.j1, if_neg e, if_neg h3, if_pos h4]) (Ev.bind hN ?_)
        cases nameB s with
        | false => exact ev_neg (by simp) (Ev.now _)
        | true => exact ev_pos rfl (by rw [hz, Bool.true_and]; exact Ev.now _)
      · rw [if_neg (by omega)]
        exact Ev.step (f := fun _ => some _) (fun k => by rw [tollref08_One.j1, if_neg e, if_neg h3, if_neg h4]) (Ev.now _)
theorem one_from (x : Int) (s : ByteArray) (vs : List ByteArray) (hs : s.size ≤ 100) (hl : vs.length ≤ 1000) (hv : ∀ t ∈ vs, t.size ≤ 100) : ∀ (d i : Nat), vs.length = i + d → ((vs.take i).any fun s => !valueB s) = false → Ev (fun k => tollref08_One.l0 k i x s vs) (!isNo (askOf x s vs)) := by
  intro d
  induction d with
  | zero =>
    intro i hd hg
    rw [List.take_of_length_le (by omega)] at hg
    rw [one_good x s vs hg]
    by_cases h1 : x = 1
    · exact Ev.step (fun k => by rw [tollref08_One.l0, if_neg (by omega), if_pos h1]) (one_end x s vs hs _ (by subst h1; rfl))
    · exact Ev.step (fun k => by rw [tollref08_One.l0, if_neg (by omega), if_neg h1]) (one_end x s vs hs _ (by rw [beq_eq_false_iff_ne.2 h1, Bool.false_or]))
  | succ d ih =>
    intro i hd hg
    have hlt : i < vs.length := by omega
    refine Ev.step (fun k => by rw [tollref08_One.l0, if_pos (by omega), if_pos (by omega), rd_at vs i hlt, succ_w hlt (by omega)]) (Ev.bind (RefValue _ (hv _ (List.getElem_mem hlt))) ?_)
    cases hb : valueB vs[i] with
    | true =>
      refine ev_pos rfl (ih (i + 1) (by omega) ?_)
      rw [List.take_succ_eq_append_getElem hlt, List.any_append, hg]
      simp [hb]
    | false =>
      refine ev_neg (by simp) ?_
      rw [no_bad x s vs (List.any_eq_true.2 ⟨_, List.getElem_mem hlt, by rw [hb]; rfl⟩)]
      exact Ev.now _
theorem RefOne (x : Int) (s : ByteArray) (vs : List ByteArray) (hs : s.size ≤ 100) (hl : vs.length ≤ 1000) (hv : ∀ t ∈ vs, t.size ≤ 100) : Ev (fun k => tollref08_One.f k x s vs) (!isNo (askOf x s vs)) := one_from x s vs hs hl hv vs.length 0 (by omega) rfl
theorem refNeeds_from (l : List S58) (hl : l.length ≤ 1000) (hs : ∀ n ∈ l, shortN n) : ∀ (d i : Nat), l.length = i + d → Ev (fun k => tollref08_Needs.l0 k l i) (!((l.drop i).any noB) && decide (l.length ≤ 8)) := by
  intro d
  induction d with
  | zero =>
    intro i hd
    refine Ev.step (f := fun _ => some _) (fun k => by rw [tollref08_Needs.l0, if_neg (by omega)]) ?_
    rw [List.drop_eq_nil_of_le (by omega), List.any_nil, Bool.not_false, Bool.true_and, show decide ((l.length : Int) ≤ 8) = decide (l.length ≤ 8) by rw [decide_eq_decide]; omega]
    exact Ev.now _
  | succ d ih =>
    intro i hd
    have hlt : i < l.length := by omega
    have h1 := hs _ (List.getElem_mem hlt)
    have hn := ih (i + 1) (by omega)
    refine Ev.step (fun k => by rw [tollref08_Needs.l0, if_pos (by omega), if_pos (by omega), rd58 l i hlt, succ_w hlt (by omega)]) (Ev.bind (RefOne _ _ _ h1.1 (by have := h1.2.1; omega) h1.2.2) ?_)
    rw [List.drop_eq_getElem_cons hlt, List.any_cons]
    have e : noB l[i] = isNo (askOf l[i].f0 l[i].f1 l[i].f2) := rfl
    rw [← e]
    cases noB l[i] with
    | true => exact ev_neg (by simp) (Ev.now _)
    | false => exact ev_pos rfl (by rw [Bool.false_or]; exact hn)
theorem RefNeeds (l : List S58) (hl : l.length ≤ 1000) (hs : ∀ n ∈ l, shortN n) : Ev (fun k => tollref08_Needs.f k l) (needsB l) := by
  have := refNeeds_from l hl hs l.length 0 (by omega)
  rw [List.drop_zero, Bool.and_comm] at this
  exact this

end Go.Proofs.YtcakednecmngdaaDoor.LabelPure
