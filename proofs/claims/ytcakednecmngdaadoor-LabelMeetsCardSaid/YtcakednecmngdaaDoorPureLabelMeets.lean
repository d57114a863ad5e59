/-
  The plain law of LabelMeets: which labels and needs may be, and which are met by which, each alone, and all, is as the document says.
  Conditions: none.
-/
import Derived.Test.YtcakednecmngdaaDoorLabelPure
set_option linter.unusedVariables false
set_option linter.unusedSimpArgs false
namespace Go.Proofs.YtcakednecmngdaaDoor.LabelPure
open Go Go.RowKit Go.Proofs.YtcakednecmngdaaDoor.L Go.Proofs.YtcakednecmngdaaDoor.P Go.Proofs.YtcakednecmngdaaDoorW.PrintWords Go.Proofs.YtcakednecmngdaaDoor.Plain Go.Proofs.YtcakednecmngdaaDoor.DnsPure Go.Proofs.YtcakednecmngdaaDoor.Label

def fin (x : Int) (h o : Bool) : Bool := if x = 1 then o else if x = 2 then !o else if x = 3 then h else !h
theorem vals_in (x : Int) (s : ByteArray) (vs : List ByteArray) (hv : vs.length ≤ 1000) (l : List S55) (i : Nat) (hlt : i < l.length) (hl : l.length ≤ 1000) (has : Bool) (R : Bool → Bool) (hnext : ∀ o, Ev (fun k => tollref08_Met.l0 k l has o ((i + 1 : Nat) : Int) x s vs) (R o)) :
    ∀ (d j : Nat) (one : Bool), vs.length = j + d → Ev (fun k => tollref08_Met.l1 k l has one i j x s vs) (R (one || (vs.drop j).any fun y => decide (l[i].f1 = y))) := by
  intro d
  induction d with
  | zero =>
    intro j one hd
    rw [List.drop_eq_nil_of_le (by omega), List.any_nil, Bool.or_false]
    exact Ev.step (fun k => by rw [tollref08_Met.l1, if_neg (by omega), succ_w hlt (by omega)]) (hnext one)
  | succ d ih =>
    intro j one hd
    have hj : j < vs.length := by omega
    rw [List.drop_eq_getElem_cons hj, List.any_cons]
    cases one with
    | true =>
      have hn := ih (j + 1) true (by omega)
      rw [Bool.true_or] at hn ⊢
      exact Ev.step (fun k => by rw [tollref08_Met.l1, if_pos (by omega), if_pos rfl, succ_w hj (by omega)]) hn
    | false =>
      have hn := ih (j + 1) (decide (l[i].f1 = vs[j])) (by omega)
      rw [Bool.false_or]
      have e : (vs[j].toList == l[i].f1.toList) = decide (l[i].f1 = vs[j]) := by
        by_cases h : l[i].f1 = vs[j]
        · rw [decide_eq_true h, h]; simp
        · rw [decide_eq_false h]; exact beq_eq_false_iff_ne.2 (fun z => h (toList_inj.1 z).symm)
      exact Ev.step (fun k => by rw [tollref08_Met.l1, if_pos (by omega), if_neg (by simp), if_pos (by omega), if_pos (by omega), if_pos (by omega), rd_at vs j hj, rd55 l i hlt, succ_w hj (by omega), e]) hn
theorem met_from (x : Int) (s : ByteArray) (vs : List ByteArray) (hv : vs.length ≤ 1000) (l : List S55) (hl : l.length ≤ 1000) :
    ∀ (d i : Nat) (has one : Bool), l.length = i + d → Ev (fun k => tollref08_Met.l0 k l has one i x s vs) (fin x (has || (l.drop i).any (isB s)) (one || (l.drop i).any fun p => isB s p && memB p.f1 vs)) := by
  intro d
  induction d with
  | zero =>
    intro i has one hd
    rw [List.drop_eq_nil_of_le (by omega), List.any_nil, List.any_nil, Bool.or_false, Bool.or_false]
    refine Ev.step (fun k => by rw [tollref08_Met.l0, if_neg (by omega)]) ?_
    by_cases h1 : x = 1
    · rw [show fin x has one = one by unfold fin; rw [if_pos h1]]; exact ev_pos h1 (Ev.now _)
    · refine ev_neg h1 ?_
      by_cases h2 : x = 2
      · rw [show fin x has one = !one by unfold fin; rw [if_neg h1, if_pos h2]]; exact ev_pos h2 (Ev.now _)
      · refine ev_neg h2 ?_
        by_cases h3 : x = 3
        · rw [show fin x has one = has by unfold fin; rw [if_neg h1, if_neg h2, if_pos h3]]; exact ev_pos h3 (Ev.now _)
        · rw [show fin x has one = !has by unfold fin; rw [if_neg h1, if_neg h2, if_neg h3]]; exact ev_neg h3 (Ev.now _)
  | succ d ih =>
    intro i has one hd
    have hlt : i < l.length := by omega
    rw [List.drop_eq_getElem_cons hlt, List.any_cons, List.any_cons]
    cases hb : isB s l[i] with
    | true =>
      have he : l[i].f0.toList = s.toList := beq_iff_eq.1 hb
      have hi := vals_in x s vs hv l i hlt hl true (fun o => fin x (true || (l.drop (i + 1)).any (isB s)) (o || (l.drop (i + 1)).any fun p => isB s p && memB p.f1 vs)) (fun o => ih (i + 1) true o (by omega)) vs.length 0 one (by omega)
      rw [List.drop_zero] at hi
      have e2 : (has || (true || (l.drop (i + 1)).any (isB s))) = (true || (l.drop (i + 1)).any (isB s)) := by simp
      rw [e2, Bool.true_and, ← Bool.or_assoc]
      exact Ev.step (f := fun k => tollref08_Met.l1 k l true one i (0 : Int) x s vs) (fun k => by rw [tollref08_Met.l0, if_pos (by omega), if_pos (by omega), rd55 l i hlt, if_pos he]) hi
    | false =>
      have he : ¬ l[i].f0.toList = s.toList := fun z => by rw [isB, beq_iff_eq.2 z] at hb; cases hb
      rw [Bool.false_or, Bool.false_and, Bool.false_or]
      exact Ev.step (fun k => by rw [tollref08_Met.l0, if_pos (by omega), if_pos (by omega), rd55 l i hlt, if_neg he, succ_w hlt (by omega)]) (ih (i + 1) has one (by omega))
theorem met_fin (x : Int) (s : ByteArray) (vs : List ByteArray) (l : List S55) (h : isNo (askOf x s vs) = false) : metB (askOf x s vs) l = fin x (findB l s).isSome (hasB l s vs) := by
  unfold askOf at h ⊢
  split at h
  · rename_i hn
    rw [if_pos hn]
    split at h
    · rename_i q; rw [if_pos q]; unfold fin; rw [if_pos q.1]; rfl
    · rename_i q1
      rw [if_neg q1]
      split at h
      · rename_i q; rw [if_pos q]; obtain ⟨rfl, _⟩ := q; rfl
      · rename_i q2
        rw [if_neg q2]
        split at h
        · rename_i q; rw [if_pos q]; obtain ⟨rfl, _⟩ := q; rfl
        · rename_i q3
          rw [if_neg q3]
          split at h
          · rename_i q; rw [if_pos q]; obtain ⟨rfl, _⟩ := q; rfl
          · cases h
  · cases h
theorem RefMet (x : Int) (s : ByteArray) (vs : List ByteArray) (l : List S55) (hs : s.size ≤ 100) (hv : vs.length ≤ 1000) (hvs : ∀ t ∈ vs, t.size ≤ 100) (hl : l.length ≤ 1000) (hls : shortP l) : Ev (fun k => tollref08_Met.f k x s vs l) (metN x s vs l) := by
  unfold tollref08_Met.f metN
  refine Ev.bind (RefOne x s vs hs hv hvs) ?_
  cases hn : isNo (askOf x s vs) with
  | true =>
    have e : metB (askOf x s vs) l = false := by
      generalize askOf x s vs = a at hn
      cases a <;> first | rfl | cases hn
    rw [e, Bool.and_false]
    exact ev_neg (by simp) (Ev.step (f := fun _ => some _) (fun k => by rw [tollref08_Met.j0, if_pos rfl]) (Ev.now _))
  | false =>
    refine ev_pos rfl (Ev.bind (RefMay l hl hls) ?_)
    cases hm : mayL l with
    | false =>
      rw [Bool.false_and]
      exact Ev.step (f := fun _ => some _) (fun k => by rw [tollref08_Met.j0]; rfl) (Ev.now _)
    | true =>
      rw [Bool.true_and, met_fin x s vs l hn]
      have hf : mayFrom none l = true := by unfold mayL at hm; rw [Bool.and_eq_true] at hm; exact hm.1
      have := met_from x s vs hv l hl l.length 0 false false (by omega)
      rw [List.drop_zero, Bool.false_or, Bool.false_or, any_find s (fun v => memB v vs) l none hf] at this
      have e1 : l.any (isB s) = (findB l s).isSome := by
        have := any_find s (fun _ => true) l none hf
        simp only [Bool.and_true] at this
        rw [this]
        cases findB l s <;> rfl
      have e2 : (findB l s).elim false (fun v => memB v vs) = hasB l s vs := by
        unfold hasB
        cases findB l s <;> rfl
      rw [e1, e2] at this
      exact Ev.step (f := fun k => tollref08_Met.l0 k l false false (0 : Int) x s vs) (fun k => by rw [tollref08_Met.j0]; rfl) this
theorem any_not {α : Type} (p : α → Bool) : ∀ l : List α, (l.any fun x => !p x) = !(l.all p)
  | [] => rfl
  | x :: l => by rw [List.any_cons, List.all_cons, any_not p l, Bool.not_and]
theorem refAll_from (l : List S58) (hl : l.length ≤ 1000) (hs : ∀ n ∈ l, shortN n) (m : List S55) (hm : m.length ≤ 1000) (hms : shortP m) : ∀ (d i : Nat), l.length = i + d → Ev (fun k => tollref08_All.l0 k l m i) ((l.drop i).all (metS m) && (needsB l && mayL m)) := by
  intro d
  induction d with
  | zero =>
    intro i hd
    rw [List.drop_eq_nil_of_le (by omega), List.all_nil, Bool.true_and]
    refine Ev.step (fun k => by rw [tollref08_All.l0, if_neg (by omega)]) (Ev.bind (RefNeeds l hl hs) ?_)
    cases needsB l with
    | false => exact ev_neg (by simp) (Ev.now _)
    | true => exact ev_pos rfl (by rw [Bool.true_and]; exact Ev.bind (RefMay m hm hms) (Ev.now _))
  | succ d ih =>
    intro i hd
    have hlt : i < l.length := by omega
    have h1 := hs _ (List.getElem_mem hlt)
    have hn := ih (i + 1) (by omega)
    refine Ev.step (fun k => by rw [tollref08_All.l0, if_pos (by omega), if_pos (by omega), rd58 l i hlt, succ_w hlt (by omega)]) (Ev.bind (RefMet _ _ _ m h1.1 (by have := h1.2.1; omega) h1.2.2 hm hms) ?_)
    rw [List.drop_eq_getElem_cons hlt, List.all_cons]
    have e : metS m l[i] = metN l[i].f0 l[i].f1 l[i].f2 m := rfl
    rw [← e]
    cases metS m l[i] with
    | false => exact ev_neg (by simp) (Ev.now _)
    | true => exact ev_pos rfl (by rw [Bool.true_and]; exact hn)
theorem RefAll (l : List S58) (hl : l.length ≤ 1000) (hs : ∀ n ∈ l, shortN n) (m : List S55) (hm : m.length ≤ 1000) (hms : shortP m) : Ev (fun k => tollref08_All.f k l m) (allB l m) := by
  have := refAll_from l hl hs m hm hms l.length 0 (by omega)
  rw [List.drop_zero] at this
  have e : allB l m = (l.all (metS m) && (needsB l && mayL m)) := by
    unfold allB
    rw [any_not (metS m) l, Bool.not_not]
    cases needsB l <;> cases mayL m <;> cases l.all (metS m) <;> rfl
  rw [e]
  exact this
theorem refSame_from (l m : List S58) (hl : l.length ≤ 1000) (hm : l.length = m.length) (hs : ∀ n ∈ l, shortN n) : ∀ (d i : Nat), l.length = i + d → Ev (fun k => tollref08_Same.l0 k l m i) (sameL (l.drop i) (m.drop i)) := by
  intro d
  induction d with
  | zero =>
    intro i hd
    rw [List.drop_eq_nil_of_le (by omega), List.drop_eq_nil_of_le (by omega)]
    exact Ev.step (f := fun _ => some true) (fun k => by rw [tollref08_Same.l0, if_neg (by omega)]) (Ev.now _)
  | succ d ih =>
    intro i hd
    have hlt : i < l.length := by omega
    have hlt2 : i < m.length := by omega
    have h1 := hs _ (List.getElem_mem hlt)
    have hn := ih (i + 1) (by omega)
    rw [List.drop_eq_getElem_cons hlt, List.drop_eq_getElem_cons hlt2, sameL]
    refine Ev.step (fun k => by rw [tollref08_Same.l0, if_pos (by omega), if_pos (by omega), if_pos (by omega), rd58 l i hlt, rd58 m i hlt2, succ_w hlt (by omega)]) ?_
    unfold sameB
    by_cases h0 : l[i].f0 = m[i].f0
    · refine ev_pos h0 ?_
      rw [beq_iff_eq.2 h0, Bool.true_and]
      by_cases h1' : l[i].f1.toList = m[i].f1.toList
      · refine ev_pos h1' (Ev.bind (Same _ _ (by have := h1.2.1; omega)) ?_)
        rw [beq_iff_eq.2 h1', Bool.true_and]
        cases decide (l[i].f2 = m[i].f2) with
        | false => exact ev_neg (by simp) (Ev.now _)
        | true => exact ev_pos rfl (by rw [Bool.true_and]; exact hn)
      · rw [beq_eq_false_iff_ne.2 h1', Bool.false_and, Bool.false_and]
        exact ev_neg h1' (Ev.now _)
    · rw [beq_eq_false_iff_ne.2 h0, Bool.false_and, Bool.false_and]
      exact ev_neg h0 (Ev.now _)
theorem RefSame (l m : List S58) (hl : l.length ≤ 1000) (hs : ∀ n ∈ l, shortN n) : Ev (fun k => tollref08_Same.f k l m) (sameN l m) := by
  unfold tollref08_Same.f sameN
  by_cases h : l.length = m.length
  · have := refSame_from l m hl h hs l.length 0 (by omega)
    rw [List.drop_zero, List.drop_zero] at this
    rw [decide_eq_true h, Bool.true_and]
    exact ev_pos (by omega) this
  · rw [decide_eq_false h, Bool.false_and]
    exact ev_neg (by omega) (Ev.now _)
theorem awake : tolllaw08_awake.f = some true := by kernel_rfl
end Go.Proofs.YtcakednecmngdaaDoor.LabelPure
namespace Go.Proofs.YtcakednecmngdaaDoor.Pure
open Go Go.RowKit Go.Proofs.YtcakednecmngdaaDoor.L Go.Proofs.YtcakednecmngdaaDoor.P Go.Proofs.YtcakednecmngdaaDoorW.PrintWords Go.Proofs.YtcakednecmngdaaDoor.Plain Go.Proofs.YtcakednecmngdaaDoor.DnsPure Go.Proofs.YtcakednecmngdaaDoor.Label Go.Proofs.YtcakednecmngdaaDoor.LabelPure
theorem meets_from (a b : List S58) (l : List S55) (ha : a.length ≤ 9) (hb : b.length ≤ 9) (sa : ∀ n ∈ a, shortN n) (hl : l.length ≤ 31) (sl : shortP l) : ∀ (d i : Nat), a.length = i + d → Ev (fun k => tolllaw08_LabelMeets.l0 k a b l i) true := by
  intro d
  induction d with
  | zero =>
    intro i hd
    refine Ev.step (fun k => by rw [tolllaw08_LabelMeets.l0, if_neg (by omega)]) ?_
    refine Ev.bind (MayEv l (by omega)) (Ev.bind (RefMay l (by omega) sl) (ev_pos (by simp) ?_))
    refine ev_bind (needs_eq a) (Ev.bind (RefNeeds a (by omega) sa) (ev_pos (by simp) ?_))
    refine ev_bind (show label_All.f a l = some (allB a l) from rfl) (Ev.bind (RefAll a (by omega) sa l (by omega) sl) (ev_pos (by simp) ?_))
    refine ev_bind (show label_Same.f a b = some (sameN a b) from rfl) (Ev.bind (RefSame a b (by omega) sa) (ev_pos (by simp) ?_))
    exact ev_bind awake (Ev.now _)
  | succ d ih =>
    intro i hd
    have hlt : i < a.length := by omega
    have h1 := sa _ (List.getElem_mem hlt)
    refine Ev.step (fun k => by rw [tolllaw08_LabelMeets.l0, if_pos (by omega), if_pos (by omega), rd58 a i hlt, succ_w hlt (by omega)]) ?_
    refine ev_bind (show label_Met.f _ _ _ _ = some (metN _ _ _ _) from rfl) (Ev.bind (RefMet _ _ _ l h1.1 (by have := h1.2.1; omega) h1.2.2 (by omega) sl) ?_)
    exact ev_neg (by simp) (ih (i + 1) (by omega))
theorem LabelMeets (l0 l1 : List S58) (l2 : List S55) : ∃ k, tolllaw08_LabelMeets.f k l0 l1 l2 = some true := by
  refine Ev.rounds (g := fun k => tolllaw08_LabelMeets.f k l0 l1 l2) ?_
  unfold tolllaw08_LabelMeets.f
  refine Ev.bind (Few8 l0) (Ev.bind (Few8 l1) (Ev.bind (Few5 l2) ?_))
  exact meets_from _ _ _ (few8_length l0) (few8_length l1) (few8_short l0) (few5_length l2) (few5_short l2) _ 0 (Nat.zero_add _).symm
theorem LabelMeets_walk (A0 : Option Addr) (c0 : Nat) (l0 : List S58) (A1 : Option Addr) (c1 : Nat) (l1 : List S58) (A2 : Option Addr) (c2 : Nat) (l2 : List S55) (w : World) (hr0 : Kd.C k58 w A0 l0.length l0) (hc0 : l0.length ≤ c0)
    (hr1 : Kd.C k58 w A1 l1.length l1) (hc1 : l1.length ≤ c1) (hr2 : Kd.C k55 w A2 l2.length l2) (hc2 : l2.length ≤ c2) :
    Calls Tryd.prog 22 #[.slice A0 l0.length c0, .slice A1 l1.length c1, .slice A2 l2.length c2] w fun e w' => e = .returned (.bool true) ∧ Below w.heap.size w w' := by
  obtain ⟨k, hk⟩ := LabelMeets l0 l1 l2
  exact tolllaw08_LabelMeets.calls k A0 c0 l0 A1 c1 l1 A2 c2 l2 true w hr0 hc0 hr1 hc1 hr2 hc2 hk

end Go.Proofs.YtcakednecmngdaaDoor.Pure
