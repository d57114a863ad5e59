/-
  Labels without one of them; a need whose values stand in another order: what they are met by.
  Conditions: as each theorem states them.
-/
import Derived.Test.YtcakednecmngdaaDoorLabelFew
set_option linter.unusedVariables false
set_option linter.unusedSimpArgs false
namespace Go.Proofs.YtcakednecmngdaaDoor.LabelPure
open Go Go.RowKit Go.Proofs.YtcakednecmngdaaDoor.L Go.Proofs.YtcakednecmngdaaDoor.P Go.Proofs.YtcakednecmngdaaDoorW.PrintWords Go.Proofs.YtcakednecmngdaaDoor.Plain Go.Proofs.YtcakednecmngdaaDoor.DnsPure Go.Proofs.YtcakednecmngdaaDoor.Label

theorem may_weaken {q : Option ByteArray} {b : ByteArray} (hq : ∀ a, q = some a → Op.bytesLess a.toList b.toList = true) : ∀ {l : List S55}, mayFrom (some b) l = true → mayFrom q l = true
  | [], _ => mayFrom_nil q
  | x :: l, h => by
    rw [mayFrom_cons] at h ⊢
    simp only [Bool.and_eq_true] at h ⊢
    refine ⟨⟨h.1.1, ?_⟩, h.2⟩
    cases q with
    | none => rfl
    | some a => exact less_trans _ _ _ (hq a rfl) h.1.2
theorem may_less : ∀ (l : List S55) (q : Option ByteArray) (k : Nat), mayFrom q l = true → mayFrom q (l.take k ++ l.drop (k + 1)) = true
  | [], q, k, _ => by simp [mayFrom_nil]
  | x :: l, q, 0, h => by
    rw [mayFrom_cons] at h
    simp only [Bool.and_eq_true] at h
    show mayFrom q l = true
    exact may_weaken (fun a e => by subst e; exact h.1.2) h.2
  | x :: l, q, k + 1, h => by
    rw [mayFrom_cons] at h
    simp only [Bool.and_eq_true] at h
    show mayFrom q (x :: (l.take k ++ l.drop (k + 1))) = true
    rw [mayFrom_cons]
    simp only [Bool.and_eq_true]
    exact ⟨h.1, may_less l _ k h.2⟩
theorem mayL_less {l : List S55} (k : Nat) (hk : k < l.length) (h : mayL l = true) : mayL (l.take k ++ l.drop (k + 1)) = true := by
  unfold mayL at h ⊢
  simp only [Bool.and_eq_true, decide_eq_true_eq] at h ⊢
  exact ⟨may_less l none k h.1, by simp; omega⟩
theorem find_less (s : ByteArray) (l : List S55) (k : Nat) (hk : k < l.length) (h : isB s l[k] = false) : findB (l.take k ++ l.drop (k + 1)) s = findB l s := by
  unfold findB
  congr 1
  conv => rhs; rw [← List.take_append_drop k l, List.drop_eq_getElem_cons hk]
  rw [List.find?_append, List.find?_append, List.find?_cons, h]
theorem metB_find (x : Int) (s : ByteArray) (vs : List ByteArray) {l l' : List S55} (h : findB l' s = findB l s) : metB (askOf x s vs) l' = metB (askOf x s vs) l := by
  rcases asks x s vs with h1 | ⟨h1, _⟩ | ⟨h1, _⟩ | ⟨h1, _⟩ | ⟨h1, _⟩
  · cases e : askOf x s vs with
    | no => rfl
    | among s vs => rw [e] at h1; cases h1
    | there s => rw [e] at h1; cases h1
    | outside s vs => rw [e] at h1; cases h1
    | missing s => rw [e] at h1; cases h1
  all_goals (rw [h1]; simp only [metB, hasB, h])
theorem met_less (x : Int) (s : ByteArray) (vs : List ByteArray) {l : List S55} (k : Nat) (hk : k < l.length) (hm : mayL l = true) (h : isB s l[k] = false) : metN x s vs (l.take k ++ l.drop (k + 1)) = metN x s vs l := by
  unfold metN
  rw [mayL_less k hk hm, hm, metB_find x s vs (find_less s l k hk h)]
theorem memB_rev (v : ByteArray) (vs : List ByteArray) : memB v vs.reverse = memB v vs := by
  unfold memB
  rw [List.any_reverse]
theorem hasB_rev (l : List S55) (s : ByteArray) (vs : List ByteArray) : hasB l s vs.reverse = hasB l s vs := by
  unfold hasB
  cases findB l s with
  | none => rfl
  | some v => exact memB_rev v vs
theorem met_rev (x : Int) (s : ByteArray) (vs : List ByteArray) (l : List S55) : metN x s vs.reverse l = metN x s vs l := by
  have hf : fewVals vs.reverse = fewVals vs := by unfold fewVals; rw [List.length_reverse, List.any_reverse]
  unfold metN askOf
  rw [hf, List.length_reverse]
  congr 1
  split
  · split
    · exact hasB_rev l s vs
    · split
      · show (!hasB l s vs.reverse) = !hasB l s vs
        rw [hasB_rev]
      · rfl
  · rfl
theorem mod_at {a : Int} {n : Nat} (h0 : 0 ≤ a) (h1 : a ≤ 255) (hn : 0 < n) (hb : n ≤ 1000) : ∃ k : Nat, Int.tmod (wrap64 a) (n : Int) = (k : Int) ∧ k < n := by
  obtain ⟨m, rfl⟩ : ∃ m : Nat, a = (m : Int) := ⟨a.toNat, by omega⟩
  refine ⟨m % n, ?_, Nat.mod_lt _ hn⟩
  rw [wrap_in (by omega) (by omega)]
  rfl
end Go.Proofs.YtcakednecmngdaaDoor.LabelPure
