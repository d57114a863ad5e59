/-
  Plain laws of names: what is under what, a name with one label more, a text's small letters, and keys.
  Conditions: none.
-/
import Derived.Test.YtcakednecmngdaaDoorDnsPure
namespace Go.Proofs.YtcakednecmngdaaDoor.DnsPure
open Go Go.RowKit Go.Proofs.YtcakednecmngdaaDoor.P Go.Proofs.YtcakednecmngdaaDoorW.PrintWords Go.Proofs.YtcakednecmngdaaDoor.Plain

theorem size_one (a : ByteArray) (c : UInt8) : (a ++ (⟨#[c]⟩ : ByteArray)).size = a.size + 1 := by rw [ByteArray.size_append]; rfl
theorem size_dot (a b : ByteArray) (c : UInt8) : (a ++ (⟨#[c]⟩ : ByteArray) ++ b).size = a.size + 1 + b.size := by rw [ByteArray.size_append, size_one]

/-! ### labels -/
theorem label_no_dot {l : List UInt8} (h : labelL l = true) : (46 : UInt8) ∉ l ∧ (47 : UInt8) ∉ l ∧ l ≠ [] := by
  simp only [labelL, Bool.and_eq_true, Bool.not_eq_true', List.isEmpty_eq_false_iff, List.all_eq_true] at h
  refine ⟨fun hm => ?_, fun hm => ?_, h.1.1.1.1⟩
  · have := h.1.1.2 _ hm; revert this; decide
  · have := h.1.1.2 _ hm; revert this; decide
theorem name_parts {l : List UInt8} (h : nameL l = true) : l.length ≤ 60 ∧ ∀ p ∈ parts 46 l, labelL p = true := by
  simpa [nameL] using h
theorem name_no_slash {l : List UInt8} (h : nameL l = true) : (47 : UInt8) ∉ l := by
  have hp := (name_parts h).2
  rw [← join_parts 46 l]
  have : ∀ r : List (List UInt8), (∀ p ∈ r, (47 : UInt8) ∉ p) → (47 : UInt8) ∉ join 46 r := by
    intro r
    induction r with
    | nil => intro _; simp [join]
    | cons x r ih =>
      intro hr
      cases r with
      | nil => exact hr x (by simp)
      | cons y r =>
        rw [join_cons (by simp)]
        simp only [List.mem_append, List.mem_cons, not_or]
        exact ⟨hr x (by simp), by decide, ih (fun p hq => hr p (List.mem_cons_of_mem _ hq))⟩
  exact this _ (fun p hq => (label_no_dot (hp p hq)).2.1)
theorem name_ne {l : List UInt8} (h : nameL l = true) : l ≠ [] := by
  rintro rfl
  revert h; decide
/-- A name, a dot, and a text are a name as long as there is room, if the text is one. -/
theorem name_append {a b : List UInt8} (ha : nameL a = true) : nameL (a ++ 46 :: b) = (nameL b && decide ((a ++ 46 :: b).length ≤ 60)) := by
  have hp := (name_parts ha).2
  have e : (parts 46 a).all labelL = true := List.all_eq_true.2 hp
  rw [nameL, nameL, parts_append, List.all_append, e, Bool.true_and]
  by_cases h : (a ++ 46 :: b).length ≤ 60
  · have hb : b.length ≤ 60 := by simp at h; omega
    rw [decide_eq_true h, decide_eq_true hb]; simp
  · rw [decide_eq_false h]; simp
theorem label_append {a b : List UInt8} (ha : labelL a = true) (hb : nameL b = true) (h : (a ++ 46 :: b).length ≤ 60) : nameL (a ++ 46 :: b) = true := by
  rw [nameL, parts_append, parts_none (label_no_dot ha).1, decide_eq_true h, Bool.true_and, List.all_append]
  have := (name_parts hb).2
  simp only [List.all_cons, List.all_nil, ha, Bool.and_true, Bool.true_and]
  exact List.all_eq_true.2 this

/-! ### under -/
theorem underB_iff {a b : ByteArray} : underB a b = true ↔ nameB a = true ∧ nameB b = true ∧ (46 :: b.data.toList) <:+ a.data.toList := by
  simp [underB, and_assoc]
theorem under_len {a b : ByteArray} (h : underB a b = true) : b.size < a.size := by
  have := (underB_iff.1 h).2.2.length_le
  rw [Lib.size_eq, Lib.size_eq]
  rw [List.length_cons] at this
  omega
theorem under_trans {a b c : ByteArray} (h : underB a b = true) (k : underB b c = true) : underB a c = true := by
  obtain ⟨h1, h2, h3⟩ := underB_iff.1 h
  obtain ⟨_, k2, k3⟩ := underB_iff.1 k
  exact underB_iff.2 ⟨h1, k2, k3.trans ((List.suffix_cons _ _).trans h3)⟩
theorem under_irrefl (a : ByteArray) : underB a a = false := by
  cases h : underB a a with
  | false => rfl
  | true => have := under_len h; omega

theorem toL_append (a b : ByteArray) : (a ++ b).data.toList = a.data.toList ++ b.data.toList := by simp
theorem toL_dot (a b : ByteArray) : (a ++ (⟨#[46]⟩ : ByteArray) ++ b).data.toList = a.data.toList ++ 46 :: b.data.toList := by simp
theorem under_more {a b : ByteArray} (ha : nameB a = true) (hb : labelB b = true) (h : a.size + b.size < 60) : underB (b ++ (⟨#[46]⟩ : ByteArray) ++ a) a = true := by
  refine underB_iff.2 ⟨?_, ha, ?_⟩
  · rw [nameB, toL_dot]
    refine label_append hb ha ?_
    rw [Lib.size_eq, Lib.size_eq] at h
    simp only [List.length_append, List.length_cons]
    omega
  · rw [toL_dot]; exact List.suffix_append _ _
theorem under_glued {a b : ByteArray} (hb : labelB b = true) : underB (b ++ a) a = false := by
  cases h : underB (b ++ a) a with
  | false => rfl
  | true =>
    obtain ⟨_, _, t, ht⟩ := underB_iff.1 h
    rw [toL_append] at ht
    have hl := congrArg List.length ht
    simp only [List.length_append, List.length_cons] at hl
    have e : t ++ [46] = b.data.toList := by
      have : (t ++ [46]) ++ a.data.toList = b.data.toList ++ a.data.toList := by simpa using ht
      exact List.append_cancel_right this
    exact absurd (by rw [← e]; simp) (label_no_dot hb).1

end Go.Proofs.YtcakednecmngdaaDoor.DnsPure
