/-
  More plain facts on a text's parts: what a text ends in, how many parts there are, and how long each is.
  Conditions: none.
-/
import Derived.Test.YtcakednecmngdaaDoorPlain
namespace Go.Proofs.YtcakednecmngdaaDoor.Plain
theorem join_append {c : UInt8} {a b : List (List UInt8)} (ha : a ≠ []) (hb : b ≠ []) : join c (a ++ b) = join c a ++ c :: join c b := by
  induction a with
  | nil => exact absurd rfl ha
  | cons x a ih =>
    cases a with
    | nil => rw [List.singleton_append, join_cons hb]; rfl
    | cons y a => rw [List.cons_append, join_cons (by simp), ih (by simp), join_cons (c := c) (l := x) (r := y :: a) (by simp)]; simp
/-- To end in an octet and another text is to have that text's parts, and more ahead of them. -/
theorem suffix_parts (c : UInt8) (l m : List UInt8) : (c :: m) <:+ l ↔ parts c m <:+ parts c l ∧ (parts c m).length < (parts c l).length := by
  constructor
  · rintro ⟨t, rfl⟩
    rw [parts_append]
    exact ⟨List.suffix_append _ _, by have := List.length_pos_iff.2 (parts_ne c t); simp; omega⟩
  · rintro ⟨⟨t, h⟩, hl⟩
    have ht : t ≠ [] := by rintro rfl; rw [← h] at hl; simp at hl
    refine ⟨join c t, ?_⟩
    rw [← join_parts c l, ← h, join_append ht (parts_ne c m), join_parts]
theorem parts_le {c : UInt8} {l p : List UInt8} (h : p ∈ parts c l) : p.length ≤ l.length := by
  induction l generalizing p with
  | nil => simp [parts] at h; simp [h]
  | cons b l ih =>
    rw [parts] at h
    obtain ⟨q, r, e⟩ : ∃ q r, parts c l = q :: r := by cases h : parts c l with | nil => exact absurd h (parts_ne c l) | cons p r => exact ⟨p, r, rfl⟩
    rw [e] at h ih
    split at h
    · rcases List.mem_cons.1 h with rfl | h
      · simp
      · have := ih h; simp; omega
    · rcases List.mem_cons.1 h with rfl | h
      · have := ih (p := q) (by simp); simp; omega
      · have := ih (List.mem_cons_of_mem _ h); simp; omega
theorem parts_many (c : UInt8) (l : List UInt8) : (parts c l).length ≤ l.length + 1 := by
  induction l with
  | nil => simp [parts]
  | cons b l ih =>
    rw [parts]
    split
    · simp; omega
    · have := List.length_pos_iff.2 (parts_ne c l)
      simp; omega


end Go.Proofs.YtcakednecmngdaaDoor.Plain
