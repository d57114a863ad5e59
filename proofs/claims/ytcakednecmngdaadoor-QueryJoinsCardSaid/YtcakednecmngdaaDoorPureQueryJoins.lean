/-
  The plain law of QueryJoins: two texts with & between them are read as the one's pairs and the other's.
  Conditions: texts of at most 140737488351232 octets.
-/
import Derived.Test.YtcakednecmngdaaDoorQueryB
import Derived.Test.YtcakednecmngdaaDoorYf25
namespace Go.Proofs.YtcakednecmngdaaDoor.Pure
open Go Go.RowKit Go.Proofs.YtcakednecmngdaaDoor.Y Go.Proofs.YtcakednecmngdaaDoor.P Go.Proofs.YtcakednecmngdaaDoorW.PrintWords Go.Proofs.YtcakednecmngdaaDoor.Plain Go.Proofs.YtcakednecmngdaaDoor.DnsPure Go.Proofs.YtcakednecmngdaaDoor.Query

theorem pairsB_append (a b : List ByteArray) : pairsB (a ++ b) = (pairsB a).bind fun x => (pairsB b).map fun y => x ++ y := by
  induction a with
  | nil => simp only [List.nil_append, pairsB, Option.bind_some]; cases pairsB b <;> rfl
  | cons x a ih =>
    rw [List.cons_append, pairsB, ih, pairsB]
    cases pairB x with
    | none => rfl
    | some p => cases pairsB a <;> simp only [Option.bind_some, Option.map_some, Option.bind_none, Option.map_none, Option.map_map] <;> cases pairsB b <;> rfl
theorem parts_glued (a b : ByteArray) : partsB 38 (a ++ (⟨#[38]⟩ : ByteArray) ++ b) = partsB 38 a ++ partsB 38 b := by
  unfold partsB
  rw [show (a ++ (⟨#[38]⟩ : ByteArray) ++ b).data.toList = a.data.toList ++ 38 :: b.data.toList by simp, parts_append, List.map_append]
theorem may_append (x y : List S55) : mayB (x ++ y) = (decide (x.length + y.length ≤ 20) && (x.all mayP && y.all mayP)) := by
  unfold mayB
  rw [List.length_append, List.all_append]
theorem empty_pair : pairB (⟨#[]⟩ : ByteArray) = some ⟨⟨#[]⟩, ⟨#[]⟩⟩ := by kernel_rfl
theorem parts_empty : partsB 38 (⟨#[]⟩ : ByteArray) = [⟨#[]⟩] := by kernel_rfl
theorem size_zero {s : ByteArray} (h : s.size = 0) : s = ⟨#[]⟩ := by
  have hl : s.data.toList = [] := List.eq_nil_of_length_eq_zero (by rw [← Lib.size_eq]; exact h)
  rw [← txt_of s, hl]
  rfl

/-- What the glued text is read as. -/
theorem glued (a b : ByteArray) :
    parseB (a ++ (⟨#[38]⟩ : ByteArray) ++ b) = match pairsB (partsB 38 a), pairsB (partsB 38 b) with
      | some x, some y => if mayB (x ++ y) = true then (x ++ y, 0) else ([], 2)
      | _, _ => ([], 2) := by
  have hz : (a ++ (⟨#[38]⟩ : ByteArray) ++ b).size ≠ 0 := by rw [ByteArray.size_append, ByteArray.size_append, show (⟨#[38]⟩ : ByteArray).size = 1 from rfl]; omega
  rw [parseB, if_neg hz, parts_glued, pairsB_append]
  cases pairsB (partsB 38 a) with
  | none => rfl
  | some x => cases pairsB (partsB 38 b) <;> rfl
theorem parse_ok {s : ByteArray} {l : List S55} (h : parseB s = (l, 0)) (h0 : s.size ≠ 0) : pairsB (partsB 38 s) = some l := by
  rw [parseB, if_neg h0] at h
  split at h
  · injection h with _ h2; exact absurd h2 (by decide)
  · next x hx =>
    split at h
    · injection h with h1 _; rw [hx, h1]
    · injection h with _ h2; exact absurd h2 (by decide)
theorem not_may_left {x y : List S55} (h : mayB x = false) : mayB (x ++ y) = false := by
  rw [may_append]
  unfold mayB at h
  rw [Bool.and_eq_false_iff] at h
  rcases h with h | h
  · rw [decide_eq_false_iff_not] at h
    rw [decide_eq_false (by omega)]; rfl
  · rw [h]; simp
theorem not_may_right {x y : List S55} (h : mayB y = false) : mayB (x ++ y) = false := by
  rw [may_append]
  unfold mayB at h
  rw [Bool.and_eq_false_iff] at h
  rcases h with h | h
  · rw [decide_eq_false_iff_not] at h
    rw [decide_eq_false (by omega)]; rfl
  · rw [h]; simp
/-- A part of the two that is refused, or no text: so is the whole. -/
theorem glued_no {a b : ByteArray} (h : parseB a = ([], 2) ∨ parseB b = ([], 2) ∨ a.size = 0 ∨ b.size = 0) : parseB (a ++ (⟨#[38]⟩ : ByteArray) ++ b) = ([], 2) := by
  have hbad : mayB [⟨(⟨#[]⟩ : ByteArray), (⟨#[]⟩ : ByteArray)⟩] = false := by kernel_rfl
  have bad : ∀ s : ByteArray, parseB s = ([], 2) ∨ s.size = 0 → pairsB (partsB 38 s) = none ∨ ∃ x, pairsB (partsB 38 s) = some x ∧ mayB x = false := by
    intro s hs
    rcases hs with hs | hs
    · by_cases h0 : s.size = 0
      · rw [parseB, if_pos h0] at hs
        injection hs with _ h2
        exact absurd h2 (by decide)
      · rw [parseB, if_neg h0] at hs
        split at hs
        · next h => exact .inl h
        · next x hx =>
          split at hs
          · injection hs with _ h2; exact absurd h2 (by decide)
          · next hm => exact .inr ⟨x, hx, by simpa using hm⟩
    · right
      rw [size_zero hs, parts_empty]
      exact ⟨_, by rw [pairsB, empty_pair]; rfl, hbad⟩
  rw [glued]
  have h' : (parseB a = ([], 2) ∨ a.size = 0) ∨ (parseB b = ([], 2) ∨ b.size = 0) := by
    rcases h with h | h | h | h
    · exact .inl (.inl h)
    · exact .inr (.inl h)
    · exact .inl (.inr h)
    · exact .inr (.inr h)
  rcases h' with h | h
  · rcases bad a h with h | ⟨x, hx, hm⟩
    · rw [h]
    · rw [hx]
      cases pairsB (partsB 38 b) with
      | none => rfl
      | some y => simp only; rw [not_may_left hm]; rfl
  · rcases bad b h with h | ⟨y, hy, hm⟩
    · rw [h]; cases pairsB (partsB 38 a) <;> rfl
    · rw [hy]
      cases pairsB (partsB 38 a) with
      | none => rfl
      | some x => simp only; rw [not_may_right hm]; rfl
theorem joins_no (x y : List S55) : Ev (fun k => tolllaw04_QueryJoins.j0 k x y [] 2 true) true := by
  refine Ev.step (fun k => by rw [tolllaw04_QueryJoins.j0, if_pos rfl, if_pos rfl, if_pos (by simp)]) ?_
  exact Ev.bind Query.awake (Ev.now _)

theorem QueryJoins : tolllaw04_QueryJoins.Pure := by
  intro a b _ _
  refine Ev.rounds (g := fun k => tolllaw04_QueryJoins.f k a b) ?_
  unfold tolllaw04_QueryJoins.f
  have ha := short_size a
  have hb := short_size b
  refine ev_bind (short_eq a) (ev_bind (short_eq b) (ev_bind (parse_f _ (by omega)) (ev_bind (parse_f _ (by omega)) ?_)))
  generalize shortB a = a at *
  generalize shortB b = b at *
  have hz : (a ++ (⟨#[38]⟩ : ByteArray)).size = a.size + 1 := by rw [ByteArray.size_append]; rfl
  refine ev_pos (by omega) (ev_pos (by omega) (ev_bind (parse_f _ (by rw [ByteArray.size_append]; omega)) ?_))
  rcases parse_cases a with ⟨x, hx, hmx⟩ | hx
  · rcases parse_cases b with ⟨y, hy, hmy⟩ | hy
    · rw [hx, hy]
      refine ev_pos rfl (ev_pos rfl ?_)
      by_cases ha0 : a.size = 0
      · rw [glued_no (.inr (.inr (.inl ha0)))]
        exact ev_pos (by rw [size_zero ha0, Lib.toList_data]) (joins_no _ _)
      · refine ev_neg (by rw [Lib.toList_data]; intro h; apply ha0; rw [Lib.size_eq, h]; rfl) ?_
        by_cases hb0 : b.size = 0
        · rw [glued_no (.inr (.inr (.inr hb0))), size_zero hb0, Lib.toList_data]
          exact joins_no _ _
        · have hbe : (b.toList == ([] : List UInt8)) = false := by rw [beq_eq_false_iff_ne, Lib.toList_data]; intro h; apply hb0; rw [Lib.size_eq, h]; rfl
          rw [hbe, glued, parse_ok hx ha0, parse_ok hy hb0]
          simp only
          have lx := (may_parts hmx).1
          have ly := (may_parts hmy).1
          have hall : mayB (x ++ y) = decide (x.length + y.length ≤ 20) := by
            rw [may_append, List.all_eq_true.2 (may_parts hmx).2, List.all_eq_true.2 (may_parts hmy).2]; simp
          rw [hall]
          have hw : wrap64 ((x.length : Int) + (y.length : Int)) = ((x.length + y.length : Nat) : Int) := by rw [wrap_in (by omega) (by omega)]; omega
          by_cases h20 : x.length + y.length ≤ 20
          · rw [if_pos (decide_eq_true h20)]
            refine Ev.step (fun k => by rw [tolllaw04_QueryJoins.j0, if_neg (by simp), hw, if_neg (by omega), if_pos rfl]) ?_
            refine ev_bind rfl (ev_pos (by simp; omega) (ev_bind rfl (ev_pos (by simp; omega) ?_)))
            exact Ev.bind (Query.Same _ _ (by simp; omega)) (ev_pos (same_refl _) (Ev.bind Query.awake (Ev.now _)))
          · rw [decide_eq_false h20, if_neg (by simp)]
            refine Ev.step (fun k => by rw [tolllaw04_QueryJoins.j0, if_neg (by simp), hw, if_pos (by omega), if_pos rfl]) ?_
            exact Ev.bind Query.awake (Ev.now _)
    · rw [hx, hy, glued_no (.inr (.inl hy))]
      exact ev_pos rfl (ev_neg (by decide) (joins_no _ _))
  · rw [hx, glued_no (.inl hx)]
    exact ev_neg (by decide) (joins_no _ _)

end Go.Proofs.YtcakednecmngdaaDoor.Pure
