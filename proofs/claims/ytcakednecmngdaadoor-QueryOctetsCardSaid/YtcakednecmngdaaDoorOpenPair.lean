/-
  A slice of pairs that came in, opened as the printed texts read it.
  Conditions: none.
-/
import Derived.Test.YtcakednecmngdaaDoorY0
import Derived.Deep.SlicePairs
namespace Go.Proofs.YtcakednecmngdaaDoor.P
open Go Go.RowKit Go.Proofs.YtcakednecmngdaaDoor.Y Go.Proofs.YtcakednecmngdaaDoorW.PrintWords

/-- A slice of structs whose elements each read as one of α, read as a list. -/
theorem list_of {α : Type} [Inhabited α] {d : Kd α} {W : World} {a : Addr} {len : Nat} (hm : len ≤ 9223372036854775807)
    (h : ∀ i, i < len → ∃ x c, c.length = d.sz ∧ d.K W x c ∧ ∀ j u, c[j]? = some u → W.cell? (a.add (i * d.sz + j)) = some u) :
    ∃ l : List α, l.length = len ∧ Kd.C d W (some a) len l := by
  obtain ⟨f, hf⟩ := Deep.choose_lt h
  refine ⟨(List.range len).map f, by simp, by simp, hm, fun _ => ⟨a, rfl, fun j p hj => ?_⟩⟩
  rw [List.getElem?_map] at hj
  obtain ⟨i, hi, rfl⟩ := Option.map_eq_some_iff.1 hj
  obtain ⟨hil, rfl⟩ := List.getElem?_eq_some_iff.1 hi
  rw [List.getElem_range]
  exact hf j (by simpa using hil)
instance : Inhabited S55 := ⟨z55⟩

theorem open_51 {H : Type} {enc : TypeId × Value → H} {W : World} {base : Nat} {spare : Nat → Bool} {held : Bool} {fuel : Nat} {a : Option Addr} {n c : Nat} {x : DataW H × List MemPlace}
    (h : DataW.trod enc Tryd.prog W base spare held fuel 51 [.slice a n c] = some x) : ∃ l : List S55, l.length = n ∧ Kd.C k55 W a n l ∧ n ≤ c := by
  rcases Deep.open_slice_pairs Tryd.underlying51 Tryd.underlying55 (by kernel_rfl) rfl rfl (by kernel_rfl) (by kernel_rfl) h with ⟨hcs, _⟩ | ⟨ad, len, cap, m, k, V0, V1, D0, D1, P0, P1, hcs, _, hl, hm, hmm, _, hx⟩
  · simp only [List.cons.injEq, Value.slice.injEq, and_true] at hcs
    obtain ⟨rfl, rfl, rfl⟩ := hcs
    exact ⟨[], rfl, ⟨rfl, by omega, fun h => by omega⟩, Nat.le_refl _⟩
  · simp only [List.cons.injEq, Value.slice.injEq, and_true] at hcs
    obtain ⟨rfl, rfl, rfl⟩ := hcs
    have hnm : n ≤ m := by rw [hmm]; split <;> omega
    obtain ⟨l, h1, h2⟩ := list_of (d := k55) (W := W) (a := ad) (len := n) (by unfold maxLen at hm; omega) (fun i hi => by
      obtain ⟨c0, c1, t0, t1⟩ := hx i (by omega)
      obtain ⟨s0, e0, _⟩ := DataW.trod_string Tryd.underlying9 t0
      obtain ⟨s1, e1, _⟩ := DataW.trod_string Tryd.underlying9 t1
      simp only [List.cons.injEq, and_true] at e0 e1
      rw [e0] at c0
      rw [e1] at c1
      refine ⟨⟨s0, s1⟩, [.string s0, .string s1], rfl, k55_mk W ⟨s0, s1⟩, fun j u hj => ?_⟩
      match j, hj with
      | 0, hj => simp at hj; subst hj; exact c0
      | 1, hj => simp at hj; subst hj; exact c1)
    exact ⟨l, h1, h2, hl⟩

end Go.Proofs.YtcakednecmngdaaDoor.P
