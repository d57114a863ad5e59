/-
  A slice of whole numbers that came in, opened.
  Conditions: none.
-/
import Derived.Test.YtcakednecmngdaaDoorQ0
import Derived.Deep.SlicePairs
import Derived.Deep.Slices
import Derived.Lib.SmallJoins
import Derived.ChangeArms
import Derived.WideShapes
namespace Go.Proofs.YtcakednecmngdaaDoor.P
open Go Go.RowKit Go.ChangeShapes Go.WideShapes Go.Joins Go.Proofs.YtcakednecmngdaaDoor.Q Go.Proofs.YtcakednecmngdaaDoorW.PrintWords
set_option maxRecDepth 100000
theorem cellsInt : Tryd.prog.cellsOf 3 = 1 := by kernel_rfl
theorem ints_cells {H : Type} {enc : TypeId × Value → H} {W : World} {base : Nat} {spare : Nat → Bool} {held : Bool} {fuel : Nat} {cs : List Value} {x : DataW H × List MemPlace} (h : DataW.trod enc Tryd.prog W base spare held fuel 30 cs = some x) :
    ∃ (a : Option Addr) (n c : Nat) (l : List Int), cs = [.slice a n c] ∧ l.length = n ∧ Kd.C (Kd.int .i64) W a n l ∧ n ≤ c := by
  rcases Deep.open_slice Tryd.underlying30 h with ⟨hcs, _⟩ | ⟨ad, len, cap, m, fl, D, Pl, hcs, _, hl, hm, hmm, _, hx⟩
  · exact ⟨none, 0, 0, [], hcs, rfl, ⟨rfl, by omega, fun h => by omega⟩, Nat.le_refl _⟩
  · have hlm : len ≤ m := by rw [hmm]; split <;> omega
    obtain ⟨f, hf⟩ := Deep.choose_lt (α := Int) (n := len) (p := fun i r => W.cell? (ad.add i) = some (.int .i64 r)) (fun i hi => by
      obtain ⟨cs', h1, h2⟩ := hx i (by omega)
      rw [cellsInt, Nat.mul_one] at h1
      obtain ⟨_, hlen, hcell⟩ := World.cells?_some h1
      obtain ⟨b, e1, _⟩ := DataW.trod_int Tryd.underlying3 h2
      have := hcell 0 (by omega)
      rw [Deep.add_add, Nat.add_zero] at this
      exact ⟨b, by rw [this, e1]; rfl⟩)
    refine ⟨some ad, len, cap, (List.range len).map f, hcs, by simp, ⟨by simp, by unfold maxLen at hm; omega, fun _ => ⟨ad, rfl, fun j p hj => ?_⟩⟩, hl⟩
    rw [List.getElem?_map] at hj
    obtain ⟨i, hi, rfl⟩ := Option.map_eq_some_iff.1 hj
    obtain ⟨hil, rfl⟩ := List.getElem?_eq_some_iff.1 hi
    rw [List.getElem_range]
    refine ⟨[.int .i64 (f j)], rfl, rfl, fun t u ht => ?_⟩
    match t, ht with
    | 0, ht =>
      simp at ht
      subst ht
      have := hf j (by simpa using hil)
      rw [show j * (Kd.int .i64).sz + 0 = j from Nat.mul_one j]
      exact this
theorem open_30 {H : Type} {enc : TypeId × Value → H} {W : World} {base : Nat} {spare : Nat → Bool} {held : Bool} {fuel : Nat} {a : Option Addr} {n c : Nat} {x : DataW H × List MemPlace} (h : DataW.trod enc Tryd.prog W base spare held fuel 30 [.slice a n c] = some x) : ∃ l : List Int, l.length = n ∧ Kd.C (Kd.int .i64) W a n l ∧ n ≤ c := by
  obtain ⟨a', n', c', l, e, h1, h2, h3⟩ := ints_cells h
  injection e with e _
  injection e with e1 e2 e3
  subst e1; subst e2; subst e3
  exact ⟨l, h1, h2, h3⟩
end Go.Proofs.YtcakednecmngdaaDoor.P
