/-
  Labels and needs that came in, slices of them, opened as the printed texts read them.
  Conditions: none.
-/
import Derived.Test.YtcakednecmngdaaDoorL0
import Derived.Deep.SlicePairs
import Derived.Deep.Slices
import Derived.Lib.SmallJoins
import Derived.ChangeArms
import Derived.WideShapes
namespace Go.Proofs.YtcakednecmngdaaDoor.P
open Go Go.RowKit Go.ChangeShapes Go.WideShapes Go.Joins Go.Proofs.YtcakednecmngdaaDoor.L Go.Proofs.YtcakednecmngdaaDoorW.PrintWords
set_option maxRecDepth 100000
/-- A slice of structs whose elements each read as one of α, read as a list. -/
theorem list_of {α : Type} [Inhabited α] {d : Kd α} {W : World} {a : Addr} {len : Nat} (hm : len ≤ 9223372036854775807)
    (h : ∀ i, i < len → ∃ x c, c.length = d.sz ∧ d.K W x c ∧ ∀ j u, c[j]? = some u → W.cell? (a.add (i * d.sz + j)) = some u) :
    ∃ l : List α, l.length = len ∧ Kd.C d W (some a) len l := by
  obtain ⟨f, hf⟩ := Deep.choose_lt h
  refine ⟨(List.range len).map f, by simp, by simp, hm, fun _ => ⟨a, rfl, fun j p hj => ?_⟩⟩
  rw [List.getElem?_map] at hj
  obtain ⟨i, hi, rfl⟩ := Option.map_eq_some_iff.1 hj
  obtain ⟨hil, rfl⟩ := List.getElem?_eq_some_iff.1 hi
  rw [List.getElem_range]
  exact hf j (by simpa using hil)
instance : Inhabited S55 := ⟨z55⟩

theorem open_51 {H : Type} {enc : TypeId × Value → H} {W : World} {base : Nat} {spare : Nat → Bool} {held : Bool} {fuel : Nat} {a : Option Addr} {n c : Nat} {x : DataW H × List MemPlace}
    (h : DataW.trod enc Tryd.prog W base spare held fuel 51 [.slice a n c] = some x) : ∃ l : List S55, l.length = n ∧ Kd.C k55 W a n l ∧ n ≤ c := by
  rcases Deep.open_slice_pairs Tryd.underlying51 Tryd.underlying55 (by kernel_rfl) rfl rfl (by kernel_rfl) (by kernel_rfl) h with ⟨hcs, _⟩ | ⟨ad, len, cap, m, k, V0, V1, D0, D1, P0, P1, hcs, _, hl, hm, hmm, _, hx⟩
  · simp only [List.cons.injEq, Value.slice.injEq, and_true] at hcs
    obtain ⟨rfl, rfl, rfl⟩ := hcs
    exact ⟨[], rfl, ⟨rfl, by omega, fun h => by omega⟩, Nat.le_refl _⟩
  · simp only [List.cons.injEq, Value.slice.injEq, and_true] at hcs
    obtain ⟨rfl, rfl, rfl⟩ := hcs
    have hnm : n ≤ m := by rw [hmm]; split <;> omega
    obtain ⟨l, h1, h2⟩ := list_of (d := k55) (W := W) (a := ad) (len := n) (by unfold maxLen at hm; omega) (fun i hi => by
      obtain ⟨c0, c1, t0, t1⟩ := hx i (by omega)
      obtain ⟨s0, e0, _⟩ := DataW.trod_string Tryd.underlying9 t0
      obtain ⟨s1, e1, _⟩ := DataW.trod_string Tryd.underlying9 t1
      simp only [List.cons.injEq, and_true] at e0 e1
      rw [e0] at c0
      rw [e1] at c1
      refine ⟨⟨s0, s1⟩, [.string s0, .string s1], rfl, k55_mk W ⟨s0, s1⟩, fun j u hj => ?_⟩
      match j, hj with
      | 0, hj => simp at hj; subst hj; exact c0
      | 1, hj => simp at hj; subst hj; exact c1)
    exact ⟨l, h1, h2, hl⟩

instance : Inhabited S58 := ⟨z58⟩
theorem cells58 : Tryd.prog.cellsOf 58 = 3 := by kernel_rfl
theorem cells3 : Tryd.prog.cellsOf 3 = 1 := by kernel_rfl
theorem cells9 : Tryd.prog.cellsOf 9 = 1 := by kernel_rfl
theorem cells27 : Tryd.prog.cellsOf 27 = 1 := by kernel_rfl
section
variable {H : Type} {enc : TypeId × Value → H} {W : World} {base : Nat} {spare : Nat → Bool} {held : Bool}
theorem texts_cells {fuel : Nat} {cs : List Value} {x : DataW H × List MemPlace} (h : DataW.trod enc Tryd.prog W base spare held fuel 27 cs = some x) :
    ∃ (a : Option Addr) (n c : Nat) (l : List ByteArray), cs = [.slice a n c] ∧ l.length = n ∧ Kd.C Kd.string W a n l ∧ n ≤ c := by
  rcases Deep.open_slice Tryd.underlying27 h with ⟨hcs, _⟩ | ⟨ad, len, cap, m, fl, D, Pl, hcs, _, hl, hm, hmm, _, hx⟩
  · exact ⟨none, 0, 0, [], hcs, rfl, ⟨rfl, by omega, fun h => by omega⟩, Nat.le_refl _⟩
  · have hlm : len ≤ m := by rw [hmm]; split <;> omega
    obtain ⟨f, hf⟩ := Deep.choose_lt (α := ByteArray) (n := len) (p := fun i r => W.cell? (ad.add i) = some (.string r)) (fun i hi => by
      obtain ⟨cs', h1, h2⟩ := hx i (by omega)
      rw [cells9, Nat.mul_one] at h1
      obtain ⟨_, hlen, hcell⟩ := World.cells?_some h1
      obtain ⟨b, e1, _⟩ := DataW.trod_string Tryd.underlying9 h2
      have := hcell 0 (by omega)
      rw [Deep.add_add, Nat.add_zero] at this
      exact ⟨b, by rw [this, e1]; rfl⟩)
    refine ⟨some ad, len, cap, (List.range len).map f, hcs, by simp, ⟨by simp, by unfold maxLen at hm; omega, fun _ => ⟨ad, rfl, fun j p hj => ?_⟩⟩, hl⟩
    rw [List.getElem?_map] at hj
    obtain ⟨i, hi, rfl⟩ := Option.map_eq_some_iff.1 hj
    obtain ⟨hil, rfl⟩ := List.getElem?_eq_some_iff.1 hi
    rw [List.getElem_range]
    refine ⟨[.string (f j)], rfl, rfl, fun t u ht => ?_⟩
    match t, ht with
    | 0, ht =>
      simp at ht
      subst ht
      have := hf j (by simpa using hil)
      rw [show j * Kd.string.sz + 0 = j from Nat.mul_one j]
      exact this
/-- A need's three cells. -/
theorem need_cells {fuel : Nat} {cs : List Value} {x : DataW H × List MemPlace} (h : DataW.trod enc Tryd.prog W base spare held fuel 58 cs = some x) : ∃ a b A n c, ∃ l : List ByteArray, cs = [.int .i64 a, .string b, .slice A n c] ∧ l.length = n ∧ Kd.C Kd.string W A n l ∧ n ≤ c := by
  obtain ⟨xs, n, _, _, hcl, hxl, hf⟩ := DataW.trod_struct Tryd.underlying58 h
  rw [cells58] at hcl
  match cs, hcl, xs, hxl with
  | [v0, v1, v2], _, [y0, y1, y2], _ =>
    have g0 := hf 0 _ rfl
    have g1 := hf 1 _ rfl
    have g2 := hf 2 _ rfl
    simp [cells3, cells9, cells27] at g0 g1 g2
    obtain ⟨a, e0, _, wa⟩ := DataW.trod_int Tryd.underlying3 g0
    obtain ⟨b, e1, _⟩ := DataW.trod_string Tryd.underlying9 g1
    obtain ⟨A, n, c, l, e2, q0, q1, q2⟩ := texts_cells g2
    simp only [List.cons.injEq, and_true] at e0 e1 e2
    exact ⟨a, b, A, n, c, l, by rw [e0, e1, e2], q0, q1, q2⟩
theorem needs_cells {fuel : Nat} {cs : List Value} {x : DataW H × List MemPlace} (h : DataW.trod enc Tryd.prog W base spare held fuel 60 cs = some x) :
    ∃ (a : Option Addr) (n c : Nat) (l : List S58), cs = [.slice a n c] ∧ l.length = n ∧ Kd.C k58 W a n l ∧ n ≤ c := by
  rcases Deep.open_slice Tryd.underlying60 h with ⟨hcs, _⟩ | ⟨ad, len, cap, m, fl, D, Pl, hcs, _, hl, hm, hmm, _, hx⟩
  · exact ⟨none, 0, 0, [], hcs, rfl, ⟨rfl, by omega, fun h => by omega⟩, Nat.le_refl _⟩
  · have hlm : len ≤ m := by rw [hmm]; split <;> omega
    obtain ⟨l, h1, h2⟩ := list_of (d := k58) (W := W) (a := ad) (len := len) (by unfold maxLen at hm; omega) (fun i hi => by
      obtain ⟨cs', h1, h2⟩ := hx i (by omega)
      rw [cells58] at h1
      obtain ⟨_, hlen, hcell⟩ := World.cells?_some h1
      obtain ⟨a, b, A, n, c, l, rfl, rfl, q1, q2⟩ := need_cells h2
      refine ⟨⟨a, b, l⟩, _, rfl, k58_mk W ⟨a, b, l⟩ q2 q1, fun j u hj => ?_⟩
      have hj3 : j < 3 := (List.getElem?_eq_some_iff.1 hj).1
      have := hcell j hj3
      rw [Deep.add_add] at this
      rw [show k58.sz = 3 from rfl, this]; exact hj)
    exact ⟨some ad, len, cap, l, hcs, h1, h2, hl⟩
theorem open_60 {fuel : Nat} {a : Option Addr} {n c : Nat} {x : DataW H × List MemPlace} (h : DataW.trod enc Tryd.prog W base spare held fuel 60 [.slice a n c] = some x) : ∃ l : List S58, l.length = n ∧ Kd.C k58 W a n l ∧ n ≤ c := by
  obtain ⟨a', n', c', l, e, h1, h2, h3⟩ := needs_cells h
  injection e with e _
  injection e with e1 e2 e3
  subst e1; subst e2; subst e3
  exact ⟨l, h1, h2, h3⟩
theorem open_58 {r : Reach} {b0 : Nat} {v : Value} {d : DataW H} {p : List MemPlace} (hv : Value.okWide Tryd.prog W r b0 58 v) (h : DataW.Trod enc Tryd.prog W base spare held 58 v d p) :
    ∃ a b A n c, ∃ l : List ByteArray, v = .agg #[.int .i64 a, .string b, .slice A n c] ∧ l.length = n ∧ Kd.C Kd.string W A n l ∧ n ≤ c ∧ True := by
  obtain ⟨cs, rfl, _⟩ := okWide_struct Tryd.underlying58 hv
  obtain ⟨fuel, hf⟩ := h
  obtain ⟨a, b, A, n, c, l, e, q0, q1, q2⟩ := need_cells (by simpa [Value.cells] using hf)
  refine ⟨a, b, A, n, c, l, ?_, q0, q1, q2, trivial⟩
  congr 1
  apply Array.ext'
  simpa using e
end
end Go.Proofs.YtcakednecmngdaaDoor.P
