/-
  Refs that came in, a slice of them, one by value, and a question about a queue, opened as the printed texts read them.
  Conditions: none.
-/
import Derived.Test.YtcakednecmngdaaDoorQ0
import Derived.Deep.Slices
import Derived.Lib.SmallJoins
import Derived.ChangeArms
import Derived.WideShapes
namespace Go.Proofs.YtcakednecmngdaaDoor.P
open Go Go.RowKit Go.ChangeShapes Go.WideShapes Go.Joins Go.Proofs.YtcakednecmngdaaDoor.Q Go.Proofs.YtcakednecmngdaaDoorW.PrintWords

set_option maxRecDepth 100000
instance : Inhabited S37 := ⟨z37⟩
theorem cells37 : Tryd.prog.cellsOf 37 = 3 := by kernel_rfl
theorem cells3 : Tryd.prog.cellsOf 3 = 1 := by kernel_rfl
theorem cells9 : Tryd.prog.cellsOf 9 = 1 := by kernel_rfl
section
variable {H : Type} {enc : TypeId × Value → H} {W : World} {base : Nat} {spare : Nat → Bool} {held : Bool}
/-- A ref's three cells. -/
theorem ref_cells {fuel : Nat} {cs : List Value} {x : DataW H × List MemPlace} (h : DataW.trod enc Tryd.prog W base spare held fuel 37 cs = some x) : ∃ a b c, cs = [.int .i64 a, .string b, .string c] ∧ (Lit.int .i64 a).wf = true := by
  obtain ⟨xs, n, _, _, hcl, hxl, hf⟩ := DataW.trod_struct Tryd.underlying37 h
  rw [cells37] at hcl
  match cs, hcl, xs, hxl with
  | [v0, v1, v2], _, [y0, y1, y2], _ =>
    have g0 := hf 0 _ rfl
    have g1 := hf 1 _ rfl
    have g2 := hf 2 _ rfl
    simp [cells3, cells9] at g0 g1 g2
    obtain ⟨a, e0, _, wa⟩ := DataW.trod_int Tryd.underlying3 g0
    obtain ⟨b, e1, _⟩ := DataW.trod_string Tryd.underlying9 g1
    obtain ⟨c, e2, _⟩ := DataW.trod_string Tryd.underlying9 g2
    simp only [List.cons.injEq, and_true] at e0 e1 e2
    exact ⟨a, b, c, by rw [e0, e1, e2], wa⟩
theorem refs_cells {fuel : Nat} {cs : List Value} {x : DataW H × List MemPlace} (h : DataW.trod enc Tryd.prog W base spare held fuel 29 cs = some x) :
    ∃ (a : Option Addr) (n c : Nat) (l : List S37), cs = [.slice a n c] ∧ l.length = n ∧ Kd.C k37 W a n l ∧ n ≤ c ∧ ∀ r ∈ l, (Lit.int .i64 r.f0).wf = true := by
  rcases Deep.open_slice Tryd.underlying29 h with ⟨hcs, _⟩ | ⟨ad, len, cap, m, fl, D, Pl, hcs, _, hl, hm, hmm, _, hx⟩
  · exact ⟨none, 0, 0, [], hcs, rfl, ⟨rfl, by omega, fun h => by omega⟩, Nat.le_refl _, fun r hr => (by cases hr)⟩
  · have hlm : len ≤ m := by rw [hmm]; split <;> omega
    obtain ⟨f, hf⟩ := Deep.choose_lt (α := S37) (n := len) (p := fun i r => (∀ j u, ([.int .i64 r.f0, .string r.f1, .string r.f2] : List Value)[j]? = some u → W.cell? (ad.add (i * 3 + j)) = some u) ∧ (Lit.int .i64 r.f0).wf = true) (fun i hi => by
      obtain ⟨cs', h1, h2⟩ := hx i (by omega)
      rw [cells37] at h1
      obtain ⟨_, hlen, hcell⟩ := World.cells?_some h1
      obtain ⟨a, b, c, rfl, wa⟩ := ref_cells h2
      refine ⟨⟨a, b, c⟩, fun j u hj => ?_, wa⟩
      have hj3 : j < 3 := (List.getElem?_eq_some_iff.1 hj).1
      have := hcell j hj3
      rw [Deep.add_add] at this
      rw [this]; exact hj)
    refine ⟨some ad, len, cap, (List.range len).map f, hcs, by simp, ⟨by simp, by unfold maxLen at hm; omega, fun _ => ⟨ad, rfl, fun j p hj => ?_⟩⟩, hl, fun r hr => ?_⟩
    · rw [List.getElem?_map] at hj
      obtain ⟨i, hi, rfl⟩ := Option.map_eq_some_iff.1 hj
      obtain ⟨hil, rfl⟩ := List.getElem?_eq_some_iff.1 hi
      rw [List.getElem_range]
      exact ⟨_, rfl, k37_mk W (f j), fun t u ht => (hf j (by simpa using hil)).1 t u ht⟩
    · obtain ⟨i, hi, rfl⟩ := List.mem_map.1 hr
      exact (hf i (List.mem_range.1 hi)).2
theorem open_29 {fuel : Nat} {a : Option Addr} {n c : Nat} {x : DataW H × List MemPlace} (h : DataW.trod enc Tryd.prog W base spare held fuel 29 [.slice a n c] = some x) : ∃ l : List S37, l.length = n ∧ Kd.C k37 W a n l ∧ n ≤ c ∧ ∀ r ∈ l, (Lit.int .i64 r.f0).wf = true := by
  obtain ⟨a', n', c', l, e, h1, h2, h3, h4⟩ := refs_cells h
  injection e with e _
  injection e with e1 e2 e3
  subst e1; subst e2; subst e3
  exact ⟨l, h1, h2, h3, h4⟩
theorem open_37 {r : Reach} {b0 : Nat} {v : Value} {d : DataW H} {p : List MemPlace} (hv : Value.okWide Tryd.prog W r b0 37 v) (h : DataW.Trod enc Tryd.prog W base spare held 37 v d p) :
    ∃ a b c, v = .agg #[.int .i64 a, .string b, .string c] ∧ (Lit.int .i64 a).wf = true := by
  obtain ⟨cs, rfl, _⟩ := okWide_struct Tryd.underlying37 hv
  obtain ⟨fuel, hf⟩ := h
  obtain ⟨a, b, c, e, wa⟩ := ref_cells (by simpa [Value.cells] using hf)
  refine ⟨a, b, c, ?_, wa⟩
  congr 1
  apply Array.ext'
  simpa using e
theorem open_79 {r : Reach} {b0 : Nat} {v : Value} {d : DataW H} {p : List MemPlace} (hv : Value.okWide Tryd.prog W r b0 79 v) (h : DataW.Trod enc Tryd.prog W base spare held 79 v d p) :
    ∃ (A0 : Option Addr) (n0 c0 : Nat) (l0 : List S37) (A1 : Option Addr) (n1 c1 : Nat) (l1 : List S37) (a : Int) (b c : ByteArray) (k : Int), v = .agg #[.slice A0 n0 c0, .slice A1 n1 c1, .int .i64 a, .string b, .string c, .int .i64 k] ∧
      (l0.length = n0 ∧ Kd.C k37 W A0 n0 l0 ∧ n0 ≤ c0 ∧ ∀ r ∈ l0, (Lit.int .i64 r.f0).wf = true) ∧ (l1.length = n1 ∧ Kd.C k37 W A1 n1 l1 ∧ n1 ≤ c1 ∧ ∀ r ∈ l1, (Lit.int .i64 r.f0).wf = true) ∧ (Lit.int .i64 a).wf = true ∧ (Lit.int .i64 k).wf = true := by
  obtain ⟨cs, rfl, hsz⟩ := okWide_struct Tryd.underlying79 hv
  obtain ⟨fuel, hf⟩ := h
  have c79 : Tryd.prog.cellsOf 79 = 6 := by kernel_rfl
  have c29 : Tryd.prog.cellsOf 29 = 1 := by kernel_rfl
  obtain ⟨xs, n, _, _, hcl, hxl, hg⟩ := DataW.trod_struct Tryd.underlying79 hf
  obtain ⟨cl⟩ := cs
  rw [c79] at hsz
  match cl, hsz, xs, hxl with
  | [v0, v1, v2, v3, v4, v5], _, [y0, y1, y2, y3], _ =>
    have g0 := hg 0 _ rfl
    have g1 := hg 1 _ rfl
    have g2 := hg 2 _ rfl
    have g3 := hg 3 _ rfl
    simp [cells3, cells37, c29, Value.cells] at g0 g1 g2 g3
    obtain ⟨A0, n0, c0, l0, e0, q0⟩ := refs_cells g0
    obtain ⟨A1, n1, c1, l1, e1, q1⟩ := refs_cells g1
    obtain ⟨a, b, c, e2, wa⟩ := ref_cells g2
    obtain ⟨k, e3, _, wk⟩ := DataW.trod_int Tryd.underlying3 g3
    simp only [List.cons.injEq, and_true] at e0 e1 e2 e3
    obtain ⟨e20, e21, e22⟩ := e2
    refine ⟨A0, n0, c0, l0, A1, n1, c1, l1, a, b, c, k, ?_, q0, q1, wa, wk⟩
    rw [e0, e1, e20, e21, e22, e3]
end
end Go.Proofs.YtcakednecmngdaaDoor.P
