/-
  A make of an empty row with room, as the walk meets it, and as the printed texts' own row.
  Conditions: room for no more than 6000 things.
-/
import Derived.Test.YtcakednecmngdaaDoorProg
import Derived.Laws.MakeOwn
import Derived.Test.YtcakednecmngdaaDoorWWords
namespace Go.Proofs.YtcakednecmngdaaDoor.P
open Go Go.RowKit Go.Proofs.YtcakednecmngdaaDoorW.PrintWords

theorem Kd_R_made {α : Type} {d : Kd α} {e : Nat} {W : World} {cur : Array Value} {cap base : Nat} (hb : base ≤ W.heap.size) (hm : cap ≤ 6000) (hs : cur.size = cap * d.sz) :
    d.R e (W.alloc (.cells cur e)) base (fun _ => True) (.slice (some ⟨W.heap.size, 0, none⟩) 0 cap) [] :=
  ⟨fun _ _ => trivial, [], World.ownsRow_made W cur cap hb (by unfold maxLen; omega) hs, Reps.none _ _⟩
theorem infoStr : (Tryd.prog.info? 9).map (fun i => (i.zero, i.size, i.bytes)) = some (some (.string ⟨#[]⟩), 1, 16) := by kernel_rfl
theorem infoOct : (Tryd.prog.info? 5).map (fun i => (i.zero, i.size, i.bytes)) = some (some (.int .u8 0), 1, 1) := by kernel_rfl
def madeStr (n : Nat) : Array Value := madeCells (Value.string ⟨#[]⟩).cells n
def madeOct (n : Nat) : Array Value := madeCells (Value.int .u8 0).cells n
theorem madeStr_size (n : Nat) : (madeStr n).size = n * Kd.string.sz := by rw [madeStr, size_madeCells]; simp [Kd.string, Kd.scalar]
theorem madeOct_size (n : Nat) : (madeOct n).size = n * (Kd.int .u8).sz := by rw [madeOct, size_madeCells]; simp [Kd.int, Kd.scalar]
theorem made_27 (W : World) (n : Nat) (hn : n ≤ 6000) : (Instr.makeSlice 27 (.int .i64 0) (.int .i64 (n : Int))).run Tryd.prog W = .ok (.slice (some ⟨W.heap.size, 0, none⟩) 0 n) (W.alloc (.cells (madeStr n) 9)) := by
  obtain ⟨i, hi, hz0, hz1, hz2⟩ := info_parts infoStr
  have h := run_make (P := Tryd.prog) W 27 9 i _ Tryd.underlying27 hi hz0 .i64 .i64 0 (n : Int) (by omega) (by omega) (by rw [hz2]; omega) (by omega)
  rw [hz1] at h
  simpa [madeStr] using h
theorem made_46 (W : World) (n : Nat) (hn : n ≤ 6000) : (Instr.makeSlice 46 (.int .i64 0) (.int .i64 (n : Int))).run Tryd.prog W = .ok (.slice (some ⟨W.heap.size, 0, none⟩) 0 n) (W.alloc (.cells (madeOct n) 5)) := by
  obtain ⟨i, hi, hz0, hz1, hz2⟩ := info_parts infoOct
  have h := run_make (P := Tryd.prog) W 46 5 i _ Tryd.underlying46 hi hz0 .i64 .i64 0 (n : Int) (by omega) (by omega) (by rw [hz2]; omega) (by omega)
  rw [hz1] at h
  simpa [madeOct] using h

end Go.Proofs.YtcakednecmngdaaDoor.P
