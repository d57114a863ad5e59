/-
  What package strings' searches for one octet hand back, at every text: IndexByte, Index, Cut.
  Conditions: the text that is sought is of one octet.
-/
import Derived.Test.YtcakednecmngdaaDoorProg
import Derived.WalkKit
import Derived.Lib.Walk
import Derived.Lib.Strings
import Derived.Lib.Slices
import Derived.Lib.Bytealg
import Derived.Lib.IndexLaws
import Derived.BigCall
import Derived.BigGuard
import Derived.Laws.Strings3
namespace Go.Proofs.YtcakednecmngdaaDoor.Text
open Go Go.RowKit
set_option maxRecDepth 100000

theorem lite_IndexByte (s : ByteArray) (c : Int) (w : World) :
    Calls Tryd.prog 141 #[.string s, .int .u8 c] w fun e w' => e = .returned (.int .i64 (Lib.indexByte s.data.toList c.toNat.toUInt8)) ∧ w' = w := by
  go_enter Tryd.func141, Tryd.ntmps141
  go_wp2
  rw [run_callFunc_extern Tryd.func157 (by kernel_rfl) (by kernel_rfl) (by kernel_rfl) (e := Extern.BytealgIndexByte.indexByte) (by kernel_rfl), Lib.run_indexByteString]
  simp only [Result.andThen]
  rw [Oper.upon_value]
  go_wp2
  go_ret
  exact ⟨rfl, rfl⟩

set_option maxHeartbeats 2000000 in
theorem lite_Index (s : ByteArray) (c : UInt8) (w : World) :
    Calls Tryd.prog 154 #[.string s, .string ⟨#[c]⟩] w fun e w' => e = .returned (.int .i64 (Lib.indexByte s.data.toList c)) ∧ w' = w := by
  go_enter Tryd.func154, Tryd.ntmps154
  go_wp2_with (go_at_call 141; refine (lite_IndexByte _ _ _).mono ?_; rintro e w' ⟨rfl, rfl⟩)
  · have h : ([c] == s.toList) = true := by assumption
    go_ret
    refine ⟨?_, rfl⟩
    have e : s.data.toList = [c] := by rw [← Lib.toList_data]; exact (beq_iff_eq.1 h).symm
    rw [e]
    simp [Lib.indexByte]
  · go_ret
    exact ⟨rfl, rfl⟩

theorem Index (s : ByteArray) (c : UInt8) (w : World) :
    Calls Tryd.prog 147 #[.string s, .string ⟨#[c]⟩] w fun e w' => e = .returned (.int .i64 (Lib.indexByte s.data.toList c)) ∧ w' = w := by
  go_enter Tryd.func147, Tryd.ntmps147
  go_wp2_with (go_at_call 154; refine (lite_Index _ _ _).mono ?_; rintro e w' ⟨rfl, rfl⟩)
  go_ret
  exact ⟨rfl, rfl⟩

end Go.Proofs.YtcakednecmngdaaDoor.Text
