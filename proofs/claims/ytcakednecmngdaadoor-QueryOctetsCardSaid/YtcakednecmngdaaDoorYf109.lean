/- Functions of the program as plain functions, with proofs that the code comes to their answers; written by a program of this session. Conditions: as each theorem states them. -/
import Derived.Test.YtcakednecmngdaaDoorY0
import Derived.Test.YtcakednecmngdaaDoorYf136
namespace Go.Proofs.YtcakednecmngdaaDoor.P
end Go.Proofs.YtcakednecmngdaaDoor.P
namespace Go.Proofs.YtcakednecmngdaaDoorW.PrintMore
end Go.Proofs.YtcakednecmngdaaDoorW.PrintMore
namespace Go.Proofs.YtcakednecmngdaaDoor.Y
open Go.Proofs.YtcakednecmngdaaDoor.P
open Go.RowKit Go.Proofs.YtcakednecmngdaaDoorW.PrintWords Go.Proofs.YtcakednecmngdaaDoorW.PrintLast Go.Proofs.YtcakednecmngdaaDoorW.PrintMore
set_option linter.unusedVariables false
set_option linter.unusedSimpArgs false

/-! ### strings_Cut: function 109 -/
def strings_Cut.f (a0 : ByteArray) (a1 : ByteArray) : Option (ByteArray × ByteArray × Bool) := (stringslite_Cut.f a0 a1).bind fun bt109 => (some (bt109.1, bt109.2.1, bt109.2.2))
set_option maxHeartbeats 8000000 in
set_option maxRecDepth 100000 in
theorem strings_Cut.calls (a0 : ByteArray) (a1 : ByteArray) (r1 : ByteArray) (r2 : ByteArray) (r3 : Bool) (w : World) (h : strings_Cut.f a0 a1 = some (r1, r2, r3)) :
    Calls Tryd.prog 109 #[.string a0, .string a1] w fun e w' => e = .returned (.tuple #[.string r1, .string r2, .bool r3]) ∧ Drawn0 w w' := by
  have H : ((stringslite_Cut.f a0 a1).bind fun bt109 => (some (bt109.1, bt109.2.1, bt109.2.2))) = some (r1, r2, r3) := h
  clear h
  replace H := Option.bind_eq_some_iff.mp H
  obtain ⟨⟨t109, t110, t111⟩, A30, H⟩ := H
  replace H : (some (t109, t110, t111)) = some (r1, r2, r3) := H
  have A3 := Aside0.mk A30
  clear A30
  simp only [Option.some.injEq, Prod.mk.injEq] at H
  obtain ⟨rfl, rfl, rfl⟩ := H
  go_enter Tryd.func109, Tryd.ntmps109
  go_wp2_with (first | ((with_reducible refine gate_callee (f := 136) rfl ?_); refine goesL_ (some 9) rfl rfl Tryd.func136 (by kernel_rfl) rfl #[.string a0, .string a1] rfl (by (try simp only [List.map_toArray, List.map_cons, List.map_nil]); first | done | rfl | (simp only [List.length_drop, List.length_take]; rfl)) ?_; (with_reducible refine (stringslite_Cut.calls a0 a1 t109 t110 t111 _ A3.out).mono ?_); rintro e w' ⟨rfl, ⟨nd, rfl⟩⟩; refine ⟨_, rfl, ?_⟩))
  go_ret3
  exact ⟨by first | rfl | (simp; done) | (simp [*]; done), by repeat (first | exact Drawn0.refl _ | apply Drawn0.step)⟩

end Go.Proofs.YtcakednecmngdaaDoor.Y
