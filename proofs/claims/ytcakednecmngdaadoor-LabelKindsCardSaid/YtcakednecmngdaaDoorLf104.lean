/- Functions of the program as plain functions, with proofs that the code comes to their answers; written by a program of this session. Conditions: as each theorem states them. -/
import Derived.Test.YtcakednecmngdaaDoorL0
import Derived.Test.YtcakednecmngdaaDoorPf47
namespace Go.Proofs.YtcakednecmngdaaDoor.P
end Go.Proofs.YtcakednecmngdaaDoor.P
namespace Go.Proofs.YtcakednecmngdaaDoorW.PrintMore
end Go.Proofs.YtcakednecmngdaaDoorW.PrintMore
namespace Go.Proofs.YtcakednecmngdaaDoor.L
open Go.Proofs.YtcakednecmngdaaDoor.P
open Go.RowKit Go.Proofs.YtcakednecmngdaaDoorW.PrintWords Go.Proofs.YtcakednecmngdaaDoorW.PrintLast Go.Proofs.YtcakednecmngdaaDoorW.PrintMore
set_option linter.unusedVariables false
set_option linter.unusedSimpArgs false

/-! ### tollref08_value: function 104 -/
def tollref08_value.f (k : Nat) (a0 : ByteArray) : Option (Bool) := if a0.toList = ([] : List UInt8) then (some true) else ((tollref01_Label.f k a0).bind fun t154 => (some t154))
theorem tollref08_value.mono : ∀ a0 k, LeO (tollref08_value.f k a0) (tollref08_value.f (k + 1) a0) := by
  intro a0 k
  unfold tollref08_value.f
  repeat' first
      | (with_reducible exact tollref01_Label.mono _ _)
      | (with_reducible exact LeO.refl _)
      | (with_reducible exact LeO.none _)
      | (with_reducible refine LeO.ite ?_ ?_)
      | (with_reducible refine LeO.bind ?_ (fun _ => ?_))
      | exact tollref01_Label.mono _ _
      | exact LeO.none _
      | refine LeO.ite ?_ ?_
      | refine LeO.bind ?_ (fun _ => ?_)
set_option maxHeartbeats 8000000 in
set_option maxRecDepth 100000 in
theorem tollref08_value.calls (k : Nat) (a0 : ByteArray) (r : Bool) (w : World) (h : tollref08_value.f k a0 = some r) :
    Calls Tryd.prog 104 #[.string a0] w fun e w' => e = .returned (.bool r) ∧ Drawn0 w w' := by
  have H : (if a0.toList = ([] : List UInt8) then (some true) else ((tollref01_Label.f k a0).bind fun t154 => (some t154))) = some r := h
  clear h
  by_cases c2 : a0.toList = ([] : List UInt8)
  · rw [if_pos c2] at H
    have c2b0 : (a0.toList == ([] : List UInt8)) = true := beq_iff_eq.mpr c2
    have c2b1 : (a0.toList != ([] : List UInt8)) = false := bne_eq_false_iff_eq.mpr c2
    clear c2
    obtain rfl := Option.some.inj H
    go_enter Tryd.func104, Tryd.ntmps104
    go_wp2
    go_ret
    exact ⟨by first | rfl | (simp; done) | (simp [*]; done), by repeat (first | exact Drawn0.refl _ | apply Drawn0.step)⟩
  · rw [if_neg c2] at H
    have c2b0 : (a0.toList == ([] : List UInt8)) = false := beq_eq_false_iff_ne.mpr c2
    have c2b1 : (a0.toList != ([] : List UInt8)) = true := bne_iff_ne.mpr c2
    replace H := Option.bind_eq_some_iff.mp H
    obtain ⟨t154, A30, H⟩ := H
    replace H : (some t154) = some r := H
    have A3 := Aside0.mk A30
    clear A30
    obtain rfl := Option.some.inj H
    go_enter Tryd.func104, Tryd.ntmps104
    go_wp2_with (first | (go_at_call 47; (with_reducible refine (tollref01_Label.calls k a0 t154 _ A3.out).mono ?_); rintro e w' ⟨rfl, ⟨nd, rfl⟩⟩))
    go_ret
    exact ⟨by first | rfl | (simp; done) | (simp [*]; done), by repeat (first | exact Drawn0.refl _ | apply Drawn0.step)⟩

end Go.Proofs.YtcakednecmngdaaDoor.L
