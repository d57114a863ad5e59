/- Functions of the program as plain functions, with proofs that the code comes to their answers; written by a program of this session. Conditions: as each theorem states them. -/
import Derived.Test.YtcakednecmngdaaDoorSwitch
import Derived.Test.YtcakednecmngdaaDoorLW
import Derived.Test.YtcakednecmngdaaDoorL0
import Derived.Test.YtcakednecmngdaaDoorLf51
import Derived.Test.YtcakednecmngdaaDoorLf53
import Derived.Test.YtcakednecmngdaaDoorLf55
import Derived.Test.YtcakednecmngdaaDoorLf56
import Derived.Test.YtcakednecmngdaaDoorLf57
import Derived.Test.YtcakednecmngdaaDoorLabelM
import Derived.Test.YtcakednecmngdaaDoorPf30
import Derived.Test.YtcakednecmngdaaDoorPf47
namespace Go.Proofs.YtcakednecmngdaaDoor.P
end Go.Proofs.YtcakednecmngdaaDoor.P
namespace Go.Proofs.YtcakednecmngdaaDoorW.PrintMore
end Go.Proofs.YtcakednecmngdaaDoorW.PrintMore
namespace Go.Proofs.YtcakednecmngdaaDoor.L
open Go.Proofs.YtcakednecmngdaaDoor.P
open Go.RowKit Go.Proofs.YtcakednecmngdaaDoorW.PrintWords Go.Proofs.YtcakednecmngdaaDoorW.PrintLast Go.Proofs.YtcakednecmngdaaDoorW.PrintMore
set_option linter.unusedVariables false
set_option linter.unusedSimpArgs false

/-! ### tolllaw08_LabelKinds: function 12 -/
mutual
def tolllaw08_LabelKinds.j0 : Nat → ByteArray → List (S55) → Bool → Int → ByteArray → List ByteArray → Option (Bool)
  | 0, _, _, _, _, _, _ => none
  | k + 1, x1, x2, x49, x170000, x170001, x170002 => if x49 = true then ((tolllaw08_awake.f).bind fun t187 => (some t187)) else ((some (([] : List ByteArray) : List ByteArray)).bind fun y189 => (if y189.length + x170002.length < 8796093022208 then ((some (y189 ++ x170002 : List ByteArray)).bind fun y192 => (if y192.length < 8796093022208 then ((label_Met.f x170000 x170001 x170002 x2).bind fun t198 => ((label_Met.f x170000 x170001 (y192 ++ [x1]) x2).bind fun t199 => ((label_Met.f 3 x170001 ([] : List ByteArray) x2).bind fun t200 => (tolllaw08_LabelKinds.j1 k t198 t199 t200 x170000 x170001 x170002)))) else (none))) else (none)))
def tolllaw08_LabelKinds.j1 : Nat → Bool → Bool → Bool → Int → ByteArray → List ByteArray → Option (Bool)
  | 0, _, _, _, _, _, _ => none
  | k + 1, x8, x9, x10, x170000, x170001, x170002 => if x170000 = 1 then (if x8 = true then (if x9 = true then (if x10 = true then ((tolllaw08_awake.f).bind fun t201 => (some t201)) else (some false)) else (some false)) else ((tolllaw08_awake.f).bind fun t202 => (some t202))) else (if x9 = true then (if x8 = true then (if x10 = true then ((tolllaw08_awake.f).bind fun t203 => (some t203)) else ((tolllaw08_awake.f).bind fun t204 => (some t204))) else (some false)) else (if x10 = true then ((tolllaw08_awake.f).bind fun t205 => (some t205)) else (if x8 = true then (some false) else (some false))))
end
def tolllaw08_LabelKinds.f (k : Nat) (a0_0 : Int) (a0_1 : ByteArray) (l0_2 : List ByteArray) (a1 : ByteArray) (l2 : List (S55)) : Option (Bool) := (tolllaw08_Few.f k (([(⟨a0_0, a0_1, l0_2⟩ : S58)] : List (S58)))).bind fun t173 => (if 0 < (t173.length : Int) then ((tolllaw01_Few.f a1).bind fun t177 => ((tolllaw05_Few.f k l2).bind fun t178 => ((tollref08_Needs.f k (([(⟨(rd_T58 t173 0).f0, (rd_T58 t173 0).f1, (rd_T58 t173 0).f2⟩ : S58)] : List (S58)))).bind fun t184 => (if t184 = true then ((tollref08_May.f k t178).bind fun t185 => (if t185 = true then (if (((rd_T58 t173 0).f2).length : Int) = 0 then (tolllaw08_LabelKinds.j0 k t177 t178 true ((rd_T58 t173 0).f0) ((rd_T58 t173 0).f1) ((rd_T58 t173 0).f2)) else (if (((rd_T58 t173 0).f2).length : Int) > 7 then (tolllaw08_LabelKinds.j0 k t177 t178 true ((rd_T58 t173 0).f0) ((rd_T58 t173 0).f1) ((rd_T58 t173 0).f2)) else (if t177.toList = ([] : List UInt8) then (tolllaw08_LabelKinds.j0 k t177 t178 false ((rd_T58 t173 0).f0) ((rd_T58 t173 0).f1) ((rd_T58 t173 0).f2)) else ((tollref01_Label.f k t177).bind fun t186 => (tolllaw08_LabelKinds.j0 k t177 t178 (!t186) ((rd_T58 t173 0).f0) ((rd_T58 t173 0).f1) ((rd_T58 t173 0).f2)))))) else (tolllaw08_LabelKinds.j0 k t177 t178 true ((rd_T58 t173 0).f0) ((rd_T58 t173 0).f1) ((rd_T58 t173 0).f2)))) else (tolllaw08_LabelKinds.j0 k t177 t178 true ((rd_T58 t173 0).f0) ((rd_T58 t173 0).f1) ((rd_T58 t173 0).f2)))))) else (none))
theorem tolllaw08_LabelKinds.mono_l : ∀ k, (∀ y0 y1 y2 y3 y4 y5, LeO (tolllaw08_LabelKinds.j0 k y0 y1 y2 y3 y4 y5) (tolllaw08_LabelKinds.j0 (k + 1) y0 y1 y2 y3 y4 y5)) ∧ (∀ y0 y1 y2 y3 y4 y5, LeO (tolllaw08_LabelKinds.j1 k y0 y1 y2 y3 y4 y5) (tolllaw08_LabelKinds.j1 (k + 1) y0 y1 y2 y3 y4 y5))
  | 0 => ⟨fun _ _ _ _ _ _ r h => by simp [tolllaw08_LabelKinds.j0] at h, fun _ _ _ _ _ _ r h => by simp [tolllaw08_LabelKinds.j1] at h⟩
  | k + 1 => by
    obtain ⟨ih0, ih1⟩ := tolllaw08_LabelKinds.mono_l k
    refine ⟨?_, ?_⟩
    · intro y0 y1 y2 y3 y4 y5
      unfold tolllaw08_LabelKinds.j0
      repeat' first
      | (with_reducible exact ih0 _ _ _ _ _ _)
      | (with_reducible exact ih1 _ _ _ _ _ _)
      | (with_reducible exact tolllaw05_Few.mono _ _)
      | (with_reducible exact tolllaw08_Few.mono _ _)
      | (with_reducible exact tollref01_Label.mono _ _)
      | (with_reducible exact tollref08_May.mono _ _)
      | (with_reducible exact tollref08_Needs.mono _ _)
      | (with_reducible exact LeO.refl _)
      | (with_reducible exact LeO.none _)
      | (with_reducible refine LeO.ite ?_ ?_)
      | (with_reducible refine LeO.bind ?_ (fun _ => ?_))
      | exact ih0 _ _ _ _ _ _
      | exact ih1 _ _ _ _ _ _
      | exact tolllaw05_Few.mono _ _
      | exact tolllaw08_Few.mono _ _
      | exact tollref01_Label.mono _ _
      | exact tollref08_May.mono _ _
      | exact tollref08_Needs.mono _ _
      | exact LeO.none _
      | refine LeO.ite ?_ ?_
      | refine LeO.bind ?_ (fun _ => ?_)
    · intro y0 y1 y2 y3 y4 y5
      unfold tolllaw08_LabelKinds.j1
      repeat' first
      | (with_reducible exact ih0 _ _ _ _ _ _)
      | (with_reducible exact ih1 _ _ _ _ _ _)
      | (with_reducible exact tolllaw05_Few.mono _ _)
      | (with_reducible exact tolllaw08_Few.mono _ _)
      | (with_reducible exact tollref01_Label.mono _ _)
      | (with_reducible exact tollref08_May.mono _ _)
      | (with_reducible exact tollref08_Needs.mono _ _)
      | (with_reducible exact LeO.refl _)
      | (with_reducible exact LeO.none _)
      | (with_reducible refine LeO.ite ?_ ?_)
      | (with_reducible refine LeO.bind ?_ (fun _ => ?_))
      | exact ih0 _ _ _ _ _ _
      | exact ih1 _ _ _ _ _ _
      | exact tolllaw05_Few.mono _ _
      | exact tolllaw08_Few.mono _ _
      | exact tollref01_Label.mono _ _
      | exact tollref08_May.mono _ _
      | exact tollref08_Needs.mono _ _
      | exact LeO.none _
      | refine LeO.ite ?_ ?_
      | refine LeO.bind ?_ (fun _ => ?_)
theorem tolllaw08_LabelKinds.mono : ∀ a0 a1 a2 a3 a4 k, LeO (tolllaw08_LabelKinds.f k a0 a1 a2 a3 a4) (tolllaw08_LabelKinds.f (k + 1) a0 a1 a2 a3 a4) := by
  intro a0 a1 a2 a3 a4 k
  obtain ⟨ih0, ih1⟩ := tolllaw08_LabelKinds.mono_l k
  unfold tolllaw08_LabelKinds.f
  repeat' first
      | (with_reducible exact ih0 _ _ _ _ _ _)
      | (with_reducible exact ih1 _ _ _ _ _ _)
      | (with_reducible exact tolllaw05_Few.mono _ _)
      | (with_reducible exact tolllaw08_Few.mono _ _)
      | (with_reducible exact tollref01_Label.mono _ _)
      | (with_reducible exact tollref08_May.mono _ _)
      | (with_reducible exact tollref08_Needs.mono _ _)
      | (with_reducible exact LeO.refl _)
      | (with_reducible exact LeO.none _)
      | (with_reducible refine LeO.ite ?_ ?_)
      | (with_reducible refine LeO.bind ?_ (fun _ => ?_))
      | exact ih0 _ _ _ _ _ _
      | exact ih1 _ _ _ _ _ _
      | exact tolllaw05_Few.mono _ _
      | exact tolllaw08_Few.mono _ _
      | exact tollref01_Label.mono _ _
      | exact tollref08_May.mono _ _
      | exact tollref08_Needs.mono _ _
      | exact LeO.none _
      | refine LeO.ite ?_ ?_
      | refine LeO.bind ?_ (fun _ => ?_)
def tolllaw08_LabelKinds.T1 : Bool × List (List Nat × List Nat) := (true, [([], []), ([0], [0]), ([1], [1]), ([2], [2]), ([3], [3]), ([], []), ([5, 2], [5]), ([], []), ([7, 6], [7]), ([4, 8, 0, 1, 2, 3, 4], [4]), ([6, 9, 0, 1, 2, 3, 4, 5, 6, 9], [5, 6]), ([8, 10, 0, 1, 2, 3, 4, 5, 6, 7, 8, 9, 10], [7, 8])])
def tolllaw08_LabelKinds.B1 : List Nat := [0, 1, 3, 7, 15, 0, 39, 0, 231, 511, 1023, 2047]
theorem tolllaw08_LabelKinds.tab1 : rtab .any (opsOf Tryd.f12 1) = tolllaw08_LabelKinds.T1 := by kernel_rfl
theorem tolllaw08_LabelKinds.bits1 : waitsOk tolllaw08_LabelKinds.T1.2 tolllaw08_LabelKinds.B1 = true := by kernel_rfl
def tolllaw08_LabelKinds.T6 : Bool × List (List Nat × List Nat) := (true, [([], []), ([], []), ([0, 1], [0, 1]), ([], []), ([], []), ([3, 4, 2], [3, 4]), ([2, 5, 0, 1, 2], [2]), ([5, 6, 0, 1, 2, 3, 4, 5, 6], [5])])
def tolllaw08_LabelKinds.B6 : List Nat := [0, 0, 3, 0, 0, 31, 63, 127]
theorem tolllaw08_LabelKinds.tab6 : rtab .any (opsOf Tryd.f12 6) = tolllaw08_LabelKinds.T6 := by kernel_rfl
theorem tolllaw08_LabelKinds.bits6 : waitsOk tolllaw08_LabelKinds.T6.2 tolllaw08_LabelKinds.B6 = true := by kernel_rfl
set_option maxHeartbeats 8000000 in
set_option maxRecDepth 100000 in
theorem tolllaw08_LabelKinds.calls (k : Nat) (a0_0 : Int) (a0_1 : ByteArray) (P0_2_ : Nat → Prop) (A0_2 : Option Addr) (c0_2 : Nat) (l0_2 : List ByteArray) (a1 : ByteArray) (A2 : Option Addr) (c2 : Nat) (l2 : List (S55)) (w : World) (hs0_2 : Kd.V Kd.string 9 w w.heap.size (fun k_ => P0_2_ k_) (.slice A0_2 l0_2.length c0_2) l0_2) (hr2 : Kd.C k55 w A2 l2.length l2) (hc2 : l2.length ≤ c2) (h : tolllaw08_LabelKinds.f k a0_0 a0_1 l0_2 a1 l2 = some true) :
    Calls Tryd.prog 12 #[.agg #[.int .i64 a0_0, .string a0_1, .slice A0_2 l0_2.length c0_2], .string a1, .slice A2 l2.length c2] w fun e w' => e = .returned (.bool true) ∧ Below w.heap.size w w' := by
  have hu58 := Tryd.underlying58
  have HO0_2 := Aside0.mk (show Kd.V Kd.string 9 w w.heap.size (fun k_ => (P0_2_ k_ ∨ w.heap.size ≤ k_)) (.slice A0_2 l0_2.length c0_2) l0_2 from Kd.V_mono hs0_2 (fun k_ hk => .inl hk))
  have HR2 := Aside0.mk hr2
  have HC2 := Aside0.mk hc2
  clear hr2 hc2
  have HB := Aside0.mk (Below.refl w.heap.size w)
  have H : ((tolllaw08_Few.f k (([(⟨a0_0, a0_1, l0_2⟩ : S58)] : List (S58)))).bind fun t173 => (if 0 < (t173.length : Int) then ((tolllaw01_Few.f a1).bind fun t177 => ((tolllaw05_Few.f k l2).bind fun t178 => ((tollref08_Needs.f k (([(⟨(rd_T58 t173 0).f0, (rd_T58 t173 0).f1, (rd_T58 t173 0).f2⟩ : S58)] : List (S58)))).bind fun t184 => (if t184 = true then ((tollref08_May.f k t178).bind fun t185 => (if t185 = true then (if (((rd_T58 t173 0).f2).length : Int) = 0 then (tolllaw08_LabelKinds.j0 k t177 t178 true ((rd_T58 t173 0).f0) ((rd_T58 t173 0).f1) ((rd_T58 t173 0).f2)) else (if (((rd_T58 t173 0).f2).length : Int) > 7 then (tolllaw08_LabelKinds.j0 k t177 t178 true ((rd_T58 t173 0).f0) ((rd_T58 t173 0).f1) ((rd_T58 t173 0).f2)) else (if t177.toList = ([] : List UInt8) then (tolllaw08_LabelKinds.j0 k t177 t178 false ((rd_T58 t173 0).f0) ((rd_T58 t173 0).f1) ((rd_T58 t173 0).f2)) else ((tollref01_Label.f k t177).bind fun t186 => (tolllaw08_LabelKinds.j0 k t177 t178 (!t186) ((rd_T58 t173 0).f0) ((rd_T58 t173 0).f1) ((rd_T58 t173 0).f2)))))) else (tolllaw08_LabelKinds.j0 k t177 t178 true ((rd_T58 t173 0).f0) ((rd_T58 t173 0).f1) ((rd_T58 t173 0).f2)))) else (tolllaw08_LabelKinds.j0 k t177 t178 true ((rd_T58 t173 0).f0) ((rd_T58 t173 0).f1) ((rd_T58 t173 0).f2)))))) else (none))) = some true := h
  clear h
  obtain ⟨y170, hy170⟩ : ∃ y_ : List (S58), y_ = (([(⟨a0_0, a0_1, l0_2⟩ : S58)] : List (S58))) := ⟨_, rfl⟩
  replace H : ((tolllaw08_Few.f k y170).bind fun t173 => (if 0 < (t173.length : Int) then ((tolllaw01_Few.f a1).bind fun t177 => ((tolllaw05_Few.f k l2).bind fun t178 => ((tollref08_Needs.f k (([(⟨(rd_T58 t173 0).f0, (rd_T58 t173 0).f1, (rd_T58 t173 0).f2⟩ : S58)] : List (S58)))).bind fun t184 => (if t184 = true then ((tollref08_May.f k t178).bind fun t185 => (if t185 = true then (if (((rd_T58 t173 0).f2).length : Int) = 0 then (tolllaw08_LabelKinds.j0 k t177 t178 true ((rd_T58 t173 0).f0) ((rd_T58 t173 0).f1) ((rd_T58 t173 0).f2)) else (if (((rd_T58 t173 0).f2).length : Int) > 7 then (tolllaw08_LabelKinds.j0 k t177 t178 true ((rd_T58 t173 0).f0) ((rd_T58 t173 0).f1) ((rd_T58 t173 0).f2)) else (if t177.toList = ([] : List UInt8) then (tolllaw08_LabelKinds.j0 k t177 t178 false ((rd_T58 t173 0).f0) ((rd_T58 t173 0).f1) ((rd_T58 t173 0).f2)) else ((tollref01_Label.f k t177).bind fun t186 => (tolllaw08_LabelKinds.j0 k t177 t178 (!t186) ((rd_T58 t173 0).f0) ((rd_T58 t173 0).f1) ((rd_T58 t173 0).f2)))))) else (tolllaw08_LabelKinds.j0 k t177 t178 true ((rd_T58 t173 0).f0) ((rd_T58 t173 0).f1) ((rd_T58 t173 0).f2)))) else (tolllaw08_LabelKinds.j0 k t177 t178 true ((rd_T58 t173 0).f0) ((rd_T58 t173 0).f1) ((rd_T58 t173 0).f2)))))) else (none))) = some true := by first | (rw [hy170]; with_reducible exact H) | (have H2_ := (Option.bind_some _ _).symm.trans H; rw [hy170]; with_reducible exact H2_) | (have H2_ := (Option.bind_some _ _).symm.trans H; with_reducible exact H2_) | with_reducible exact H | (rw [hy170]; exact H) | exact H
  have Ny170 := Aside0.mk hy170
  clear hy170
  replace H := Option.bind_eq_some_iff.mp H
  obtain ⟨t173, A40, H⟩ := H
  replace H : (if 0 < (t173.length : Int) then ((tolllaw01_Few.f a1).bind fun t177 => ((tolllaw05_Few.f k l2).bind fun t178 => ((tollref08_Needs.f k (([(⟨(rd_T58 t173 0).f0, (rd_T58 t173 0).f1, (rd_T58 t173 0).f2⟩ : S58)] : List (S58)))).bind fun t184 => (if t184 = true then ((tollref08_May.f k t178).bind fun t185 => (if t185 = true then (if (((rd_T58 t173 0).f2).length : Int) = 0 then (tolllaw08_LabelKinds.j0 k t177 t178 true ((rd_T58 t173 0).f0) ((rd_T58 t173 0).f1) ((rd_T58 t173 0).f2)) else (if (((rd_T58 t173 0).f2).length : Int) > 7 then (tolllaw08_LabelKinds.j0 k t177 t178 true ((rd_T58 t173 0).f0) ((rd_T58 t173 0).f1) ((rd_T58 t173 0).f2)) else (if t177.toList = ([] : List UInt8) then (tolllaw08_LabelKinds.j0 k t177 t178 false ((rd_T58 t173 0).f0) ((rd_T58 t173 0).f1) ((rd_T58 t173 0).f2)) else ((tollref01_Label.f k t177).bind fun t186 => (tolllaw08_LabelKinds.j0 k t177 t178 (!t186) ((rd_T58 t173 0).f0) ((rd_T58 t173 0).f1) ((rd_T58 t173 0).f2)))))) else (tolllaw08_LabelKinds.j0 k t177 t178 true ((rd_T58 t173 0).f0) ((rd_T58 t173 0).f1) ((rd_T58 t173 0).f2)))) else (tolllaw08_LabelKinds.j0 k t177 t178 true ((rd_T58 t173 0).f0) ((rd_T58 t173 0).f1) ((rd_T58 t173 0).f2)))))) else (none)) = some true := H
  have A4 := Aside0.mk A40
  clear A40
  by_cases c5 : 0 < (t173.length : Int)
  · rw [if_pos c5] at H
    have c5b0 : decide (0 < (t173.length : Int)) = true := decide_eq_true c5
    have c5b1 : decide (0 < t173.length) = true := decide_eq_true (by omega)
    clear c5
    replace H := Option.bind_eq_some_iff.mp H
    obtain ⟨t177, A60, H⟩ := H
    replace H : ((tolllaw05_Few.f k l2).bind fun t178 => ((tollref08_Needs.f k (([(⟨(rd_T58 t173 0).f0, (rd_T58 t173 0).f1, (rd_T58 t173 0).f2⟩ : S58)] : List (S58)))).bind fun t184 => (if t184 = true then ((tollref08_May.f k t178).bind fun t185 => (if t185 = true then (if (((rd_T58 t173 0).f2).length : Int) = 0 then (tolllaw08_LabelKinds.j0 k t177 t178 true ((rd_T58 t173 0).f0) ((rd_T58 t173 0).f1) ((rd_T58 t173 0).f2)) else (if (((rd_T58 t173 0).f2).length : Int) > 7 then (tolllaw08_LabelKinds.j0 k t177 t178 true ((rd_T58 t173 0).f0) ((rd_T58 t173 0).f1) ((rd_T58 t173 0).f2)) else (if t177.toList = ([] : List UInt8) then (tolllaw08_LabelKinds.j0 k t177 t178 false ((rd_T58 t173 0).f0) ((rd_T58 t173 0).f1) ((rd_T58 t173 0).f2)) else ((tollref01_Label.f k t177).bind fun t186 => (tolllaw08_LabelKinds.j0 k t177 t178 (!t186) ((rd_T58 t173 0).f0) ((rd_T58 t173 0).f1) ((rd_T58 t173 0).f2)))))) else (tolllaw08_LabelKinds.j0 k t177 t178 true ((rd_T58 t173 0).f0) ((rd_T58 t173 0).f1) ((rd_T58 t173 0).f2)))) else (tolllaw08_LabelKinds.j0 k t177 t178 true ((rd_T58 t173 0).f0) ((rd_T58 t173 0).f1) ((rd_T58 t173 0).f2))))) = some true := H
    have A6 := Aside0.mk A60
    clear A60
    replace H := Option.bind_eq_some_iff.mp H
    obtain ⟨t178, A70, H⟩ := H
    replace H : ((tollref08_Needs.f k (([(⟨(rd_T58 t173 0).f0, (rd_T58 t173 0).f1, (rd_T58 t173 0).f2⟩ : S58)] : List (S58)))).bind fun t184 => (if t184 = true then ((tollref08_May.f k t178).bind fun t185 => (if t185 = true then (if (((rd_T58 t173 0).f2).length : Int) = 0 then (tolllaw08_LabelKinds.j0 k t177 t178 true ((rd_T58 t173 0).f0) ((rd_T58 t173 0).f1) ((rd_T58 t173 0).f2)) else (if (((rd_T58 t173 0).f2).length : Int) > 7 then (tolllaw08_LabelKinds.j0 k t177 t178 true ((rd_T58 t173 0).f0) ((rd_T58 t173 0).f1) ((rd_T58 t173 0).f2)) else (if t177.toList = ([] : List UInt8) then (tolllaw08_LabelKinds.j0 k t177 t178 false ((rd_T58 t173 0).f0) ((rd_T58 t173 0).f1) ((rd_T58 t173 0).f2)) else ((tollref01_Label.f k t177).bind fun t186 => (tolllaw08_LabelKinds.j0 k t177 t178 (!t186) ((rd_T58 t173 0).f0) ((rd_T58 t173 0).f1) ((rd_T58 t173 0).f2)))))) else (tolllaw08_LabelKinds.j0 k t177 t178 true ((rd_T58 t173 0).f0) ((rd_T58 t173 0).f1) ((rd_T58 t173 0).f2)))) else (tolllaw08_LabelKinds.j0 k t177 t178 true ((rd_T58 t173 0).f0) ((rd_T58 t173 0).f1) ((rd_T58 t173 0).f2)))) = some true := H
    have A7 := Aside0.mk A70
    clear A70
    have HC8 := Aside0.mk H
    clear H
    go_enter Tryd.func12, Tryd.ntmps12
    try go_wp2_with (first | ((with_reducible refine gate_dst (N := 3) rfl ?_); (try (refine gate_guard (by rfl) ?_; dsimp only)); refine box_event ?hg (N := 3) ?hd (cs := #[.int .i64 a0_0, .string a0_1, .slice A0_2 l0_2.length c0_2]) (t := 58) ?hr ?_; (case hd => rfl); (case hg => rfl); (case hr => first | (go_simp; done) | (go_simp; rfl)); intro gb169 hg w9 hbox hb; have n0_ := Aside0.mk (Kd.V_below (Kd.V_elderB (by (with_reducible repeat (first | apply Kd.V_alloc | apply Kd.V_drewN | apply Kd.V_drew)); exact HO0_2.out) gb169 (Nat.le_of_eq hg.symm)) hb); have n1_ := Aside0.mk (below_step (by repeat (first | (with_reducible first | exact HB.out | apply below_alloc | apply pw_below_drewN | apply below_drew1) | exact HB.out)) hb); have n2_ := Aside0.mk (hbox); have n3_ := Aside0.mk ((by rw [hg]; exact (below_size (by repeat (first | (with_reducible first | exact HB.out | apply below_alloc | apply pw_below_drewN | apply below_drew1) | exact HB.out))) : w.heap.size ≤ gb169)); have n4_ := Aside0.mk ((by rw [hg]; exact (below_size (by repeat (first | (with_reducible first | exact HB.out | apply below_alloc | apply pw_below_drewN | apply below_drew1) | exact HB.out))) : w.heap.size ≤ gb169)); clear HO0_2; clear HB; have HO0_2 := n0_; have HB := n1_; have BK169 := n2_; have GW169 := n3_; have GE169 := n4_; clear n0_ n1_ n2_ n3_ n4_; clear hb hbox hg))
    have n0_ := Aside0.mk (Kd.V_drew HO0_2.out)
    have n1_ := Aside0.mk (blk_drew BK169.out)
    have n2_ := Aside0.mk (below_drew1 HB.out)
    clear HO0_2
    clear BK169
    clear HB
    have HO0_2 := n0_
    have BK169 := n1_
    have HB := n2_
    clear n0_ n1_ n2_
    refine start_ (n := 12) (S := fun w' => w'.cell? ⟨gb169, 0, none⟩ = some (.int .i64 a0_0) ∧ w'.cell? ⟨gb169, 1, none⟩ = some (.string a0_1) ∧ w'.cell? ⟨gb169, 2, none⟩ = some (.slice A0_2 l0_2.length c0_2)) (ds := [3, 4, 6, 8, 9, 10, 11]) #[false, false, false, false, false, false, false, false, false, false, false, false] (by kernel_rfl) rfl rfl ⟨(blk_cell BK169.out 0).trans rfl, (blk_cell BK169.out 1).trans rfl, (blk_cell BK169.out 2).trans rfl⟩ (fun hHeld => ?_); refine with_tabW tolllaw08_LabelKinds.tab1 tolllaw08_LabelKinds.bits1 (fun HT_ HW_ => ?_)
    generalize w9.drew = w10 at HO0_2 BK169 HB hHeld ⊢
    refine pure_ (i := 5) (N := some 16) (v := ?_) (a' := ?_) #[false, false, false, false, false, true, false, false, false, false, false, false] rfl rfl (any_of HT_.out (by kernel_rfl)) (fun _ _ _ h => h) (Or.inl ⟨by rfl, ?_⟩) ?_ ?_
    rotate_left
    · intro w'
      go_simp
      with_reducible rfl
    rotate_left
    · simp only [Act.put, List.setIfInBounds_toArray, List.set_cons_zero, List.set_cons_succ, i64_w, i32_w]
      rfl
    refine pure_ (i := 7) (N := some 18) (v := ?_) (a' := ?_) #[false, false, false, false, false, true, false, true, false, false, false, false] rfl rfl (any_of HT_.out (by kernel_rfl)) (fun _ _ _ h => h) (Or.inl ⟨by rfl, ?_⟩) ?_ ?_
    rotate_left
    · intro w'
      go_simp
      with_reducible rfl
    rotate_left
    · simp only [Act.put, List.setIfInBounds_toArray, List.set_cons_zero, List.set_cons_succ, i64_w, i32_w]
      rfl
    refine take_ (i := 0) (N := some 11) (v := ?_) (a' := ?_) #[true, false, false, false, false, true, false, true, false, false, false, false] rfl rfl (take_ofW HT_.out HW_.out (by kernel_rfl)) (fun _ _ _ h => h) (Or.inl ⟨by rfl, ?_⟩) hHeld ?_ ?_
    rotate_left
    · rintro w' ⟨s0, s1, s2⟩
      go_simp
      with_reducible rfl
    rotate_left
    · simp only [Act.put, List.setIfInBounds_toArray, List.set_cons_zero, List.set_cons_succ, i64_w, i32_w]
      rfl
    refine one_ (i := 1) (N := some 12) #[true, true, false, false, false, true, false, true, false, false, false, false] rfl rfl (one_of HT_.out (by kernel_rfl)) (by decide) (fun K hK => ?_)
    refine Kd.N_lit_step k58 _ 58 ?hg (N' := 12) ?hd (xs := ([(⟨a0_0, a0_1, l0_2⟩ : S58)] : List (S58))) (inner := [.int .i64 a0_0, .string a0_1, .slice A0_2 l0_2.length c0_2]) (ok := (fun k_ => (P0_2_ k_ ∨ w.heap.size ≤ k_) ∧ k_ ≠ gb169)) (okp := (fun k_ => (P0_2_ k_ ∨ w.heap.size ≤ k_) ∧ k_ ≠ gb169)) ?hr ?hp (fun _ hk => hk) ((show ∀ k_, w10.heap.size ≤ k_ → (fun k_ => (P0_2_ k_ ∨ w.heap.size ≤ k_) ∧ k_ ≠ gb169) k_ from fun k_ hk => ⟨(.inr (Nat.le_trans (below_size (by repeat (first | (with_reducible first | exact HB.out | apply below_alloc | apply pw_below_drewN | apply below_drew1 | refine below_set ?_ GE169.out) | exact HB.out))) hk)), Kd.freshB (g := gb169) (o := .cells #[.int .i64 a0_0, .string a0_1, .slice A0_2 l0_2.length c0_2] 58 (0, 0)) (by (with_reducible repeat (first | refine blk_drewN ?_ _ | refine blk_drew ?_ | refine blk_alloc ?_ _)); exact BK169.out) k_ hk⟩) _ (Nat.le_refl _)) (Below.refl _ _) (Nat.le_refl _) (by simp) ?_; (case hd => rfl); (case hg => rfl); (case hr => first | (go_simp; done) | (go_simp; rfl)); (case hp => exact (Reps.c3 (show Kd.FK k58 _ _ (⟨a0_0, a0_1, l0_2⟩ : S58) [.int .i64 a0_0, .string a0_1, .slice A0_2 l0_2.length c0_2] from (k58_mkF _ _ (⟨a0_0, a0_1, l0_2⟩ : S58) (Kd.V_reads' (Kd.V_mono (ok' := (fun k_ => (P0_2_ k_ ∨ w.heap.size ≤ k_) ∧ k_ ≠ gb169)) (HO0_2.out) (fun k_ hk => ⟨hk.1, hk.2⟩))).2.1 (Kd.V_F (Kd.V_mono (ok' := (fun k_ => (P0_2_ k_ ∨ w.heap.size ≤ k_) ∧ k_ ≠ gb169)) (HO0_2.out) (fun k_ hk => ⟨hk.1, hk.2⟩))))) (Reps.none _ _)))
    intro v171 w11 ho12 hb hg_ hnew_
    clear hg_ hnew_
    (first | rw [← Ny170.out] at ho12 | (simp only [Int.reduceToNat] at ho12; rw [← Ny170.out] at ho12))
    have n0_ := Aside0.mk (Kd.V_elder' (by (with_reducible repeat (first | apply Kd.V_alloc | apply Kd.V_drewN | apply Kd.V_drew)); exact HO0_2.out) (Kd.N_base ho12) hb)
    have n1_ := Aside0.mk (Kd.N_lower ho12 (below_size (by repeat (first | (with_reducible first | exact HB.out | apply below_alloc | apply pw_below_drewN | apply below_drew1 | refine below_set ?_ GE169.out) | exact HB.out))))
    have n2_ := Aside0.mk (blk_below (g := gb169) (o := .cells #[.int .i64 a0_0, .string a0_1, .slice A0_2 l0_2.length c0_2] 58 (0, 0)) (by (with_reducible repeat (first | refine blk_drewN ?_ _ | refine blk_drew ?_ | refine blk_alloc ?_ _)); exact BK169.out) hb)
    have n3_ := Aside0.mk (below_step (by repeat (first | (with_reducible first | exact HB.out | apply below_alloc | apply pw_below_drewN | apply below_drew1 | refine below_set ?_ GE169.out) | exact HB.out)) hb)
    clear HO0_2
    clear BK169
    clear HB
    have HO0_2 := n0_
    have HO172 := n1_
    have BK169 := n2_
    have HB := n3_
    clear n0_ n1_ n2_ n3_
    clear hb ho12
    obtain ⟨Ao13, co13, eo13⟩ := Kd.N_slice HO172.out
    (first | subst eo13 | (injection eo13 with f1_ f2_ f3_; have f4_ := f1_.symm; have f5_ := f3_.symm; clear f1_ f2_ f3_; subst f4_; subst f5_))
    refine hK.out _ _ ⟨(blk_cell BK169.out 0).trans rfl, (blk_cell BK169.out 1).trans rfl, (blk_cell BK169.out 2).trans rfl⟩ (fun hHeld => ?_)
    clear hK K
    refine norm_ (a' := ?_) ?_ ?_
    rotate_left
    · show Act.put _ (some 12) _ = _
      simp only [Act.put, List.setIfInBounds_toArray, List.set_cons_zero, List.set_cons_succ, i64_w, i32_w]
      rfl
    refine one_ (i := 2) (N := some 13) #[true, true, true, false, false, true, false, true, false, false, false, false] rfl rfl (one_of HT_.out (by kernel_rfl)) (by decide) (fun K hK => ?_)
    refine goes_ Tryd.func55 (by kernel_rfl) rfl #[.slice Ao13 y170.length co13] (by rfl) rfl rfl (by (try simp only [List.map_toArray, List.map_cons, List.map_nil]); first | done | rfl | (simp only [List.length_drop, List.length_take]; rfl)) ?_
    with_reducible refine (tolllaw08_Few.calls k _ _ y170 t173 _ ?side1 ?side2 A4.out).mono ?_
    (case side1 => repeat (first | exact (Kd.N_reads' HO172.out).2.2 | (with_reducible refine Kd.C_alloc ?_ _) | (with_reducible refine Kd.C_drewN ?_ _) | (with_reducible refine Kd.C_drew ?_)))
    (case side2 => exact (Kd.N_reads' HO172.out).2.1)
    rintro e w14 ⟨v174, rfl, ho0, hb⟩
    refine ⟨_, rfl, ?_⟩
    have n0_ := Aside0.mk (Kd.V_elder' (by (with_reducible repeat (first | apply Kd.V_alloc | apply Kd.V_drewN | apply Kd.V_drew)); exact HO0_2.out) (by first | exact Kd.N_base ho0 | exact Kd.N_base (Kd.S_N ho0)) hb)
    have n1_ := Aside0.mk (Kd.N_elder' (by (with_reducible repeat (first | apply Kd.N_alloc | apply Kd.N_drewN | apply Kd.N_drew)); exact HO172.out) (by first | exact Kd.N_base ho0 | exact Kd.N_base (Kd.S_N ho0)) hb)
    have n2_ := Aside0.mk (Kd.N_lower (Kd.N_mono (ok' := fun k_ => (P0_2_ k_ ∨ w.heap.size ≤ k_) ∧ some k_ ≠ (.slice Ao13 y170.length co13 : Value).ownBlock ∧ k_ ≠ gb169) (Kd.S_N (Kd.S_bound ho0)) (fun k_ hk_ => ⟨(.inr (Nat.le_trans (below_size (by repeat (first | (with_reducible first | exact HB.out | apply below_alloc | apply pw_below_drewN | apply below_drew1 | refine below_set ?_ GE169.out) | exact HB.out))) hk_.2.1)), (Kd.fresh' (Kd.N_lt (by (with_reducible repeat (first | apply Kd.N_alloc | apply Kd.N_drewN | apply Kd.N_drew)); exact HO172.out)) k_ hk_.2.1), (Kd.freshB (g := gb169) (o := .cells #[.int .i64 a0_0, .string a0_1, .slice A0_2 l0_2.length c0_2] 58 (0, 0)) (by (with_reducible repeat (first | refine blk_drewN ?_ _ | refine blk_drew ?_ | refine blk_alloc ?_ _)); exact BK169.out) k_ hk_.2.1)⟩)) (below_size (by repeat (first | (with_reducible first | exact HB.out | apply below_alloc | apply pw_below_drewN | apply below_drew1 | refine below_set ?_ GE169.out) | exact HB.out))))
    have n3_ := Aside0.mk (blk_below (g := gb169) (o := .cells #[.int .i64 a0_0, .string a0_1, .slice A0_2 l0_2.length c0_2] 58 (0, 0)) (by (with_reducible repeat (first | refine blk_drewN ?_ _ | refine blk_drew ?_ | refine blk_alloc ?_ _)); exact BK169.out) hb)
    have n4_ := Aside0.mk (below_step (by repeat (first | (with_reducible first | exact HB.out | apply below_alloc | apply pw_below_drewN | apply below_drew1 | refine below_set ?_ GE169.out) | exact HB.out)) hb)
    clear HO0_2
    clear HO172
    clear BK169
    clear HB
    have HO0_2 := n0_
    have HO172 := n1_
    have HO175 := n2_
    have BK169 := n3_
    have HB := n4_
    clear n0_ n1_ n2_ n3_ n4_
    (try clear hb)
    (try clear hb2)
    (try clear hk)
    (try clear hi)
    (try clear ho0)
    obtain ⟨Ao15, co15, eo15⟩ := Kd.N_slice HO175.out
    (first | subst eo15 | (injection eo15 with f1_ f2_ f3_; have f4_ := f1_.symm; have f5_ := f3_.symm; clear f1_ f2_ f3_; subst f4_; subst f5_))
    have p176 : 0 ≤ (0 : Int) := (by omega)
    have q176 : 0 < (t173.length : Int) := of_decide_eq_true (by first | (with_reducible assumption) | assumption)
    obtain ⟨ad176, A176_2, c176_2, e176, hx176_0, hx176_1, hx176_2, hl176_2, hi176_2⟩ := at_T58 (Kd.N_reads' HO175.out).2.2 0 p176 q176
    cases e176
    obtain ⟨ce176, hce176, hMe176, hcc176⟩ := Kd.N_get HO175.out z58 0 p176 (by first | exact q176 | exact of_decide_eq_true (by first | (with_reducible assumption) | assumption) | (have e_ := (Kd.N_reads' HO175.out).1; omega))
    obtain ⟨ua176_2, uc176_2, rfl, ul176_2, ge176_2⟩ := k58_openF hMe176
    have hv176_2 := hcc176 2 _ rfl
    rw [add_field _ _ 2 (by omega)] at hv176_2
    replace hv176_2 := Option.some.inj (hv176_2.symm.trans hx176_2)
    injection hv176_2 with hva_ hvn_ hvc_
    rw [hva_] at ge176_2
    rw [hvc_] at ul176_2
    have HL176_2 := Aside0.mk (show Kd.V Kd.string 9 _ w.heap.size _ _ ((rd_T58 t173 0).f2) from Kd.V_mk ul176_2 ge176_2)
    clear hva_ hvn_ hvc_ ge176_2 ul176_2
    clear hcc176 hce176
    have qi176 : (0 < t173.length) = True := eq_true (by omega)
    (try rw [show ((0 : Int)).toNat = 0 from rfl] at hx176_0)
    (try rw [show 0 * 3 = 0 from rfl] at hx176_0)
    (try rw [Addr.add_zero'] at hx176_0)
    (try rw [show ((0 : Int)).toNat = 0 from rfl] at hx176_1)
    (try rw [show 0 * 3 = 0 from rfl] at hx176_1)
    (try rw [Addr.add_zero'] at hx176_1)
    (try rw [show ((0 : Int)).toNat = 0 from rfl] at hx176_2)
    (try rw [show 0 * 3 = 0 from rfl] at hx176_2)
    (try rw [Addr.add_zero'] at hx176_2)
    have HR176_2 := Aside0.mk hi176_2
    have HC176_2 := Aside0.mk hl176_2
    clear hi176_2 hl176_2
    replace p176 := eq_true p176
    replace q176 := eq_true q176
    refine hK.out _ _ ⟨(blk_cell BK169.out 0).trans rfl, (blk_cell BK169.out 1).trans rfl, (blk_cell BK169.out 2).trans rfl⟩ (fun _ => ?_)
    clear hK K
    refine switch_ (S2 := fun w' => w'.cell? ⟨gb169, 0, none⟩ = some (.int .i64 a0_0) ∧ w'.cell? ⟨gb169, 1, none⟩ = some (.string a0_1) ∧ w'.cell? ⟨gb169, 2, none⟩ = some (.slice A0_2 l0_2.length c0_2) ∧ w'.cell? ad176 = some (.int .i64 ((rd_T58 t173 0).f0)) ∧ w'.cell? ⟨ad176.block, ad176.off + 1, none⟩ = some (.string ((rd_T58 t173 0).f1)) ∧ w'.cell? ⟨ad176.block, ad176.off + 2, none⟩ = some (.slice A176_2 ((rd_T58 t173 0).f2).length c176_2)) (ds2 := [9]) (by kernel_rfl) ⟨(blk_cell BK169.out 0).trans rfl, (blk_cell BK169.out 1).trans rfl, (blk_cell BK169.out 2).trans rfl, hx176_0, hx176_1, hx176_2⟩ (fun hHeld => ?_)
    refine norm_ (a' := ?_) ?_ ?_
    rotate_left
    · show Act.put _ (some 13) _ = _
      simp only [Act.put, List.setIfInBounds_toArray, List.set_cons_zero, List.set_cons_succ, i64_w, i32_w]
      rfl
    refine pure_ (i := 3) (N := some 14) (v := ?_) (a' := ?_) #[true, true, true, true, false, true, false, true, false, false, false, false] rfl rfl (any_of HT_.out (by kernel_rfl)) (fun _ _ _ h => h) (Or.inl ⟨by rfl, ?_⟩) ?_ ?_
    rotate_left
    · intro w'
      go_simp
      with_reducible rfl
    rotate_left
    · simp only [Act.put, List.setIfInBounds_toArray, List.set_cons_zero, List.set_cons_succ, i64_w, i32_w]
      rfl
    refine take_ (i := 4) (N := some 15) (v := ?_) (a' := ?_) #[true, true, true, true, true, true, false, true, false, false, false, false] rfl rfl (take_ofW HT_.out HW_.out (by kernel_rfl)) (fun _ _ _ h => h) (Or.inl ⟨by rfl, ?_⟩) hHeld ?_ ?_
    rotate_left
    · rintro w' ⟨s0, s1, s2, s3, s4, s5⟩
      go_simp
      with_reducible rfl
    rotate_left
    · simp only [Act.put, List.setIfInBounds_toArray, List.set_cons_zero, List.set_cons_succ, i64_w, i32_w]
      rfl
    refine one_ (i := 6) (N := some 17) #[true, true, true, true, true, true, true, true, false, false, false, false] rfl rfl (one_of HT_.out (by kernel_rfl)) (by decide) (fun K hK => ?_)
    refine goes_ Tryd.func30 (by kernel_rfl) rfl #[.string a1] (by rfl) rfl rfl (by (try simp only [List.map_toArray, List.map_cons, List.map_nil]); first | done | rfl | (simp only [List.length_drop, List.length_take]; rfl)) ?_
    with_reducible refine (tolllaw01_Few.calls a1 t177 _ A6.out).mono ?_
    rintro e w' ⟨rfl, ⟨nd, rfl⟩⟩
    refine ⟨_, rfl, ?_⟩
    refine hK.out _ _ ⟨(blk_cell BK169.out 0).trans rfl, (blk_cell BK169.out 1).trans rfl, (blk_cell BK169.out 2).trans rfl, hHeld.2.2.2.1, hHeld.2.2.2.2.1, hHeld.2.2.2.2.2⟩ (fun hHeld => ?_)
    clear hK K
    refine norm_ (a' := ?_) ?_ ?_
    rotate_left
    · show Act.put _ (some 17) _ = _
      simp only [Act.put, List.setIfInBounds_toArray, List.set_cons_zero, List.set_cons_succ, i64_w, i32_w]
      rfl
    refine one_ (i := 8) (N := some 19) #[true, true, true, true, true, true, true, true, true, false, false, false] rfl rfl (one_of HT_.out (by kernel_rfl)) (by decide) (fun K hK => ?_)
    refine goes_ Tryd.func51 (by kernel_rfl) rfl #[.slice A2 l2.length c2] (by rfl) rfl rfl (by (try simp only [List.map_toArray, List.map_cons, List.map_nil]); first | done | rfl | (simp only [List.length_drop, List.length_take]; rfl)) ?_
    with_reducible refine (tolllaw05_Few.calls k _ _ l2 t178 _ ?side1 ?side2 A7.out).mono ?_
    (case side1 => repeat (first | exact (Kd.C_below HR2.out (by repeat (first | (with_reducible first | exact HB.out | apply below_alloc | apply pw_below_drewN | apply below_drew1 | refine below_set ?_ GE169.out) | exact HB.out))) | (with_reducible refine Kd.C_alloc ?_ _) | (with_reducible refine Kd.C_drewN ?_ _) | (with_reducible refine Kd.C_drew ?_)))
    (case side2 => exact HC2.out)
    rintro e w16 ⟨v179, rfl, ho0, hb⟩
    have HS3_ := (hb.cell (World.block_lt_of_cell? _ _ (hHeld.2.2.2.1))).trans (hHeld.2.2.2.1)
    have HS4_ := (hb.cell (World.block_lt_of_cell? _ _ (hHeld.2.2.2.2.1))).trans (hHeld.2.2.2.2.1)
    have HS5_ := (hb.cell (World.block_lt_of_cell? _ _ (hHeld.2.2.2.2.2))).trans (hHeld.2.2.2.2.2)
    refine ⟨_, rfl, ?_⟩
    have n0_ := Aside0.mk (Kd.V_elder' (by (with_reducible repeat (first | apply Kd.V_alloc | apply Kd.V_drewN | apply Kd.V_drew)); exact HO0_2.out) (Kd.R_base ho0) hb)
    have n1_ := Aside0.mk (Kd.N_elder' (by (with_reducible repeat (first | apply Kd.N_alloc | apply Kd.N_drewN | apply Kd.N_drew)); exact HO172.out) (Kd.R_base ho0) hb)
    have n2_ := Aside0.mk (Kd.N_elder' (by (with_reducible repeat (first | apply Kd.N_alloc | apply Kd.N_drewN | apply Kd.N_drew)); exact HO175.out) (Kd.R_base ho0) hb)
    have n3_ := Aside0.mk (Kd.V_elder' (by (with_reducible repeat (first | apply Kd.V_alloc | apply Kd.V_drewN | apply Kd.V_drew)); exact HL176_2.out) (Kd.R_base ho0) hb)
    have n4_ := Aside0.mk (Kd.R_lower (Kd.R_newM (M := fun k_ => (w.heap.size ≤ k_)) ho0 (below_size (by repeat (first | (with_reducible first | exact HB.out | apply below_alloc | apply pw_below_drewN | apply below_drew1 | refine below_set ?_ GE169.out) | exact HB.out))) (fun k_ h_ => h_)) (below_size (by repeat (first | (with_reducible first | exact HB.out | apply below_alloc | apply pw_below_drewN | apply below_drew1 | refine below_set ?_ GE169.out) | exact HB.out))))
    have n5_ := Aside0.mk (blk_below (g := gb169) (o := .cells #[.int .i64 a0_0, .string a0_1, .slice A0_2 l0_2.length c0_2] 58 (0, 0)) (by (with_reducible repeat (first | refine blk_drewN ?_ _ | refine blk_drew ?_ | refine blk_alloc ?_ _)); exact BK169.out) hb)
    have n6_ := Aside0.mk (Kd.C_below (by repeat (first | (with_reducible exact HR176_2.out) | (with_reducible refine Kd.C_alloc ?_ _) | (with_reducible refine Kd.C_drewN ?_ _) | (with_reducible refine Kd.C_drew ?_) | exact HR176_2.out | exact (Kd.V_reads' HL176_2.out).2.2)) hb)
    have n7_ := Aside0.mk (below_step (by repeat (first | (with_reducible first | exact HB.out | apply below_alloc | apply pw_below_drewN | apply below_drew1 | refine below_set ?_ GE169.out) | exact HB.out)) hb)
    clear HO0_2
    clear HO172
    clear HO175
    clear HL176_2
    clear BK169
    clear HR176_2
    clear HB
    have HO0_2 := n0_
    have HO172 := n1_
    have HO175 := n2_
    have HL176_2 := n3_
    have HO180 := n4_
    have BK169 := n5_
    have HR176_2 := n6_
    have HB := n7_
    clear n0_ n1_ n2_ n3_ n4_ n5_ n6_ n7_
    (try clear hb)
    (try clear hb2)
    (try clear hk)
    (try clear hi)
    (try clear ho0)
    refine hK.out _ _ ⟨(blk_cell BK169.out 0).trans rfl, (blk_cell BK169.out 1).trans rfl, (blk_cell BK169.out 2).trans rfl, HS3_, HS4_, HS5_⟩ (fun hHeld => ?_)
    clear hK K
    refine norm_ (a' := ?_) ?_ ?_
    rotate_left
    · show Act.put _ (some 19) _ = _
      simp only [Act.put, List.setIfInBounds_toArray, List.set_cons_zero, List.set_cons_succ, i64_w, i32_w]
      rfl
    refine last_ (i := 9) (N := none) #[true, true, true, true, true, true, true, true, true, true, false, false] rfl rfl (one_of HT_.out (by kernel_rfl)) (by decide) (fun K hK => ?_)
    have hs17 : w16.cell? ⟨gb169, 0, none⟩ = some (.int .i64 a0_0) := (blk_cell BK169.out 0).trans rfl
    have hfs17 := blk_frozen BK169.out 0
    have hs18 : w16.cell? ⟨gb169, 1, none⟩ = some (.string a0_1) := (blk_cell BK169.out 1).trans rfl
    have hfs18 := blk_frozen BK169.out 1
    have hs19 : w16.cell? ⟨gb169, 2, none⟩ = some (.slice A0_2 l0_2.length c0_2) := (blk_cell BK169.out 2).trans rfl
    have hfs19 := blk_frozen BK169.out 2
    refine skip_ (w1 := ?_) (by rfl) rfl ?_ ?_
    rotate_left
    · go_simp
      rfl
    refine hK.out _ _ ?_
    clear hK K
    refine pure_ (i := 10) (N := some 1) (v := ?_) (a' := ?_) #[true, true, true, true, true, true, true, true, true, true, true, false] rfl rfl (any_of HT_.out (by kernel_rfl)) (fun _ _ _ h => h) (Or.inl ⟨by rfl, ?_⟩) ?_ ?_
    rotate_left
    · intro w'
      go_simp
      with_reducible rfl
    rotate_left
    · simp only [Act.put, List.setIfInBounds_toArray, List.set_cons_zero, List.set_cons_succ, i64_w, i32_w]
      rfl
    refine pure_ (i := 11) (N := some 2) (v := ?_) (a' := ?_) #[true, true, true, true, true, true, true, true, true, true, true, true] rfl rfl (any_of HT_.out (by kernel_rfl)) (fun _ _ _ h => h) (Or.inl ⟨by rfl, ?_⟩) ?_ ?_
    rotate_left
    · intro w'
      go_simp
      with_reducible rfl
    rotate_left
    · simp only [Act.put, List.setIfInBounds_toArray, List.set_cons_zero, List.set_cons_succ, i64_w, i32_w]
      rfl
    refine done_ (done_of HT_.out (by kernel_rfl)) ?_
    go_upto_region 2 with (fail)
    go_cut [49] (fun v49 wc => ∃ (kq : Nat) (x49_7 : Bool), v49 = .bool x49_7 ∧ Aside0 (tolllaw08_LabelKinds.j0 kq t177 t178 x49_7 ((rd_T58 t173 0).f0) ((rd_T58 t173 0).f1) ((rd_T58 t173 0).f2) = some true) ∧ Aside0 (kq ≤ k) ∧ Aside0 (Kd.R k55 55 wc w.heap.size (fun k_ => (w.heap.size ≤ k_)) v179 t178) ∧ Aside0 (Kd.V Kd.string 9 wc w.heap.size (fun k_ => (P0_2_ k_ ∨ w.heap.size ≤ k_) ∧ some k_ ≠ (v179 : Value).ownBlock ∧ k_ ≠ gb169) (.slice A176_2 ((rd_T58 t173 0).f2).length c176_2) ((rd_T58 t173 0).f2)) ∧ Aside0 (wc.heap[gb169]? = some (.cells #[.int .i64 ((rd_T58 t173 0).f0), .string ((rd_T58 t173 0).f1), (.slice A176_2 ((rd_T58 t173 0).f2).length c176_2)] 58 (0, 0))) ∧ Aside0 (Below w.heap.size w wc))
    case first =>
      have H := HC8.out
      clear HC8
      obtain ⟨y181, hy181⟩ : ∃ y_ : List (S58), y_ = (([(⟨(rd_T58 t173 0).f0, (rd_T58 t173 0).f1, (rd_T58 t173 0).f2⟩ : S58)] : List (S58))) := ⟨_, rfl⟩
      replace H : ((tollref08_Needs.f k y181).bind fun t184 => (if t184 = true then ((tollref08_May.f k t178).bind fun t185 => (if t185 = true then (if (((rd_T58 t173 0).f2).length : Int) = 0 then (tolllaw08_LabelKinds.j0 k t177 t178 true ((rd_T58 t173 0).f0) ((rd_T58 t173 0).f1) ((rd_T58 t173 0).f2)) else (if (((rd_T58 t173 0).f2).length : Int) > 7 then (tolllaw08_LabelKinds.j0 k t177 t178 true ((rd_T58 t173 0).f0) ((rd_T58 t173 0).f1) ((rd_T58 t173 0).f2)) else (if t177.toList = ([] : List UInt8) then (tolllaw08_LabelKinds.j0 k t177 t178 false ((rd_T58 t173 0).f0) ((rd_T58 t173 0).f1) ((rd_T58 t173 0).f2)) else ((tollref01_Label.f k t177).bind fun t186 => (tolllaw08_LabelKinds.j0 k t177 t178 (!t186) ((rd_T58 t173 0).f0) ((rd_T58 t173 0).f1) ((rd_T58 t173 0).f2)))))) else (tolllaw08_LabelKinds.j0 k t177 t178 true ((rd_T58 t173 0).f0) ((rd_T58 t173 0).f1) ((rd_T58 t173 0).f2)))) else (tolllaw08_LabelKinds.j0 k t177 t178 true ((rd_T58 t173 0).f0) ((rd_T58 t173 0).f1) ((rd_T58 t173 0).f2)))) = some true := by first | (rw [hy181]; with_reducible exact H) | (have H2_ := (Option.bind_some _ _).symm.trans H; rw [hy181]; with_reducible exact H2_) | (have H2_ := (Option.bind_some _ _).symm.trans H; with_reducible exact H2_) | with_reducible exact H | (rw [hy181]; exact H) | exact H
      have Ny181 := Aside0.mk hy181
      clear hy181
      replace H := Option.bind_eq_some_iff.mp H
      obtain ⟨t184, A200, H⟩ := H
      replace H : (if t184 = true then ((tollref08_May.f k t178).bind fun t185 => (if t185 = true then (if (((rd_T58 t173 0).f2).length : Int) = 0 then (tolllaw08_LabelKinds.j0 k t177 t178 true ((rd_T58 t173 0).f0) ((rd_T58 t173 0).f1) ((rd_T58 t173 0).f2)) else (if (((rd_T58 t173 0).f2).length : Int) > 7 then (tolllaw08_LabelKinds.j0 k t177 t178 true ((rd_T58 t173 0).f0) ((rd_T58 t173 0).f1) ((rd_T58 t173 0).f2)) else (if t177.toList = ([] : List UInt8) then (tolllaw08_LabelKinds.j0 k t177 t178 false ((rd_T58 t173 0).f0) ((rd_T58 t173 0).f1) ((rd_T58 t173 0).f2)) else ((tollref01_Label.f k t177).bind fun t186 => (tolllaw08_LabelKinds.j0 k t177 t178 (!t186) ((rd_T58 t173 0).f0) ((rd_T58 t173 0).f1) ((rd_T58 t173 0).f2)))))) else (tolllaw08_LabelKinds.j0 k t177 t178 true ((rd_T58 t173 0).f0) ((rd_T58 t173 0).f1) ((rd_T58 t173 0).f2)))) else (tolllaw08_LabelKinds.j0 k t177 t178 true ((rd_T58 t173 0).f0) ((rd_T58 t173 0).f1) ((rd_T58 t173 0).f2))) = some true := H
      have A20 := Aside0.mk A200
      clear A200
      by_cases c21 : t184 = true
      · subst c21
        have H1 : ((tollref08_May.f k t178).bind fun t185 => (if t185 = true then (if (((rd_T58 t173 0).f2).length : Int) = 0 then (tolllaw08_LabelKinds.j0 k t177 t178 true ((rd_T58 t173 0).f0) ((rd_T58 t173 0).f1) ((rd_T58 t173 0).f2)) else (if (((rd_T58 t173 0).f2).length : Int) > 7 then (tolllaw08_LabelKinds.j0 k t177 t178 true ((rd_T58 t173 0).f0) ((rd_T58 t173 0).f1) ((rd_T58 t173 0).f2)) else (if t177.toList = ([] : List UInt8) then (tolllaw08_LabelKinds.j0 k t177 t178 false ((rd_T58 t173 0).f0) ((rd_T58 t173 0).f1) ((rd_T58 t173 0).f2)) else ((tollref01_Label.f k t177).bind fun t186 => (tolllaw08_LabelKinds.j0 k t177 t178 (!t186) ((rd_T58 t173 0).f0) ((rd_T58 t173 0).f1) ((rd_T58 t173 0).f2)))))) else (tolllaw08_LabelKinds.j0 k t177 t178 true ((rd_T58 t173 0).f0) ((rd_T58 t173 0).f1) ((rd_T58 t173 0).f2)))) = some true := by rw [if_pos rfl] at H; exact H
        clear H
        have H := H1
        clear H1
        replace H := Option.bind_eq_some_iff.mp H
        obtain ⟨t185, A220, H⟩ := H
        replace H : (if t185 = true then (if (((rd_T58 t173 0).f2).length : Int) = 0 then (tolllaw08_LabelKinds.j0 k t177 t178 true ((rd_T58 t173 0).f0) ((rd_T58 t173 0).f1) ((rd_T58 t173 0).f2)) else (if (((rd_T58 t173 0).f2).length : Int) > 7 then (tolllaw08_LabelKinds.j0 k t177 t178 true ((rd_T58 t173 0).f0) ((rd_T58 t173 0).f1) ((rd_T58 t173 0).f2)) else (if t177.toList = ([] : List UInt8) then (tolllaw08_LabelKinds.j0 k t177 t178 false ((rd_T58 t173 0).f0) ((rd_T58 t173 0).f1) ((rd_T58 t173 0).f2)) else ((tollref01_Label.f k t177).bind fun t186 => (tolllaw08_LabelKinds.j0 k t177 t178 (!t186) ((rd_T58 t173 0).f0) ((rd_T58 t173 0).f1) ((rd_T58 t173 0).f2)))))) else (tolllaw08_LabelKinds.j0 k t177 t178 true ((rd_T58 t173 0).f0) ((rd_T58 t173 0).f1) ((rd_T58 t173 0).f2))) = some true := H
        have A22 := Aside0.mk A220
        clear A220
        by_cases c23 : t185 = true
        · subst c23
          have H1 : (if (((rd_T58 t173 0).f2).length : Int) = 0 then (tolllaw08_LabelKinds.j0 k t177 t178 true ((rd_T58 t173 0).f0) ((rd_T58 t173 0).f1) ((rd_T58 t173 0).f2)) else (if (((rd_T58 t173 0).f2).length : Int) > 7 then (tolllaw08_LabelKinds.j0 k t177 t178 true ((rd_T58 t173 0).f0) ((rd_T58 t173 0).f1) ((rd_T58 t173 0).f2)) else (if t177.toList = ([] : List UInt8) then (tolllaw08_LabelKinds.j0 k t177 t178 false ((rd_T58 t173 0).f0) ((rd_T58 t173 0).f1) ((rd_T58 t173 0).f2)) else ((tollref01_Label.f k t177).bind fun t186 => (tolllaw08_LabelKinds.j0 k t177 t178 (!t186) ((rd_T58 t173 0).f0) ((rd_T58 t173 0).f1) ((rd_T58 t173 0).f2)))))) = some true := by rw [if_pos rfl] at H; exact H
          clear H
          have H := H1
          clear H1
          by_cases c24 : (((rd_T58 t173 0).f2).length : Int) = 0
          · rw [if_pos c24] at H
            have c24b0 : ((((rd_T58 t173 0).f2).length : Int) == 0) = true := beq_iff_eq.mpr c24
            have c24b1 : ((((rd_T58 t173 0).f2).length : Int) != 0) = false := bne_eq_false_iff_eq.mpr c24
            clear c24
            (first | rw [c24b0] | (simp only [i64_w, i32_w]; rw [c24b0]) | skip)
            have H' := Aside0.mk H
            clear H
            have n0_ : Aside0 (Kd.V Kd.string 9 (((w16.setCell ⟨gb169, 0, none⟩ (.int .i64 ((rd_T58 t173 0).f0))).setCell ⟨gb169, 1, none⟩ (.string ((rd_T58 t173 0).f1))).setCell ⟨gb169, 2, none⟩ (.slice A176_2 ((rd_T58 t173 0).f2).length c176_2)) w.heap.size (fun k_ => (P0_2_ k_ ∨ w.heap.size ≤ k_) ∧ some k_ ≠ (.slice Ao13 y170.length co13 : Value).ownBlock ∧ some k_ ≠ (.slice (some ad176) t173.length co15 : Value).ownBlock ∧ some k_ ≠ (v179 : Value).ownBlock ∧ k_ ≠ gb169) (.slice A0_2 l0_2.length c0_2) l0_2) := ⟨by (with_reducible repeat (first | apply Kd.V_alloc | apply Kd.V_drewN | apply Kd.V_drew)); exact Kd.V_mono (Kd.V_far (p := ⟨gb169, 2, none⟩) (Kd.V_far (p := ⟨gb169, 1, none⟩) (Kd.V_far (p := ⟨gb169, 0, none⟩) (Kd.V_mono HO0_2.out (fun k_ hk => (⟨hk, hk.1.1.1.2⟩ : _ ∧ k_ ≠ gb169))) (fun _ hk => hk.2) (.int .i64 ((rd_T58 t173 0).f0))) (fun _ hk => hk.2) (.string ((rd_T58 t173 0).f1))) (fun _ hk => hk.2) (.slice A176_2 ((rd_T58 t173 0).f2).length c176_2)) (fun _ hk => ⟨hk.1.1.1.1.1, ⟨hk.1.1.1.2, ⟨hk.1.1.2, ⟨hk.1.2, hk.1.1.1.1.2⟩⟩⟩⟩)⟩
            have n1_ : Aside0 (Kd.N k58 58 (((w16.setCell ⟨gb169, 0, none⟩ (.int .i64 ((rd_T58 t173 0).f0))).setCell ⟨gb169, 1, none⟩ (.string ((rd_T58 t173 0).f1))).setCell ⟨gb169, 2, none⟩ (.slice A176_2 ((rd_T58 t173 0).f2).length c176_2)) w.heap.size (fun k_ => (P0_2_ k_ ∨ w.heap.size ≤ k_) ∧ some k_ ≠ (.slice (some ad176) t173.length co15 : Value).ownBlock ∧ some k_ ≠ (v179 : Value).ownBlock ∧ k_ ≠ gb169) (.slice Ao13 y170.length co13) y170) := ⟨by (with_reducible repeat (first | apply Kd.N_alloc | apply Kd.N_drewN | apply Kd.N_drew)); exact Kd.N_mono (Kd.N_far (p := ⟨gb169, 2, none⟩) (Kd.N_far (p := ⟨gb169, 1, none⟩) (Kd.N_far (p := ⟨gb169, 0, none⟩) (Kd.N_mono HO172.out (fun k_ hk => (⟨hk, hk.1.1.2⟩ : _ ∧ k_ ≠ gb169))) (fun _ hk => hk.2) (.int .i64 ((rd_T58 t173 0).f0))) (fun _ hk => hk.2) (.string ((rd_T58 t173 0).f1))) (fun _ hk => hk.2) (.slice A176_2 ((rd_T58 t173 0).f2).length c176_2)) (fun _ hk => ⟨hk.1.1.1.1, ⟨hk.1.1.2, ⟨hk.1.2, hk.1.1.1.2⟩⟩⟩)⟩
            have n2_ : Aside0 (Kd.N k58 58 (((w16.setCell ⟨gb169, 0, none⟩ (.int .i64 ((rd_T58 t173 0).f0))).setCell ⟨gb169, 1, none⟩ (.string ((rd_T58 t173 0).f1))).setCell ⟨gb169, 2, none⟩ (.slice A176_2 ((rd_T58 t173 0).f2).length c176_2)) w.heap.size (fun k_ => (P0_2_ k_ ∨ w.heap.size ≤ k_) ∧ some k_ ≠ (.slice Ao13 y170.length co13 : Value).ownBlock ∧ some k_ ≠ (v179 : Value).ownBlock ∧ k_ ≠ gb169) (.slice (some ad176) t173.length co15) t173) := ⟨by (with_reducible repeat (first | apply Kd.N_alloc | apply Kd.N_drewN | apply Kd.N_drew)); exact Kd.N_mono (Kd.N_far (p := ⟨gb169, 2, none⟩) (Kd.N_far (p := ⟨gb169, 1, none⟩) (Kd.N_far (p := ⟨gb169, 0, none⟩) (Kd.N_mono HO175.out (fun k_ hk => (⟨hk, hk.1.2.2⟩ : _ ∧ k_ ≠ gb169))) (fun _ hk => hk.2) (.int .i64 ((rd_T58 t173 0).f0))) (fun _ hk => hk.2) (.string ((rd_T58 t173 0).f1))) (fun _ hk => hk.2) (.slice A176_2 ((rd_T58 t173 0).f2).length c176_2)) (fun _ hk => ⟨hk.1.1.1, ⟨hk.1.1.2.1, ⟨hk.1.2, hk.1.1.2.2⟩⟩⟩)⟩
            have n3_ : Aside0 (Kd.V Kd.string 9 (((w16.setCell ⟨gb169, 0, none⟩ (.int .i64 ((rd_T58 t173 0).f0))).setCell ⟨gb169, 1, none⟩ (.string ((rd_T58 t173 0).f1))).setCell ⟨gb169, 2, none⟩ (.slice A176_2 ((rd_T58 t173 0).f2).length c176_2)) w.heap.size (fun k_ => (P0_2_ k_ ∨ w.heap.size ≤ k_) ∧ some k_ ≠ (.slice Ao13 y170.length co13 : Value).ownBlock ∧ some k_ ≠ (.slice (some ad176) t173.length co15 : Value).ownBlock ∧ some k_ ≠ (v179 : Value).ownBlock ∧ k_ ≠ gb169) (.slice A176_2 ((rd_T58 t173 0).f2).length c176_2) ((rd_T58 t173 0).f2)) := ⟨by (with_reducible repeat (first | apply Kd.V_alloc | apply Kd.V_drewN | apply Kd.V_drew)); exact Kd.V_mono (Kd.V_far (p := ⟨gb169, 2, none⟩) (Kd.V_far (p := ⟨gb169, 1, none⟩) (Kd.V_far (p := ⟨gb169, 0, none⟩) (Kd.V_mono HL176_2.out (fun k_ hk => (⟨hk, hk.1.1.2.2⟩ : _ ∧ k_ ≠ gb169))) (fun _ hk => hk.2) (.int .i64 ((rd_T58 t173 0).f0))) (fun _ hk => hk.2) (.string ((rd_T58 t173 0).f1))) (fun _ hk => hk.2) (.slice A176_2 ((rd_T58 t173 0).f2).length c176_2)) (fun _ hk => ⟨hk.1.1.1.1, ⟨hk.1.1.1.2.1, ⟨hk.1.1.2, ⟨hk.1.2, hk.1.1.1.2.2⟩⟩⟩⟩)⟩
            have n4_ : Aside0 (Kd.R k55 55 (((w16.setCell ⟨gb169, 0, none⟩ (.int .i64 ((rd_T58 t173 0).f0))).setCell ⟨gb169, 1, none⟩ (.string ((rd_T58 t173 0).f1))).setCell ⟨gb169, 2, none⟩ (.slice A176_2 ((rd_T58 t173 0).f2).length c176_2)) w.heap.size (fun k_ => (w.heap.size ≤ k_)) v179 t178) := ⟨by (with_reducible repeat (first | apply Kd.R_alloc | apply Kd.R_drewN | apply Kd.R_drew)); exact Kd.R_mono (Kd.R_far (p := ⟨gb169, 2, none⟩) (Kd.R_far (p := ⟨gb169, 1, none⟩) (Kd.R_far (p := ⟨gb169, 0, none⟩) (Kd.R_types HO180.out BK169.out (by decide)) (fun _ hk => hk.2) (.int .i64 ((rd_T58 t173 0).f0))) (fun _ hk => hk.2) (.string ((rd_T58 t173 0).f1))) (fun _ hk => hk.2) (.slice A176_2 ((rd_T58 t173 0).f2).length c176_2)) (fun _ hk => hk.1.1)⟩
            have n5_ : Aside0 ((((w16.setCell ⟨gb169, 0, none⟩ (.int .i64 ((rd_T58 t173 0).f0))).setCell ⟨gb169, 1, none⟩ (.string ((rd_T58 t173 0).f1))).setCell ⟨gb169, 2, none⟩ (.slice A176_2 ((rd_T58 t173 0).f2).length c176_2)).heap[gb169]? = some (.cells #[.int .i64 ((rd_T58 t173 0).f0), .string ((rd_T58 t173 0).f1), .slice A176_2 ((rd_T58 t173 0).f2).length c176_2] 58 (0, 0))) := ⟨by (with_reducible repeat (first | refine blk_drewN ?_ _ | refine blk_drew ?_ | refine blk_alloc ?_ _)); refine blk_put (cs := #[.int .i64 ((rd_T58 t173 0).f0), .string ((rd_T58 t173 0).f1), .slice A0_2 l0_2.length c0_2]) ?_ 2 _ rfl; (with_reducible repeat (first | refine blk_drewN ?_ _ | refine blk_drew ?_ | refine blk_alloc ?_ _)); refine blk_put (cs := #[.int .i64 ((rd_T58 t173 0).f0), .string a0_1, .slice A0_2 l0_2.length c0_2]) ?_ 1 _ rfl; (with_reducible repeat (first | refine blk_drewN ?_ _ | refine blk_drew ?_ | refine blk_alloc ?_ _)); refine blk_put (cs := #[.int .i64 a0_0, .string a0_1, .slice A0_2 l0_2.length c0_2]) ?_ 0 _ rfl; (with_reducible repeat (first | refine blk_drewN ?_ _ | refine blk_drew ?_ | refine blk_alloc ?_ _)); exact BK169.out⟩
            have n6_ : Aside0 (Below w.heap.size w (((w16.setCell ⟨gb169, 0, none⟩ (.int .i64 ((rd_T58 t173 0).f0))).setCell ⟨gb169, 1, none⟩ (.string ((rd_T58 t173 0).f1))).setCell ⟨gb169, 2, none⟩ (.slice A176_2 ((rd_T58 t173 0).f2).length c176_2))) := ⟨by repeat (first | (with_reducible first | exact HB.out | apply below_alloc | apply pw_below_drewN | apply below_drew1 | refine below_set ?_ GE169.out) | exact HB.out)⟩
            (try clear HO0_2)
            (try clear HO172)
            (try clear HO175)
            (try clear HL176_2)
            (try clear HO180)
            (try clear BK169)
            (try clear HB)
            generalize (((w16.setCell ⟨gb169, 0, none⟩ (.int .i64 ((rd_T58 t173 0).f0))).setCell ⟨gb169, 1, none⟩ (.string ((rd_T58 t173 0).f1))).setCell ⟨gb169, 2, none⟩ (.slice A176_2 ((rd_T58 t173 0).f2).length c176_2)) = w25 at n0_ n1_ n2_ n3_ n4_ n5_ n6_ ⊢
            have HO0_2 := n0_
            have HO172 := n1_
            have HO175 := n2_
            have HL176_2 := n3_
            have HO180 := n4_
            have BK169 := n5_
            have HB := n6_
            clear n0_ n1_ n2_ n3_ n4_ n5_ n6_
            have hcz26_0 : w25.cell? ⟨gb169, 0, none⟩ = some (.int .i64 ((rd_T58 t173 0).f0)) := (blk_cell BK169.out 0).trans rfl
            have hcz26_1 : w25.cell? ⟨gb169, 1, none⟩ = some (.string ((rd_T58 t173 0).f1)) := (blk_cell BK169.out 1).trans rfl
            have hcz26_2 : w25.cell? ⟨gb169, 2, none⟩ = some (.slice A176_2 ((rd_T58 t173 0).f2).length c176_2) := (blk_cell BK169.out 2).trans rfl
            have hfz26_0 := blk_frozen BK169.out 0
            have hfz26_1 := blk_frozen BK169.out 1
            have hfz26_2 := blk_frozen BK169.out 2
            try go_wp2_with (first | ((with_reducible refine gate_dst (N := 21) rfl ?_); (try (refine gate_guard (by rfl) ?_; dsimp only)); refine Kd.N_lit k58 _ 58 ?hg (N' := 21) ?hd (xs := ([(⟨(rd_T58 t173 0).f0, (rd_T58 t173 0).f1, (rd_T58 t173 0).f2⟩ : S58)] : List (S58))) (inner := [.int .i64 ((rd_T58 t173 0).f0), .string ((rd_T58 t173 0).f1), .slice A176_2 ((rd_T58 t173 0).f2).length c176_2]) (ok := (fun k_ => (P0_2_ k_ ∨ w.heap.size ≤ k_) ∧ some k_ ≠ (.slice Ao13 y170.length co13 : Value).ownBlock ∧ some k_ ≠ (.slice (some ad176) t173.length co15 : Value).ownBlock ∧ some k_ ≠ (v179 : Value).ownBlock ∧ k_ ≠ gb169)) (okp := (fun k_ => (P0_2_ k_ ∨ w.heap.size ≤ k_) ∧ some k_ ≠ (.slice Ao13 y170.length co13 : Value).ownBlock ∧ some k_ ≠ (.slice (some ad176) t173.length co15 : Value).ownBlock ∧ some k_ ≠ (v179 : Value).ownBlock ∧ k_ ≠ gb169)) ?hr ?hp (fun _ hk => hk) ((show ∀ k_, w25.heap.size ≤ k_ → (fun k_ => (P0_2_ k_ ∨ w.heap.size ≤ k_) ∧ some k_ ≠ (.slice Ao13 y170.length co13 : Value).ownBlock ∧ some k_ ≠ (.slice (some ad176) t173.length co15 : Value).ownBlock ∧ some k_ ≠ (v179 : Value).ownBlock ∧ k_ ≠ gb169) k_ from fun k_ hk => ⟨(.inr (Nat.le_trans (below_size (by repeat (first | (with_reducible first | exact HB.out | apply below_alloc | apply pw_below_drewN | apply below_drew1 | refine below_set ?_ GE169.out) | exact HB.out))) hk)), Kd.fresh' (Kd.N_lt (by (with_reducible repeat (first | apply Kd.N_alloc | apply Kd.N_drewN | apply Kd.N_drew)); exact HO172.out)) k_ hk, Kd.fresh' (Kd.N_lt (by (with_reducible repeat (first | apply Kd.N_alloc | apply Kd.N_drewN | apply Kd.N_drew)); exact HO175.out)) k_ hk, Kd.fresh' (Kd.R_lt (by (with_reducible repeat (first | apply Kd.R_alloc | apply Kd.R_drewN | apply Kd.R_drew)); exact HO180.out)) k_ hk, Kd.freshB (g := gb169) (o := .cells #[.int .i64 ((rd_T58 t173 0).f0), .string ((rd_T58 t173 0).f1), .slice A176_2 ((rd_T58 t173 0).f2).length c176_2] 58 (0, 0)) (by (with_reducible repeat (first | refine blk_drewN ?_ _ | refine blk_drew ?_ | refine blk_alloc ?_ _)); exact BK169.out) k_ hk⟩) _ (Nat.le_refl _)) (Below.refl _ _) (Nat.le_refl _) (by simp) ?_; (case hd => rfl); (case hg => rfl); (case hr => first | (go_simp; done) | (go_simp; rfl)); (case hp => exact (Reps.c3 (show Kd.FK k58 _ _ (⟨(rd_T58 t173 0).f0, (rd_T58 t173 0).f1, (rd_T58 t173 0).f2⟩ : S58) [.int .i64 ((rd_T58 t173 0).f0), .string ((rd_T58 t173 0).f1), .slice A176_2 ((rd_T58 t173 0).f2).length c176_2] from (k58_mkF _ _ (⟨(rd_T58 t173 0).f0, (rd_T58 t173 0).f1, (rd_T58 t173 0).f2⟩ : S58) (Kd.V_reads' (Kd.V_mono (ok' := (fun k_ => (P0_2_ k_ ∨ w.heap.size ≤ k_) ∧ some k_ ≠ (.slice Ao13 y170.length co13 : Value).ownBlock ∧ some k_ ≠ (.slice (some ad176) t173.length co15 : Value).ownBlock ∧ some k_ ≠ (v179 : Value).ownBlock ∧ k_ ≠ gb169)) (HL176_2.out) (fun k_ hk => ⟨hk.1, ⟨hk.2.1, ⟨hk.2.2.1, ⟨hk.2.2.2.1, hk.2.2.2.2⟩⟩⟩⟩))).2.1 (Kd.V_F (Kd.V_mono (ok' := (fun k_ => (P0_2_ k_ ∨ w.heap.size ≤ k_) ∧ some k_ ≠ (.slice Ao13 y170.length co13 : Value).ownBlock ∧ some k_ ≠ (.slice (some ad176) t173.length co15 : Value).ownBlock ∧ some k_ ≠ (v179 : Value).ownBlock ∧ k_ ≠ gb169)) (HL176_2.out) (fun k_ hk => ⟨hk.1, ⟨hk.2.1, ⟨hk.2.2.1, ⟨hk.2.2.2.1, hk.2.2.2.2⟩⟩⟩⟩))))) (Reps.none _ _))); intro v182 w27 ho28 hb hg_ hnew_; clear hg_ hnew_; (first | rw [← Ny181.out] at ho28 | (simp only [Int.reduceToNat] at ho28; rw [← Ny181.out] at ho28)); have n0_ := Aside0.mk (Kd.V_elder' (by (with_reducible repeat (first | apply Kd.V_alloc | apply Kd.V_drewN | apply Kd.V_drew)); exact HO0_2.out) (Kd.N_base ho28) hb); have n1_ := Aside0.mk (Kd.N_elder' (by (with_reducible repeat (first | apply Kd.N_alloc | apply Kd.N_drewN | apply Kd.N_drew)); exact HO172.out) (Kd.N_base ho28) hb); have n2_ := Aside0.mk (Kd.N_elder' (by (with_reducible repeat (first | apply Kd.N_alloc | apply Kd.N_drewN | apply Kd.N_drew)); exact HO175.out) (Kd.N_base ho28) hb); have n3_ := Aside0.mk (Kd.V_elder' (by (with_reducible repeat (first | apply Kd.V_alloc | apply Kd.V_drewN | apply Kd.V_drew)); exact HL176_2.out) (Kd.N_base ho28) hb); have n4_ := Aside0.mk (Kd.R_below (by (with_reducible repeat (first | apply Kd.R_alloc | apply Kd.R_drewN | apply Kd.R_drew)); exact HO180.out) hb); have n5_ := Aside0.mk (Kd.N_lower ho28 (below_size (by repeat (first | (with_reducible first | exact HB.out | apply below_alloc | apply pw_below_drewN | apply below_drew1 | refine below_set ?_ GE169.out) | exact HB.out)))); have n6_ := Aside0.mk (blk_below (g := gb169) (o := .cells #[.int .i64 ((rd_T58 t173 0).f0), .string ((rd_T58 t173 0).f1), .slice A176_2 ((rd_T58 t173 0).f2).length c176_2] 58 (0, 0)) (by (with_reducible repeat (first | refine blk_drewN ?_ _ | refine blk_drew ?_ | refine blk_alloc ?_ _)); exact BK169.out) hb); have n7_ := Aside0.mk (below_step (by repeat (first | (with_reducible first | exact HB.out | apply below_alloc | apply pw_below_drewN | apply below_drew1 | refine below_set ?_ GE169.out) | exact HB.out)) hb); clear HO0_2; clear HO172; clear HO175; clear HL176_2; clear HO180; clear BK169; clear HB; have HO0_2 := n0_; have HO172 := n1_; have HO175 := n2_; have HL176_2 := n3_; have HO180 := n4_; have HO183 := n5_; have BK169 := n6_; have HB := n7_; clear n0_ n1_ n2_ n3_ n4_ n5_ n6_ n7_; clear hb ho28; obtain ⟨Ao29, co29, eo29⟩ := Kd.N_slice HO183.out; subst eo29) | ((with_reducible refine _root_.Go.Proofs.YtcakednecmngdaaDoorW.PrintMore.gate_callee (f := 56) rfl ?_); refine goesL_ (some 22) rfl rfl Tryd.func56 (by kernel_rfl) rfl #[.slice Ao29 y181.length co29] rfl (by (try simp only [List.map_toArray, List.map_cons, List.map_nil]); first | done | rfl | (simp only [List.length_drop, List.length_take]; rfl)) ?_; (with_reducible refine (tollref08_Needs.calls k _ _ y181 true _ ?side1 ?side2 A20.out).mono ?_); (case side1 => repeat (first | exact (Kd.N_reads' HO183.out).2.2 | (with_reducible refine Kd.C_alloc ?_ _) | (with_reducible refine Kd.C_drewN ?_ _) | (with_reducible refine Kd.C_drew ?_))); (case side2 => exact (Kd.N_reads' HO183.out).2.1); rintro e w30 ⟨rfl, hb⟩; refine ⟨_, rfl, ?_⟩; have n0_ := Aside0.mk (Kd.V_below (by (with_reducible repeat (first | apply Kd.V_alloc | apply Kd.V_drewN | apply Kd.V_drew)); exact HO0_2.out) hb); have n1_ := Aside0.mk (Kd.N_below (by (with_reducible repeat (first | apply Kd.N_alloc | apply Kd.N_drewN | apply Kd.N_drew)); exact HO172.out) hb); have n2_ := Aside0.mk (Kd.N_below (by (with_reducible repeat (first | apply Kd.N_alloc | apply Kd.N_drewN | apply Kd.N_drew)); exact HO175.out) hb); have n3_ := Aside0.mk (Kd.V_below (by (with_reducible repeat (first | apply Kd.V_alloc | apply Kd.V_drewN | apply Kd.V_drew)); exact HL176_2.out) hb); have n4_ := Aside0.mk (Kd.R_below (by (with_reducible repeat (first | apply Kd.R_alloc | apply Kd.R_drewN | apply Kd.R_drew)); exact HO180.out) hb); have n5_ := Aside0.mk (Kd.N_below (by (with_reducible repeat (first | apply Kd.N_alloc | apply Kd.N_drewN | apply Kd.N_drew)); exact HO183.out) hb); have n6_ := Aside0.mk (blk_below (g := gb169) (o := .cells #[.int .i64 ((rd_T58 t173 0).f0), .string ((rd_T58 t173 0).f1), .slice A176_2 ((rd_T58 t173 0).f2).length c176_2] 58 (0, 0)) (by (with_reducible repeat (first | refine blk_drewN ?_ _ | refine blk_drew ?_ | refine blk_alloc ?_ _)); exact BK169.out) hb); have n7_ := Aside0.mk (below_step (by repeat (first | (with_reducible first | exact HB.out | apply below_alloc | apply pw_below_drewN | apply below_drew1 | refine below_set ?_ GE169.out) | exact HB.out)) hb); clear HO0_2; clear HO172; clear HO175; clear HL176_2; clear HO180; clear HO183; clear BK169; clear HB; have HO0_2 := n0_; have HO172 := n1_; have HO175 := n2_; have HL176_2 := n3_; have HO180 := n4_; have HO183 := n5_; have BK169 := n6_; have HB := n7_; clear n0_ n1_ n2_ n3_ n4_ n5_ n6_ n7_; (try clear hb); (try clear hb2); (try clear hk); (try clear hi); obtain ⟨Ao31, co31, eo31⟩ := Kd.R_slice HO180.out; subst eo31) | (go_at_call 57; (with_reducible refine (tollref08_May.calls k _ _ t178 true _ ?side1 ?side2 A22.out).mono ?_); (case side1 => repeat (first | exact (Kd.R_reads' HO180.out).2.2 | (with_reducible refine Kd.C_alloc ?_ _) | (with_reducible refine Kd.C_drewN ?_ _) | (with_reducible refine Kd.C_drew ?_))); (case side2 => exact (Kd.R_reads' HO180.out).2.1); rintro e w32 ⟨rfl, hb⟩; have n0_ := Aside0.mk (Kd.V_below (by (with_reducible repeat (first | apply Kd.V_alloc | apply Kd.V_drewN | apply Kd.V_drew)); exact HO0_2.out) hb); have n1_ := Aside0.mk (Kd.N_below (by (with_reducible repeat (first | apply Kd.N_alloc | apply Kd.N_drewN | apply Kd.N_drew)); exact HO172.out) hb); have n2_ := Aside0.mk (Kd.N_below (by (with_reducible repeat (first | apply Kd.N_alloc | apply Kd.N_drewN | apply Kd.N_drew)); exact HO175.out) hb); have n3_ := Aside0.mk (Kd.V_below (by (with_reducible repeat (first | apply Kd.V_alloc | apply Kd.V_drewN | apply Kd.V_drew)); exact HL176_2.out) hb); have n4_ := Aside0.mk (Kd.R_below (by (with_reducible repeat (first | apply Kd.R_alloc | apply Kd.R_drewN | apply Kd.R_drew)); exact HO180.out) hb); have n5_ := Aside0.mk (Kd.N_below (by (with_reducible repeat (first | apply Kd.N_alloc | apply Kd.N_drewN | apply Kd.N_drew)); exact HO183.out) hb); have n6_ := Aside0.mk (blk_below (g := gb169) (o := .cells #[.int .i64 ((rd_T58 t173 0).f0), .string ((rd_T58 t173 0).f1), .slice A176_2 ((rd_T58 t173 0).f2).length c176_2] 58 (0, 0)) (by (with_reducible repeat (first | refine blk_drewN ?_ _ | refine blk_drew ?_ | refine blk_alloc ?_ _)); exact BK169.out) hb); have n7_ := Aside0.mk (below_step (by repeat (first | (with_reducible first | exact HB.out | apply below_alloc | apply pw_below_drewN | apply below_drew1 | refine below_set ?_ GE169.out) | exact HB.out)) hb); clear HO0_2; clear HO172; clear HO175; clear HL176_2; clear HO180; clear HO183; clear BK169; clear HB; have HO0_2 := n0_; have HO172 := n1_; have HO175 := n2_; have HL176_2 := n3_; have HO180 := n4_; have HO183 := n5_; have BK169 := n6_; have HB := n7_; clear n0_ n1_ n2_ n3_ n4_ n5_ n6_ n7_; (try clear hb); (try clear hb2); (try clear hk); (try clear hi); have hcz33_0 : w32.cell? ⟨gb169, 0, none⟩ = some (.int .i64 ((rd_T58 t173 0).f0)) := (blk_cell BK169.out 0).trans rfl; have hcz33_1 : w32.cell? ⟨gb169, 1, none⟩ = some (.string ((rd_T58 t173 0).f1)) := (blk_cell BK169.out 1).trans rfl; have hcz33_2 : w32.cell? ⟨gb169, 2, none⟩ = some (.slice A176_2 ((rd_T58 t173 0).f2).length c176_2) := (blk_cell BK169.out 2).trans rfl; have hfz33_0 := blk_frozen BK169.out 0; have hfz33_1 := blk_frozen BK169.out 1; have hfz33_2 := blk_frozen BK169.out 2))
            go_meet
            case rel => exact ⟨_, (true), (by first | rfl | (simp; done) | (simp [*]; done)), H', ⟨by first | omega | exact Nat.le_refl _⟩, ⟨by (with_reducible repeat (first | apply Kd.R_alloc | apply Kd.R_drewN | apply Kd.R_drew)); exact HO180.out⟩, ⟨by (with_reducible repeat (first | apply Kd.V_alloc | apply Kd.V_drewN | apply Kd.V_drew)); exact Kd.V_mono HL176_2.out (fun _ hk => ⟨hk.1.1, ⟨hk.1.2.2.2.1, hk.1.2.2.2.2⟩⟩)⟩, ⟨by (with_reducible repeat (first | refine blk_drewN ?_ _ | refine blk_drew ?_ | refine blk_alloc ?_ _)); exact BK169.out⟩, ⟨by repeat (first | (with_reducible first | exact HB.out | apply below_alloc | apply pw_below_drewN | apply below_drew1 | refine below_set ?_ GE169.out) | exact HB.out)⟩⟩
          · rw [if_neg c24] at H
            have c24b0 : ((((rd_T58 t173 0).f2).length : Int) == 0) = false := beq_eq_false_iff_ne.mpr c24
            have c24b1 : ((((rd_T58 t173 0).f2).length : Int) != 0) = true := bne_iff_ne.mpr c24
            have c24b2 : ¬ (((rd_T58 t173 0).f2) = []) := fun h_ => c24 (by rw [h_]; rfl)
            (first | rw [c24b0] | (simp only [i64_w, i32_w]; rw [c24b0]) | skip)
            by_cases c34 : (((rd_T58 t173 0).f2).length : Int) > 7
            · rw [if_pos c34] at H
              have c34b0 : decide (7 < (((rd_T58 t173 0).f2).length : Int)) = true := decide_eq_true c34
              have c34b1 : decide (7 < ((rd_T58 t173 0).f2).length) = true := decide_eq_true (by omega)
              clear c34
              have H' := Aside0.mk H
              clear H
              have n0_ : Aside0 (Kd.V Kd.string 9 (((w16.setCell ⟨gb169, 0, none⟩ (.int .i64 ((rd_T58 t173 0).f0))).setCell ⟨gb169, 1, none⟩ (.string ((rd_T58 t173 0).f1))).setCell ⟨gb169, 2, none⟩ (.slice A176_2 ((rd_T58 t173 0).f2).length c176_2)) w.heap.size (fun k_ => (P0_2_ k_ ∨ w.heap.size ≤ k_) ∧ some k_ ≠ (.slice Ao13 y170.length co13 : Value).ownBlock ∧ some k_ ≠ (.slice (some ad176) t173.length co15 : Value).ownBlock ∧ some k_ ≠ (v179 : Value).ownBlock ∧ k_ ≠ gb169) (.slice A0_2 l0_2.length c0_2) l0_2) := ⟨by (with_reducible repeat (first | apply Kd.V_alloc | apply Kd.V_drewN | apply Kd.V_drew)); exact Kd.V_mono (Kd.V_far (p := ⟨gb169, 2, none⟩) (Kd.V_far (p := ⟨gb169, 1, none⟩) (Kd.V_far (p := ⟨gb169, 0, none⟩) (Kd.V_mono HO0_2.out (fun k_ hk => (⟨hk, hk.1.1.1.2⟩ : _ ∧ k_ ≠ gb169))) (fun _ hk => hk.2) (.int .i64 ((rd_T58 t173 0).f0))) (fun _ hk => hk.2) (.string ((rd_T58 t173 0).f1))) (fun _ hk => hk.2) (.slice A176_2 ((rd_T58 t173 0).f2).length c176_2)) (fun _ hk => ⟨hk.1.1.1.1.1, ⟨hk.1.1.1.2, ⟨hk.1.1.2, ⟨hk.1.2, hk.1.1.1.1.2⟩⟩⟩⟩)⟩
              have n1_ : Aside0 (Kd.N k58 58 (((w16.setCell ⟨gb169, 0, none⟩ (.int .i64 ((rd_T58 t173 0).f0))).setCell ⟨gb169, 1, none⟩ (.string ((rd_T58 t173 0).f1))).setCell ⟨gb169, 2, none⟩ (.slice A176_2 ((rd_T58 t173 0).f2).length c176_2)) w.heap.size (fun k_ => (P0_2_ k_ ∨ w.heap.size ≤ k_) ∧ some k_ ≠ (.slice (some ad176) t173.length co15 : Value).ownBlock ∧ some k_ ≠ (v179 : Value).ownBlock ∧ k_ ≠ gb169) (.slice Ao13 y170.length co13) y170) := ⟨by (with_reducible repeat (first | apply Kd.N_alloc | apply Kd.N_drewN | apply Kd.N_drew)); exact Kd.N_mono (Kd.N_far (p := ⟨gb169, 2, none⟩) (Kd.N_far (p := ⟨gb169, 1, none⟩) (Kd.N_far (p := ⟨gb169, 0, none⟩) (Kd.N_mono HO172.out (fun k_ hk => (⟨hk, hk.1.1.2⟩ : _ ∧ k_ ≠ gb169))) (fun _ hk => hk.2) (.int .i64 ((rd_T58 t173 0).f0))) (fun _ hk => hk.2) (.string ((rd_T58 t173 0).f1))) (fun _ hk => hk.2) (.slice A176_2 ((rd_T58 t173 0).f2).length c176_2)) (fun _ hk => ⟨hk.1.1.1.1, ⟨hk.1.1.2, ⟨hk.1.2, hk.1.1.1.2⟩⟩⟩)⟩
              have n2_ : Aside0 (Kd.N k58 58 (((w16.setCell ⟨gb169, 0, none⟩ (.int .i64 ((rd_T58 t173 0).f0))).setCell ⟨gb169, 1, none⟩ (.string ((rd_T58 t173 0).f1))).setCell ⟨gb169, 2, none⟩ (.slice A176_2 ((rd_T58 t173 0).f2).length c176_2)) w.heap.size (fun k_ => (P0_2_ k_ ∨ w.heap.size ≤ k_) ∧ some k_ ≠ (.slice Ao13 y170.length co13 : Value).ownBlock ∧ some k_ ≠ (v179 : Value).ownBlock ∧ k_ ≠ gb169) (.slice (some ad176) t173.length co15) t173) := ⟨by (with_reducible repeat (first | apply Kd.N_alloc | apply Kd.N_drewN | apply Kd.N_drew)); exact Kd.N_mono (Kd.N_far (p := ⟨gb169, 2, none⟩) (Kd.N_far (p := ⟨gb169, 1, none⟩) (Kd.N_far (p := ⟨gb169, 0, none⟩) (Kd.N_mono HO175.out (fun k_ hk => (⟨hk, hk.1.2.2⟩ : _ ∧ k_ ≠ gb169))) (fun _ hk => hk.2) (.int .i64 ((rd_T58 t173 0).f0))) (fun _ hk => hk.2) (.string ((rd_T58 t173 0).f1))) (fun _ hk => hk.2) (.slice A176_2 ((rd_T58 t173 0).f2).length c176_2)) (fun _ hk => ⟨hk.1.1.1, ⟨hk.1.1.2.1, ⟨hk.1.2, hk.1.1.2.2⟩⟩⟩)⟩
              have n3_ : Aside0 (Kd.V Kd.string 9 (((w16.setCell ⟨gb169, 0, none⟩ (.int .i64 ((rd_T58 t173 0).f0))).setCell ⟨gb169, 1, none⟩ (.string ((rd_T58 t173 0).f1))).setCell ⟨gb169, 2, none⟩ (.slice A176_2 ((rd_T58 t173 0).f2).length c176_2)) w.heap.size (fun k_ => (P0_2_ k_ ∨ w.heap.size ≤ k_) ∧ some k_ ≠ (.slice Ao13 y170.length co13 : Value).ownBlock ∧ some k_ ≠ (.slice (some ad176) t173.length co15 : Value).ownBlock ∧ some k_ ≠ (v179 : Value).ownBlock ∧ k_ ≠ gb169) (.slice A176_2 ((rd_T58 t173 0).f2).length c176_2) ((rd_T58 t173 0).f2)) := ⟨by (with_reducible repeat (first | apply Kd.V_alloc | apply Kd.V_drewN | apply Kd.V_drew)); exact Kd.V_mono (Kd.V_far (p := ⟨gb169, 2, none⟩) (Kd.V_far (p := ⟨gb169, 1, none⟩) (Kd.V_far (p := ⟨gb169, 0, none⟩) (Kd.V_mono HL176_2.out (fun k_ hk => (⟨hk, hk.1.1.2.2⟩ : _ ∧ k_ ≠ gb169))) (fun _ hk => hk.2) (.int .i64 ((rd_T58 t173 0).f0))) (fun _ hk => hk.2) (.string ((rd_T58 t173 0).f1))) (fun _ hk => hk.2) (.slice A176_2 ((rd_T58 t173 0).f2).length c176_2)) (fun _ hk => ⟨hk.1.1.1.1, ⟨hk.1.1.1.2.1, ⟨hk.1.1.2, ⟨hk.1.2, hk.1.1.1.2.2⟩⟩⟩⟩)⟩
              have n4_ : Aside0 (Kd.R k55 55 (((w16.setCell ⟨gb169, 0, none⟩ (.int .i64 ((rd_T58 t173 0).f0))).setCell ⟨gb169, 1, none⟩ (.string ((rd_T58 t173 0).f1))).setCell ⟨gb169, 2, none⟩ (.slice A176_2 ((rd_T58 t173 0).f2).length c176_2)) w.heap.size (fun k_ => (w.heap.size ≤ k_)) v179 t178) := ⟨by (with_reducible repeat (first | apply Kd.R_alloc | apply Kd.R_drewN | apply Kd.R_drew)); exact Kd.R_mono (Kd.R_far (p := ⟨gb169, 2, none⟩) (Kd.R_far (p := ⟨gb169, 1, none⟩) (Kd.R_far (p := ⟨gb169, 0, none⟩) (Kd.R_types HO180.out BK169.out (by decide)) (fun _ hk => hk.2) (.int .i64 ((rd_T58 t173 0).f0))) (fun _ hk => hk.2) (.string ((rd_T58 t173 0).f1))) (fun _ hk => hk.2) (.slice A176_2 ((rd_T58 t173 0).f2).length c176_2)) (fun _ hk => hk.1.1)⟩
              have n5_ : Aside0 ((((w16.setCell ⟨gb169, 0, none⟩ (.int .i64 ((rd_T58 t173 0).f0))).setCell ⟨gb169, 1, none⟩ (.string ((rd_T58 t173 0).f1))).setCell ⟨gb169, 2, none⟩ (.slice A176_2 ((rd_T58 t173 0).f2).length c176_2)).heap[gb169]? = some (.cells #[.int .i64 ((rd_T58 t173 0).f0), .string ((rd_T58 t173 0).f1), .slice A176_2 ((rd_T58 t173 0).f2).length c176_2] 58 (0, 0))) := ⟨by (with_reducible repeat (first | refine blk_drewN ?_ _ | refine blk_drew ?_ | refine blk_alloc ?_ _)); refine blk_put (cs := #[.int .i64 ((rd_T58 t173 0).f0), .string ((rd_T58 t173 0).f1), .slice A0_2 l0_2.length c0_2]) ?_ 2 _ rfl; (with_reducible repeat (first | refine blk_drewN ?_ _ | refine blk_drew ?_ | refine blk_alloc ?_ _)); refine blk_put (cs := #[.int .i64 ((rd_T58 t173 0).f0), .string a0_1, .slice A0_2 l0_2.length c0_2]) ?_ 1 _ rfl; (with_reducible repeat (first | refine blk_drewN ?_ _ | refine blk_drew ?_ | refine blk_alloc ?_ _)); refine blk_put (cs := #[.int .i64 a0_0, .string a0_1, .slice A0_2 l0_2.length c0_2]) ?_ 0 _ rfl; (with_reducible repeat (first | refine blk_drewN ?_ _ | refine blk_drew ?_ | refine blk_alloc ?_ _)); exact BK169.out⟩
              have n6_ : Aside0 (Below w.heap.size w (((w16.setCell ⟨gb169, 0, none⟩ (.int .i64 ((rd_T58 t173 0).f0))).setCell ⟨gb169, 1, none⟩ (.string ((rd_T58 t173 0).f1))).setCell ⟨gb169, 2, none⟩ (.slice A176_2 ((rd_T58 t173 0).f2).length c176_2))) := ⟨by repeat (first | (with_reducible first | exact HB.out | apply below_alloc | apply pw_below_drewN | apply below_drew1 | refine below_set ?_ GE169.out) | exact HB.out)⟩
              (try clear HO0_2)
              (try clear HO172)
              (try clear HO175)
              (try clear HL176_2)
              (try clear HO180)
              (try clear BK169)
              (try clear HB)
              generalize (((w16.setCell ⟨gb169, 0, none⟩ (.int .i64 ((rd_T58 t173 0).f0))).setCell ⟨gb169, 1, none⟩ (.string ((rd_T58 t173 0).f1))).setCell ⟨gb169, 2, none⟩ (.slice A176_2 ((rd_T58 t173 0).f2).length c176_2)) = w35 at n0_ n1_ n2_ n3_ n4_ n5_ n6_ ⊢
              have HO0_2 := n0_
              have HO172 := n1_
              have HO175 := n2_
              have HL176_2 := n3_
              have HO180 := n4_
              have BK169 := n5_
              have HB := n6_
              clear n0_ n1_ n2_ n3_ n4_ n5_ n6_
              have hcz36_0 : w35.cell? ⟨gb169, 0, none⟩ = some (.int .i64 ((rd_T58 t173 0).f0)) := (blk_cell BK169.out 0).trans rfl
              have hcz36_1 : w35.cell? ⟨gb169, 1, none⟩ = some (.string ((rd_T58 t173 0).f1)) := (blk_cell BK169.out 1).trans rfl
              have hcz36_2 : w35.cell? ⟨gb169, 2, none⟩ = some (.slice A176_2 ((rd_T58 t173 0).f2).length c176_2) := (blk_cell BK169.out 2).trans rfl
              have hfz36_0 := blk_frozen BK169.out 0
              have hfz36_1 := blk_frozen BK169.out 1
              have hfz36_2 := blk_frozen BK169.out 2
              try go_wp2_with (first | ((with_reducible refine gate_dst (N := 21) rfl ?_); (try (refine gate_guard (by rfl) ?_; dsimp only)); refine Kd.N_lit k58 _ 58 ?hg (N' := 21) ?hd (xs := ([(⟨(rd_T58 t173 0).f0, (rd_T58 t173 0).f1, (rd_T58 t173 0).f2⟩ : S58)] : List (S58))) (inner := [.int .i64 ((rd_T58 t173 0).f0), .string ((rd_T58 t173 0).f1), .slice A176_2 ((rd_T58 t173 0).f2).length c176_2]) (ok := (fun k_ => (P0_2_ k_ ∨ w.heap.size ≤ k_) ∧ some k_ ≠ (.slice Ao13 y170.length co13 : Value).ownBlock ∧ some k_ ≠ (.slice (some ad176) t173.length co15 : Value).ownBlock ∧ some k_ ≠ (v179 : Value).ownBlock ∧ k_ ≠ gb169)) (okp := (fun k_ => (P0_2_ k_ ∨ w.heap.size ≤ k_) ∧ some k_ ≠ (.slice Ao13 y170.length co13 : Value).ownBlock ∧ some k_ ≠ (.slice (some ad176) t173.length co15 : Value).ownBlock ∧ some k_ ≠ (v179 : Value).ownBlock ∧ k_ ≠ gb169)) ?hr ?hp (fun _ hk => hk) ((show ∀ k_, w35.heap.size ≤ k_ → (fun k_ => (P0_2_ k_ ∨ w.heap.size ≤ k_) ∧ some k_ ≠ (.slice Ao13 y170.length co13 : Value).ownBlock ∧ some k_ ≠ (.slice (some ad176) t173.length co15 : Value).ownBlock ∧ some k_ ≠ (v179 : Value).ownBlock ∧ k_ ≠ gb169) k_ from fun k_ hk => ⟨(.inr (Nat.le_trans (below_size (by repeat (first | (with_reducible first | exact HB.out | apply below_alloc | apply pw_below_drewN | apply below_drew1 | refine below_set ?_ GE169.out) | exact HB.out))) hk)), Kd.fresh' (Kd.N_lt (by (with_reducible repeat (first | apply Kd.N_alloc | apply Kd.N_drewN | apply Kd.N_drew)); exact HO172.out)) k_ hk, Kd.fresh' (Kd.N_lt (by (with_reducible repeat (first | apply Kd.N_alloc | apply Kd.N_drewN | apply Kd.N_drew)); exact HO175.out)) k_ hk, Kd.fresh' (Kd.R_lt (by (with_reducible repeat (first | apply Kd.R_alloc | apply Kd.R_drewN | apply Kd.R_drew)); exact HO180.out)) k_ hk, Kd.freshB (g := gb169) (o := .cells #[.int .i64 ((rd_T58 t173 0).f0), .string ((rd_T58 t173 0).f1), .slice A176_2 ((rd_T58 t173 0).f2).length c176_2] 58 (0, 0)) (by (with_reducible repeat (first | refine blk_drewN ?_ _ | refine blk_drew ?_ | refine blk_alloc ?_ _)); exact BK169.out) k_ hk⟩) _ (Nat.le_refl _)) (Below.refl _ _) (Nat.le_refl _) (by simp) ?_; (case hd => rfl); (case hg => rfl); (case hr => first | (go_simp; done) | (go_simp; rfl)); (case hp => exact (Reps.c3 (show Kd.FK k58 _ _ (⟨(rd_T58 t173 0).f0, (rd_T58 t173 0).f1, (rd_T58 t173 0).f2⟩ : S58) [.int .i64 ((rd_T58 t173 0).f0), .string ((rd_T58 t173 0).f1), .slice A176_2 ((rd_T58 t173 0).f2).length c176_2] from (k58_mkF _ _ (⟨(rd_T58 t173 0).f0, (rd_T58 t173 0).f1, (rd_T58 t173 0).f2⟩ : S58) (Kd.V_reads' (Kd.V_mono (ok' := (fun k_ => (P0_2_ k_ ∨ w.heap.size ≤ k_) ∧ some k_ ≠ (.slice Ao13 y170.length co13 : Value).ownBlock ∧ some k_ ≠ (.slice (some ad176) t173.length co15 : Value).ownBlock ∧ some k_ ≠ (v179 : Value).ownBlock ∧ k_ ≠ gb169)) (HL176_2.out) (fun k_ hk => ⟨hk.1, ⟨hk.2.1, ⟨hk.2.2.1, ⟨hk.2.2.2.1, hk.2.2.2.2⟩⟩⟩⟩))).2.1 (Kd.V_F (Kd.V_mono (ok' := (fun k_ => (P0_2_ k_ ∨ w.heap.size ≤ k_) ∧ some k_ ≠ (.slice Ao13 y170.length co13 : Value).ownBlock ∧ some k_ ≠ (.slice (some ad176) t173.length co15 : Value).ownBlock ∧ some k_ ≠ (v179 : Value).ownBlock ∧ k_ ≠ gb169)) (HL176_2.out) (fun k_ hk => ⟨hk.1, ⟨hk.2.1, ⟨hk.2.2.1, ⟨hk.2.2.2.1, hk.2.2.2.2⟩⟩⟩⟩))))) (Reps.none _ _))); intro v182 w37 ho38 hb hg_ hnew_; clear hg_ hnew_; (first | rw [← Ny181.out] at ho38 | (simp only [Int.reduceToNat] at ho38; rw [← Ny181.out] at ho38)); have n0_ := Aside0.mk (Kd.V_elder' (by (with_reducible repeat (first | apply Kd.V_alloc | apply Kd.V_drewN | apply Kd.V_drew)); exact HO0_2.out) (Kd.N_base ho38) hb); have n1_ := Aside0.mk (Kd.N_elder' (by (with_reducible repeat (first | apply Kd.N_alloc | apply Kd.N_drewN | apply Kd.N_drew)); exact HO172.out) (Kd.N_base ho38) hb); have n2_ := Aside0.mk (Kd.N_elder' (by (with_reducible repeat (first | apply Kd.N_alloc | apply Kd.N_drewN | apply Kd.N_drew)); exact HO175.out) (Kd.N_base ho38) hb); have n3_ := Aside0.mk (Kd.V_elder' (by (with_reducible repeat (first | apply Kd.V_alloc | apply Kd.V_drewN | apply Kd.V_drew)); exact HL176_2.out) (Kd.N_base ho38) hb); have n4_ := Aside0.mk (Kd.R_below (by (with_reducible repeat (first | apply Kd.R_alloc | apply Kd.R_drewN | apply Kd.R_drew)); exact HO180.out) hb); have n5_ := Aside0.mk (Kd.N_lower ho38 (below_size (by repeat (first | (with_reducible first | exact HB.out | apply below_alloc | apply pw_below_drewN | apply below_drew1 | refine below_set ?_ GE169.out) | exact HB.out)))); have n6_ := Aside0.mk (blk_below (g := gb169) (o := .cells #[.int .i64 ((rd_T58 t173 0).f0), .string ((rd_T58 t173 0).f1), .slice A176_2 ((rd_T58 t173 0).f2).length c176_2] 58 (0, 0)) (by (with_reducible repeat (first | refine blk_drewN ?_ _ | refine blk_drew ?_ | refine blk_alloc ?_ _)); exact BK169.out) hb); have n7_ := Aside0.mk (below_step (by repeat (first | (with_reducible first | exact HB.out | apply below_alloc | apply pw_below_drewN | apply below_drew1 | refine below_set ?_ GE169.out) | exact HB.out)) hb); clear HO0_2; clear HO172; clear HO175; clear HL176_2; clear HO180; clear BK169; clear HB; have HO0_2 := n0_; have HO172 := n1_; have HO175 := n2_; have HL176_2 := n3_; have HO180 := n4_; have HO183 := n5_; have BK169 := n6_; have HB := n7_; clear n0_ n1_ n2_ n3_ n4_ n5_ n6_ n7_; clear hb ho38; obtain ⟨Ao39, co39, eo39⟩ := Kd.N_slice HO183.out; subst eo39) | ((with_reducible refine _root_.Go.Proofs.YtcakednecmngdaaDoorW.PrintMore.gate_callee (f := 56) rfl ?_); refine goesL_ (some 22) rfl rfl Tryd.func56 (by kernel_rfl) rfl #[.slice Ao39 y181.length co39] rfl (by (try simp only [List.map_toArray, List.map_cons, List.map_nil]); first | done | rfl | (simp only [List.length_drop, List.length_take]; rfl)) ?_; (with_reducible refine (tollref08_Needs.calls k _ _ y181 true _ ?side1 ?side2 A20.out).mono ?_); (case side1 => repeat (first | exact (Kd.N_reads' HO183.out).2.2 | (with_reducible refine Kd.C_alloc ?_ _) | (with_reducible refine Kd.C_drewN ?_ _) | (with_reducible refine Kd.C_drew ?_))); (case side2 => exact (Kd.N_reads' HO183.out).2.1); rintro e w40 ⟨rfl, hb⟩; refine ⟨_, rfl, ?_⟩; have n0_ := Aside0.mk (Kd.V_below (by (with_reducible repeat (first | apply Kd.V_alloc | apply Kd.V_drewN | apply Kd.V_drew)); exact HO0_2.out) hb); have n1_ := Aside0.mk (Kd.N_below (by (with_reducible repeat (first | apply Kd.N_alloc | apply Kd.N_drewN | apply Kd.N_drew)); exact HO172.out) hb); have n2_ := Aside0.mk (Kd.N_below (by (with_reducible repeat (first | apply Kd.N_alloc | apply Kd.N_drewN | apply Kd.N_drew)); exact HO175.out) hb); have n3_ := Aside0.mk (Kd.V_below (by (with_reducible repeat (first | apply Kd.V_alloc | apply Kd.V_drewN | apply Kd.V_drew)); exact HL176_2.out) hb); have n4_ := Aside0.mk (Kd.R_below (by (with_reducible repeat (first | apply Kd.R_alloc | apply Kd.R_drewN | apply Kd.R_drew)); exact HO180.out) hb); have n5_ := Aside0.mk (Kd.N_below (by (with_reducible repeat (first | apply Kd.N_alloc | apply Kd.N_drewN | apply Kd.N_drew)); exact HO183.out) hb); have n6_ := Aside0.mk (blk_below (g := gb169) (o := .cells #[.int .i64 ((rd_T58 t173 0).f0), .string ((rd_T58 t173 0).f1), .slice A176_2 ((rd_T58 t173 0).f2).length c176_2] 58 (0, 0)) (by (with_reducible repeat (first | refine blk_drewN ?_ _ | refine blk_drew ?_ | refine blk_alloc ?_ _)); exact BK169.out) hb); have n7_ := Aside0.mk (below_step (by repeat (first | (with_reducible first | exact HB.out | apply below_alloc | apply pw_below_drewN | apply below_drew1 | refine below_set ?_ GE169.out) | exact HB.out)) hb); clear HO0_2; clear HO172; clear HO175; clear HL176_2; clear HO180; clear HO183; clear BK169; clear HB; have HO0_2 := n0_; have HO172 := n1_; have HO175 := n2_; have HL176_2 := n3_; have HO180 := n4_; have HO183 := n5_; have BK169 := n6_; have HB := n7_; clear n0_ n1_ n2_ n3_ n4_ n5_ n6_ n7_; (try clear hb); (try clear hb2); (try clear hk); (try clear hi); obtain ⟨Ao41, co41, eo41⟩ := Kd.R_slice HO180.out; subst eo41) | (go_at_call 57; (with_reducible refine (tollref08_May.calls k _ _ t178 true _ ?side1 ?side2 A22.out).mono ?_); (case side1 => repeat (first | exact (Kd.R_reads' HO180.out).2.2 | (with_reducible refine Kd.C_alloc ?_ _) | (with_reducible refine Kd.C_drewN ?_ _) | (with_reducible refine Kd.C_drew ?_))); (case side2 => exact (Kd.R_reads' HO180.out).2.1); rintro e w42 ⟨rfl, hb⟩; have n0_ := Aside0.mk (Kd.V_below (by (with_reducible repeat (first | apply Kd.V_alloc | apply Kd.V_drewN | apply Kd.V_drew)); exact HO0_2.out) hb); have n1_ := Aside0.mk (Kd.N_below (by (with_reducible repeat (first | apply Kd.N_alloc | apply Kd.N_drewN | apply Kd.N_drew)); exact HO172.out) hb); have n2_ := Aside0.mk (Kd.N_below (by (with_reducible repeat (first | apply Kd.N_alloc | apply Kd.N_drewN | apply Kd.N_drew)); exact HO175.out) hb); have n3_ := Aside0.mk (Kd.V_below (by (with_reducible repeat (first | apply Kd.V_alloc | apply Kd.V_drewN | apply Kd.V_drew)); exact HL176_2.out) hb); have n4_ := Aside0.mk (Kd.R_below (by (with_reducible repeat (first | apply Kd.R_alloc | apply Kd.R_drewN | apply Kd.R_drew)); exact HO180.out) hb); have n5_ := Aside0.mk (Kd.N_below (by (with_reducible repeat (first | apply Kd.N_alloc | apply Kd.N_drewN | apply Kd.N_drew)); exact HO183.out) hb); have n6_ := Aside0.mk (blk_below (g := gb169) (o := .cells #[.int .i64 ((rd_T58 t173 0).f0), .string ((rd_T58 t173 0).f1), .slice A176_2 ((rd_T58 t173 0).f2).length c176_2] 58 (0, 0)) (by (with_reducible repeat (first | refine blk_drewN ?_ _ | refine blk_drew ?_ | refine blk_alloc ?_ _)); exact BK169.out) hb); have n7_ := Aside0.mk (below_step (by repeat (first | (with_reducible first | exact HB.out | apply below_alloc | apply pw_below_drewN | apply below_drew1 | refine below_set ?_ GE169.out) | exact HB.out)) hb); clear HO0_2; clear HO172; clear HO175; clear HL176_2; clear HO180; clear HO183; clear BK169; clear HB; have HO0_2 := n0_; have HO172 := n1_; have HO175 := n2_; have HL176_2 := n3_; have HO180 := n4_; have HO183 := n5_; have BK169 := n6_; have HB := n7_; clear n0_ n1_ n2_ n3_ n4_ n5_ n6_ n7_; (try clear hb); (try clear hb2); (try clear hk); (try clear hi); have hcz43_0 : w42.cell? ⟨gb169, 0, none⟩ = some (.int .i64 ((rd_T58 t173 0).f0)) := (blk_cell BK169.out 0).trans rfl; have hcz43_1 : w42.cell? ⟨gb169, 1, none⟩ = some (.string ((rd_T58 t173 0).f1)) := (blk_cell BK169.out 1).trans rfl; have hcz43_2 : w42.cell? ⟨gb169, 2, none⟩ = some (.slice A176_2 ((rd_T58 t173 0).f2).length c176_2) := (blk_cell BK169.out 2).trans rfl; have hfz43_0 := blk_frozen BK169.out 0; have hfz43_1 := blk_frozen BK169.out 1; have hfz43_2 := blk_frozen BK169.out 2))
              go_meet
              case rel => exact ⟨_, (true), (by first | rfl | (simp; done) | (simp [*]; done)), H', ⟨by first | omega | exact Nat.le_refl _⟩, ⟨by (with_reducible repeat (first | apply Kd.R_alloc | apply Kd.R_drewN | apply Kd.R_drew)); exact HO180.out⟩, ⟨by (with_reducible repeat (first | apply Kd.V_alloc | apply Kd.V_drewN | apply Kd.V_drew)); exact Kd.V_mono HL176_2.out (fun _ hk => ⟨hk.1.1, ⟨hk.1.2.2.2.1, hk.1.2.2.2.2⟩⟩)⟩, ⟨by (with_reducible repeat (first | refine blk_drewN ?_ _ | refine blk_drew ?_ | refine blk_alloc ?_ _)); exact BK169.out⟩, ⟨by repeat (first | (with_reducible first | exact HB.out | apply below_alloc | apply pw_below_drewN | apply below_drew1 | refine below_set ?_ GE169.out) | exact HB.out)⟩⟩
            · rw [if_neg c34] at H
              have c34b0 : decide (7 < (((rd_T58 t173 0).f2).length : Int)) = false := decide_eq_false c34
              have c34b1 : decide (7 < ((rd_T58 t173 0).f2).length) = false := decide_eq_false (by omega)
              clear c34
              by_cases c44 : t177.toList = ([] : List UInt8)
              · rw [if_pos c44] at H
                have c44b0 : (t177.toList == ([] : List UInt8)) = true := beq_iff_eq.mpr c44
                have c44b1 : (t177.toList != ([] : List UInt8)) = false := bne_eq_false_iff_eq.mpr c44
                clear c44
                have H' := Aside0.mk H
                clear H
                have n0_ : Aside0 (Kd.V Kd.string 9 (((w16.setCell ⟨gb169, 0, none⟩ (.int .i64 ((rd_T58 t173 0).f0))).setCell ⟨gb169, 1, none⟩ (.string ((rd_T58 t173 0).f1))).setCell ⟨gb169, 2, none⟩ (.slice A176_2 ((rd_T58 t173 0).f2).length c176_2)) w.heap.size (fun k_ => (P0_2_ k_ ∨ w.heap.size ≤ k_) ∧ some k_ ≠ (.slice Ao13 y170.length co13 : Value).ownBlock ∧ some k_ ≠ (.slice (some ad176) t173.length co15 : Value).ownBlock ∧ some k_ ≠ (v179 : Value).ownBlock ∧ k_ ≠ gb169) (.slice A0_2 l0_2.length c0_2) l0_2) := ⟨by (with_reducible repeat (first | apply Kd.V_alloc | apply Kd.V_drewN | apply Kd.V_drew)); exact Kd.V_mono (Kd.V_far (p := ⟨gb169, 2, none⟩) (Kd.V_far (p := ⟨gb169, 1, none⟩) (Kd.V_far (p := ⟨gb169, 0, none⟩) (Kd.V_mono HO0_2.out (fun k_ hk => (⟨hk, hk.1.1.1.2⟩ : _ ∧ k_ ≠ gb169))) (fun _ hk => hk.2) (.int .i64 ((rd_T58 t173 0).f0))) (fun _ hk => hk.2) (.string ((rd_T58 t173 0).f1))) (fun _ hk => hk.2) (.slice A176_2 ((rd_T58 t173 0).f2).length c176_2)) (fun _ hk => ⟨hk.1.1.1.1.1, ⟨hk.1.1.1.2, ⟨hk.1.1.2, ⟨hk.1.2, hk.1.1.1.1.2⟩⟩⟩⟩)⟩
                have n1_ : Aside0 (Kd.N k58 58 (((w16.setCell ⟨gb169, 0, none⟩ (.int .i64 ((rd_T58 t173 0).f0))).setCell ⟨gb169, 1, none⟩ (.string ((rd_T58 t173 0).f1))).setCell ⟨gb169, 2, none⟩ (.slice A176_2 ((rd_T58 t173 0).f2).length c176_2)) w.heap.size (fun k_ => (P0_2_ k_ ∨ w.heap.size ≤ k_) ∧ some k_ ≠ (.slice (some ad176) t173.length co15 : Value).ownBlock ∧ some k_ ≠ (v179 : Value).ownBlock ∧ k_ ≠ gb169) (.slice Ao13 y170.length co13) y170) := ⟨by (with_reducible repeat (first | apply Kd.N_alloc | apply Kd.N_drewN | apply Kd.N_drew)); exact Kd.N_mono (Kd.N_far (p := ⟨gb169, 2, none⟩) (Kd.N_far (p := ⟨gb169, 1, none⟩) (Kd.N_far (p := ⟨gb169, 0, none⟩) (Kd.N_mono HO172.out (fun k_ hk => (⟨hk, hk.1.1.2⟩ : _ ∧ k_ ≠ gb169))) (fun _ hk => hk.2) (.int .i64 ((rd_T58 t173 0).f0))) (fun _ hk => hk.2) (.string ((rd_T58 t173 0).f1))) (fun _ hk => hk.2) (.slice A176_2 ((rd_T58 t173 0).f2).length c176_2)) (fun _ hk => ⟨hk.1.1.1.1, ⟨hk.1.1.2, ⟨hk.1.2, hk.1.1.1.2⟩⟩⟩)⟩
                have n2_ : Aside0 (Kd.N k58 58 (((w16.setCell ⟨gb169, 0, none⟩ (.int .i64 ((rd_T58 t173 0).f0))).setCell ⟨gb169, 1, none⟩ (.string ((rd_T58 t173 0).f1))).setCell ⟨gb169, 2, none⟩ (.slice A176_2 ((rd_T58 t173 0).f2).length c176_2)) w.heap.size (fun k_ => (P0_2_ k_ ∨ w.heap.size ≤ k_) ∧ some k_ ≠ (.slice Ao13 y170.length co13 : Value).ownBlock ∧ some k_ ≠ (v179 : Value).ownBlock ∧ k_ ≠ gb169) (.slice (some ad176) t173.length co15) t173) := ⟨by (with_reducible repeat (first | apply Kd.N_alloc | apply Kd.N_drewN | apply Kd.N_drew)); exact Kd.N_mono (Kd.N_far (p := ⟨gb169, 2, none⟩) (Kd.N_far (p := ⟨gb169, 1, none⟩) (Kd.N_far (p := ⟨gb169, 0, none⟩) (Kd.N_mono HO175.out (fun k_ hk => (⟨hk, hk.1.2.2⟩ : _ ∧ k_ ≠ gb169))) (fun _ hk => hk.2) (.int .i64 ((rd_T58 t173 0).f0))) (fun _ hk => hk.2) (.string ((rd_T58 t173 0).f1))) (fun _ hk => hk.2) (.slice A176_2 ((rd_T58 t173 0).f2).length c176_2)) (fun _ hk => ⟨hk.1.1.1, ⟨hk.1.1.2.1, ⟨hk.1.2, hk.1.1.2.2⟩⟩⟩)⟩
                have n3_ : Aside0 (Kd.V Kd.string 9 (((w16.setCell ⟨gb169, 0, none⟩ (.int .i64 ((rd_T58 t173 0).f0))).setCell ⟨gb169, 1, none⟩ (.string ((rd_T58 t173 0).f1))).setCell ⟨gb169, 2, none⟩ (.slice A176_2 ((rd_T58 t173 0).f2).length c176_2)) w.heap.size (fun k_ => (P0_2_ k_ ∨ w.heap.size ≤ k_) ∧ some k_ ≠ (.slice Ao13 y170.length co13 : Value).ownBlock ∧ some k_ ≠ (.slice (some ad176) t173.length co15 : Value).ownBlock ∧ some k_ ≠ (v179 : Value).ownBlock ∧ k_ ≠ gb169) (.slice A176_2 ((rd_T58 t173 0).f2).length c176_2) ((rd_T58 t173 0).f2)) := ⟨by (with_reducible repeat (first | apply Kd.V_alloc | apply Kd.V_drewN | apply Kd.V_drew)); exact Kd.V_mono (Kd.V_far (p := ⟨gb169, 2, none⟩) (Kd.V_far (p := ⟨gb169, 1, none⟩) (Kd.V_far (p := ⟨gb169, 0, none⟩) (Kd.V_mono HL176_2.out (fun k_ hk => (⟨hk, hk.1.1.2.2⟩ : _ ∧ k_ ≠ gb169))) (fun _ hk => hk.2) (.int .i64 ((rd_T58 t173 0).f0))) (fun _ hk => hk.2) (.string ((rd_T58 t173 0).f1))) (fun _ hk => hk.2) (.slice A176_2 ((rd_T58 t173 0).f2).length c176_2)) (fun _ hk => ⟨hk.1.1.1.1, ⟨hk.1.1.1.2.1, ⟨hk.1.1.2, ⟨hk.1.2, hk.1.1.1.2.2⟩⟩⟩⟩)⟩
                have n4_ : Aside0 (Kd.R k55 55 (((w16.setCell ⟨gb169, 0, none⟩ (.int .i64 ((rd_T58 t173 0).f0))).setCell ⟨gb169, 1, none⟩ (.string ((rd_T58 t173 0).f1))).setCell ⟨gb169, 2, none⟩ (.slice A176_2 ((rd_T58 t173 0).f2).length c176_2)) w.heap.size (fun k_ => (w.heap.size ≤ k_)) v179 t178) := ⟨by (with_reducible repeat (first | apply Kd.R_alloc | apply Kd.R_drewN | apply Kd.R_drew)); exact Kd.R_mono (Kd.R_far (p := ⟨gb169, 2, none⟩) (Kd.R_far (p := ⟨gb169, 1, none⟩) (Kd.R_far (p := ⟨gb169, 0, none⟩) (Kd.R_types HO180.out BK169.out (by decide)) (fun _ hk => hk.2) (.int .i64 ((rd_T58 t173 0).f0))) (fun _ hk => hk.2) (.string ((rd_T58 t173 0).f1))) (fun _ hk => hk.2) (.slice A176_2 ((rd_T58 t173 0).f2).length c176_2)) (fun _ hk => hk.1.1)⟩
                have n5_ : Aside0 ((((w16.setCell ⟨gb169, 0, none⟩ (.int .i64 ((rd_T58 t173 0).f0))).setCell ⟨gb169, 1, none⟩ (.string ((rd_T58 t173 0).f1))).setCell ⟨gb169, 2, none⟩ (.slice A176_2 ((rd_T58 t173 0).f2).length c176_2)).heap[gb169]? = some (.cells #[.int .i64 ((rd_T58 t173 0).f0), .string ((rd_T58 t173 0).f1), .slice A176_2 ((rd_T58 t173 0).f2).length c176_2] 58 (0, 0))) := ⟨by (with_reducible repeat (first | refine blk_drewN ?_ _ | refine blk_drew ?_ | refine blk_alloc ?_ _)); refine blk_put (cs := #[.int .i64 ((rd_T58 t173 0).f0), .string ((rd_T58 t173 0).f1), .slice A0_2 l0_2.length c0_2]) ?_ 2 _ rfl; (with_reducible repeat (first | refine blk_drewN ?_ _ | refine blk_drew ?_ | refine blk_alloc ?_ _)); refine blk_put (cs := #[.int .i64 ((rd_T58 t173 0).f0), .string a0_1, .slice A0_2 l0_2.length c0_2]) ?_ 1 _ rfl; (with_reducible repeat (first | refine blk_drewN ?_ _ | refine blk_drew ?_ | refine blk_alloc ?_ _)); refine blk_put (cs := #[.int .i64 a0_0, .string a0_1, .slice A0_2 l0_2.length c0_2]) ?_ 0 _ rfl; (with_reducible repeat (first | refine blk_drewN ?_ _ | refine blk_drew ?_ | refine blk_alloc ?_ _)); exact BK169.out⟩
                have n6_ : Aside0 (Below w.heap.size w (((w16.setCell ⟨gb169, 0, none⟩ (.int .i64 ((rd_T58 t173 0).f0))).setCell ⟨gb169, 1, none⟩ (.string ((rd_T58 t173 0).f1))).setCell ⟨gb169, 2, none⟩ (.slice A176_2 ((rd_T58 t173 0).f2).length c176_2))) := ⟨by repeat (first | (with_reducible first | exact HB.out | apply below_alloc | apply pw_below_drewN | apply below_drew1 | refine below_set ?_ GE169.out) | exact HB.out)⟩
                (try clear HO0_2)
                (try clear HO172)
                (try clear HO175)
                (try clear HL176_2)
                (try clear HO180)
                (try clear BK169)
                (try clear HB)
                generalize (((w16.setCell ⟨gb169, 0, none⟩ (.int .i64 ((rd_T58 t173 0).f0))).setCell ⟨gb169, 1, none⟩ (.string ((rd_T58 t173 0).f1))).setCell ⟨gb169, 2, none⟩ (.slice A176_2 ((rd_T58 t173 0).f2).length c176_2)) = w45 at n0_ n1_ n2_ n3_ n4_ n5_ n6_ ⊢
                have HO0_2 := n0_
                have HO172 := n1_
                have HO175 := n2_
                have HL176_2 := n3_
                have HO180 := n4_
                have BK169 := n5_
                have HB := n6_
                clear n0_ n1_ n2_ n3_ n4_ n5_ n6_
                have hcz46_0 : w45.cell? ⟨gb169, 0, none⟩ = some (.int .i64 ((rd_T58 t173 0).f0)) := (blk_cell BK169.out 0).trans rfl
                have hcz46_1 : w45.cell? ⟨gb169, 1, none⟩ = some (.string ((rd_T58 t173 0).f1)) := (blk_cell BK169.out 1).trans rfl
                have hcz46_2 : w45.cell? ⟨gb169, 2, none⟩ = some (.slice A176_2 ((rd_T58 t173 0).f2).length c176_2) := (blk_cell BK169.out 2).trans rfl
                have hfz46_0 := blk_frozen BK169.out 0
                have hfz46_1 := blk_frozen BK169.out 1
                have hfz46_2 := blk_frozen BK169.out 2
                try go_wp2_with (first | ((with_reducible refine gate_dst (N := 21) rfl ?_); (try (refine gate_guard (by rfl) ?_; dsimp only)); refine Kd.N_lit k58 _ 58 ?hg (N' := 21) ?hd (xs := ([(⟨(rd_T58 t173 0).f0, (rd_T58 t173 0).f1, (rd_T58 t173 0).f2⟩ : S58)] : List (S58))) (inner := [.int .i64 ((rd_T58 t173 0).f0), .string ((rd_T58 t173 0).f1), .slice A176_2 ((rd_T58 t173 0).f2).length c176_2]) (ok := (fun k_ => (P0_2_ k_ ∨ w.heap.size ≤ k_) ∧ some k_ ≠ (.slice Ao13 y170.length co13 : Value).ownBlock ∧ some k_ ≠ (.slice (some ad176) t173.length co15 : Value).ownBlock ∧ some k_ ≠ (v179 : Value).ownBlock ∧ k_ ≠ gb169)) (okp := (fun k_ => (P0_2_ k_ ∨ w.heap.size ≤ k_) ∧ some k_ ≠ (.slice Ao13 y170.length co13 : Value).ownBlock ∧ some k_ ≠ (.slice (some ad176) t173.length co15 : Value).ownBlock ∧ some k_ ≠ (v179 : Value).ownBlock ∧ k_ ≠ gb169)) ?hr ?hp (fun _ hk => hk) ((show ∀ k_, w45.heap.size ≤ k_ → (fun k_ => (P0_2_ k_ ∨ w.heap.size ≤ k_) ∧ some k_ ≠ (.slice Ao13 y170.length co13 : Value).ownBlock ∧ some k_ ≠ (.slice (some ad176) t173.length co15 : Value).ownBlock ∧ some k_ ≠ (v179 : Value).ownBlock ∧ k_ ≠ gb169) k_ from fun k_ hk => ⟨(.inr (Nat.le_trans (below_size (by repeat (first | (with_reducible first | exact HB.out | apply below_alloc | apply pw_below_drewN | apply below_drew1 | refine below_set ?_ GE169.out) | exact HB.out))) hk)), Kd.fresh' (Kd.N_lt (by (with_reducible repeat (first | apply Kd.N_alloc | apply Kd.N_drewN | apply Kd.N_drew)); exact HO172.out)) k_ hk, Kd.fresh' (Kd.N_lt (by (with_reducible repeat (first | apply Kd.N_alloc | apply Kd.N_drewN | apply Kd.N_drew)); exact HO175.out)) k_ hk, Kd.fresh' (Kd.R_lt (by (with_reducible repeat (first | apply Kd.R_alloc | apply Kd.R_drewN | apply Kd.R_drew)); exact HO180.out)) k_ hk, Kd.freshB (g := gb169) (o := .cells #[.int .i64 ((rd_T58 t173 0).f0), .string ((rd_T58 t173 0).f1), .slice A176_2 ((rd_T58 t173 0).f2).length c176_2] 58 (0, 0)) (by (with_reducible repeat (first | refine blk_drewN ?_ _ | refine blk_drew ?_ | refine blk_alloc ?_ _)); exact BK169.out) k_ hk⟩) _ (Nat.le_refl _)) (Below.refl _ _) (Nat.le_refl _) (by simp) ?_; (case hd => rfl); (case hg => rfl); (case hr => first | (go_simp; done) | (go_simp; rfl)); (case hp => exact (Reps.c3 (show Kd.FK k58 _ _ (⟨(rd_T58 t173 0).f0, (rd_T58 t173 0).f1, (rd_T58 t173 0).f2⟩ : S58) [.int .i64 ((rd_T58 t173 0).f0), .string ((rd_T58 t173 0).f1), .slice A176_2 ((rd_T58 t173 0).f2).length c176_2] from (k58_mkF _ _ (⟨(rd_T58 t173 0).f0, (rd_T58 t173 0).f1, (rd_T58 t173 0).f2⟩ : S58) (Kd.V_reads' (Kd.V_mono (ok' := (fun k_ => (P0_2_ k_ ∨ w.heap.size ≤ k_) ∧ some k_ ≠ (.slice Ao13 y170.length co13 : Value).ownBlock ∧ some k_ ≠ (.slice (some ad176) t173.length co15 : Value).ownBlock ∧ some k_ ≠ (v179 : Value).ownBlock ∧ k_ ≠ gb169)) (HL176_2.out) (fun k_ hk => ⟨hk.1, ⟨hk.2.1, ⟨hk.2.2.1, ⟨hk.2.2.2.1, hk.2.2.2.2⟩⟩⟩⟩))).2.1 (Kd.V_F (Kd.V_mono (ok' := (fun k_ => (P0_2_ k_ ∨ w.heap.size ≤ k_) ∧ some k_ ≠ (.slice Ao13 y170.length co13 : Value).ownBlock ∧ some k_ ≠ (.slice (some ad176) t173.length co15 : Value).ownBlock ∧ some k_ ≠ (v179 : Value).ownBlock ∧ k_ ≠ gb169)) (HL176_2.out) (fun k_ hk => ⟨hk.1, ⟨hk.2.1, ⟨hk.2.2.1, ⟨hk.2.2.2.1, hk.2.2.2.2⟩⟩⟩⟩))))) (Reps.none _ _))); intro v182 w47 ho48 hb hg_ hnew_; clear hg_ hnew_; (first | rw [← Ny181.out] at ho48 | (simp only [Int.reduceToNat] at ho48; rw [← Ny181.out] at ho48)); have n0_ := Aside0.mk (Kd.V_elder' (by (with_reducible repeat (first | apply Kd.V_alloc | apply Kd.V_drewN | apply Kd.V_drew)); exact HO0_2.out) (Kd.N_base ho48) hb); have n1_ := Aside0.mk (Kd.N_elder' (by (with_reducible repeat (first | apply Kd.N_alloc | apply Kd.N_drewN | apply Kd.N_drew)); exact HO172.out) (Kd.N_base ho48) hb); have n2_ := Aside0.mk (Kd.N_elder' (by (with_reducible repeat (first | apply Kd.N_alloc | apply Kd.N_drewN | apply Kd.N_drew)); exact HO175.out) (Kd.N_base ho48) hb); have n3_ := Aside0.mk (Kd.V_elder' (by (with_reducible repeat (first | apply Kd.V_alloc | apply Kd.V_drewN | apply Kd.V_drew)); exact HL176_2.out) (Kd.N_base ho48) hb); have n4_ := Aside0.mk (Kd.R_below (by (with_reducible repeat (first | apply Kd.R_alloc | apply Kd.R_drewN | apply Kd.R_drew)); exact HO180.out) hb); have n5_ := Aside0.mk (Kd.N_lower ho48 (below_size (by repeat (first | (with_reducible first | exact HB.out | apply below_alloc | apply pw_below_drewN | apply below_drew1 | refine below_set ?_ GE169.out) | exact HB.out)))); have n6_ := Aside0.mk (blk_below (g := gb169) (o := .cells #[.int .i64 ((rd_T58 t173 0).f0), .string ((rd_T58 t173 0).f1), .slice A176_2 ((rd_T58 t173 0).f2).length c176_2] 58 (0, 0)) (by (with_reducible repeat (first | refine blk_drewN ?_ _ | refine blk_drew ?_ | refine blk_alloc ?_ _)); exact BK169.out) hb); have n7_ := Aside0.mk (below_step (by repeat (first | (with_reducible first | exact HB.out | apply below_alloc | apply pw_below_drewN | apply below_drew1 | refine below_set ?_ GE169.out) | exact HB.out)) hb); clear HO0_2; clear HO172; clear HO175; clear HL176_2; clear HO180; clear BK169; clear HB; have HO0_2 := n0_; have HO172 := n1_; have HO175 := n2_; have HL176_2 := n3_; have HO180 := n4_; have HO183 := n5_; have BK169 := n6_; have HB := n7_; clear n0_ n1_ n2_ n3_ n4_ n5_ n6_ n7_; clear hb ho48; obtain ⟨Ao49, co49, eo49⟩ := Kd.N_slice HO183.out; subst eo49) | ((with_reducible refine _root_.Go.Proofs.YtcakednecmngdaaDoorW.PrintMore.gate_callee (f := 56) rfl ?_); refine goesL_ (some 22) rfl rfl Tryd.func56 (by kernel_rfl) rfl #[.slice Ao49 y181.length co49] rfl (by (try simp only [List.map_toArray, List.map_cons, List.map_nil]); first | done | rfl | (simp only [List.length_drop, List.length_take]; rfl)) ?_; (with_reducible refine (tollref08_Needs.calls k _ _ y181 true _ ?side1 ?side2 A20.out).mono ?_); (case side1 => repeat (first | exact (Kd.N_reads' HO183.out).2.2 | (with_reducible refine Kd.C_alloc ?_ _) | (with_reducible refine Kd.C_drewN ?_ _) | (with_reducible refine Kd.C_drew ?_))); (case side2 => exact (Kd.N_reads' HO183.out).2.1); rintro e w50 ⟨rfl, hb⟩; refine ⟨_, rfl, ?_⟩; have n0_ := Aside0.mk (Kd.V_below (by (with_reducible repeat (first | apply Kd.V_alloc | apply Kd.V_drewN | apply Kd.V_drew)); exact HO0_2.out) hb); have n1_ := Aside0.mk (Kd.N_below (by (with_reducible repeat (first | apply Kd.N_alloc | apply Kd.N_drewN | apply Kd.N_drew)); exact HO172.out) hb); have n2_ := Aside0.mk (Kd.N_below (by (with_reducible repeat (first | apply Kd.N_alloc | apply Kd.N_drewN | apply Kd.N_drew)); exact HO175.out) hb); have n3_ := Aside0.mk (Kd.V_below (by (with_reducible repeat (first | apply Kd.V_alloc | apply Kd.V_drewN | apply Kd.V_drew)); exact HL176_2.out) hb); have n4_ := Aside0.mk (Kd.R_below (by (with_reducible repeat (first | apply Kd.R_alloc | apply Kd.R_drewN | apply Kd.R_drew)); exact HO180.out) hb); have n5_ := Aside0.mk (Kd.N_below (by (with_reducible repeat (first | apply Kd.N_alloc | apply Kd.N_drewN | apply Kd.N_drew)); exact HO183.out) hb); have n6_ := Aside0.mk (blk_below (g := gb169) (o := .cells #[.int .i64 ((rd_T58 t173 0).f0), .string ((rd_T58 t173 0).f1), .slice A176_2 ((rd_T58 t173 0).f2).length c176_2] 58 (0, 0)) (by (with_reducible repeat (first | refine blk_drewN ?_ _ | refine blk_drew ?_ | refine blk_alloc ?_ _)); exact BK169.out) hb); have n7_ := Aside0.mk (below_step (by repeat (first | (with_reducible first | exact HB.out | apply below_alloc | apply pw_below_drewN | apply below_drew1 | refine below_set ?_ GE169.out) | exact HB.out)) hb); clear HO0_2; clear HO172; clear HO175; clear HL176_2; clear HO180; clear HO183; clear BK169; clear HB; have HO0_2 := n0_; have HO172 := n1_; have HO175 := n2_; have HL176_2 := n3_; have HO180 := n4_; have HO183 := n5_; have BK169 := n6_; have HB := n7_; clear n0_ n1_ n2_ n3_ n4_ n5_ n6_ n7_; (try clear hb); (try clear hb2); (try clear hk); (try clear hi); obtain ⟨Ao51, co51, eo51⟩ := Kd.R_slice HO180.out; subst eo51) | (go_at_call 57; (with_reducible refine (tollref08_May.calls k _ _ t178 true _ ?side1 ?side2 A22.out).mono ?_); (case side1 => repeat (first | exact (Kd.R_reads' HO180.out).2.2 | (with_reducible refine Kd.C_alloc ?_ _) | (with_reducible refine Kd.C_drewN ?_ _) | (with_reducible refine Kd.C_drew ?_))); (case side2 => exact (Kd.R_reads' HO180.out).2.1); rintro e w52 ⟨rfl, hb⟩; have n0_ := Aside0.mk (Kd.V_below (by (with_reducible repeat (first | apply Kd.V_alloc | apply Kd.V_drewN | apply Kd.V_drew)); exact HO0_2.out) hb); have n1_ := Aside0.mk (Kd.N_below (by (with_reducible repeat (first | apply Kd.N_alloc | apply Kd.N_drewN | apply Kd.N_drew)); exact HO172.out) hb); have n2_ := Aside0.mk (Kd.N_below (by (with_reducible repeat (first | apply Kd.N_alloc | apply Kd.N_drewN | apply Kd.N_drew)); exact HO175.out) hb); have n3_ := Aside0.mk (Kd.V_below (by (with_reducible repeat (first | apply Kd.V_alloc | apply Kd.V_drewN | apply Kd.V_drew)); exact HL176_2.out) hb); have n4_ := Aside0.mk (Kd.R_below (by (with_reducible repeat (first | apply Kd.R_alloc | apply Kd.R_drewN | apply Kd.R_drew)); exact HO180.out) hb); have n5_ := Aside0.mk (Kd.N_below (by (with_reducible repeat (first | apply Kd.N_alloc | apply Kd.N_drewN | apply Kd.N_drew)); exact HO183.out) hb); have n6_ := Aside0.mk (blk_below (g := gb169) (o := .cells #[.int .i64 ((rd_T58 t173 0).f0), .string ((rd_T58 t173 0).f1), .slice A176_2 ((rd_T58 t173 0).f2).length c176_2] 58 (0, 0)) (by (with_reducible repeat (first | refine blk_drewN ?_ _ | refine blk_drew ?_ | refine blk_alloc ?_ _)); exact BK169.out) hb); have n7_ := Aside0.mk (below_step (by repeat (first | (with_reducible first | exact HB.out | apply below_alloc | apply pw_below_drewN | apply below_drew1 | refine below_set ?_ GE169.out) | exact HB.out)) hb); clear HO0_2; clear HO172; clear HO175; clear HL176_2; clear HO180; clear HO183; clear BK169; clear HB; have HO0_2 := n0_; have HO172 := n1_; have HO175 := n2_; have HL176_2 := n3_; have HO180 := n4_; have HO183 := n5_; have BK169 := n6_; have HB := n7_; clear n0_ n1_ n2_ n3_ n4_ n5_ n6_ n7_; (try clear hb); (try clear hb2); (try clear hk); (try clear hi); have hcz53_0 : w52.cell? ⟨gb169, 0, none⟩ = some (.int .i64 ((rd_T58 t173 0).f0)) := (blk_cell BK169.out 0).trans rfl; have hcz53_1 : w52.cell? ⟨gb169, 1, none⟩ = some (.string ((rd_T58 t173 0).f1)) := (blk_cell BK169.out 1).trans rfl; have hcz53_2 : w52.cell? ⟨gb169, 2, none⟩ = some (.slice A176_2 ((rd_T58 t173 0).f2).length c176_2) := (blk_cell BK169.out 2).trans rfl; have hfz53_0 := blk_frozen BK169.out 0; have hfz53_1 := blk_frozen BK169.out 1; have hfz53_2 := blk_frozen BK169.out 2))
                go_meet
                case rel => exact ⟨_, (false), (by first | rfl | (simp; done) | (simp [*]; done)), H', ⟨by first | omega | exact Nat.le_refl _⟩, ⟨by (with_reducible repeat (first | apply Kd.R_alloc | apply Kd.R_drewN | apply Kd.R_drew)); exact HO180.out⟩, ⟨by (with_reducible repeat (first | apply Kd.V_alloc | apply Kd.V_drewN | apply Kd.V_drew)); exact Kd.V_mono HL176_2.out (fun _ hk => ⟨hk.1.1, ⟨hk.1.2.2.2.1, hk.1.2.2.2.2⟩⟩)⟩, ⟨by (with_reducible repeat (first | refine blk_drewN ?_ _ | refine blk_drew ?_ | refine blk_alloc ?_ _)); exact BK169.out⟩, ⟨by repeat (first | (with_reducible first | exact HB.out | apply below_alloc | apply pw_below_drewN | apply below_drew1 | refine below_set ?_ GE169.out) | exact HB.out)⟩⟩
              · rw [if_neg c44] at H
                have c44b0 : (t177.toList == ([] : List UInt8)) = false := beq_eq_false_iff_ne.mpr c44
                have c44b1 : (t177.toList != ([] : List UInt8)) = true := bne_iff_ne.mpr c44
                replace H := Option.bind_eq_some_iff.mp H
                obtain ⟨t186, A540, H⟩ := H
                replace H : (tolllaw08_LabelKinds.j0 k t177 t178 (!t186) ((rd_T58 t173 0).f0) ((rd_T58 t173 0).f1) ((rd_T58 t173 0).f2)) = some true := H
                have A54 := Aside0.mk A540
                clear A540
                have H' := Aside0.mk H
                clear H
                have n0_ : Aside0 (Kd.V Kd.string 9 (((w16.setCell ⟨gb169, 0, none⟩ (.int .i64 ((rd_T58 t173 0).f0))).setCell ⟨gb169, 1, none⟩ (.string ((rd_T58 t173 0).f1))).setCell ⟨gb169, 2, none⟩ (.slice A176_2 ((rd_T58 t173 0).f2).length c176_2)) w.heap.size (fun k_ => (P0_2_ k_ ∨ w.heap.size ≤ k_) ∧ some k_ ≠ (.slice Ao13 y170.length co13 : Value).ownBlock ∧ some k_ ≠ (.slice (some ad176) t173.length co15 : Value).ownBlock ∧ some k_ ≠ (v179 : Value).ownBlock ∧ k_ ≠ gb169) (.slice A0_2 l0_2.length c0_2) l0_2) := ⟨by (with_reducible repeat (first | apply Kd.V_alloc | apply Kd.V_drewN | apply Kd.V_drew)); exact Kd.V_mono (Kd.V_far (p := ⟨gb169, 2, none⟩) (Kd.V_far (p := ⟨gb169, 1, none⟩) (Kd.V_far (p := ⟨gb169, 0, none⟩) (Kd.V_mono HO0_2.out (fun k_ hk => (⟨hk, hk.1.1.1.2⟩ : _ ∧ k_ ≠ gb169))) (fun _ hk => hk.2) (.int .i64 ((rd_T58 t173 0).f0))) (fun _ hk => hk.2) (.string ((rd_T58 t173 0).f1))) (fun _ hk => hk.2) (.slice A176_2 ((rd_T58 t173 0).f2).length c176_2)) (fun _ hk => ⟨hk.1.1.1.1.1, ⟨hk.1.1.1.2, ⟨hk.1.1.2, ⟨hk.1.2, hk.1.1.1.1.2⟩⟩⟩⟩)⟩
                have n1_ : Aside0 (Kd.N k58 58 (((w16.setCell ⟨gb169, 0, none⟩ (.int .i64 ((rd_T58 t173 0).f0))).setCell ⟨gb169, 1, none⟩ (.string ((rd_T58 t173 0).f1))).setCell ⟨gb169, 2, none⟩ (.slice A176_2 ((rd_T58 t173 0).f2).length c176_2)) w.heap.size (fun k_ => (P0_2_ k_ ∨ w.heap.size ≤ k_) ∧ some k_ ≠ (.slice (some ad176) t173.length co15 : Value).ownBlock ∧ some k_ ≠ (v179 : Value).ownBlock ∧ k_ ≠ gb169) (.slice Ao13 y170.length co13) y170) := ⟨by (with_reducible repeat (first | apply Kd.N_alloc | apply Kd.N_drewN | apply Kd.N_drew)); exact Kd.N_mono (Kd.N_far (p := ⟨gb169, 2, none⟩) (Kd.N_far (p := ⟨gb169, 1, none⟩) (Kd.N_far (p := ⟨gb169, 0, none⟩) (Kd.N_mono HO172.out (fun k_ hk => (⟨hk, hk.1.1.2⟩ : _ ∧ k_ ≠ gb169))) (fun _ hk => hk.2) (.int .i64 ((rd_T58 t173 0).f0))) (fun _ hk => hk.2) (.string ((rd_T58 t173 0).f1))) (fun _ hk => hk.2) (.slice A176_2 ((rd_T58 t173 0).f2).length c176_2)) (fun _ hk => ⟨hk.1.1.1.1, ⟨hk.1.1.2, ⟨hk.1.2, hk.1.1.1.2⟩⟩⟩)⟩
                have n2_ : Aside0 (Kd.N k58 58 (((w16.setCell ⟨gb169, 0, none⟩ (.int .i64 ((rd_T58 t173 0).f0))).setCell ⟨gb169, 1, none⟩ (.string ((rd_T58 t173 0).f1))).setCell ⟨gb169, 2, none⟩ (.slice A176_2 ((rd_T58 t173 0).f2).length c176_2)) w.heap.size (fun k_ => (P0_2_ k_ ∨ w.heap.size ≤ k_) ∧ some k_ ≠ (.slice Ao13 y170.length co13 : Value).ownBlock ∧ some k_ ≠ (v179 : Value).ownBlock ∧ k_ ≠ gb169) (.slice (some ad176) t173.length co15) t173) := ⟨by (with_reducible repeat (first | apply Kd.N_alloc | apply Kd.N_drewN | apply Kd.N_drew)); exact Kd.N_mono (Kd.N_far (p := ⟨gb169, 2, none⟩) (Kd.N_far (p := ⟨gb169, 1, none⟩) (Kd.N_far (p := ⟨gb169, 0, none⟩) (Kd.N_mono HO175.out (fun k_ hk => (⟨hk, hk.1.2.2⟩ : _ ∧ k_ ≠ gb169))) (fun _ hk => hk.2) (.int .i64 ((rd_T58 t173 0).f0))) (fun _ hk => hk.2) (.string ((rd_T58 t173 0).f1))) (fun _ hk => hk.2) (.slice A176_2 ((rd_T58 t173 0).f2).length c176_2)) (fun _ hk => ⟨hk.1.1.1, ⟨hk.1.1.2.1, ⟨hk.1.2, hk.1.1.2.2⟩⟩⟩)⟩
                have n3_ : Aside0 (Kd.V Kd.string 9 (((w16.setCell ⟨gb169, 0, none⟩ (.int .i64 ((rd_T58 t173 0).f0))).setCell ⟨gb169, 1, none⟩ (.string ((rd_T58 t173 0).f1))).setCell ⟨gb169, 2, none⟩ (.slice A176_2 ((rd_T58 t173 0).f2).length c176_2)) w.heap.size (fun k_ => (P0_2_ k_ ∨ w.heap.size ≤ k_) ∧ some k_ ≠ (.slice Ao13 y170.length co13 : Value).ownBlock ∧ some k_ ≠ (.slice (some ad176) t173.length co15 : Value).ownBlock ∧ some k_ ≠ (v179 : Value).ownBlock ∧ k_ ≠ gb169) (.slice A176_2 ((rd_T58 t173 0).f2).length c176_2) ((rd_T58 t173 0).f2)) := ⟨by (with_reducible repeat (first | apply Kd.V_alloc | apply Kd.V_drewN | apply Kd.V_drew)); exact Kd.V_mono (Kd.V_far (p := ⟨gb169, 2, none⟩) (Kd.V_far (p := ⟨gb169, 1, none⟩) (Kd.V_far (p := ⟨gb169, 0, none⟩) (Kd.V_mono HL176_2.out (fun k_ hk => (⟨hk, hk.1.1.2.2⟩ : _ ∧ k_ ≠ gb169))) (fun _ hk => hk.2) (.int .i64 ((rd_T58 t173 0).f0))) (fun _ hk => hk.2) (.string ((rd_T58 t173 0).f1))) (fun _ hk => hk.2) (.slice A176_2 ((rd_T58 t173 0).f2).length c176_2)) (fun _ hk => ⟨hk.1.1.1.1, ⟨hk.1.1.1.2.1, ⟨hk.1.1.2, ⟨hk.1.2, hk.1.1.1.2.2⟩⟩⟩⟩)⟩
                have n4_ : Aside0 (Kd.R k55 55 (((w16.setCell ⟨gb169, 0, none⟩ (.int .i64 ((rd_T58 t173 0).f0))).setCell ⟨gb169, 1, none⟩ (.string ((rd_T58 t173 0).f1))).setCell ⟨gb169, 2, none⟩ (.slice A176_2 ((rd_T58 t173 0).f2).length c176_2)) w.heap.size (fun k_ => (w.heap.size ≤ k_)) v179 t178) := ⟨by (with_reducible repeat (first | apply Kd.R_alloc | apply Kd.R_drewN | apply Kd.R_drew)); exact Kd.R_mono (Kd.R_far (p := ⟨gb169, 2, none⟩) (Kd.R_far (p := ⟨gb169, 1, none⟩) (Kd.R_far (p := ⟨gb169, 0, none⟩) (Kd.R_types HO180.out BK169.out (by decide)) (fun _ hk => hk.2) (.int .i64 ((rd_T58 t173 0).f0))) (fun _ hk => hk.2) (.string ((rd_T58 t173 0).f1))) (fun _ hk => hk.2) (.slice A176_2 ((rd_T58 t173 0).f2).length c176_2)) (fun _ hk => hk.1.1)⟩
                have n5_ : Aside0 ((((w16.setCell ⟨gb169, 0, none⟩ (.int .i64 ((rd_T58 t173 0).f0))).setCell ⟨gb169, 1, none⟩ (.string ((rd_T58 t173 0).f1))).setCell ⟨gb169, 2, none⟩ (.slice A176_2 ((rd_T58 t173 0).f2).length c176_2)).heap[gb169]? = some (.cells #[.int .i64 ((rd_T58 t173 0).f0), .string ((rd_T58 t173 0).f1), .slice A176_2 ((rd_T58 t173 0).f2).length c176_2] 58 (0, 0))) := ⟨by (with_reducible repeat (first | refine blk_drewN ?_ _ | refine blk_drew ?_ | refine blk_alloc ?_ _)); refine blk_put (cs := #[.int .i64 ((rd_T58 t173 0).f0), .string ((rd_T58 t173 0).f1), .slice A0_2 l0_2.length c0_2]) ?_ 2 _ rfl; (with_reducible repeat (first | refine blk_drewN ?_ _ | refine blk_drew ?_ | refine blk_alloc ?_ _)); refine blk_put (cs := #[.int .i64 ((rd_T58 t173 0).f0), .string a0_1, .slice A0_2 l0_2.length c0_2]) ?_ 1 _ rfl; (with_reducible repeat (first | refine blk_drewN ?_ _ | refine blk_drew ?_ | refine blk_alloc ?_ _)); refine blk_put (cs := #[.int .i64 a0_0, .string a0_1, .slice A0_2 l0_2.length c0_2]) ?_ 0 _ rfl; (with_reducible repeat (first | refine blk_drewN ?_ _ | refine blk_drew ?_ | refine blk_alloc ?_ _)); exact BK169.out⟩
                have n6_ : Aside0 (Below w.heap.size w (((w16.setCell ⟨gb169, 0, none⟩ (.int .i64 ((rd_T58 t173 0).f0))).setCell ⟨gb169, 1, none⟩ (.string ((rd_T58 t173 0).f1))).setCell ⟨gb169, 2, none⟩ (.slice A176_2 ((rd_T58 t173 0).f2).length c176_2))) := ⟨by repeat (first | (with_reducible first | exact HB.out | apply below_alloc | apply pw_below_drewN | apply below_drew1 | refine below_set ?_ GE169.out) | exact HB.out)⟩
                (try clear HO0_2)
                (try clear HO172)
                (try clear HO175)
                (try clear HL176_2)
                (try clear HO180)
                (try clear BK169)
                (try clear HB)
                generalize (((w16.setCell ⟨gb169, 0, none⟩ (.int .i64 ((rd_T58 t173 0).f0))).setCell ⟨gb169, 1, none⟩ (.string ((rd_T58 t173 0).f1))).setCell ⟨gb169, 2, none⟩ (.slice A176_2 ((rd_T58 t173 0).f2).length c176_2)) = w55 at n0_ n1_ n2_ n3_ n4_ n5_ n6_ ⊢
                have HO0_2 := n0_
                have HO172 := n1_
                have HO175 := n2_
                have HL176_2 := n3_
                have HO180 := n4_
                have BK169 := n5_
                have HB := n6_
                clear n0_ n1_ n2_ n3_ n4_ n5_ n6_
                have hcz56_0 : w55.cell? ⟨gb169, 0, none⟩ = some (.int .i64 ((rd_T58 t173 0).f0)) := (blk_cell BK169.out 0).trans rfl
                have hcz56_1 : w55.cell? ⟨gb169, 1, none⟩ = some (.string ((rd_T58 t173 0).f1)) := (blk_cell BK169.out 1).trans rfl
                have hcz56_2 : w55.cell? ⟨gb169, 2, none⟩ = some (.slice A176_2 ((rd_T58 t173 0).f2).length c176_2) := (blk_cell BK169.out 2).trans rfl
                have hfz56_0 := blk_frozen BK169.out 0
                have hfz56_1 := blk_frozen BK169.out 1
                have hfz56_2 := blk_frozen BK169.out 2
                try go_wp2_with (first | ((with_reducible refine gate_dst (N := 21) rfl ?_); (try (refine gate_guard (by rfl) ?_; dsimp only)); refine Kd.N_lit k58 _ 58 ?hg (N' := 21) ?hd (xs := ([(⟨(rd_T58 t173 0).f0, (rd_T58 t173 0).f1, (rd_T58 t173 0).f2⟩ : S58)] : List (S58))) (inner := [.int .i64 ((rd_T58 t173 0).f0), .string ((rd_T58 t173 0).f1), .slice A176_2 ((rd_T58 t173 0).f2).length c176_2]) (ok := (fun k_ => (P0_2_ k_ ∨ w.heap.size ≤ k_) ∧ some k_ ≠ (.slice Ao13 y170.length co13 : Value).ownBlock ∧ some k_ ≠ (.slice (some ad176) t173.length co15 : Value).ownBlock ∧ some k_ ≠ (v179 : Value).ownBlock ∧ k_ ≠ gb169)) (okp := (fun k_ => (P0_2_ k_ ∨ w.heap.size ≤ k_) ∧ some k_ ≠ (.slice Ao13 y170.length co13 : Value).ownBlock ∧ some k_ ≠ (.slice (some ad176) t173.length co15 : Value).ownBlock ∧ some k_ ≠ (v179 : Value).ownBlock ∧ k_ ≠ gb169)) ?hr ?hp (fun _ hk => hk) ((show ∀ k_, w55.heap.size ≤ k_ → (fun k_ => (P0_2_ k_ ∨ w.heap.size ≤ k_) ∧ some k_ ≠ (.slice Ao13 y170.length co13 : Value).ownBlock ∧ some k_ ≠ (.slice (some ad176) t173.length co15 : Value).ownBlock ∧ some k_ ≠ (v179 : Value).ownBlock ∧ k_ ≠ gb169) k_ from fun k_ hk => ⟨(.inr (Nat.le_trans (below_size (by repeat (first | (with_reducible first | exact HB.out | apply below_alloc | apply pw_below_drewN | apply below_drew1 | refine below_set ?_ GE169.out) | exact HB.out))) hk)), Kd.fresh' (Kd.N_lt (by (with_reducible repeat (first | apply Kd.N_alloc | apply Kd.N_drewN | apply Kd.N_drew)); exact HO172.out)) k_ hk, Kd.fresh' (Kd.N_lt (by (with_reducible repeat (first | apply Kd.N_alloc | apply Kd.N_drewN | apply Kd.N_drew)); exact HO175.out)) k_ hk, Kd.fresh' (Kd.R_lt (by (with_reducible repeat (first | apply Kd.R_alloc | apply Kd.R_drewN | apply Kd.R_drew)); exact HO180.out)) k_ hk, Kd.freshB (g := gb169) (o := .cells #[.int .i64 ((rd_T58 t173 0).f0), .string ((rd_T58 t173 0).f1), .slice A176_2 ((rd_T58 t173 0).f2).length c176_2] 58 (0, 0)) (by (with_reducible repeat (first | refine blk_drewN ?_ _ | refine blk_drew ?_ | refine blk_alloc ?_ _)); exact BK169.out) k_ hk⟩) _ (Nat.le_refl _)) (Below.refl _ _) (Nat.le_refl _) (by simp) ?_; (case hd => rfl); (case hg => rfl); (case hr => first | (go_simp; done) | (go_simp; rfl)); (case hp => exact (Reps.c3 (show Kd.FK k58 _ _ (⟨(rd_T58 t173 0).f0, (rd_T58 t173 0).f1, (rd_T58 t173 0).f2⟩ : S58) [.int .i64 ((rd_T58 t173 0).f0), .string ((rd_T58 t173 0).f1), .slice A176_2 ((rd_T58 t173 0).f2).length c176_2] from (k58_mkF _ _ (⟨(rd_T58 t173 0).f0, (rd_T58 t173 0).f1, (rd_T58 t173 0).f2⟩ : S58) (Kd.V_reads' (Kd.V_mono (ok' := (fun k_ => (P0_2_ k_ ∨ w.heap.size ≤ k_) ∧ some k_ ≠ (.slice Ao13 y170.length co13 : Value).ownBlock ∧ some k_ ≠ (.slice (some ad176) t173.length co15 : Value).ownBlock ∧ some k_ ≠ (v179 : Value).ownBlock ∧ k_ ≠ gb169)) (HL176_2.out) (fun k_ hk => ⟨hk.1, ⟨hk.2.1, ⟨hk.2.2.1, ⟨hk.2.2.2.1, hk.2.2.2.2⟩⟩⟩⟩))).2.1 (Kd.V_F (Kd.V_mono (ok' := (fun k_ => (P0_2_ k_ ∨ w.heap.size ≤ k_) ∧ some k_ ≠ (.slice Ao13 y170.length co13 : Value).ownBlock ∧ some k_ ≠ (.slice (some ad176) t173.length co15 : Value).ownBlock ∧ some k_ ≠ (v179 : Value).ownBlock ∧ k_ ≠ gb169)) (HL176_2.out) (fun k_ hk => ⟨hk.1, ⟨hk.2.1, ⟨hk.2.2.1, ⟨hk.2.2.2.1, hk.2.2.2.2⟩⟩⟩⟩))))) (Reps.none _ _))); intro v182 w57 ho58 hb hg_ hnew_; clear hg_ hnew_; (first | rw [← Ny181.out] at ho58 | (simp only [Int.reduceToNat] at ho58; rw [← Ny181.out] at ho58)); have n0_ := Aside0.mk (Kd.V_elder' (by (with_reducible repeat (first | apply Kd.V_alloc | apply Kd.V_drewN | apply Kd.V_drew)); exact HO0_2.out) (Kd.N_base ho58) hb); have n1_ := Aside0.mk (Kd.N_elder' (by (with_reducible repeat (first | apply Kd.N_alloc | apply Kd.N_drewN | apply Kd.N_drew)); exact HO172.out) (Kd.N_base ho58) hb); have n2_ := Aside0.mk (Kd.N_elder' (by (with_reducible repeat (first | apply Kd.N_alloc | apply Kd.N_drewN | apply Kd.N_drew)); exact HO175.out) (Kd.N_base ho58) hb); have n3_ := Aside0.mk (Kd.V_elder' (by (with_reducible repeat (first | apply Kd.V_alloc | apply Kd.V_drewN | apply Kd.V_drew)); exact HL176_2.out) (Kd.N_base ho58) hb); have n4_ := Aside0.mk (Kd.R_below (by (with_reducible repeat (first | apply Kd.R_alloc | apply Kd.R_drewN | apply Kd.R_drew)); exact HO180.out) hb); have n5_ := Aside0.mk (Kd.N_lower ho58 (below_size (by repeat (first | (with_reducible first | exact HB.out | apply below_alloc | apply pw_below_drewN | apply below_drew1 | refine below_set ?_ GE169.out) | exact HB.out)))); have n6_ := Aside0.mk (blk_below (g := gb169) (o := .cells #[.int .i64 ((rd_T58 t173 0).f0), .string ((rd_T58 t173 0).f1), .slice A176_2 ((rd_T58 t173 0).f2).length c176_2] 58 (0, 0)) (by (with_reducible repeat (first | refine blk_drewN ?_ _ | refine blk_drew ?_ | refine blk_alloc ?_ _)); exact BK169.out) hb); have n7_ := Aside0.mk (below_step (by repeat (first | (with_reducible first | exact HB.out | apply below_alloc | apply pw_below_drewN | apply below_drew1 | refine below_set ?_ GE169.out) | exact HB.out)) hb); clear HO0_2; clear HO172; clear HO175; clear HL176_2; clear HO180; clear BK169; clear HB; have HO0_2 := n0_; have HO172 := n1_; have HO175 := n2_; have HL176_2 := n3_; have HO180 := n4_; have HO183 := n5_; have BK169 := n6_; have HB := n7_; clear n0_ n1_ n2_ n3_ n4_ n5_ n6_ n7_; clear hb ho58; obtain ⟨Ao59, co59, eo59⟩ := Kd.N_slice HO183.out; subst eo59) | ((with_reducible refine _root_.Go.Proofs.YtcakednecmngdaaDoorW.PrintMore.gate_callee (f := 56) rfl ?_); refine goesL_ (some 22) rfl rfl Tryd.func56 (by kernel_rfl) rfl #[.slice Ao59 y181.length co59] rfl (by (try simp only [List.map_toArray, List.map_cons, List.map_nil]); first | done | rfl | (simp only [List.length_drop, List.length_take]; rfl)) ?_; (with_reducible refine (tollref08_Needs.calls k _ _ y181 true _ ?side1 ?side2 A20.out).mono ?_); (case side1 => repeat (first | exact (Kd.N_reads' HO183.out).2.2 | (with_reducible refine Kd.C_alloc ?_ _) | (with_reducible refine Kd.C_drewN ?_ _) | (with_reducible refine Kd.C_drew ?_))); (case side2 => exact (Kd.N_reads' HO183.out).2.1); rintro e w60 ⟨rfl, hb⟩; refine ⟨_, rfl, ?_⟩; have n0_ := Aside0.mk (Kd.V_below (by (with_reducible repeat (first | apply Kd.V_alloc | apply Kd.V_drewN | apply Kd.V_drew)); exact HO0_2.out) hb); have n1_ := Aside0.mk (Kd.N_below (by (with_reducible repeat (first | apply Kd.N_alloc | apply Kd.N_drewN | apply Kd.N_drew)); exact HO172.out) hb); have n2_ := Aside0.mk (Kd.N_below (by (with_reducible repeat (first | apply Kd.N_alloc | apply Kd.N_drewN | apply Kd.N_drew)); exact HO175.out) hb); have n3_ := Aside0.mk (Kd.V_below (by (with_reducible repeat (first | apply Kd.V_alloc | apply Kd.V_drewN | apply Kd.V_drew)); exact HL176_2.out) hb); have n4_ := Aside0.mk (Kd.R_below (by (with_reducible repeat (first | apply Kd.R_alloc | apply Kd.R_drewN | apply Kd.R_drew)); exact HO180.out) hb); have n5_ := Aside0.mk (Kd.N_below (by (with_reducible repeat (first | apply Kd.N_alloc | apply Kd.N_drewN | apply Kd.N_drew)); exact HO183.out) hb); have n6_ := Aside0.mk (blk_below (g := gb169) (o := .cells #[.int .i64 ((rd_T58 t173 0).f0), .string ((rd_T58 t173 0).f1), .slice A176_2 ((rd_T58 t173 0).f2).length c176_2] 58 (0, 0)) (by (with_reducible repeat (first | refine blk_drewN ?_ _ | refine blk_drew ?_ | refine blk_alloc ?_ _)); exact BK169.out) hb); have n7_ := Aside0.mk (below_step (by repeat (first | (with_reducible first | exact HB.out | apply below_alloc | apply pw_below_drewN | apply below_drew1 | refine below_set ?_ GE169.out) | exact HB.out)) hb); clear HO0_2; clear HO172; clear HO175; clear HL176_2; clear HO180; clear HO183; clear BK169; clear HB; have HO0_2 := n0_; have HO172 := n1_; have HO175 := n2_; have HL176_2 := n3_; have HO180 := n4_; have HO183 := n5_; have BK169 := n6_; have HB := n7_; clear n0_ n1_ n2_ n3_ n4_ n5_ n6_ n7_; (try clear hb); (try clear hb2); (try clear hk); (try clear hi); obtain ⟨Ao61, co61, eo61⟩ := Kd.R_slice HO180.out; subst eo61) | (go_at_call 57; (with_reducible refine (tollref08_May.calls k _ _ t178 true _ ?side1 ?side2 A22.out).mono ?_); (case side1 => repeat (first | exact (Kd.R_reads' HO180.out).2.2 | (with_reducible refine Kd.C_alloc ?_ _) | (with_reducible refine Kd.C_drewN ?_ _) | (with_reducible refine Kd.C_drew ?_))); (case side2 => exact (Kd.R_reads' HO180.out).2.1); rintro e w62 ⟨rfl, hb⟩; have n0_ := Aside0.mk (Kd.V_below (by (with_reducible repeat (first | apply Kd.V_alloc | apply Kd.V_drewN | apply Kd.V_drew)); exact HO0_2.out) hb); have n1_ := Aside0.mk (Kd.N_below (by (with_reducible repeat (first | apply Kd.N_alloc | apply Kd.N_drewN | apply Kd.N_drew)); exact HO172.out) hb); have n2_ := Aside0.mk (Kd.N_below (by (with_reducible repeat (first | apply Kd.N_alloc | apply Kd.N_drewN | apply Kd.N_drew)); exact HO175.out) hb); have n3_ := Aside0.mk (Kd.V_below (by (with_reducible repeat (first | apply Kd.V_alloc | apply Kd.V_drewN | apply Kd.V_drew)); exact HL176_2.out) hb); have n4_ := Aside0.mk (Kd.R_below (by (with_reducible repeat (first | apply Kd.R_alloc | apply Kd.R_drewN | apply Kd.R_drew)); exact HO180.out) hb); have n5_ := Aside0.mk (Kd.N_below (by (with_reducible repeat (first | apply Kd.N_alloc | apply Kd.N_drewN | apply Kd.N_drew)); exact HO183.out) hb); have n6_ := Aside0.mk (blk_below (g := gb169) (o := .cells #[.int .i64 ((rd_T58 t173 0).f0), .string ((rd_T58 t173 0).f1), .slice A176_2 ((rd_T58 t173 0).f2).length c176_2] 58 (0, 0)) (by (with_reducible repeat (first | refine blk_drewN ?_ _ | refine blk_drew ?_ | refine blk_alloc ?_ _)); exact BK169.out) hb); have n7_ := Aside0.mk (below_step (by repeat (first | (with_reducible first | exact HB.out | apply below_alloc | apply pw_below_drewN | apply below_drew1 | refine below_set ?_ GE169.out) | exact HB.out)) hb); clear HO0_2; clear HO172; clear HO175; clear HL176_2; clear HO180; clear HO183; clear BK169; clear HB; have HO0_2 := n0_; have HO172 := n1_; have HO175 := n2_; have HL176_2 := n3_; have HO180 := n4_; have HO183 := n5_; have BK169 := n6_; have HB := n7_; clear n0_ n1_ n2_ n3_ n4_ n5_ n6_ n7_; (try clear hb); (try clear hb2); (try clear hk); (try clear hi); have hcz63_0 : w62.cell? ⟨gb169, 0, none⟩ = some (.int .i64 ((rd_T58 t173 0).f0)) := (blk_cell BK169.out 0).trans rfl; have hcz63_1 : w62.cell? ⟨gb169, 1, none⟩ = some (.string ((rd_T58 t173 0).f1)) := (blk_cell BK169.out 1).trans rfl; have hcz63_2 : w62.cell? ⟨gb169, 2, none⟩ = some (.slice A176_2 ((rd_T58 t173 0).f2).length c176_2) := (blk_cell BK169.out 2).trans rfl; have hfz63_0 := blk_frozen BK169.out 0; have hfz63_1 := blk_frozen BK169.out 1; have hfz63_2 := blk_frozen BK169.out 2) | (go_at_call 47; (with_reducible refine (tollref01_Label.calls k t177 t186 _ A54.out).mono ?_); rintro e w' ⟨rfl, ⟨nd, rfl⟩⟩))
                go_meet
                case rel => exact ⟨_, (!t186), (by first | rfl | (simp; done) | (simp [*]; done)), H', ⟨by first | omega | exact Nat.le_refl _⟩, ⟨by (with_reducible repeat (first | apply Kd.R_alloc | apply Kd.R_drewN | apply Kd.R_drew)); exact HO180.out⟩, ⟨by (with_reducible repeat (first | apply Kd.V_alloc | apply Kd.V_drewN | apply Kd.V_drew)); exact Kd.V_mono HL176_2.out (fun _ hk => ⟨hk.1.1, ⟨hk.1.2.2.2.1, hk.1.2.2.2.2⟩⟩)⟩, ⟨by (with_reducible repeat (first | refine blk_drewN ?_ _ | refine blk_drew ?_ | refine blk_alloc ?_ _)); exact BK169.out⟩, ⟨by repeat (first | (with_reducible first | exact HB.out | apply below_alloc | apply pw_below_drewN | apply below_drew1 | refine below_set ?_ GE169.out) | exact HB.out)⟩⟩
        · replace c23 := Bool.eq_false_iff.mpr c23
          subst c23
          have H1 : (tolllaw08_LabelKinds.j0 k t177 t178 true ((rd_T58 t173 0).f0) ((rd_T58 t173 0).f1) ((rd_T58 t173 0).f2)) = some true := by rw [if_neg (show ¬ (false = true) by decide)] at H; exact H
          clear H
          have H := H1
          clear H1
          have H' := Aside0.mk H
          clear H
          have n0_ : Aside0 (Kd.V Kd.string 9 (((w16.setCell ⟨gb169, 0, none⟩ (.int .i64 ((rd_T58 t173 0).f0))).setCell ⟨gb169, 1, none⟩ (.string ((rd_T58 t173 0).f1))).setCell ⟨gb169, 2, none⟩ (.slice A176_2 ((rd_T58 t173 0).f2).length c176_2)) w.heap.size (fun k_ => (P0_2_ k_ ∨ w.heap.size ≤ k_) ∧ some k_ ≠ (.slice Ao13 y170.length co13 : Value).ownBlock ∧ some k_ ≠ (.slice (some ad176) t173.length co15 : Value).ownBlock ∧ some k_ ≠ (v179 : Value).ownBlock ∧ k_ ≠ gb169) (.slice A0_2 l0_2.length c0_2) l0_2) := ⟨by (with_reducible repeat (first | apply Kd.V_alloc | apply Kd.V_drewN | apply Kd.V_drew)); exact Kd.V_mono (Kd.V_far (p := ⟨gb169, 2, none⟩) (Kd.V_far (p := ⟨gb169, 1, none⟩) (Kd.V_far (p := ⟨gb169, 0, none⟩) (Kd.V_mono HO0_2.out (fun k_ hk => (⟨hk, hk.1.1.1.2⟩ : _ ∧ k_ ≠ gb169))) (fun _ hk => hk.2) (.int .i64 ((rd_T58 t173 0).f0))) (fun _ hk => hk.2) (.string ((rd_T58 t173 0).f1))) (fun _ hk => hk.2) (.slice A176_2 ((rd_T58 t173 0).f2).length c176_2)) (fun _ hk => ⟨hk.1.1.1.1.1, ⟨hk.1.1.1.2, ⟨hk.1.1.2, ⟨hk.1.2, hk.1.1.1.1.2⟩⟩⟩⟩)⟩
          have n1_ : Aside0 (Kd.N k58 58 (((w16.setCell ⟨gb169, 0, none⟩ (.int .i64 ((rd_T58 t173 0).f0))).setCell ⟨gb169, 1, none⟩ (.string ((rd_T58 t173 0).f1))).setCell ⟨gb169, 2, none⟩ (.slice A176_2 ((rd_T58 t173 0).f2).length c176_2)) w.heap.size (fun k_ => (P0_2_ k_ ∨ w.heap.size ≤ k_) ∧ some k_ ≠ (.slice (some ad176) t173.length co15 : Value).ownBlock ∧ some k_ ≠ (v179 : Value).ownBlock ∧ k_ ≠ gb169) (.slice Ao13 y170.length co13) y170) := ⟨by (with_reducible repeat (first | apply Kd.N_alloc | apply Kd.N_drewN | apply Kd.N_drew)); exact Kd.N_mono (Kd.N_far (p := ⟨gb169, 2, none⟩) (Kd.N_far (p := ⟨gb169, 1, none⟩) (Kd.N_far (p := ⟨gb169, 0, none⟩) (Kd.N_mono HO172.out (fun k_ hk => (⟨hk, hk.1.1.2⟩ : _ ∧ k_ ≠ gb169))) (fun _ hk => hk.2) (.int .i64 ((rd_T58 t173 0).f0))) (fun _ hk => hk.2) (.string ((rd_T58 t173 0).f1))) (fun _ hk => hk.2) (.slice A176_2 ((rd_T58 t173 0).f2).length c176_2)) (fun _ hk => ⟨hk.1.1.1.1, ⟨hk.1.1.2, ⟨hk.1.2, hk.1.1.1.2⟩⟩⟩)⟩
          have n2_ : Aside0 (Kd.N k58 58 (((w16.setCell ⟨gb169, 0, none⟩ (.int .i64 ((rd_T58 t173 0).f0))).setCell ⟨gb169, 1, none⟩ (.string ((rd_T58 t173 0).f1))).setCell ⟨gb169, 2, none⟩ (.slice A176_2 ((rd_T58 t173 0).f2).length c176_2)) w.heap.size (fun k_ => (P0_2_ k_ ∨ w.heap.size ≤ k_) ∧ some k_ ≠ (.slice Ao13 y170.length co13 : Value).ownBlock ∧ some k_ ≠ (v179 : Value).ownBlock ∧ k_ ≠ gb169) (.slice (some ad176) t173.length co15) t173) := ⟨by (with_reducible repeat (first | apply Kd.N_alloc | apply Kd.N_drewN | apply Kd.N_drew)); exact Kd.N_mono (Kd.N_far (p := ⟨gb169, 2, none⟩) (Kd.N_far (p := ⟨gb169, 1, none⟩) (Kd.N_far (p := ⟨gb169, 0, none⟩) (Kd.N_mono HO175.out (fun k_ hk => (⟨hk, hk.1.2.2⟩ : _ ∧ k_ ≠ gb169))) (fun _ hk => hk.2) (.int .i64 ((rd_T58 t173 0).f0))) (fun _ hk => hk.2) (.string ((rd_T58 t173 0).f1))) (fun _ hk => hk.2) (.slice A176_2 ((rd_T58 t173 0).f2).length c176_2)) (fun _ hk => ⟨hk.1.1.1, ⟨hk.1.1.2.1, ⟨hk.1.2, hk.1.1.2.2⟩⟩⟩)⟩
          have n3_ : Aside0 (Kd.V Kd.string 9 (((w16.setCell ⟨gb169, 0, none⟩ (.int .i64 ((rd_T58 t173 0).f0))).setCell ⟨gb169, 1, none⟩ (.string ((rd_T58 t173 0).f1))).setCell ⟨gb169, 2, none⟩ (.slice A176_2 ((rd_T58 t173 0).f2).length c176_2)) w.heap.size (fun k_ => (P0_2_ k_ ∨ w.heap.size ≤ k_) ∧ some k_ ≠ (.slice Ao13 y170.length co13 : Value).ownBlock ∧ some k_ ≠ (.slice (some ad176) t173.length co15 : Value).ownBlock ∧ some k_ ≠ (v179 : Value).ownBlock ∧ k_ ≠ gb169) (.slice A176_2 ((rd_T58 t173 0).f2).length c176_2) ((rd_T58 t173 0).f2)) := ⟨by (with_reducible repeat (first | apply Kd.V_alloc | apply Kd.V_drewN | apply Kd.V_drew)); exact Kd.V_mono (Kd.V_far (p := ⟨gb169, 2, none⟩) (Kd.V_far (p := ⟨gb169, 1, none⟩) (Kd.V_far (p := ⟨gb169, 0, none⟩) (Kd.V_mono HL176_2.out (fun k_ hk => (⟨hk, hk.1.1.2.2⟩ : _ ∧ k_ ≠ gb169))) (fun _ hk => hk.2) (.int .i64 ((rd_T58 t173 0).f0))) (fun _ hk => hk.2) (.string ((rd_T58 t173 0).f1))) (fun _ hk => hk.2) (.slice A176_2 ((rd_T58 t173 0).f2).length c176_2)) (fun _ hk => ⟨hk.1.1.1.1, ⟨hk.1.1.1.2.1, ⟨hk.1.1.2, ⟨hk.1.2, hk.1.1.1.2.2⟩⟩⟩⟩)⟩
          have n4_ : Aside0 (Kd.R k55 55 (((w16.setCell ⟨gb169, 0, none⟩ (.int .i64 ((rd_T58 t173 0).f0))).setCell ⟨gb169, 1, none⟩ (.string ((rd_T58 t173 0).f1))).setCell ⟨gb169, 2, none⟩ (.slice A176_2 ((rd_T58 t173 0).f2).length c176_2)) w.heap.size (fun k_ => (w.heap.size ≤ k_)) v179 t178) := ⟨by (with_reducible repeat (first | apply Kd.R_alloc | apply Kd.R_drewN | apply Kd.R_drew)); exact Kd.R_mono (Kd.R_far (p := ⟨gb169, 2, none⟩) (Kd.R_far (p := ⟨gb169, 1, none⟩) (Kd.R_far (p := ⟨gb169, 0, none⟩) (Kd.R_types HO180.out BK169.out (by decide)) (fun _ hk => hk.2) (.int .i64 ((rd_T58 t173 0).f0))) (fun _ hk => hk.2) (.string ((rd_T58 t173 0).f1))) (fun _ hk => hk.2) (.slice A176_2 ((rd_T58 t173 0).f2).length c176_2)) (fun _ hk => hk.1.1)⟩
          have n5_ : Aside0 ((((w16.setCell ⟨gb169, 0, none⟩ (.int .i64 ((rd_T58 t173 0).f0))).setCell ⟨gb169, 1, none⟩ (.string ((rd_T58 t173 0).f1))).setCell ⟨gb169, 2, none⟩ (.slice A176_2 ((rd_T58 t173 0).f2).length c176_2)).heap[gb169]? = some (.cells #[.int .i64 ((rd_T58 t173 0).f0), .string ((rd_T58 t173 0).f1), .slice A176_2 ((rd_T58 t173 0).f2).length c176_2] 58 (0, 0))) := ⟨by (with_reducible repeat (first | refine blk_drewN ?_ _ | refine blk_drew ?_ | refine blk_alloc ?_ _)); refine blk_put (cs := #[.int .i64 ((rd_T58 t173 0).f0), .string ((rd_T58 t173 0).f1), .slice A0_2 l0_2.length c0_2]) ?_ 2 _ rfl; (with_reducible repeat (first | refine blk_drewN ?_ _ | refine blk_drew ?_ | refine blk_alloc ?_ _)); refine blk_put (cs := #[.int .i64 ((rd_T58 t173 0).f0), .string a0_1, .slice A0_2 l0_2.length c0_2]) ?_ 1 _ rfl; (with_reducible repeat (first | refine blk_drewN ?_ _ | refine blk_drew ?_ | refine blk_alloc ?_ _)); refine blk_put (cs := #[.int .i64 a0_0, .string a0_1, .slice A0_2 l0_2.length c0_2]) ?_ 0 _ rfl; (with_reducible repeat (first | refine blk_drewN ?_ _ | refine blk_drew ?_ | refine blk_alloc ?_ _)); exact BK169.out⟩
          have n6_ : Aside0 (Below w.heap.size w (((w16.setCell ⟨gb169, 0, none⟩ (.int .i64 ((rd_T58 t173 0).f0))).setCell ⟨gb169, 1, none⟩ (.string ((rd_T58 t173 0).f1))).setCell ⟨gb169, 2, none⟩ (.slice A176_2 ((rd_T58 t173 0).f2).length c176_2))) := ⟨by repeat (first | (with_reducible first | exact HB.out | apply below_alloc | apply pw_below_drewN | apply below_drew1 | refine below_set ?_ GE169.out) | exact HB.out)⟩
          (try clear HO0_2)
          (try clear HO172)
          (try clear HO175)
          (try clear HL176_2)
          (try clear HO180)
          (try clear BK169)
          (try clear HB)
          generalize (((w16.setCell ⟨gb169, 0, none⟩ (.int .i64 ((rd_T58 t173 0).f0))).setCell ⟨gb169, 1, none⟩ (.string ((rd_T58 t173 0).f1))).setCell ⟨gb169, 2, none⟩ (.slice A176_2 ((rd_T58 t173 0).f2).length c176_2)) = w64 at n0_ n1_ n2_ n3_ n4_ n5_ n6_ ⊢
          have HO0_2 := n0_
          have HO172 := n1_
          have HO175 := n2_
          have HL176_2 := n3_
          have HO180 := n4_
          have BK169 := n5_
          have HB := n6_
          clear n0_ n1_ n2_ n3_ n4_ n5_ n6_
          have hcz65_0 : w64.cell? ⟨gb169, 0, none⟩ = some (.int .i64 ((rd_T58 t173 0).f0)) := (blk_cell BK169.out 0).trans rfl
          have hcz65_1 : w64.cell? ⟨gb169, 1, none⟩ = some (.string ((rd_T58 t173 0).f1)) := (blk_cell BK169.out 1).trans rfl
          have hcz65_2 : w64.cell? ⟨gb169, 2, none⟩ = some (.slice A176_2 ((rd_T58 t173 0).f2).length c176_2) := (blk_cell BK169.out 2).trans rfl
          have hfz65_0 := blk_frozen BK169.out 0
          have hfz65_1 := blk_frozen BK169.out 1
          have hfz65_2 := blk_frozen BK169.out 2
          try go_wp2_with (first | ((with_reducible refine gate_dst (N := 21) rfl ?_); (try (refine gate_guard (by rfl) ?_; dsimp only)); refine Kd.N_lit k58 _ 58 ?hg (N' := 21) ?hd (xs := ([(⟨(rd_T58 t173 0).f0, (rd_T58 t173 0).f1, (rd_T58 t173 0).f2⟩ : S58)] : List (S58))) (inner := [.int .i64 ((rd_T58 t173 0).f0), .string ((rd_T58 t173 0).f1), .slice A176_2 ((rd_T58 t173 0).f2).length c176_2]) (ok := (fun k_ => (P0_2_ k_ ∨ w.heap.size ≤ k_) ∧ some k_ ≠ (.slice Ao13 y170.length co13 : Value).ownBlock ∧ some k_ ≠ (.slice (some ad176) t173.length co15 : Value).ownBlock ∧ some k_ ≠ (v179 : Value).ownBlock ∧ k_ ≠ gb169)) (okp := (fun k_ => (P0_2_ k_ ∨ w.heap.size ≤ k_) ∧ some k_ ≠ (.slice Ao13 y170.length co13 : Value).ownBlock ∧ some k_ ≠ (.slice (some ad176) t173.length co15 : Value).ownBlock ∧ some k_ ≠ (v179 : Value).ownBlock ∧ k_ ≠ gb169)) ?hr ?hp (fun _ hk => hk) ((show ∀ k_, w64.heap.size ≤ k_ → (fun k_ => (P0_2_ k_ ∨ w.heap.size ≤ k_) ∧ some k_ ≠ (.slice Ao13 y170.length co13 : Value).ownBlock ∧ some k_ ≠ (.slice (some ad176) t173.length co15 : Value).ownBlock ∧ some k_ ≠ (v179 : Value).ownBlock ∧ k_ ≠ gb169) k_ from fun k_ hk => ⟨(.inr (Nat.le_trans (below_size (by repeat (first | (with_reducible first | exact HB.out | apply below_alloc | apply pw_below_drewN | apply below_drew1 | refine below_set ?_ GE169.out) | exact HB.out))) hk)), Kd.fresh' (Kd.N_lt (by (with_reducible repeat (first | apply Kd.N_alloc | apply Kd.N_drewN | apply Kd.N_drew)); exact HO172.out)) k_ hk, Kd.fresh' (Kd.N_lt (by (with_reducible repeat (first | apply Kd.N_alloc | apply Kd.N_drewN | apply Kd.N_drew)); exact HO175.out)) k_ hk, Kd.fresh' (Kd.R_lt (by (with_reducible repeat (first | apply Kd.R_alloc | apply Kd.R_drewN | apply Kd.R_drew)); exact HO180.out)) k_ hk, Kd.freshB (g := gb169) (o := .cells #[.int .i64 ((rd_T58 t173 0).f0), .string ((rd_T58 t173 0).f1), .slice A176_2 ((rd_T58 t173 0).f2).length c176_2] 58 (0, 0)) (by (with_reducible repeat (first | refine blk_drewN ?_ _ | refine blk_drew ?_ | refine blk_alloc ?_ _)); exact BK169.out) k_ hk⟩) _ (Nat.le_refl _)) (Below.refl _ _) (Nat.le_refl _) (by simp) ?_; (case hd => rfl); (case hg => rfl); (case hr => first | (go_simp; done) | (go_simp; rfl)); (case hp => exact (Reps.c3 (show Kd.FK k58 _ _ (⟨(rd_T58 t173 0).f0, (rd_T58 t173 0).f1, (rd_T58 t173 0).f2⟩ : S58) [.int .i64 ((rd_T58 t173 0).f0), .string ((rd_T58 t173 0).f1), .slice A176_2 ((rd_T58 t173 0).f2).length c176_2] from (k58_mkF _ _ (⟨(rd_T58 t173 0).f0, (rd_T58 t173 0).f1, (rd_T58 t173 0).f2⟩ : S58) (Kd.V_reads' (Kd.V_mono (ok' := (fun k_ => (P0_2_ k_ ∨ w.heap.size ≤ k_) ∧ some k_ ≠ (.slice Ao13 y170.length co13 : Value).ownBlock ∧ some k_ ≠ (.slice (some ad176) t173.length co15 : Value).ownBlock ∧ some k_ ≠ (v179 : Value).ownBlock ∧ k_ ≠ gb169)) (HL176_2.out) (fun k_ hk => ⟨hk.1, ⟨hk.2.1, ⟨hk.2.2.1, ⟨hk.2.2.2.1, hk.2.2.2.2⟩⟩⟩⟩))).2.1 (Kd.V_F (Kd.V_mono (ok' := (fun k_ => (P0_2_ k_ ∨ w.heap.size ≤ k_) ∧ some k_ ≠ (.slice Ao13 y170.length co13 : Value).ownBlock ∧ some k_ ≠ (.slice (some ad176) t173.length co15 : Value).ownBlock ∧ some k_ ≠ (v179 : Value).ownBlock ∧ k_ ≠ gb169)) (HL176_2.out) (fun k_ hk => ⟨hk.1, ⟨hk.2.1, ⟨hk.2.2.1, ⟨hk.2.2.2.1, hk.2.2.2.2⟩⟩⟩⟩))))) (Reps.none _ _))); intro v182 w66 ho67 hb hg_ hnew_; clear hg_ hnew_; (first | rw [← Ny181.out] at ho67 | (simp only [Int.reduceToNat] at ho67; rw [← Ny181.out] at ho67)); have n0_ := Aside0.mk (Kd.V_elder' (by (with_reducible repeat (first | apply Kd.V_alloc | apply Kd.V_drewN | apply Kd.V_drew)); exact HO0_2.out) (Kd.N_base ho67) hb); have n1_ := Aside0.mk (Kd.N_elder' (by (with_reducible repeat (first | apply Kd.N_alloc | apply Kd.N_drewN | apply Kd.N_drew)); exact HO172.out) (Kd.N_base ho67) hb); have n2_ := Aside0.mk (Kd.N_elder' (by (with_reducible repeat (first | apply Kd.N_alloc | apply Kd.N_drewN | apply Kd.N_drew)); exact HO175.out) (Kd.N_base ho67) hb); have n3_ := Aside0.mk (Kd.V_elder' (by (with_reducible repeat (first | apply Kd.V_alloc | apply Kd.V_drewN | apply Kd.V_drew)); exact HL176_2.out) (Kd.N_base ho67) hb); have n4_ := Aside0.mk (Kd.R_below (by (with_reducible repeat (first | apply Kd.R_alloc | apply Kd.R_drewN | apply Kd.R_drew)); exact HO180.out) hb); have n5_ := Aside0.mk (Kd.N_lower ho67 (below_size (by repeat (first | (with_reducible first | exact HB.out | apply below_alloc | apply pw_below_drewN | apply below_drew1 | refine below_set ?_ GE169.out) | exact HB.out)))); have n6_ := Aside0.mk (blk_below (g := gb169) (o := .cells #[.int .i64 ((rd_T58 t173 0).f0), .string ((rd_T58 t173 0).f1), .slice A176_2 ((rd_T58 t173 0).f2).length c176_2] 58 (0, 0)) (by (with_reducible repeat (first | refine blk_drewN ?_ _ | refine blk_drew ?_ | refine blk_alloc ?_ _)); exact BK169.out) hb); have n7_ := Aside0.mk (below_step (by repeat (first | (with_reducible first | exact HB.out | apply below_alloc | apply pw_below_drewN | apply below_drew1 | refine below_set ?_ GE169.out) | exact HB.out)) hb); clear HO0_2; clear HO172; clear HO175; clear HL176_2; clear HO180; clear BK169; clear HB; have HO0_2 := n0_; have HO172 := n1_; have HO175 := n2_; have HL176_2 := n3_; have HO180 := n4_; have HO183 := n5_; have BK169 := n6_; have HB := n7_; clear n0_ n1_ n2_ n3_ n4_ n5_ n6_ n7_; clear hb ho67; obtain ⟨Ao68, co68, eo68⟩ := Kd.N_slice HO183.out; subst eo68) | ((with_reducible refine _root_.Go.Proofs.YtcakednecmngdaaDoorW.PrintMore.gate_callee (f := 56) rfl ?_); refine goesL_ (some 22) rfl rfl Tryd.func56 (by kernel_rfl) rfl #[.slice Ao68 y181.length co68] rfl (by (try simp only [List.map_toArray, List.map_cons, List.map_nil]); first | done | rfl | (simp only [List.length_drop, List.length_take]; rfl)) ?_; (with_reducible refine (tollref08_Needs.calls k _ _ y181 true _ ?side1 ?side2 A20.out).mono ?_); (case side1 => repeat (first | exact (Kd.N_reads' HO183.out).2.2 | (with_reducible refine Kd.C_alloc ?_ _) | (with_reducible refine Kd.C_drewN ?_ _) | (with_reducible refine Kd.C_drew ?_))); (case side2 => exact (Kd.N_reads' HO183.out).2.1); rintro e w69 ⟨rfl, hb⟩; refine ⟨_, rfl, ?_⟩; have n0_ := Aside0.mk (Kd.V_below (by (with_reducible repeat (first | apply Kd.V_alloc | apply Kd.V_drewN | apply Kd.V_drew)); exact HO0_2.out) hb); have n1_ := Aside0.mk (Kd.N_below (by (with_reducible repeat (first | apply Kd.N_alloc | apply Kd.N_drewN | apply Kd.N_drew)); exact HO172.out) hb); have n2_ := Aside0.mk (Kd.N_below (by (with_reducible repeat (first | apply Kd.N_alloc | apply Kd.N_drewN | apply Kd.N_drew)); exact HO175.out) hb); have n3_ := Aside0.mk (Kd.V_below (by (with_reducible repeat (first | apply Kd.V_alloc | apply Kd.V_drewN | apply Kd.V_drew)); exact HL176_2.out) hb); have n4_ := Aside0.mk (Kd.R_below (by (with_reducible repeat (first | apply Kd.R_alloc | apply Kd.R_drewN | apply Kd.R_drew)); exact HO180.out) hb); have n5_ := Aside0.mk (Kd.N_below (by (with_reducible repeat (first | apply Kd.N_alloc | apply Kd.N_drewN | apply Kd.N_drew)); exact HO183.out) hb); have n6_ := Aside0.mk (blk_below (g := gb169) (o := .cells #[.int .i64 ((rd_T58 t173 0).f0), .string ((rd_T58 t173 0).f1), .slice A176_2 ((rd_T58 t173 0).f2).length c176_2] 58 (0, 0)) (by (with_reducible repeat (first | refine blk_drewN ?_ _ | refine blk_drew ?_ | refine blk_alloc ?_ _)); exact BK169.out) hb); have n7_ := Aside0.mk (below_step (by repeat (first | (with_reducible first | exact HB.out | apply below_alloc | apply pw_below_drewN | apply below_drew1 | refine below_set ?_ GE169.out) | exact HB.out)) hb); clear HO0_2; clear HO172; clear HO175; clear HL176_2; clear HO180; clear HO183; clear BK169; clear HB; have HO0_2 := n0_; have HO172 := n1_; have HO175 := n2_; have HL176_2 := n3_; have HO180 := n4_; have HO183 := n5_; have BK169 := n6_; have HB := n7_; clear n0_ n1_ n2_ n3_ n4_ n5_ n6_ n7_; (try clear hb); (try clear hb2); (try clear hk); (try clear hi); obtain ⟨Ao70, co70, eo70⟩ := Kd.R_slice HO180.out; subst eo70) | (go_at_call 57; (with_reducible refine (tollref08_May.calls k _ _ t178 false _ ?side1 ?side2 A22.out).mono ?_); (case side1 => repeat (first | exact (Kd.R_reads' HO180.out).2.2 | (with_reducible refine Kd.C_alloc ?_ _) | (with_reducible refine Kd.C_drewN ?_ _) | (with_reducible refine Kd.C_drew ?_))); (case side2 => exact (Kd.R_reads' HO180.out).2.1); rintro e w71 ⟨rfl, hb⟩; have n0_ := Aside0.mk (Kd.V_below (by (with_reducible repeat (first | apply Kd.V_alloc | apply Kd.V_drewN | apply Kd.V_drew)); exact HO0_2.out) hb); have n1_ := Aside0.mk (Kd.N_below (by (with_reducible repeat (first | apply Kd.N_alloc | apply Kd.N_drewN | apply Kd.N_drew)); exact HO172.out) hb); have n2_ := Aside0.mk (Kd.N_below (by (with_reducible repeat (first | apply Kd.N_alloc | apply Kd.N_drewN | apply Kd.N_drew)); exact HO175.out) hb); have n3_ := Aside0.mk (Kd.V_below (by (with_reducible repeat (first | apply Kd.V_alloc | apply Kd.V_drewN | apply Kd.V_drew)); exact HL176_2.out) hb); have n4_ := Aside0.mk (Kd.R_below (by (with_reducible repeat (first | apply Kd.R_alloc | apply Kd.R_drewN | apply Kd.R_drew)); exact HO180.out) hb); have n5_ := Aside0.mk (Kd.N_below (by (with_reducible repeat (first | apply Kd.N_alloc | apply Kd.N_drewN | apply Kd.N_drew)); exact HO183.out) hb); have n6_ := Aside0.mk (blk_below (g := gb169) (o := .cells #[.int .i64 ((rd_T58 t173 0).f0), .string ((rd_T58 t173 0).f1), .slice A176_2 ((rd_T58 t173 0).f2).length c176_2] 58 (0, 0)) (by (with_reducible repeat (first | refine blk_drewN ?_ _ | refine blk_drew ?_ | refine blk_alloc ?_ _)); exact BK169.out) hb); have n7_ := Aside0.mk (below_step (by repeat (first | (with_reducible first | exact HB.out | apply below_alloc | apply pw_below_drewN | apply below_drew1 | refine below_set ?_ GE169.out) | exact HB.out)) hb); clear HO0_2; clear HO172; clear HO175; clear HL176_2; clear HO180; clear HO183; clear BK169; clear HB; have HO0_2 := n0_; have HO172 := n1_; have HO175 := n2_; have HL176_2 := n3_; have HO180 := n4_; have HO183 := n5_; have BK169 := n6_; have HB := n7_; clear n0_ n1_ n2_ n3_ n4_ n5_ n6_ n7_; (try clear hb); (try clear hb2); (try clear hk); (try clear hi)))
          go_meet
          case rel => exact ⟨_, (true), (by first | rfl | (simp; done) | (simp [*]; done)), H', ⟨by first | omega | exact Nat.le_refl _⟩, ⟨by (with_reducible repeat (first | apply Kd.R_alloc | apply Kd.R_drewN | apply Kd.R_drew)); exact HO180.out⟩, ⟨by (with_reducible repeat (first | apply Kd.V_alloc | apply Kd.V_drewN | apply Kd.V_drew)); exact Kd.V_mono HL176_2.out (fun _ hk => ⟨hk.1.1, ⟨hk.1.2.2.2.1, hk.1.2.2.2.2⟩⟩)⟩, ⟨by (with_reducible repeat (first | refine blk_drewN ?_ _ | refine blk_drew ?_ | refine blk_alloc ?_ _)); exact BK169.out⟩, ⟨by repeat (first | (with_reducible first | exact HB.out | apply below_alloc | apply pw_below_drewN | apply below_drew1 | refine below_set ?_ GE169.out) | exact HB.out)⟩⟩
      · replace c21 := Bool.eq_false_iff.mpr c21
        subst c21
        have H1 : (tolllaw08_LabelKinds.j0 k t177 t178 true ((rd_T58 t173 0).f0) ((rd_T58 t173 0).f1) ((rd_T58 t173 0).f2)) = some true := by rw [if_neg (show ¬ (false = true) by decide)] at H; exact H
        clear H
        have H := H1
        clear H1
        have H' := Aside0.mk H
        clear H
        have n0_ : Aside0 (Kd.V Kd.string 9 (((w16.setCell ⟨gb169, 0, none⟩ (.int .i64 ((rd_T58 t173 0).f0))).setCell ⟨gb169, 1, none⟩ (.string ((rd_T58 t173 0).f1))).setCell ⟨gb169, 2, none⟩ (.slice A176_2 ((rd_T58 t173 0).f2).length c176_2)) w.heap.size (fun k_ => (P0_2_ k_ ∨ w.heap.size ≤ k_) ∧ some k_ ≠ (.slice Ao13 y170.length co13 : Value).ownBlock ∧ some k_ ≠ (.slice (some ad176) t173.length co15 : Value).ownBlock ∧ some k_ ≠ (v179 : Value).ownBlock ∧ k_ ≠ gb169) (.slice A0_2 l0_2.length c0_2) l0_2) := ⟨by (with_reducible repeat (first | apply Kd.V_alloc | apply Kd.V_drewN | apply Kd.V_drew)); exact Kd.V_mono (Kd.V_far (p := ⟨gb169, 2, none⟩) (Kd.V_far (p := ⟨gb169, 1, none⟩) (Kd.V_far (p := ⟨gb169, 0, none⟩) (Kd.V_mono HO0_2.out (fun k_ hk => (⟨hk, hk.1.1.1.2⟩ : _ ∧ k_ ≠ gb169))) (fun _ hk => hk.2) (.int .i64 ((rd_T58 t173 0).f0))) (fun _ hk => hk.2) (.string ((rd_T58 t173 0).f1))) (fun _ hk => hk.2) (.slice A176_2 ((rd_T58 t173 0).f2).length c176_2)) (fun _ hk => ⟨hk.1.1.1.1.1, ⟨hk.1.1.1.2, ⟨hk.1.1.2, ⟨hk.1.2, hk.1.1.1.1.2⟩⟩⟩⟩)⟩
        have n1_ : Aside0 (Kd.N k58 58 (((w16.setCell ⟨gb169, 0, none⟩ (.int .i64 ((rd_T58 t173 0).f0))).setCell ⟨gb169, 1, none⟩ (.string ((rd_T58 t173 0).f1))).setCell ⟨gb169, 2, none⟩ (.slice A176_2 ((rd_T58 t173 0).f2).length c176_2)) w.heap.size (fun k_ => (P0_2_ k_ ∨ w.heap.size ≤ k_) ∧ some k_ ≠ (.slice (some ad176) t173.length co15 : Value).ownBlock ∧ some k_ ≠ (v179 : Value).ownBlock ∧ k_ ≠ gb169) (.slice Ao13 y170.length co13) y170) := ⟨by (with_reducible repeat (first | apply Kd.N_alloc | apply Kd.N_drewN | apply Kd.N_drew)); exact Kd.N_mono (Kd.N_far (p := ⟨gb169, 2, none⟩) (Kd.N_far (p := ⟨gb169, 1, none⟩) (Kd.N_far (p := ⟨gb169, 0, none⟩) (Kd.N_mono HO172.out (fun k_ hk => (⟨hk, hk.1.1.2⟩ : _ ∧ k_ ≠ gb169))) (fun _ hk => hk.2) (.int .i64 ((rd_T58 t173 0).f0))) (fun _ hk => hk.2) (.string ((rd_T58 t173 0).f1))) (fun _ hk => hk.2) (.slice A176_2 ((rd_T58 t173 0).f2).length c176_2)) (fun _ hk => ⟨hk.1.1.1.1, ⟨hk.1.1.2, ⟨hk.1.2, hk.1.1.1.2⟩⟩⟩)⟩
        have n2_ : Aside0 (Kd.N k58 58 (((w16.setCell ⟨gb169, 0, none⟩ (.int .i64 ((rd_T58 t173 0).f0))).setCell ⟨gb169, 1, none⟩ (.string ((rd_T58 t173 0).f1))).setCell ⟨gb169, 2, none⟩ (.slice A176_2 ((rd_T58 t173 0).f2).length c176_2)) w.heap.size (fun k_ => (P0_2_ k_ ∨ w.heap.size ≤ k_) ∧ some k_ ≠ (.slice Ao13 y170.length co13 : Value).ownBlock ∧ some k_ ≠ (v179 : Value).ownBlock ∧ k_ ≠ gb169) (.slice (some ad176) t173.length co15) t173) := ⟨by (with_reducible repeat (first | apply Kd.N_alloc | apply Kd.N_drewN | apply Kd.N_drew)); exact Kd.N_mono (Kd.N_far (p := ⟨gb169, 2, none⟩) (Kd.N_far (p := ⟨gb169, 1, none⟩) (Kd.N_far (p := ⟨gb169, 0, none⟩) (Kd.N_mono HO175.out (fun k_ hk => (⟨hk, hk.1.2.2⟩ : _ ∧ k_ ≠ gb169))) (fun _ hk => hk.2) (.int .i64 ((rd_T58 t173 0).f0))) (fun _ hk => hk.2) (.string ((rd_T58 t173 0).f1))) (fun _ hk => hk.2) (.slice A176_2 ((rd_T58 t173 0).f2).length c176_2)) (fun _ hk => ⟨hk.1.1.1, ⟨hk.1.1.2.1, ⟨hk.1.2, hk.1.1.2.2⟩⟩⟩)⟩
        have n3_ : Aside0 (Kd.V Kd.string 9 (((w16.setCell ⟨gb169, 0, none⟩ (.int .i64 ((rd_T58 t173 0).f0))).setCell ⟨gb169, 1, none⟩ (.string ((rd_T58 t173 0).f1))).setCell ⟨gb169, 2, none⟩ (.slice A176_2 ((rd_T58 t173 0).f2).length c176_2)) w.heap.size (fun k_ => (P0_2_ k_ ∨ w.heap.size ≤ k_) ∧ some k_ ≠ (.slice Ao13 y170.length co13 : Value).ownBlock ∧ some k_ ≠ (.slice (some ad176) t173.length co15 : Value).ownBlock ∧ some k_ ≠ (v179 : Value).ownBlock ∧ k_ ≠ gb169) (.slice A176_2 ((rd_T58 t173 0).f2).length c176_2) ((rd_T58 t173 0).f2)) := ⟨by (with_reducible repeat (first | apply Kd.V_alloc | apply Kd.V_drewN | apply Kd.V_drew)); exact Kd.V_mono (Kd.V_far (p := ⟨gb169, 2, none⟩) (Kd.V_far (p := ⟨gb169, 1, none⟩) (Kd.V_far (p := ⟨gb169, 0, none⟩) (Kd.V_mono HL176_2.out (fun k_ hk => (⟨hk, hk.1.1.2.2⟩ : _ ∧ k_ ≠ gb169))) (fun _ hk => hk.2) (.int .i64 ((rd_T58 t173 0).f0))) (fun _ hk => hk.2) (.string ((rd_T58 t173 0).f1))) (fun _ hk => hk.2) (.slice A176_2 ((rd_T58 t173 0).f2).length c176_2)) (fun _ hk => ⟨hk.1.1.1.1, ⟨hk.1.1.1.2.1, ⟨hk.1.1.2, ⟨hk.1.2, hk.1.1.1.2.2⟩⟩⟩⟩)⟩
        have n4_ : Aside0 (Kd.R k55 55 (((w16.setCell ⟨gb169, 0, none⟩ (.int .i64 ((rd_T58 t173 0).f0))).setCell ⟨gb169, 1, none⟩ (.string ((rd_T58 t173 0).f1))).setCell ⟨gb169, 2, none⟩ (.slice A176_2 ((rd_T58 t173 0).f2).length c176_2)) w.heap.size (fun k_ => (w.heap.size ≤ k_)) v179 t178) := ⟨by (with_reducible repeat (first | apply Kd.R_alloc | apply Kd.R_drewN | apply Kd.R_drew)); exact Kd.R_mono (Kd.R_far (p := ⟨gb169, 2, none⟩) (Kd.R_far (p := ⟨gb169, 1, none⟩) (Kd.R_far (p := ⟨gb169, 0, none⟩) (Kd.R_types HO180.out BK169.out (by decide)) (fun _ hk => hk.2) (.int .i64 ((rd_T58 t173 0).f0))) (fun _ hk => hk.2) (.string ((rd_T58 t173 0).f1))) (fun _ hk => hk.2) (.slice A176_2 ((rd_T58 t173 0).f2).length c176_2)) (fun _ hk => hk.1.1)⟩
        have n5_ : Aside0 ((((w16.setCell ⟨gb169, 0, none⟩ (.int .i64 ((rd_T58 t173 0).f0))).setCell ⟨gb169, 1, none⟩ (.string ((rd_T58 t173 0).f1))).setCell ⟨gb169, 2, none⟩ (.slice A176_2 ((rd_T58 t173 0).f2).length c176_2)).heap[gb169]? = some (.cells #[.int .i64 ((rd_T58 t173 0).f0), .string ((rd_T58 t173 0).f1), .slice A176_2 ((rd_T58 t173 0).f2).length c176_2] 58 (0, 0))) := ⟨by (with_reducible repeat (first | refine blk_drewN ?_ _ | refine blk_drew ?_ | refine blk_alloc ?_ _)); refine blk_put (cs := #[.int .i64 ((rd_T58 t173 0).f0), .string ((rd_T58 t173 0).f1), .slice A0_2 l0_2.length c0_2]) ?_ 2 _ rfl; (with_reducible repeat (first | refine blk_drewN ?_ _ | refine blk_drew ?_ | refine blk_alloc ?_ _)); refine blk_put (cs := #[.int .i64 ((rd_T58 t173 0).f0), .string a0_1, .slice A0_2 l0_2.length c0_2]) ?_ 1 _ rfl; (with_reducible repeat (first | refine blk_drewN ?_ _ | refine blk_drew ?_ | refine blk_alloc ?_ _)); refine blk_put (cs := #[.int .i64 a0_0, .string a0_1, .slice A0_2 l0_2.length c0_2]) ?_ 0 _ rfl; (with_reducible repeat (first | refine blk_drewN ?_ _ | refine blk_drew ?_ | refine blk_alloc ?_ _)); exact BK169.out⟩
        have n6_ : Aside0 (Below w.heap.size w (((w16.setCell ⟨gb169, 0, none⟩ (.int .i64 ((rd_T58 t173 0).f0))).setCell ⟨gb169, 1, none⟩ (.string ((rd_T58 t173 0).f1))).setCell ⟨gb169, 2, none⟩ (.slice A176_2 ((rd_T58 t173 0).f2).length c176_2))) := ⟨by repeat (first | (with_reducible first | exact HB.out | apply below_alloc | apply pw_below_drewN | apply below_drew1 | refine below_set ?_ GE169.out) | exact HB.out)⟩
        (try clear HO0_2)
        (try clear HO172)
        (try clear HO175)
        (try clear HL176_2)
        (try clear HO180)
        (try clear BK169)
        (try clear HB)
        generalize (((w16.setCell ⟨gb169, 0, none⟩ (.int .i64 ((rd_T58 t173 0).f0))).setCell ⟨gb169, 1, none⟩ (.string ((rd_T58 t173 0).f1))).setCell ⟨gb169, 2, none⟩ (.slice A176_2 ((rd_T58 t173 0).f2).length c176_2)) = w72 at n0_ n1_ n2_ n3_ n4_ n5_ n6_ ⊢
        have HO0_2 := n0_
        have HO172 := n1_
        have HO175 := n2_
        have HL176_2 := n3_
        have HO180 := n4_
        have BK169 := n5_
        have HB := n6_
        clear n0_ n1_ n2_ n3_ n4_ n5_ n6_
        have hcz73_0 : w72.cell? ⟨gb169, 0, none⟩ = some (.int .i64 ((rd_T58 t173 0).f0)) := (blk_cell BK169.out 0).trans rfl
        have hcz73_1 : w72.cell? ⟨gb169, 1, none⟩ = some (.string ((rd_T58 t173 0).f1)) := (blk_cell BK169.out 1).trans rfl
        have hcz73_2 : w72.cell? ⟨gb169, 2, none⟩ = some (.slice A176_2 ((rd_T58 t173 0).f2).length c176_2) := (blk_cell BK169.out 2).trans rfl
        have hfz73_0 := blk_frozen BK169.out 0
        have hfz73_1 := blk_frozen BK169.out 1
        have hfz73_2 := blk_frozen BK169.out 2
        try go_wp2_with (first | ((with_reducible refine gate_dst (N := 21) rfl ?_); (try (refine gate_guard (by rfl) ?_; dsimp only)); refine Kd.N_lit k58 _ 58 ?hg (N' := 21) ?hd (xs := ([(⟨(rd_T58 t173 0).f0, (rd_T58 t173 0).f1, (rd_T58 t173 0).f2⟩ : S58)] : List (S58))) (inner := [.int .i64 ((rd_T58 t173 0).f0), .string ((rd_T58 t173 0).f1), .slice A176_2 ((rd_T58 t173 0).f2).length c176_2]) (ok := (fun k_ => (P0_2_ k_ ∨ w.heap.size ≤ k_) ∧ some k_ ≠ (.slice Ao13 y170.length co13 : Value).ownBlock ∧ some k_ ≠ (.slice (some ad176) t173.length co15 : Value).ownBlock ∧ some k_ ≠ (v179 : Value).ownBlock ∧ k_ ≠ gb169)) (okp := (fun k_ => (P0_2_ k_ ∨ w.heap.size ≤ k_) ∧ some k_ ≠ (.slice Ao13 y170.length co13 : Value).ownBlock ∧ some k_ ≠ (.slice (some ad176) t173.length co15 : Value).ownBlock ∧ some k_ ≠ (v179 : Value).ownBlock ∧ k_ ≠ gb169)) ?hr ?hp (fun _ hk => hk) ((show ∀ k_, w72.heap.size ≤ k_ → (fun k_ => (P0_2_ k_ ∨ w.heap.size ≤ k_) ∧ some k_ ≠ (.slice Ao13 y170.length co13 : Value).ownBlock ∧ some k_ ≠ (.slice (some ad176) t173.length co15 : Value).ownBlock ∧ some k_ ≠ (v179 : Value).ownBlock ∧ k_ ≠ gb169) k_ from fun k_ hk => ⟨(.inr (Nat.le_trans (below_size (by repeat (first | (with_reducible first | exact HB.out | apply below_alloc | apply pw_below_drewN | apply below_drew1 | refine below_set ?_ GE169.out) | exact HB.out))) hk)), Kd.fresh' (Kd.N_lt (by (with_reducible repeat (first | apply Kd.N_alloc | apply Kd.N_drewN | apply Kd.N_drew)); exact HO172.out)) k_ hk, Kd.fresh' (Kd.N_lt (by (with_reducible repeat (first | apply Kd.N_alloc | apply Kd.N_drewN | apply Kd.N_drew)); exact HO175.out)) k_ hk, Kd.fresh' (Kd.R_lt (by (with_reducible repeat (first | apply Kd.R_alloc | apply Kd.R_drewN | apply Kd.R_drew)); exact HO180.out)) k_ hk, Kd.freshB (g := gb169) (o := .cells #[.int .i64 ((rd_T58 t173 0).f0), .string ((rd_T58 t173 0).f1), .slice A176_2 ((rd_T58 t173 0).f2).length c176_2] 58 (0, 0)) (by (with_reducible repeat (first | refine blk_drewN ?_ _ | refine blk_drew ?_ | refine blk_alloc ?_ _)); exact BK169.out) k_ hk⟩) _ (Nat.le_refl _)) (Below.refl _ _) (Nat.le_refl _) (by simp) ?_; (case hd => rfl); (case hg => rfl); (case hr => first | (go_simp; done) | (go_simp; rfl)); (case hp => exact (Reps.c3 (show Kd.FK k58 _ _ (⟨(rd_T58 t173 0).f0, (rd_T58 t173 0).f1, (rd_T58 t173 0).f2⟩ : S58) [.int .i64 ((rd_T58 t173 0).f0), .string ((rd_T58 t173 0).f1), .slice A176_2 ((rd_T58 t173 0).f2).length c176_2] from (k58_mkF _ _ (⟨(rd_T58 t173 0).f0, (rd_T58 t173 0).f1, (rd_T58 t173 0).f2⟩ : S58) (Kd.V_reads' (Kd.V_mono (ok' := (fun k_ => (P0_2_ k_ ∨ w.heap.size ≤ k_) ∧ some k_ ≠ (.slice Ao13 y170.length co13 : Value).ownBlock ∧ some k_ ≠ (.slice (some ad176) t173.length co15 : Value).ownBlock ∧ some k_ ≠ (v179 : Value).ownBlock ∧ k_ ≠ gb169)) (HL176_2.out) (fun k_ hk => ⟨hk.1, ⟨hk.2.1, ⟨hk.2.2.1, ⟨hk.2.2.2.1, hk.2.2.2.2⟩⟩⟩⟩))).2.1 (Kd.V_F (Kd.V_mono (ok' := (fun k_ => (P0_2_ k_ ∨ w.heap.size ≤ k_) ∧ some k_ ≠ (.slice Ao13 y170.length co13 : Value).ownBlock ∧ some k_ ≠ (.slice (some ad176) t173.length co15 : Value).ownBlock ∧ some k_ ≠ (v179 : Value).ownBlock ∧ k_ ≠ gb169)) (HL176_2.out) (fun k_ hk => ⟨hk.1, ⟨hk.2.1, ⟨hk.2.2.1, ⟨hk.2.2.2.1, hk.2.2.2.2⟩⟩⟩⟩))))) (Reps.none _ _))); intro v182 w74 ho75 hb hg_ hnew_; clear hg_ hnew_; (first | rw [← Ny181.out] at ho75 | (simp only [Int.reduceToNat] at ho75; rw [← Ny181.out] at ho75)); have n0_ := Aside0.mk (Kd.V_elder' (by (with_reducible repeat (first | apply Kd.V_alloc | apply Kd.V_drewN | apply Kd.V_drew)); exact HO0_2.out) (Kd.N_base ho75) hb); have n1_ := Aside0.mk (Kd.N_elder' (by (with_reducible repeat (first | apply Kd.N_alloc | apply Kd.N_drewN | apply Kd.N_drew)); exact HO172.out) (Kd.N_base ho75) hb); have n2_ := Aside0.mk (Kd.N_elder' (by (with_reducible repeat (first | apply Kd.N_alloc | apply Kd.N_drewN | apply Kd.N_drew)); exact HO175.out) (Kd.N_base ho75) hb); have n3_ := Aside0.mk (Kd.V_elder' (by (with_reducible repeat (first | apply Kd.V_alloc | apply Kd.V_drewN | apply Kd.V_drew)); exact HL176_2.out) (Kd.N_base ho75) hb); have n4_ := Aside0.mk (Kd.R_below (by (with_reducible repeat (first | apply Kd.R_alloc | apply Kd.R_drewN | apply Kd.R_drew)); exact HO180.out) hb); have n5_ := Aside0.mk (Kd.N_lower ho75 (below_size (by repeat (first | (with_reducible first | exact HB.out | apply below_alloc | apply pw_below_drewN | apply below_drew1 | refine below_set ?_ GE169.out) | exact HB.out)))); have n6_ := Aside0.mk (blk_below (g := gb169) (o := .cells #[.int .i64 ((rd_T58 t173 0).f0), .string ((rd_T58 t173 0).f1), .slice A176_2 ((rd_T58 t173 0).f2).length c176_2] 58 (0, 0)) (by (with_reducible repeat (first | refine blk_drewN ?_ _ | refine blk_drew ?_ | refine blk_alloc ?_ _)); exact BK169.out) hb); have n7_ := Aside0.mk (below_step (by repeat (first | (with_reducible first | exact HB.out | apply below_alloc | apply pw_below_drewN | apply below_drew1 | refine below_set ?_ GE169.out) | exact HB.out)) hb); clear HO0_2; clear HO172; clear HO175; clear HL176_2; clear HO180; clear BK169; clear HB; have HO0_2 := n0_; have HO172 := n1_; have HO175 := n2_; have HL176_2 := n3_; have HO180 := n4_; have HO183 := n5_; have BK169 := n6_; have HB := n7_; clear n0_ n1_ n2_ n3_ n4_ n5_ n6_ n7_; clear hb ho75; obtain ⟨Ao76, co76, eo76⟩ := Kd.N_slice HO183.out; subst eo76) | ((with_reducible refine _root_.Go.Proofs.YtcakednecmngdaaDoorW.PrintMore.gate_callee (f := 56) rfl ?_); refine goesL_ (some 22) rfl rfl Tryd.func56 (by kernel_rfl) rfl #[.slice Ao76 y181.length co76] rfl (by (try simp only [List.map_toArray, List.map_cons, List.map_nil]); first | done | rfl | (simp only [List.length_drop, List.length_take]; rfl)) ?_; (with_reducible refine (tollref08_Needs.calls k _ _ y181 false _ ?side1 ?side2 A20.out).mono ?_); (case side1 => repeat (first | exact (Kd.N_reads' HO183.out).2.2 | (with_reducible refine Kd.C_alloc ?_ _) | (with_reducible refine Kd.C_drewN ?_ _) | (with_reducible refine Kd.C_drew ?_))); (case side2 => exact (Kd.N_reads' HO183.out).2.1); rintro e w77 ⟨rfl, hb⟩; refine ⟨_, rfl, ?_⟩; have n0_ := Aside0.mk (Kd.V_below (by (with_reducible repeat (first | apply Kd.V_alloc | apply Kd.V_drewN | apply Kd.V_drew)); exact HO0_2.out) hb); have n1_ := Aside0.mk (Kd.N_below (by (with_reducible repeat (first | apply Kd.N_alloc | apply Kd.N_drewN | apply Kd.N_drew)); exact HO172.out) hb); have n2_ := Aside0.mk (Kd.N_below (by (with_reducible repeat (first | apply Kd.N_alloc | apply Kd.N_drewN | apply Kd.N_drew)); exact HO175.out) hb); have n3_ := Aside0.mk (Kd.V_below (by (with_reducible repeat (first | apply Kd.V_alloc | apply Kd.V_drewN | apply Kd.V_drew)); exact HL176_2.out) hb); have n4_ := Aside0.mk (Kd.R_below (by (with_reducible repeat (first | apply Kd.R_alloc | apply Kd.R_drewN | apply Kd.R_drew)); exact HO180.out) hb); have n5_ := Aside0.mk (Kd.N_below (by (with_reducible repeat (first | apply Kd.N_alloc | apply Kd.N_drewN | apply Kd.N_drew)); exact HO183.out) hb); have n6_ := Aside0.mk (blk_below (g := gb169) (o := .cells #[.int .i64 ((rd_T58 t173 0).f0), .string ((rd_T58 t173 0).f1), .slice A176_2 ((rd_T58 t173 0).f2).length c176_2] 58 (0, 0)) (by (with_reducible repeat (first | refine blk_drewN ?_ _ | refine blk_drew ?_ | refine blk_alloc ?_ _)); exact BK169.out) hb); have n7_ := Aside0.mk (below_step (by repeat (first | (with_reducible first | exact HB.out | apply below_alloc | apply pw_below_drewN | apply below_drew1 | refine below_set ?_ GE169.out) | exact HB.out)) hb); clear HO0_2; clear HO172; clear HO175; clear HL176_2; clear HO180; clear HO183; clear BK169; clear HB; have HO0_2 := n0_; have HO172 := n1_; have HO175 := n2_; have HL176_2 := n3_; have HO180 := n4_; have HO183 := n5_; have BK169 := n6_; have HB := n7_; clear n0_ n1_ n2_ n3_ n4_ n5_ n6_ n7_; (try clear hb); (try clear hb2); (try clear hk); (try clear hi)))
        go_meet
        case rel => exact ⟨_, (true), (by first | rfl | (simp; done) | (simp [*]; done)), H', ⟨by first | omega | exact Nat.le_refl _⟩, ⟨by (with_reducible repeat (first | apply Kd.R_alloc | apply Kd.R_drewN | apply Kd.R_drew)); exact HO180.out⟩, ⟨by (with_reducible repeat (first | apply Kd.V_alloc | apply Kd.V_drewN | apply Kd.V_drew)); exact Kd.V_mono HL176_2.out (fun _ hk => ⟨hk.1.1, ⟨hk.1.2.2.2.1, hk.1.2.2.2.2⟩⟩)⟩, ⟨by (with_reducible repeat (first | refine blk_drewN ?_ _ | refine blk_drew ?_ | refine blk_alloc ?_ _)); exact BK169.out⟩, ⟨by repeat (first | (with_reducible first | exact HB.out | apply below_alloc | apply pw_below_drewN | apply below_drew1 | refine below_set ?_ GE169.out) | exact HB.out)⟩⟩
    case rest =>
      clear HC8
      try clear c1
      try clear p1
      try clear q1
      try clear hx1
      try clear qi1
      try clear c2
      try clear p2
      try clear c3
      try clear c4
      try clear c5
      try clear c5b0
      try clear c5b1
      try clear c12
      try clear c17
      try clear p17
      try clear q17
      try clear hx17
      try clear qi17
      try clear c21
      try clear c23
      try clear c24
      try clear c24b0
      try clear c24b1
      try clear c24b2
      try clear c30
      try clear c34
      try clear c34b0
      try clear c34b1
      try clear c44
      try clear c44b0
      try clear c44b1
      try clear c51
      try clear c55
      try clear c56
      try clear hcz26_0
      try clear hcz26_1
      try clear hcz26_2
      try clear hcz33_0
      try clear hcz33_1
      try clear hcz33_2
      try clear hcz36_0
      try clear hcz36_1
      try clear hcz36_2
      try clear hcz43_0
      try clear hcz43_1
      try clear hcz43_2
      try clear hcz46_0
      try clear hcz46_1
      try clear hcz46_2
      try clear hcz53_0
      try clear hcz53_1
      try clear hcz53_2
      try clear hcz56_0
      try clear hcz56_1
      try clear hcz56_2
      try clear hcz63_0
      try clear hcz63_1
      try clear hcz63_2
      try clear hcz65_0
      try clear hcz65_1
      try clear hcz65_2
      try clear hcz73_0
      try clear hcz73_1
      try clear hcz73_2
      try clear hfz26_0
      try clear hfz26_1
      try clear hfz26_2
      try clear hfz33_0
      try clear hfz33_1
      try clear hfz33_2
      try clear hfz36_0
      try clear hfz36_1
      try clear hfz36_2
      try clear hfz43_0
      try clear hfz43_1
      try clear hfz43_2
      try clear hfz46_0
      try clear hfz46_1
      try clear hfz46_2
      try clear hfz53_0
      try clear hfz53_1
      try clear hfz53_2
      try clear hfz56_0
      try clear hfz56_1
      try clear hfz56_2
      try clear hfz63_0
      try clear hfz63_1
      try clear hfz63_2
      try clear hfz65_0
      try clear hfz65_1
      try clear hfz65_2
      try clear hfz73_0
      try clear hfz73_1
      try clear hfz73_2
      try clear hx176_0
      try clear hx176_1
      try clear hx176_2
      try clear p176
      try clear q176
      obtain ⟨kq, x49_7, rfl, HA, HJ7, HO_2, HO_170002, BK169, HB⟩ := hcut
      cases kq with
      | zero => exact absurd HA.out (by simp [tolllaw08_LabelKinds.j0])
      | succ kj7 =>
        have H := HA.out
        clear HA
        simp only [tolllaw08_LabelKinds.j0] at H
        by_cases c78 : x49_7 = true
        · subst c78
          have H1 : ((tolllaw08_awake.f).bind fun t187 => (some t187)) = some true := by rw [if_pos rfl] at H; exact H
          clear H
          have H := H1
          clear H1
          replace H := Option.bind_eq_some_iff.mp H
          obtain ⟨t187, A790, H⟩ := H
          replace H : (some t187) = some true := H
          have A79 := Aside0.mk A790
          clear A790
          obtain rfl := Option.some.inj H
          go_wp2_with (first | ((with_reducible refine _root_.Go.Proofs.YtcakednecmngdaaDoorW.PrintMore.gate_callee (f := 53) rfl ?_); refine goesL_ (some 50) rfl rfl Tryd.func53 (by kernel_rfl) rfl #[] rfl (by (try simp only [List.map_toArray, List.map_cons, List.map_nil]); first | done | rfl | (simp only [List.length_drop, List.length_take]; rfl)) ?_; (with_reducible refine (tolllaw08_awake.calls  true _ A79.out).mono ?_); rintro e w80 ⟨rfl, hb⟩; refine ⟨_, rfl, ?_⟩; have n0_ := Aside0.mk (Kd.R_below (by (with_reducible repeat (first | apply Kd.R_alloc | apply Kd.R_drewN | apply Kd.R_drew)); exact HO_2.out) hb); have n1_ := Aside0.mk (Kd.V_below (by (with_reducible repeat (first | apply Kd.V_alloc | apply Kd.V_drewN | apply Kd.V_drew)); exact HO_170002.out) hb); have n2_ := Aside0.mk (blk_below (g := gb169) (o := .cells #[.int .i64 ((rd_T58 t173 0).f0), .string ((rd_T58 t173 0).f1), .slice A176_2 ((rd_T58 t173 0).f2).length c176_2] 58 (0, 0)) (by (with_reducible repeat (first | refine blk_drewN ?_ _ | refine blk_drew ?_ | refine blk_alloc ?_ _)); exact BK169.out) hb); have n3_ := Aside0.mk (below_step (by repeat (first | (with_reducible first | exact HB.out | apply below_alloc | apply pw_below_drewN | apply below_drew1 | refine below_set ?_ GE169.out) | exact HB.out)) hb); clear HO_2; clear HO_170002; clear BK169; clear HB; have HO_2 := n0_; have HO_170002 := n1_; have BK169 := n2_; have HB := n3_; clear n0_ n1_ n2_ n3_; (try clear hb); (try clear hb2); (try clear hk); (try clear hi)))
          go_ret
          exact ⟨by first | rfl | (simp [errW_none, errW_some] <;> rfl) | (simp [*, errW_none, errW_some] <;> rfl), by repeat (first | (with_reducible first | exact HB.out | apply below_alloc | apply pw_below_drewN | apply below_drew1 | refine below_set ?_ GE169.out) | exact HB.out)⟩
        · replace c78 := Bool.eq_false_iff.mpr c78
          subst c78
          have H1 : ((some (([] : List ByteArray) : List ByteArray)).bind fun y189 => (if y189.length + ((rd_T58 t173 0).f2).length < 8796093022208 then ((some (y189 ++ ((rd_T58 t173 0).f2) : List ByteArray)).bind fun y192 => (if y192.length < 8796093022208 then ((label_Met.f ((rd_T58 t173 0).f0) ((rd_T58 t173 0).f1) ((rd_T58 t173 0).f2) t178).bind fun t198 => ((label_Met.f ((rd_T58 t173 0).f0) ((rd_T58 t173 0).f1) (y192 ++ [t177]) t178).bind fun t199 => ((label_Met.f 3 ((rd_T58 t173 0).f1) ([] : List ByteArray) t178).bind fun t200 => (tolllaw08_LabelKinds.j1 kj7 t198 t199 t200 ((rd_T58 t173 0).f0) ((rd_T58 t173 0).f1) ((rd_T58 t173 0).f2))))) else (none))) else (none))) = some true := by rw [if_neg (show ¬ (false = true) by decide)] at H; exact H
          clear H
          have H := H1
          clear H1
          obtain ⟨y189, hy189⟩ : ∃ y_ : List ByteArray, y_ = (([] : List ByteArray)) := ⟨_, rfl⟩
          replace H : (if y189.length + ((rd_T58 t173 0).f2).length < 8796093022208 then ((some (y189 ++ ((rd_T58 t173 0).f2) : List ByteArray)).bind fun y192 => (if y192.length < 8796093022208 then ((label_Met.f ((rd_T58 t173 0).f0) ((rd_T58 t173 0).f1) ((rd_T58 t173 0).f2) t178).bind fun t198 => ((label_Met.f ((rd_T58 t173 0).f0) ((rd_T58 t173 0).f1) (y192 ++ [t177]) t178).bind fun t199 => ((label_Met.f 3 ((rd_T58 t173 0).f1) ([] : List ByteArray) t178).bind fun t200 => (tolllaw08_LabelKinds.j1 kj7 t198 t199 t200 ((rd_T58 t173 0).f0) ((rd_T58 t173 0).f1) ((rd_T58 t173 0).f2))))) else (none))) else (none)) = some true := by first | (rw [hy189]; with_reducible exact H) | (have H2_ := (Option.bind_some _ _).symm.trans H; rw [hy189]; with_reducible exact H2_) | (have H2_ := (Option.bind_some _ _).symm.trans H; with_reducible exact H2_) | with_reducible exact H | (rw [hy189]; exact H) | exact H
          have Ny189 := Aside0.mk hy189
          clear hy189
          by_cases c81 : y189.length + ((rd_T58 t173 0).f2).length < 8796093022208
          · rw [if_pos c81] at H
            have LMc81 := Aside0.mk c81
            clear c81
            obtain ⟨y192, hy192⟩ : ∃ y_ : List ByteArray, y_ = (y189 ++ ((rd_T58 t173 0).f2)) := ⟨_, rfl⟩
            replace H : (if y192.length < 8796093022208 then ((label_Met.f ((rd_T58 t173 0).f0) ((rd_T58 t173 0).f1) ((rd_T58 t173 0).f2) t178).bind fun t198 => ((label_Met.f ((rd_T58 t173 0).f0) ((rd_T58 t173 0).f1) (y192 ++ [t177]) t178).bind fun t199 => ((label_Met.f 3 ((rd_T58 t173 0).f1) ([] : List ByteArray) t178).bind fun t200 => (tolllaw08_LabelKinds.j1 kj7 t198 t199 t200 ((rd_T58 t173 0).f0) ((rd_T58 t173 0).f1) ((rd_T58 t173 0).f2))))) else (none)) = some true := by first | (rw [hy192]; with_reducible exact H) | (have H2_ := (Option.bind_some _ _).symm.trans H; rw [hy192]; with_reducible exact H2_) | (have H2_ := (Option.bind_some _ _).symm.trans H; with_reducible exact H2_) | with_reducible exact H | (rw [hy192]; exact H) | exact H
            have Ny192 := Aside0.mk hy192
            clear hy192
            by_cases c82 : y192.length < 8796093022208
            · rw [if_pos c82] at H
              have LMc82 := Aside0.mk c82
              clear c82
              obtain ⟨y195, hy195⟩ : ∃ y_ : List ByteArray, y_ = (y192 ++ [t177]) := ⟨_, rfl⟩
              replace H : ((label_Met.f ((rd_T58 t173 0).f0) ((rd_T58 t173 0).f1) ((rd_T58 t173 0).f2) t178).bind fun t198 => ((label_Met.f ((rd_T58 t173 0).f0) ((rd_T58 t173 0).f1) y195 t178).bind fun t199 => ((label_Met.f 3 ((rd_T58 t173 0).f1) ([] : List ByteArray) t178).bind fun t200 => (tolllaw08_LabelKinds.j1 kj7 t198 t199 t200 ((rd_T58 t173 0).f0) ((rd_T58 t173 0).f1) ((rd_T58 t173 0).f2))))) = some true := by first | (rw [hy195]; with_reducible exact H) | (have H2_ := (Option.bind_some _ _).symm.trans H; rw [hy195]; with_reducible exact H2_) | (have H2_ := (Option.bind_some _ _).symm.trans H; with_reducible exact H2_) | with_reducible exact H | (rw [hy195]; exact H) | exact H
              have Ny195 := Aside0.mk hy195
              clear hy195
              replace H := Option.bind_eq_some_iff.mp H
              obtain ⟨t198, A830, H⟩ := H
              replace H : ((label_Met.f ((rd_T58 t173 0).f0) ((rd_T58 t173 0).f1) y195 t178).bind fun t199 => ((label_Met.f 3 ((rd_T58 t173 0).f1) ([] : List ByteArray) t178).bind fun t200 => (tolllaw08_LabelKinds.j1 kj7 t198 t199 t200 ((rd_T58 t173 0).f0) ((rd_T58 t173 0).f1) ((rd_T58 t173 0).f2)))) = some true := H
              have A83 := Aside0.mk A830
              clear A830
              replace H := Option.bind_eq_some_iff.mp H
              obtain ⟨t199, A840, H⟩ := H
              replace H : ((label_Met.f 3 ((rd_T58 t173 0).f1) ([] : List ByteArray) t178).bind fun t200 => (tolllaw08_LabelKinds.j1 kj7 t198 t199 t200 ((rd_T58 t173 0).f0) ((rd_T58 t173 0).f1) ((rd_T58 t173 0).f2))) = some true := H
              have A84 := Aside0.mk A840
              clear A840
              have HC85 := Aside0.mk H
              clear H
              have hcz86_0 : wc.cell? ⟨gb169, 0, none⟩ = some (.int .i64 ((rd_T58 t173 0).f0)) := (blk_cell BK169.out 0).trans rfl
              have hcz86_1 : wc.cell? ⟨gb169, 1, none⟩ = some (.string ((rd_T58 t173 0).f1)) := (blk_cell BK169.out 1).trans rfl
              have hcz86_2 : wc.cell? ⟨gb169, 2, none⟩ = some (.slice A176_2 ((rd_T58 t173 0).f2).length c176_2) := (blk_cell BK169.out 2).trans rfl
              have hfz86_0 := blk_frozen BK169.out 0
              have hfz86_1 := blk_frozen BK169.out 1
              have hfz86_2 := blk_frozen BK169.out 2
              try go_wp2_with (first | ((with_reducible refine gate_dst (N := 7) rfl ?_); (try (refine gate_guard (by rfl) ?_; dsimp only)); refine box_event ?hg (N := 7) ?hd (cs := #[.int .i64 0, .string (⟨#[]⟩ : ByteArray), .slice none 0 0]) (t := 58) ?hr ?_; (case hd => rfl); (case hg => rfl); (case hr => first | (go_simp; done) | (go_simp; rfl)); intro gb188 hg w87 hbox hb; have n0_ := Aside0.mk (Kd.R_below (by (with_reducible repeat (first | apply Kd.R_alloc | apply Kd.R_drewN | apply Kd.R_drew)); exact HO_2.out) hb); have n1_ := Aside0.mk (Kd.V_below (Kd.V_elderB (by (with_reducible repeat (first | apply Kd.V_alloc | apply Kd.V_drewN | apply Kd.V_drew)); exact HO_170002.out) gb188 (Nat.le_of_eq hg.symm)) hb); have n2_ := Aside0.mk (blk_below (g := gb169) (o := .cells #[.int .i64 ((rd_T58 t173 0).f0), .string ((rd_T58 t173 0).f1), .slice A176_2 ((rd_T58 t173 0).f2).length c176_2] 58 (0, 0)) (by (with_reducible repeat (first | refine blk_drewN ?_ _ | refine blk_drew ?_ | refine blk_alloc ?_ _)); exact BK169.out) hb); have n3_ := Aside0.mk (below_step (by repeat (first | (with_reducible first | exact HB.out | apply below_alloc | apply pw_below_drewN | apply below_drew1 | refine below_set ?_ GE169.out) | exact HB.out)) hb); have n4_ := Aside0.mk (hbox); have n5_ := Aside0.mk ((by rw [hg]; exact (below_size (by repeat (first | (with_reducible first | exact HB.out | apply below_alloc | apply pw_below_drewN | apply below_drew1 | refine below_set ?_ GE169.out) | exact HB.out))) : w.heap.size ≤ gb188)); have n6_ := Aside0.mk ((by rw [hg]; exact (below_size (by repeat (first | (with_reducible first | exact HB.out | apply below_alloc | apply pw_below_drewN | apply below_drew1 | refine below_set ?_ GE169.out) | exact HB.out))) : w.heap.size ≤ gb188)); have n7_ := Aside0.mk ((by rw [hg]; exact Nat.ne_of_lt (blk_lt (g := gb169) (o := .cells #[.int .i64 ((rd_T58 t173 0).f0), .string ((rd_T58 t173 0).f1), .slice A176_2 ((rd_T58 t173 0).f2).length c176_2] 58 (0, 0)) (by (with_reducible repeat (first | refine blk_drewN ?_ _ | refine blk_drew ?_ | refine blk_alloc ?_ _)); exact BK169.out)) : gb169 ≠ gb188)); have n8_ := Aside0.mk ((by rw [hg]; exact Nat.ne_of_gt (blk_lt (g := gb169) (o := .cells #[.int .i64 ((rd_T58 t173 0).f0), .string ((rd_T58 t173 0).f1), .slice A176_2 ((rd_T58 t173 0).f2).length c176_2] 58 (0, 0)) (by (with_reducible repeat (first | refine blk_drewN ?_ _ | refine blk_drew ?_ | refine blk_alloc ?_ _)); exact BK169.out)) : gb188 ≠ gb169)); clear HO_2; clear HO_170002; clear BK169; clear HB; have HO_2 := n0_; have HO_170002 := n1_; have BK169 := n2_; have HB := n3_; have BK188 := n4_; have GW188 := n5_; have GE188 := n6_; have NB169_188 := n7_; have NB188_169 := n8_; clear n0_ n1_ n2_ n3_ n4_ n5_ n6_ n7_ n8_; clear hb hbox hg; have hnb88 := NB188_169.out; have hnc88 := NB169_188.out; have hcz89_0 : w87.cell? ⟨gb188, 0, none⟩ = some (.int .i64 0) := (blk_cell BK188.out 0).trans rfl; have hcz89_1 : w87.cell? ⟨gb188, 1, none⟩ = some (.string (⟨#[]⟩ : ByteArray)) := (blk_cell BK188.out 1).trans rfl; have hcz89_2 : w87.cell? ⟨gb188, 2, none⟩ = some (.slice none 0 0) := (blk_cell BK188.out 2).trans rfl; have hfz89_0 := blk_frozen BK188.out 0; have hfz89_1 := blk_frozen BK188.out 1; have hfz89_2 := blk_frozen BK188.out 2) | ((with_reducible refine gate_dst (N := 52) rfl ?_); (try (refine gate_guard (by rfl) ?_; dsimp only)); refine Kd.R_lit Kd.string _ 9 ?hg (N := 52) ?hd (xs := ([] : List ByteArray)) (inner := []) (ok := fun _ => True) (okp := fun _ => True) ?hr ?hp (fun _ hk => hk) trivial (Below.refl _ _) (Nat.le_refl _) (by simp) ?_; (case hd => rfl); (case hg => rfl); (case hr => first | (go_simp; done) | (go_simp; rfl)); (case hp => exact (Reps.none _ _)); intro v190 w90 ho91 hb hg_ hnew_; clear hg_ hnew_; (first | rw [← Ny189.out] at ho91 | (simp only [Int.reduceToNat] at ho91; rw [← Ny189.out] at ho91)); have n0_ := Aside0.mk (Kd.R_below (by (with_reducible repeat (first | apply Kd.R_alloc | apply Kd.R_drewN | apply Kd.R_drew)); exact (Kd.R_mono (Kd.R_far (p := ⟨gb188, 2, none⟩) (Kd.R_far (p := ⟨gb188, 1, none⟩) (Kd.R_far (p := ⟨gb188, 0, none⟩) (Kd.R_types HO_2.out BK188.out (by decide)) (fun _ hk => hk.2) (.int .i64 ((rd_T58 t173 0).f0))) (fun _ hk => hk.2) (.string ((rd_T58 t173 0).f1))) (fun _ hk => hk.2) (.slice A176_2 ((rd_T58 t173 0).f2).length c176_2)) (fun _ h_ => h_.1))) hb); have n1_ := Aside0.mk (Kd.V_elder' (by (with_reducible repeat (first | apply Kd.V_alloc | apply Kd.V_drewN | apply Kd.V_drew)); exact (Kd.V_mono (Kd.V_far (p := ⟨gb188, 2, none⟩) (Kd.V_far (p := ⟨gb188, 1, none⟩) (Kd.V_far (p := ⟨gb188, 0, none⟩) (Kd.V_mono HO_170002.out (fun k_ hk => (⟨hk, hk.2⟩ : _ ∧ k_ ≠ gb188))) (fun _ hk => hk.2) (.int .i64 ((rd_T58 t173 0).f0))) (fun _ hk => hk.2) (.string ((rd_T58 t173 0).f1))) (fun _ hk => hk.2) (.slice A176_2 ((rd_T58 t173 0).f2).length c176_2)) (fun _ h_ => h_.1))) (Kd.R_base ho91) hb); have n2_ := Aside0.mk (Kd.R_lower (Kd.R_newM (M := fun k_ => (w.heap.size ≤ k_)) ho91 (below_size (by repeat (first | (with_reducible first | exact HB.out | apply below_alloc | apply pw_below_drewN | apply below_drew1 | refine below_set ?_ GE169.out | refine below_set ?_ GE188.out) | exact HB.out))) (fun k_ h_ => h_)) (below_size (by repeat (first | (with_reducible first | exact HB.out | apply below_alloc | apply pw_below_drewN | apply below_drew1 | refine below_set ?_ GE169.out | refine below_set ?_ GE188.out) | exact HB.out)))); have n3_ := Aside0.mk (blk_below (g := gb169) (o := .cells #[.int .i64 ((rd_T58 t173 0).f0), .string ((rd_T58 t173 0).f1), .slice A176_2 ((rd_T58 t173 0).f2).length c176_2] 58 (0, 0)) (by (with_reducible repeat (first | refine blk_drewN ?_ _ | refine blk_drew ?_ | refine blk_alloc ?_ _)); refine blk_far ?_ NB169_188.out _; (with_reducible repeat (first | refine blk_drewN ?_ _ | refine blk_drew ?_ | refine blk_alloc ?_ _)); refine blk_far ?_ NB169_188.out _; (with_reducible repeat (first | refine blk_drewN ?_ _ | refine blk_drew ?_ | refine blk_alloc ?_ _)); refine blk_far ?_ NB169_188.out _; (with_reducible repeat (first | refine blk_drewN ?_ _ | refine blk_drew ?_ | refine blk_alloc ?_ _)); exact BK169.out) hb); have n4_ := Aside0.mk (blk_below (g := gb188) (o := .cells #[.int .i64 ((rd_T58 t173 0).f0), .string ((rd_T58 t173 0).f1), .slice A176_2 ((rd_T58 t173 0).f2).length c176_2] 58 (0, 0)) (by (with_reducible repeat (first | refine blk_drewN ?_ _ | refine blk_drew ?_ | refine blk_alloc ?_ _)); refine blk_put (cs := #[.int .i64 ((rd_T58 t173 0).f0), .string ((rd_T58 t173 0).f1), .slice none 0 0]) ?_ 2 _ rfl; (with_reducible repeat (first | refine blk_drewN ?_ _ | refine blk_drew ?_ | refine blk_alloc ?_ _)); refine blk_put (cs := #[.int .i64 ((rd_T58 t173 0).f0), .string (⟨#[]⟩ : ByteArray), .slice none 0 0]) ?_ 1 _ rfl; (with_reducible repeat (first | refine blk_drewN ?_ _ | refine blk_drew ?_ | refine blk_alloc ?_ _)); refine blk_put (cs := #[.int .i64 0, .string (⟨#[]⟩ : ByteArray), .slice none 0 0]) ?_ 0 _ rfl; (with_reducible repeat (first | refine blk_drewN ?_ _ | refine blk_drew ?_ | refine blk_alloc ?_ _)); exact BK188.out) hb); have n5_ := Aside0.mk (below_step (by repeat (first | (with_reducible first | exact HB.out | apply below_alloc | apply pw_below_drewN | apply below_drew1 | refine below_set ?_ GE169.out | refine below_set ?_ GE188.out) | exact HB.out)) hb); clear HO_2; clear HO_170002; clear BK169; clear BK188; clear HB; have HO_2 := n0_; have HO_170002 := n1_; have HO191 := n2_; have BK169 := n3_; have BK188 := n4_; have HB := n5_; clear n0_ n1_ n2_ n3_ n4_ n5_; clear hb ho91; have hcz92_0 : w90.cell? ⟨gb169, 0, none⟩ = some (.int .i64 ((rd_T58 t173 0).f0)) := (blk_cell BK169.out 0).trans rfl; have hcz92_1 : w90.cell? ⟨gb169, 1, none⟩ = some (.string ((rd_T58 t173 0).f1)) := (blk_cell BK169.out 1).trans rfl; have hcz92_2 : w90.cell? ⟨gb169, 2, none⟩ = some (.slice A176_2 ((rd_T58 t173 0).f2).length c176_2) := (blk_cell BK169.out 2).trans rfl; have hfz92_0 := blk_frozen BK169.out 0; have hfz92_1 := blk_frozen BK169.out 1; have hfz92_2 := blk_frozen BK169.out 2) | ((with_reducible refine _root_.Go.Proofs.YtcakednecmngdaaDoorW.PrintMore.gate_builtin (b := .append) (xs := #[.tmp 52, .tmp 54]) rfl ?_); (try (refine gate_guard (by rfl) ?_; dsimp only)); at_builtin; refine Kd.R_append_rows Kd.string (w0 := w) w.heap.size rfl (.tmp 52) (.tmp 54) 27 9 (.string ⟨#[]⟩) 16 rfl Tryd.underlying27 info9 rfl (by decide) (by omega) v190 y189 ((rd_T58 t173 0).f2) _ _ _ (fun k_ => (w.heap.size ≤ k_)) (fun _ => False) rfl rfl ?aO ?aR (fun _ _ h => h) (fun _ h => h.elim) ?aF ?aB ?aS ?aL ?_; (case aR => repeat (first | exact (Kd.V_reads' HO_170002.out).2.2 | (with_reducible refine Kd.C_alloc ?_ _) | (with_reducible refine Kd.C_drewN ?_ _) | (with_reducible refine Kd.C_drew ?_))); (case aB => exact (by repeat (first | (with_reducible first | exact HB.out | apply below_alloc | apply pw_below_drewN | apply below_drew1 | refine below_set ?_ GE169.out | refine below_set ?_ GE188.out) | exact HB.out))); (case aF => exact (fun k_ hk => (Nat.le_trans (below_size (by repeat (first | (with_reducible first | exact HB.out | apply below_alloc | apply pw_below_drewN | apply below_drew1 | refine below_set ?_ GE169.out | refine below_set ?_ GE188.out) | exact HB.out))) hk))); (case aO => exact (by (with_reducible repeat (first | apply Kd.R_alloc | apply Kd.R_drewN | apply Kd.R_drew)); exact Kd.R_mono HO191.out (fun _ hk => hk.1))); (case aS => exact (below_size (by repeat (first | (with_reducible first | exact HB.out | apply below_alloc | apply pw_below_drewN | apply below_drew1 | refine below_set ?_ GE169.out | refine below_set ?_ GE188.out) | exact HB.out)))); (case aL => have := LMc81.out; omega); intro v193 w93 ho hb hg hat; rw [← Ny192.out] at ho; have n0_ := Aside0.mk (Kd.R_over' (by (with_reducible repeat (first | apply Kd.R_alloc | apply Kd.R_drewN | apply Kd.R_drew)); exact HO_2.out) (Kd.R_typed (by (with_reducible repeat (first | apply Kd.R_alloc | apply Kd.R_drewN | apply Kd.R_drew)); exact HO191.out)) (by decide) hg); have n1_ := Aside0.mk (Kd.V_afterv (ok := (fun k_ => (P0_2_ k_ ∨ w.heap.size ≤ k_) ∧ some k_ ≠ (v179 : Value).ownBlock ∧ k_ ≠ gb169 ∧ k_ ≠ gb188)) (by (with_reducible repeat (first | apply Kd.V_alloc | apply Kd.V_drewN | apply Kd.V_drew)); exact Kd.V_mono HO_170002.out (fun _ hk => ⟨⟨hk.1.1.1, ⟨hk.1.1.2.1, ⟨hk.1.1.2.2, hk.1.2⟩⟩⟩, hk.2⟩)) hg hat); have n2_ := Aside0.mk (blk_grown (g := gb169) (o := .cells #[.int .i64 ((rd_T58 t173 0).f0), .string ((rd_T58 t173 0).f1), .slice A176_2 ((rd_T58 t173 0).f2).length c176_2] 58 (0, 0)) (by (with_reducible repeat (first | refine blk_drewN ?_ _ | refine blk_drew ?_ | refine blk_alloc ?_ _)); exact BK169.out) hg (Kd.R_ne HO191.out BK169.out (by decide))); have n3_ := Aside0.mk (blk_grown (g := gb188) (o := .cells #[.int .i64 ((rd_T58 t173 0).f0), .string ((rd_T58 t173 0).f1), .slice A176_2 ((rd_T58 t173 0).f2).length c176_2] 58 (0, 0)) (by (with_reducible repeat (first | refine blk_drewN ?_ _ | refine blk_drew ?_ | refine blk_alloc ?_ _)); exact BK188.out) hg (Kd.R_ne HO191.out BK188.out (by decide))); have n4_ := Aside0.mk (hb); have n5_ := Aside0.mk (ho); clear HO_2; clear HO_170002; clear BK169; clear BK188; clear HB; clear HO191; have HO_2 := n0_; have HO_170002 := n1_; have BK169 := n2_; have BK188 := n3_; have HB := n4_; have HO194 := n5_; clear n0_ n1_ n2_ n3_ n4_ n5_; clear ho hb hg hat) | ((with_reducible refine _root_.Go.Proofs.YtcakednecmngdaaDoorW.PrintMore.gate_builtin (b := .append) (xs := #[.tmp 55, .tmp 57]) rfl ?_); (try (refine gate_guard (by rfl) ?_; dsimp only)); at_builtin; refine Kd.R_append Kd.string (w0 := w) w.heap.size rfl (.tmp 55) (.tmp 57) 27 9 (.string ⟨#[]⟩) 16 rfl Tryd.underlying27 info9 rfl (by decide) (by omega) v193 y192 t177 [.string t177] (fun k_ => (w.heap.size ≤ k_)) (fun _ => False) rfl rfl ?aP (fun _ hk => hk.elim) ?aF ?aO ?aB ?aS ?aL ?_; (case aP => exact rfl); (case aB => exact (by repeat (first | (with_reducible first | exact HB.out | apply below_alloc | apply pw_below_drewN | apply below_drew1 | refine below_set ?_ GE169.out | refine below_set ?_ GE188.out) | exact HB.out))); (case aF => exact (fun k_ hk => (Nat.le_trans (below_size (by repeat (first | (with_reducible first | exact HB.out | apply below_alloc | apply pw_below_drewN | apply below_drew1 | refine below_set ?_ GE169.out | refine below_set ?_ GE188.out) | exact HB.out))) hk))); (case aO => exact (by (with_reducible repeat (first | apply Kd.R_alloc | apply Kd.R_drewN | apply Kd.R_drew)); exact HO194.out)); (case aS => exact (below_size (by repeat (first | (with_reducible first | exact HB.out | apply below_alloc | apply pw_below_drewN | apply below_drew1 | refine below_set ?_ GE169.out | refine below_set ?_ GE188.out) | exact HB.out)))); (case aL => have := LMc82.out; omega); intro v196 w94 ho hb hg hat; rw [← Ny195.out] at ho; have n0_ := Aside0.mk (Kd.R_over' (by (with_reducible repeat (first | apply Kd.R_alloc | apply Kd.R_drewN | apply Kd.R_drew)); exact HO_2.out) (Kd.R_typed (by (with_reducible repeat (first | apply Kd.R_alloc | apply Kd.R_drewN | apply Kd.R_drew)); exact HO194.out)) (by decide) hg); have n1_ := Aside0.mk (Kd.V_afterv (ok := (fun k_ => (P0_2_ k_ ∨ w.heap.size ≤ k_) ∧ some k_ ≠ (v179 : Value).ownBlock ∧ k_ ≠ gb169 ∧ k_ ≠ gb188)) (by (with_reducible repeat (first | apply Kd.V_alloc | apply Kd.V_drewN | apply Kd.V_drew)); exact HO_170002.out) hg hat); have n2_ := Aside0.mk (blk_grown (g := gb169) (o := .cells #[.int .i64 ((rd_T58 t173 0).f0), .string ((rd_T58 t173 0).f1), .slice A176_2 ((rd_T58 t173 0).f2).length c176_2] 58 (0, 0)) (by (with_reducible repeat (first | refine blk_drewN ?_ _ | refine blk_drew ?_ | refine blk_alloc ?_ _)); exact BK169.out) hg (Kd.R_ne HO194.out BK169.out (by decide))); have n3_ := Aside0.mk (blk_grown (g := gb188) (o := .cells #[.int .i64 ((rd_T58 t173 0).f0), .string ((rd_T58 t173 0).f1), .slice A176_2 ((rd_T58 t173 0).f2).length c176_2] 58 (0, 0)) (by (with_reducible repeat (first | refine blk_drewN ?_ _ | refine blk_drew ?_ | refine blk_alloc ?_ _)); exact BK188.out) hg (Kd.R_ne HO194.out BK188.out (by decide))); have n4_ := Aside0.mk (hb); have n5_ := Aside0.mk (ho); clear HO_2; clear HO_170002; clear BK169; clear BK188; clear HB; clear HO194; have HO_2 := n0_; have HO_170002 := n1_; have BK169 := n2_; have BK188 := n3_; have HB := n4_; have HO197 := n5_; clear n0_ n1_ n2_ n3_ n4_ n5_; clear ho hb hg hat; obtain ⟨Ao95, co95, eo95⟩ := Kd.R_slice HO197.out; subst eo95; have hcz96_0 : w94.cell? ⟨gb188, 0, none⟩ = some (.int .i64 ((rd_T58 t173 0).f0)) := (blk_cell BK188.out 0).trans rfl; have hcz96_1 : w94.cell? ⟨gb188, 1, none⟩ = some (.string ((rd_T58 t173 0).f1)) := (blk_cell BK188.out 1).trans rfl; have hcz96_2 : w94.cell? ⟨gb188, 2, none⟩ = some (.slice A176_2 ((rd_T58 t173 0).f2).length c176_2) := (blk_cell BK188.out 2).trans rfl; have hfz96_0 := blk_frozen BK188.out 0; have hfz96_1 := blk_frozen BK188.out 1; have hfz96_2 := blk_frozen BK188.out 2))
              have n0_ : Aside0 (Kd.R k55 55 (w94.setCell ⟨gb188, 2, none⟩ (.slice Ao95 y195.length co95)) w.heap.size (fun k_ => (w.heap.size ≤ k_)) v179 t178) := ⟨by (with_reducible repeat (first | apply Kd.R_alloc | apply Kd.R_drewN | apply Kd.R_drew)); exact Kd.R_mono (Kd.R_far (p := ⟨gb188, 2, none⟩) (Kd.R_types HO_2.out BK188.out (by decide)) (fun _ hk => hk.2) (.slice Ao95 y195.length co95)) (fun _ hk => hk.1)⟩
              have n1_ : Aside0 (Kd.V Kd.string 9 (w94.setCell ⟨gb188, 2, none⟩ (.slice Ao95 y195.length co95)) w.heap.size (fun k_ => (P0_2_ k_ ∨ w.heap.size ≤ k_) ∧ some k_ ≠ (v179 : Value).ownBlock ∧ some k_ ≠ (.slice Ao95 y195.length co95 : Value).ownBlock ∧ k_ ≠ gb169 ∧ k_ ≠ gb188) (.slice A176_2 ((rd_T58 t173 0).f2).length c176_2) ((rd_T58 t173 0).f2)) := ⟨by (with_reducible repeat (first | apply Kd.V_alloc | apply Kd.V_drewN | apply Kd.V_drew)); exact Kd.V_mono (Kd.V_far (p := ⟨gb188, 2, none⟩) (Kd.V_mono HO_170002.out (fun k_ hk => (⟨hk, hk.1.2.2.2⟩ : _ ∧ k_ ≠ gb188))) (fun _ hk => hk.2) (.slice Ao95 y195.length co95)) (fun _ hk => ⟨hk.1.1.1, ⟨hk.1.1.2.1, ⟨hk.1.2, ⟨hk.1.1.2.2.1, hk.1.1.2.2.2⟩⟩⟩⟩)⟩
              have n2_ : Aside0 (Kd.R Kd.string 9 (w94.setCell ⟨gb188, 2, none⟩ (.slice Ao95 y195.length co95)) w.heap.size (fun k_ => (w.heap.size ≤ k_)) (.slice Ao95 y195.length co95) y195) := ⟨by (with_reducible repeat (first | apply Kd.R_alloc | apply Kd.R_drewN | apply Kd.R_drew)); exact Kd.R_mono (Kd.R_far (p := ⟨gb188, 2, none⟩) (Kd.R_types HO197.out BK188.out (by decide)) (fun _ hk => hk.2) (.slice Ao95 y195.length co95)) (fun _ hk => hk.1)⟩
              have n3_ : Aside0 ((w94.setCell ⟨gb188, 2, none⟩ (.slice Ao95 y195.length co95)).heap[gb169]? = some (.cells #[.int .i64 ((rd_T58 t173 0).f0), .string ((rd_T58 t173 0).f1), .slice A176_2 ((rd_T58 t173 0).f2).length c176_2] 58 (0, 0))) := ⟨by (with_reducible repeat (first | refine blk_drewN ?_ _ | refine blk_drew ?_ | refine blk_alloc ?_ _)); refine blk_far ?_ NB169_188.out _; (with_reducible repeat (first | refine blk_drewN ?_ _ | refine blk_drew ?_ | refine blk_alloc ?_ _)); exact BK169.out⟩
              have n4_ : Aside0 ((w94.setCell ⟨gb188, 2, none⟩ (.slice Ao95 y195.length co95)).heap[gb188]? = some (.cells #[.int .i64 ((rd_T58 t173 0).f0), .string ((rd_T58 t173 0).f1), .slice Ao95 y195.length co95] 58 (0, 0))) := ⟨by (with_reducible repeat (first | refine blk_drewN ?_ _ | refine blk_drew ?_ | refine blk_alloc ?_ _)); refine blk_put (cs := #[.int .i64 ((rd_T58 t173 0).f0), .string ((rd_T58 t173 0).f1), .slice A176_2 ((rd_T58 t173 0).f2).length c176_2]) ?_ 2 _ rfl; (with_reducible repeat (first | refine blk_drewN ?_ _ | refine blk_drew ?_ | refine blk_alloc ?_ _)); exact BK188.out⟩
              have n5_ : Aside0 (Below w.heap.size w (w94.setCell ⟨gb188, 2, none⟩ (.slice Ao95 y195.length co95))) := ⟨by repeat (first | (with_reducible first | exact HB.out | apply below_alloc | apply pw_below_drewN | apply below_drew1 | refine below_set ?_ GE169.out | refine below_set ?_ GE188.out) | exact HB.out)⟩
              (try clear HO_2)
              (try clear HO_170002)
              (try clear HO197)
              (try clear BK169)
              (try clear BK188)
              (try clear HB)
              generalize (w94.setCell ⟨gb188, 2, none⟩ (.slice Ao95 y195.length co95)) = w97 at n0_ n1_ n2_ n3_ n4_ n5_ ⊢
              have HO_2 := n0_
              have HO_170002 := n1_
              have HO197 := n2_
              have BK169 := n3_
              have BK188 := n4_
              have HB := n5_
              clear n0_ n1_ n2_ n3_ n4_ n5_
              have n0_ := Aside0.mk (Kd.R_drew HO_2.out)
              have n1_ := Aside0.mk (Kd.V_drew HO_170002.out)
              have n2_ := Aside0.mk (Kd.R_drew HO197.out)
              have n3_ := Aside0.mk (blk_drew BK169.out)
              have n4_ := Aside0.mk (blk_drew BK188.out)
              have n5_ := Aside0.mk (below_drew1 HB.out)
              clear HO_2
              clear HO_170002
              clear HO197
              clear BK169
              clear BK188
              clear HB
              have HO_2 := n0_
              have HO_170002 := n1_
              have HO197 := n2_
              have BK169 := n3_
              have BK188 := n4_
              have HB := n5_
              clear n0_ n1_ n2_ n3_ n4_ n5_
              obtain ⟨Ao99, co99, eo99⟩ := Kd.R_slice HO_2.out
              (first | subst eo99 | (injection eo99 with f1_ f2_ f3_; have f4_ := f1_.symm; have f5_ := f3_.symm; clear f1_ f2_ f3_; subst f4_; subst f5_))
              refine start_ (n := 8) (S := fun w' => w'.cell? ⟨gb169, 0, none⟩ = some (.int .i64 ((rd_T58 t173 0).f0)) ∧ w'.cell? ⟨gb169, 1, none⟩ = some (.string ((rd_T58 t173 0).f1)) ∧ w'.cell? ⟨gb169, 2, none⟩ = some (.slice A176_2 ((rd_T58 t173 0).f2).length c176_2) ∧ w'.cell? ⟨gb188, 0, none⟩ = some (.int .i64 ((rd_T58 t173 0).f0)) ∧ w'.cell? ⟨gb188, 1, none⟩ = some (.string ((rd_T58 t173 0).f1)) ∧ w'.cell? ⟨gb188, 2, none⟩ = some (.slice Ao95 y195.length co95)) (ds := []) #[false, false, false, false, false, false, false, false] (by kernel_rfl) rfl rfl ⟨(blk_cell BK169.out 0).trans rfl, (blk_cell BK169.out 1).trans rfl, (blk_cell BK169.out 2).trans rfl, (blk_cell BK188.out 0).trans rfl, (blk_cell BK188.out 1).trans rfl, (blk_cell BK188.out 2).trans rfl⟩ (fun hHeld => ?_); refine with_tabW tolllaw08_LabelKinds.tab6 tolllaw08_LabelKinds.bits6 (fun HT_ HW_ => ?_)
              generalize w97.drew = w98 at HO_2 HO_170002 HO197 BK169 BK188 HB hHeld ⊢
              refine pure_ (i := 1) (N := some 61) (v := ?_) (a' := ?_) #[false, true, false, false, false, false, false, false] rfl rfl (any_of HT_.out (by kernel_rfl)) (fun _ _ _ h => h) (Or.inl ⟨by rfl, ?_⟩) ?_ ?_
              rotate_left
              · intro w'
                go_simp
                with_reducible rfl
              rotate_left
              · simp only [Act.put, List.setIfInBounds_toArray, List.set_cons_zero, List.set_cons_succ, i64_w, i32_w]
                rfl
              refine pure_ (i := 4) (N := some 64) (v := ?_) (a' := ?_) #[false, true, false, false, true, false, false, false] rfl rfl (any_of HT_.out (by kernel_rfl)) (fun _ _ _ h => h) (Or.inl ⟨by rfl, ?_⟩) ?_ ?_
              rotate_left
              · intro w'
                go_simp
                with_reducible rfl
              rotate_left
              · simp only [Act.put, List.setIfInBounds_toArray, List.set_cons_zero, List.set_cons_succ, i64_w, i32_w]
                rfl
              refine take_ (i := 0) (N := some 60) (v := ?_) (a' := ?_) #[true, true, false, false, true, false, false, false] rfl rfl (take_ofW HT_.out HW_.out (by kernel_rfl)) (fun _ _ _ h => h) (Or.inl ⟨by rfl, ?_⟩) hHeld ?_ ?_
              rotate_left
              · rintro w' ⟨s0, s1, s2, s3, s4, s5⟩
                go_simp
                with_reducible rfl
              rotate_left
              · simp only [Act.put, List.setIfInBounds_toArray, List.set_cons_zero, List.set_cons_succ, i64_w, i32_w]
                rfl
              refine take_ (i := 3) (N := some 63) (v := ?_) (a' := ?_) #[true, true, false, true, true, false, false, false] rfl rfl (take_ofW HT_.out HW_.out (by kernel_rfl)) (fun _ _ _ h => h) (Or.inl ⟨by rfl, ?_⟩) hHeld ?_ ?_
              rotate_left
              · rintro w' ⟨s0, s1, s2, s3, s4, s5⟩
                go_simp
                with_reducible rfl
              rotate_left
              · simp only [Act.put, List.setIfInBounds_toArray, List.set_cons_zero, List.set_cons_succ, i64_w, i32_w]
                rfl
              refine one_ (i := 2) (N := some 62) #[true, true, true, true, true, false, false, false] rfl rfl (one_of HT_.out (by kernel_rfl)) (by decide) (fun K hK => ?_)
              refine goes_ Tryd.func54 (by kernel_rfl) rfl #[.agg #[.int .i64 ((rd_T58 t173 0).f0), .string ((rd_T58 t173 0).f1), .slice A176_2 ((rd_T58 t173 0).f2).length c176_2], .slice Ao99 t178.length co99] (by rfl) rfl rfl (by (try simp only [List.map_toArray, List.map_cons, List.map_nil]); first | done | rfl | (simp only [List.length_drop, List.length_take]; rfl)) ?_
              with_reducible refine (label_Met.calls ((rd_T58 t173 0).f0) ((rd_T58 t173 0).f1) _ _ ((rd_T58 t173 0).f2) _ _ t178 t198 _ ?side1 ?side2 ?side3 ?side4 A83.out).mono ?_
              (case side1 => repeat (first | exact (Kd.V_reads' HO_170002.out).2.2 | (with_reducible refine Kd.C_alloc ?_ _) | (with_reducible refine Kd.C_drewN ?_ _) | (with_reducible refine Kd.C_drew ?_)))
              (case side2 => exact (Kd.V_reads' HO_170002.out).2.1)
              (case side3 => repeat (first | exact (Kd.R_reads' HO_2.out).2.2 | (with_reducible refine Kd.C_alloc ?_ _) | (with_reducible refine Kd.C_drewN ?_ _) | (with_reducible refine Kd.C_drew ?_)))
              (case side4 => exact (Kd.R_reads' HO_2.out).2.1)
              rintro e w100 ⟨rfl, hb⟩
              refine ⟨_, rfl, ?_⟩
              have n0_ := Aside0.mk (Kd.R_below (by (with_reducible repeat (first | apply Kd.R_alloc | apply Kd.R_drewN | apply Kd.R_drew)); exact HO_2.out) hb)
              have n1_ := Aside0.mk (Kd.V_below (by (with_reducible repeat (first | apply Kd.V_alloc | apply Kd.V_drewN | apply Kd.V_drew)); exact HO_170002.out) hb)
              have n2_ := Aside0.mk (Kd.R_below (by (with_reducible repeat (first | apply Kd.R_alloc | apply Kd.R_drewN | apply Kd.R_drew)); exact HO197.out) hb)
              have n3_ := Aside0.mk (blk_below (g := gb169) (o := .cells #[.int .i64 ((rd_T58 t173 0).f0), .string ((rd_T58 t173 0).f1), .slice A176_2 ((rd_T58 t173 0).f2).length c176_2] 58 (0, 0)) (by (with_reducible repeat (first | refine blk_drewN ?_ _ | refine blk_drew ?_ | refine blk_alloc ?_ _)); exact BK169.out) hb)
              have n4_ := Aside0.mk (blk_below (g := gb188) (o := .cells #[.int .i64 ((rd_T58 t173 0).f0), .string ((rd_T58 t173 0).f1), .slice Ao95 y195.length co95] 58 (0, 0)) (by (with_reducible repeat (first | refine blk_drewN ?_ _ | refine blk_drew ?_ | refine blk_alloc ?_ _)); exact BK188.out) hb)
              have n5_ := Aside0.mk (below_step (by repeat (first | (with_reducible first | exact HB.out | apply below_alloc | apply pw_below_drewN | apply below_drew1 | refine below_set ?_ GE169.out | refine below_set ?_ GE188.out) | exact HB.out)) hb)
              clear HO_2
              clear HO_170002
              clear HO197
              clear BK169
              clear BK188
              clear HB
              have HO_2 := n0_
              have HO_170002 := n1_
              have HO197 := n2_
              have BK169 := n3_
              have BK188 := n4_
              have HB := n5_
              clear n0_ n1_ n2_ n3_ n4_ n5_
              (try clear hb)
              (try clear hb2)
              (try clear hk)
              (try clear hi)
              refine hK.out _ _ ⟨(blk_cell BK169.out 0).trans rfl, (blk_cell BK169.out 1).trans rfl, (blk_cell BK169.out 2).trans rfl, (blk_cell BK188.out 0).trans rfl, (blk_cell BK188.out 1).trans rfl, (blk_cell BK188.out 2).trans rfl⟩ (fun hHeld => ?_)
              clear hK K
              refine norm_ (a' := ?_) ?_ ?_
              rotate_left
              · show Act.put _ (some 62) _ = _
                simp only [Act.put, List.setIfInBounds_toArray, List.set_cons_zero, List.set_cons_succ, i64_w, i32_w]
                rfl
              refine one_ (i := 5) (N := some 65) #[true, true, true, true, true, true, false, false] rfl rfl (one_of HT_.out (by kernel_rfl)) (by decide) (fun K hK => ?_)
              refine goes_ Tryd.func54 (by kernel_rfl) rfl #[.agg #[.int .i64 ((rd_T58 t173 0).f0), .string ((rd_T58 t173 0).f1), .slice Ao95 y195.length co95], .slice Ao99 t178.length co99] (by rfl) rfl rfl (by (try simp only [List.map_toArray, List.map_cons, List.map_nil]); first | done | rfl | (simp only [List.length_drop, List.length_take]; rfl)) ?_
              with_reducible refine (label_Met.calls ((rd_T58 t173 0).f0) ((rd_T58 t173 0).f1) _ _ y195 _ _ t178 t199 _ ?side1 ?side2 ?side3 ?side4 A84.out).mono ?_
              (case side1 => repeat (first | exact (Kd.R_reads' HO197.out).2.2 | (with_reducible refine Kd.C_alloc ?_ _) | (with_reducible refine Kd.C_drewN ?_ _) | (with_reducible refine Kd.C_drew ?_)))
              (case side2 => exact (Kd.R_reads' HO197.out).2.1)
              (case side3 => repeat (first | exact (Kd.R_reads' HO_2.out).2.2 | (with_reducible refine Kd.C_alloc ?_ _) | (with_reducible refine Kd.C_drewN ?_ _) | (with_reducible refine Kd.C_drew ?_)))
              (case side4 => exact (Kd.R_reads' HO_2.out).2.1)
              rintro e w101 ⟨rfl, hb⟩
              refine ⟨_, rfl, ?_⟩
              have n0_ := Aside0.mk (Kd.R_below (by (with_reducible repeat (first | apply Kd.R_alloc | apply Kd.R_drewN | apply Kd.R_drew)); exact HO_2.out) hb)
              have n1_ := Aside0.mk (Kd.V_below (by (with_reducible repeat (first | apply Kd.V_alloc | apply Kd.V_drewN | apply Kd.V_drew)); exact HO_170002.out) hb)
              have n2_ := Aside0.mk (Kd.R_below (by (with_reducible repeat (first | apply Kd.R_alloc | apply Kd.R_drewN | apply Kd.R_drew)); exact HO197.out) hb)
              have n3_ := Aside0.mk (blk_below (g := gb169) (o := .cells #[.int .i64 ((rd_T58 t173 0).f0), .string ((rd_T58 t173 0).f1), .slice A176_2 ((rd_T58 t173 0).f2).length c176_2] 58 (0, 0)) (by (with_reducible repeat (first | refine blk_drewN ?_ _ | refine blk_drew ?_ | refine blk_alloc ?_ _)); exact BK169.out) hb)
              have n4_ := Aside0.mk (blk_below (g := gb188) (o := .cells #[.int .i64 ((rd_T58 t173 0).f0), .string ((rd_T58 t173 0).f1), .slice Ao95 y195.length co95] 58 (0, 0)) (by (with_reducible repeat (first | refine blk_drewN ?_ _ | refine blk_drew ?_ | refine blk_alloc ?_ _)); exact BK188.out) hb)
              have n5_ := Aside0.mk (below_step (by repeat (first | (with_reducible first | exact HB.out | apply below_alloc | apply pw_below_drewN | apply below_drew1 | refine below_set ?_ GE169.out | refine below_set ?_ GE188.out) | exact HB.out)) hb)
              clear HO_2
              clear HO_170002
              clear HO197
              clear BK169
              clear BK188
              clear HB
              have HO_2 := n0_
              have HO_170002 := n1_
              have HO197 := n2_
              have BK169 := n3_
              have BK188 := n4_
              have HB := n5_
              clear n0_ n1_ n2_ n3_ n4_ n5_
              (try clear hb)
              (try clear hb2)
              (try clear hk)
              (try clear hi)
              refine hK.out _ _ ⟨(blk_cell BK169.out 0).trans rfl, (blk_cell BK169.out 1).trans rfl, (blk_cell BK169.out 2).trans rfl, (blk_cell BK188.out 0).trans rfl, (blk_cell BK188.out 1).trans rfl, (blk_cell BK188.out 2).trans rfl⟩ (fun hHeld => ?_)
              clear hK K
              refine norm_ (a' := ?_) ?_ ?_
              rotate_left
              · show Act.put _ (some 65) _ = _
                simp only [Act.put, List.setIfInBounds_toArray, List.set_cons_zero, List.set_cons_succ, i64_w, i32_w]
                rfl
              refine pure_ (i := 6) (N := some 8) (v := ?_) (a' := ?_) #[true, true, true, true, true, true, true, false] rfl rfl (any_of HT_.out (by kernel_rfl)) (fun _ _ _ h => h) (Or.inl ⟨by rfl, ?_⟩) ?_ ?_
              rotate_left
              · intro w'
                go_simp
                with_reducible rfl
              rotate_left
              · simp only [Act.put, List.setIfInBounds_toArray, List.set_cons_zero, List.set_cons_succ, i64_w, i32_w]
                rfl
              refine pure_ (i := 7) (N := some 9) (v := ?_) (a' := ?_) #[true, true, true, true, true, true, true, true] rfl rfl (any_of HT_.out (by kernel_rfl)) (fun _ _ _ h => h) (Or.inl ⟨by rfl, ?_⟩) ?_ ?_
              rotate_left
              · intro w'
                go_simp
                with_reducible rfl
              rotate_left
              · simp only [Act.put, List.setIfInBounds_toArray, List.set_cons_zero, List.set_cons_succ, i64_w, i32_w]
                rfl
              refine done_ (done_of HT_.out (by kernel_rfl)) ?_
              go_upto_region 7 with (fail)
              go_cut [10] (fun v10 wc => ∃ (kq : Nat) (x10_84 : Bool), v10 = .bool x10_84 ∧ Aside0 (tolllaw08_LabelKinds.j1 kq t198 t199 x10_84 ((rd_T58 t173 0).f0) ((rd_T58 t173 0).f1) ((rd_T58 t173 0).f2) = some true) ∧ Aside0 (kq ≤ kj7) ∧ Aside0 (Kd.V Kd.string 9 wc w.heap.size (fun k_ => (P0_2_ k_ ∨ w.heap.size ≤ k_) ∧ some k_ ≠ ((.slice Ao95 y195.length co95) : Value).ownBlock ∧ k_ ≠ gb169 ∧ k_ ≠ gb188) (.slice A176_2 ((rd_T58 t173 0).f2).length c176_2) ((rd_T58 t173 0).f2)) ∧ Aside0 (Kd.R Kd.string 9 wc w.heap.size (fun k_ => (w.heap.size ≤ k_)) (.slice Ao95 y195.length co95) y195) ∧ Aside0 (wc.heap[gb169]? = some (.cells #[.int .i64 ((rd_T58 t173 0).f0), .string ((rd_T58 t173 0).f1), (.slice A176_2 ((rd_T58 t173 0).f2).length c176_2)] 58 (0, 0))) ∧ Aside0 (wc.heap[gb188]? = some (.cells #[.int .i64 ((rd_T58 t173 0).f0), .string ((rd_T58 t173 0).f1), (.slice Ao95 y195.length co95)] 58 (0, 0))) ∧ Aside0 (Below w.heap.size w wc))
              case first =>
                have H := HC85.out
                clear HC85
                replace H := Option.bind_eq_some_iff.mp H
                obtain ⟨t200, A1020, H⟩ := H
                replace H : (tolllaw08_LabelKinds.j1 kj7 t198 t199 t200 ((rd_T58 t173 0).f0) ((rd_T58 t173 0).f1) ((rd_T58 t173 0).f2)) = some true := H
                have A102 := Aside0.mk A1020
                clear A1020
                have H' := Aside0.mk H
                clear H
                have hnb103 := NB169_188.out
                have hnc103 := NB188_169.out
                have hcz104_0 : w101.cell? ⟨gb169, 0, none⟩ = some (.int .i64 ((rd_T58 t173 0).f0)) := (blk_cell BK169.out 0).trans rfl
                have hcz104_1 : w101.cell? ⟨gb169, 1, none⟩ = some (.string ((rd_T58 t173 0).f1)) := (blk_cell BK169.out 1).trans rfl
                have hcz104_2 : w101.cell? ⟨gb169, 2, none⟩ = some (.slice A176_2 ((rd_T58 t173 0).f2).length c176_2) := (blk_cell BK169.out 2).trans rfl
                have hfz104_0 := blk_frozen BK169.out 0
                have hfz104_1 := blk_frozen BK169.out 1
                have hfz104_2 := blk_frozen BK169.out 2
                go_wp2_with (first | ((with_reducible refine _root_.Go.Proofs.YtcakednecmngdaaDoorW.PrintMore.gate_callee (f := 54) rfl ?_); refine goesL_ (some 70) rfl rfl Tryd.func54 (by kernel_rfl) rfl #[.agg #[.int .i64 3, .string ((rd_T58 t173 0).f1), .slice none 0 0], .slice Ao99 t178.length co99] rfl (by (try simp only [List.map_toArray, List.map_cons, List.map_nil]); first | done | rfl | (simp only [List.length_drop, List.length_take]; rfl)) ?_; (refine (label_Met.calls 3 ((rd_T58 t173 0).f1) _ _ ([] : List ByteArray) _ _ t178 t200 _ ?side1 ?side2 ?side3 ?side4 A102.out).mono ?_); (case side1 => exact Kd.C_nil _ _); (case side2 => exact Nat.le_refl _); (case side3 => repeat (first | exact (Kd.R_reads' HO_2.out).2.2 | (with_reducible refine Kd.C_alloc ?_ _) | (with_reducible refine Kd.C_drewN ?_ _) | (with_reducible refine Kd.C_drew ?_))); (case side4 => exact (Kd.R_reads' HO_2.out).2.1); rintro e w105 ⟨rfl, hb⟩; refine ⟨_, rfl, ?_⟩; have n0_ := Aside0.mk (Kd.R_below (by (with_reducible repeat (first | apply Kd.R_alloc | apply Kd.R_drewN | apply Kd.R_drew)); exact HO_2.out) hb); have n1_ := Aside0.mk (Kd.V_below (by (with_reducible repeat (first | apply Kd.V_alloc | apply Kd.V_drewN | apply Kd.V_drew)); exact HO_170002.out) hb); have n2_ := Aside0.mk (Kd.R_below (by (with_reducible repeat (first | apply Kd.R_alloc | apply Kd.R_drewN | apply Kd.R_drew)); exact HO197.out) hb); have n3_ := Aside0.mk (blk_below (g := gb169) (o := .cells #[.int .i64 ((rd_T58 t173 0).f0), .string ((rd_T58 t173 0).f1), .slice A176_2 ((rd_T58 t173 0).f2).length c176_2] 58 (0, 0)) (by (with_reducible repeat (first | refine blk_drewN ?_ _ | refine blk_drew ?_ | refine blk_alloc ?_ _)); exact BK169.out) hb); have n4_ := Aside0.mk (blk_below (g := gb188) (o := .cells #[.int .i64 ((rd_T58 t173 0).f0), .string ((rd_T58 t173 0).f1), .slice Ao95 y195.length co95] 58 (0, 0)) (by (with_reducible repeat (first | refine blk_drewN ?_ _ | refine blk_drew ?_ | refine blk_alloc ?_ _)); exact BK188.out) hb); have n5_ := Aside0.mk (below_step (by repeat (first | (with_reducible first | exact HB.out | apply below_alloc | apply pw_below_drewN | apply below_drew1 | refine below_set ?_ GE169.out | refine below_set ?_ GE188.out) | exact HB.out)) hb); clear HO_2; clear HO_170002; clear HO197; clear BK169; clear BK188; clear HB; have HO_2 := n0_; have HO_170002 := n1_; have HO197 := n2_; have BK169 := n3_; have BK188 := n4_; have HB := n5_; clear n0_ n1_ n2_ n3_ n4_ n5_; (try clear hb); (try clear hb2); (try clear hk); (try clear hi)))
                go_meet
                case rel => exact ⟨_, (t200), (by first | rfl | (simp; done) | (simp [*]; done)), H', ⟨by have := HJ7.out; first | omega | exact Nat.le_refl _⟩, ⟨by (with_reducible repeat (first | apply Kd.V_alloc | apply Kd.V_drewN | apply Kd.V_drew)); exact Kd.V_mono HO_170002.out (fun _ hk => ⟨hk.1, ⟨hk.2.2.1, ⟨hk.2.2.2.1, hk.2.2.2.2⟩⟩⟩)⟩, ⟨by (with_reducible repeat (first | apply Kd.R_alloc | apply Kd.R_drewN | apply Kd.R_drew)); exact HO197.out⟩, ⟨by (with_reducible repeat (first | refine blk_drewN ?_ _ | refine blk_drew ?_ | refine blk_alloc ?_ _)); exact BK169.out⟩, ⟨by (with_reducible repeat (first | refine blk_drewN ?_ _ | refine blk_drew ?_ | refine blk_alloc ?_ _)); exact BK188.out⟩, ⟨by repeat (first | (with_reducible first | exact HB.out | apply below_alloc | apply pw_below_drewN | apply below_drew1 | refine below_set ?_ GE169.out | refine below_set ?_ GE188.out) | exact HB.out)⟩⟩
              case rest =>
                clear HC85
                try clear c1
                try clear p1
                try clear q1
                try clear hx1
                try clear qi1
                try clear c2
                try clear p2
                try clear c3
                try clear c4
                try clear c5
                try clear c5b0
                try clear c5b1
                try clear c7
                try clear c8
                try clear c10
                try clear c12
                try clear c17
                try clear p17
                try clear q17
                try clear hx17
                try clear qi17
                try clear c21
                try clear c23
                try clear c24
                try clear c24b0
                try clear c24b1
                try clear c24b2
                try clear c30
                try clear c34
                try clear c34b0
                try clear c34b1
                try clear c44
                try clear c44b0
                try clear c44b1
                try clear c51
                try clear c53
                try clear c54
                try clear c55
                try clear c56
                try clear c78
                try clear c81
                try clear c82
                try clear c88
                try clear c103
                try clear hcz104_0
                try clear hcz104_1
                try clear hcz104_2
                try clear hcz26_0
                try clear hcz26_1
                try clear hcz26_2
                try clear hcz33_0
                try clear hcz33_1
                try clear hcz33_2
                try clear hcz36_0
                try clear hcz36_1
                try clear hcz36_2
                try clear hcz43_0
                try clear hcz43_1
                try clear hcz43_2
                try clear hcz46_0
                try clear hcz46_1
                try clear hcz46_2
                try clear hcz53_0
                try clear hcz53_1
                try clear hcz53_2
                try clear hcz56_0
                try clear hcz56_1
                try clear hcz56_2
                try clear hcz63_0
                try clear hcz63_1
                try clear hcz63_2
                try clear hcz65_0
                try clear hcz65_1
                try clear hcz65_2
                try clear hcz73_0
                try clear hcz73_1
                try clear hcz73_2
                try clear hcz86_0
                try clear hcz86_1
                try clear hcz86_2
                try clear hcz89_0
                try clear hcz89_1
                try clear hcz89_2
                try clear hcz92_0
                try clear hcz92_1
                try clear hcz92_2
                try clear hcz96_0
                try clear hcz96_1
                try clear hcz96_2
                try clear hfz104_0
                try clear hfz104_1
                try clear hfz104_2
                try clear hfz26_0
                try clear hfz26_1
                try clear hfz26_2
                try clear hfz33_0
                try clear hfz33_1
                try clear hfz33_2
                try clear hfz36_0
                try clear hfz36_1
                try clear hfz36_2
                try clear hfz43_0
                try clear hfz43_1
                try clear hfz43_2
                try clear hfz46_0
                try clear hfz46_1
                try clear hfz46_2
                try clear hfz53_0
                try clear hfz53_1
                try clear hfz53_2
                try clear hfz56_0
                try clear hfz56_1
                try clear hfz56_2
                try clear hfz63_0
                try clear hfz63_1
                try clear hfz63_2
                try clear hfz65_0
                try clear hfz65_1
                try clear hfz65_2
                try clear hfz73_0
                try clear hfz73_1
                try clear hfz73_2
                try clear hfz86_0
                try clear hfz86_1
                try clear hfz86_2
                try clear hfz89_0
                try clear hfz89_1
                try clear hfz89_2
                try clear hfz92_0
                try clear hfz92_1
                try clear hfz92_2
                try clear hfz96_0
                try clear hfz96_1
                try clear hfz96_2
                try clear hx176_0
                try clear hx176_1
                try clear hx176_2
                try clear p1
                try clear p17
                try clear p176
                try clear p2
                try clear q1
                try clear q17
                try clear q176
                obtain ⟨kq, x10_84, rfl, HA, HJ84, HO_170002, HO_189002, BK169, BK188, HB⟩ := hcut
                cases kq with
                | zero => exact absurd HA.out (by simp [tolllaw08_LabelKinds.j1])
                | succ kj84 =>
                  have H := HA.out
                  clear HA
                  simp only [tolllaw08_LabelKinds.j1] at H
                  by_cases c106 : ((rd_T58 t173 0).f0) = 1
                  · rw [if_pos c106] at H
                    have c106b0 : (((rd_T58 t173 0).f0) == 1) = true := beq_iff_eq.mpr c106
                    have c106b1 : (((rd_T58 t173 0).f0) != 1) = false := bne_eq_false_iff_eq.mpr c106
                    clear c106
                    by_cases c107 : t198 = true
                    · subst c107
                      have H1 : (if t199 = true then (if x10_84 = true then ((tolllaw08_awake.f).bind fun t201 => (some t201)) else (some false)) else (some false)) = some true := by rw [if_pos rfl] at H; exact H
                      clear H
                      have H := H1
                      clear H1
                      by_cases c108 : t199 = true
                      · subst c108
                        have H1 : (if x10_84 = true then ((tolllaw08_awake.f).bind fun t201 => (some t201)) else (some false)) = some true := by rw [if_pos rfl] at H; exact H
                        clear H
                        have H := H1
                        clear H1
                        by_cases c109 : x10_84 = true
                        · subst c109
                          have H1 : ((tolllaw08_awake.f).bind fun t201 => (some t201)) = some true := by rw [if_pos rfl] at H; exact H
                          clear H
                          have H := H1
                          clear H1
                          replace H := Option.bind_eq_some_iff.mp H
                          obtain ⟨t201, A1100, H⟩ := H
                          replace H : (some t201) = some true := H
                          have A110 := Aside0.mk A1100
                          clear A1100
                          obtain rfl := Option.some.inj H
                          have hnb111 := NB169_188.out
                          have hnc111 := NB188_169.out
                          have hcz112_0 : wc.cell? ⟨gb169, 0, none⟩ = some (.int .i64 ((rd_T58 t173 0).f0)) := (blk_cell BK169.out 0).trans rfl
                          have hcz112_1 : wc.cell? ⟨gb169, 1, none⟩ = some (.string ((rd_T58 t173 0).f1)) := (blk_cell BK169.out 1).trans rfl
                          have hcz112_2 : wc.cell? ⟨gb169, 2, none⟩ = some (.slice A176_2 ((rd_T58 t173 0).f2).length c176_2) := (blk_cell BK169.out 2).trans rfl
                          have hfz112_0 := blk_frozen BK169.out 0
                          have hfz112_1 := blk_frozen BK169.out 1
                          have hfz112_2 := blk_frozen BK169.out 2
                          go_wp2_with (first | (go_at_call 53; (with_reducible refine (tolllaw08_awake.calls  true _ A110.out).mono ?_); rintro e w113 ⟨rfl, hb⟩; have n0_ := Aside0.mk (Kd.V_below (by (with_reducible repeat (first | apply Kd.V_alloc | apply Kd.V_drewN | apply Kd.V_drew)); exact HO_170002.out) hb); have n1_ := Aside0.mk (Kd.R_below (by (with_reducible repeat (first | apply Kd.R_alloc | apply Kd.R_drewN | apply Kd.R_drew)); exact HO_189002.out) hb); have n2_ := Aside0.mk (blk_below (g := gb169) (o := .cells #[.int .i64 ((rd_T58 t173 0).f0), .string ((rd_T58 t173 0).f1), .slice A176_2 ((rd_T58 t173 0).f2).length c176_2] 58 (0, 0)) (by (with_reducible repeat (first | refine blk_drewN ?_ _ | refine blk_drew ?_ | refine blk_alloc ?_ _)); exact BK169.out) hb); have n3_ := Aside0.mk (blk_below (g := gb188) (o := .cells #[.int .i64 ((rd_T58 t173 0).f0), .string ((rd_T58 t173 0).f1), .slice Ao95 y195.length co95] 58 (0, 0)) (by (with_reducible repeat (first | refine blk_drewN ?_ _ | refine blk_drew ?_ | refine blk_alloc ?_ _)); exact BK188.out) hb); have n4_ := Aside0.mk (below_step (by repeat (first | (with_reducible first | exact HB.out | apply below_alloc | apply pw_below_drewN | apply below_drew1 | refine below_set ?_ GE169.out | refine below_set ?_ GE188.out) | exact HB.out)) hb); clear HO_170002; clear HO_189002; clear BK169; clear BK188; clear HB; have HO_170002 := n0_; have HO_189002 := n1_; have BK169 := n2_; have BK188 := n3_; have HB := n4_; clear n0_ n1_ n2_ n3_ n4_; (try clear hb); (try clear hb2); (try clear hk); (try clear hi)))
                          go_ret
                          exact ⟨by first | rfl | (simp [errW_none, errW_some] <;> rfl) | (simp [*, errW_none, errW_some] <;> rfl), by repeat (first | (with_reducible first | exact HB.out | apply below_alloc | apply pw_below_drewN | apply below_drew1 | refine below_set ?_ GE169.out | refine below_set ?_ GE188.out) | exact HB.out)⟩
                        · replace c109 := Bool.eq_false_iff.mpr c109
                          subst c109
                          have H1 : (some false) = some true := by rw [if_neg (show ¬ (false = true) by decide)] at H; exact H
                          exact absurd H1 (by simp)
                      · replace c108 := Bool.eq_false_iff.mpr c108
                        subst c108
                        have H1 : (some false) = some true := by rw [if_neg (show ¬ (false = true) by decide)] at H; exact H
                        exact absurd H1 (by simp)
                    · replace c107 := Bool.eq_false_iff.mpr c107
                      subst c107
                      have H1 : ((tolllaw08_awake.f).bind fun t202 => (some t202)) = some true := by rw [if_neg (show ¬ (false = true) by decide)] at H; exact H
                      clear H
                      have H := H1
                      clear H1
                      replace H := Option.bind_eq_some_iff.mp H
                      obtain ⟨t202, A1180, H⟩ := H
                      replace H : (some t202) = some true := H
                      have A118 := Aside0.mk A1180
                      clear A1180
                      obtain rfl := Option.some.inj H
                      have hnb119 := NB169_188.out
                      have hnc119 := NB188_169.out
                      have hcz120_0 : wc.cell? ⟨gb169, 0, none⟩ = some (.int .i64 ((rd_T58 t173 0).f0)) := (blk_cell BK169.out 0).trans rfl
                      have hcz120_1 : wc.cell? ⟨gb169, 1, none⟩ = some (.string ((rd_T58 t173 0).f1)) := (blk_cell BK169.out 1).trans rfl
                      have hcz120_2 : wc.cell? ⟨gb169, 2, none⟩ = some (.slice A176_2 ((rd_T58 t173 0).f2).length c176_2) := (blk_cell BK169.out 2).trans rfl
                      have hfz120_0 := blk_frozen BK169.out 0
                      have hfz120_1 := blk_frozen BK169.out 1
                      have hfz120_2 := blk_frozen BK169.out 2
                      go_wp2_with (first | (go_at_call 53; (with_reducible refine (tolllaw08_awake.calls  true _ A118.out).mono ?_); rintro e w121 ⟨rfl, hb⟩; have n0_ := Aside0.mk (Kd.V_below (by (with_reducible repeat (first | apply Kd.V_alloc | apply Kd.V_drewN | apply Kd.V_drew)); exact HO_170002.out) hb); have n1_ := Aside0.mk (Kd.R_below (by (with_reducible repeat (first | apply Kd.R_alloc | apply Kd.R_drewN | apply Kd.R_drew)); exact HO_189002.out) hb); have n2_ := Aside0.mk (blk_below (g := gb169) (o := .cells #[.int .i64 ((rd_T58 t173 0).f0), .string ((rd_T58 t173 0).f1), .slice A176_2 ((rd_T58 t173 0).f2).length c176_2] 58 (0, 0)) (by (with_reducible repeat (first | refine blk_drewN ?_ _ | refine blk_drew ?_ | refine blk_alloc ?_ _)); exact BK169.out) hb); have n3_ := Aside0.mk (blk_below (g := gb188) (o := .cells #[.int .i64 ((rd_T58 t173 0).f0), .string ((rd_T58 t173 0).f1), .slice Ao95 y195.length co95] 58 (0, 0)) (by (with_reducible repeat (first | refine blk_drewN ?_ _ | refine blk_drew ?_ | refine blk_alloc ?_ _)); exact BK188.out) hb); have n4_ := Aside0.mk (below_step (by repeat (first | (with_reducible first | exact HB.out | apply below_alloc | apply pw_below_drewN | apply below_drew1 | refine below_set ?_ GE169.out | refine below_set ?_ GE188.out) | exact HB.out)) hb); clear HO_170002; clear HO_189002; clear BK169; clear BK188; clear HB; have HO_170002 := n0_; have HO_189002 := n1_; have BK169 := n2_; have BK188 := n3_; have HB := n4_; clear n0_ n1_ n2_ n3_ n4_; (try clear hb); (try clear hb2); (try clear hk); (try clear hi)))
                      go_ret
                      exact ⟨by first | rfl | (simp [errW_none, errW_some] <;> rfl) | (simp [*, errW_none, errW_some] <;> rfl), by repeat (first | (with_reducible first | exact HB.out | apply below_alloc | apply pw_below_drewN | apply below_drew1 | refine below_set ?_ GE169.out | refine below_set ?_ GE188.out) | exact HB.out)⟩
                  · rw [if_neg c106] at H
                    have c106b0 : (((rd_T58 t173 0).f0) == 1) = false := beq_eq_false_iff_ne.mpr c106
                    have c106b1 : (((rd_T58 t173 0).f0) != 1) = true := bne_iff_ne.mpr c106
                    by_cases c122 : t199 = true
                    · subst c122
                      have H1 : (if t198 = true then (if x10_84 = true then ((tolllaw08_awake.f).bind fun t203 => (some t203)) else ((tolllaw08_awake.f).bind fun t204 => (some t204))) else (some false)) = some true := by rw [if_pos rfl] at H; exact H
                      clear H
                      have H := H1
                      clear H1
                      by_cases c123 : t198 = true
                      · subst c123
                        have H1 : (if x10_84 = true then ((tolllaw08_awake.f).bind fun t203 => (some t203)) else ((tolllaw08_awake.f).bind fun t204 => (some t204))) = some true := by rw [if_pos rfl] at H; exact H
                        clear H
                        have H := H1
                        clear H1
                        by_cases c124 : x10_84 = true
                        · subst c124
                          have H1 : ((tolllaw08_awake.f).bind fun t203 => (some t203)) = some true := by rw [if_pos rfl] at H; exact H
                          clear H
                          have H := H1
                          clear H1
                          replace H := Option.bind_eq_some_iff.mp H
                          obtain ⟨t203, A1250, H⟩ := H
                          replace H : (some t203) = some true := H
                          have A125 := Aside0.mk A1250
                          clear A1250
                          obtain rfl := Option.some.inj H
                          have hnb126 := NB169_188.out
                          have hnc126 := NB188_169.out
                          have hcz127_0 : wc.cell? ⟨gb169, 0, none⟩ = some (.int .i64 ((rd_T58 t173 0).f0)) := (blk_cell BK169.out 0).trans rfl
                          have hcz127_1 : wc.cell? ⟨gb169, 1, none⟩ = some (.string ((rd_T58 t173 0).f1)) := (blk_cell BK169.out 1).trans rfl
                          have hcz127_2 : wc.cell? ⟨gb169, 2, none⟩ = some (.slice A176_2 ((rd_T58 t173 0).f2).length c176_2) := (blk_cell BK169.out 2).trans rfl
                          have hfz127_0 := blk_frozen BK169.out 0
                          have hfz127_1 := blk_frozen BK169.out 1
                          have hfz127_2 := blk_frozen BK169.out 2
                          go_wp2_with (first | (go_at_call 53; (with_reducible refine (tolllaw08_awake.calls  true _ A125.out).mono ?_); rintro e w128 ⟨rfl, hb⟩; have n0_ := Aside0.mk (Kd.V_below (by (with_reducible repeat (first | apply Kd.V_alloc | apply Kd.V_drewN | apply Kd.V_drew)); exact HO_170002.out) hb); have n1_ := Aside0.mk (Kd.R_below (by (with_reducible repeat (first | apply Kd.R_alloc | apply Kd.R_drewN | apply Kd.R_drew)); exact HO_189002.out) hb); have n2_ := Aside0.mk (blk_below (g := gb169) (o := .cells #[.int .i64 ((rd_T58 t173 0).f0), .string ((rd_T58 t173 0).f1), .slice A176_2 ((rd_T58 t173 0).f2).length c176_2] 58 (0, 0)) (by (with_reducible repeat (first | refine blk_drewN ?_ _ | refine blk_drew ?_ | refine blk_alloc ?_ _)); exact BK169.out) hb); have n3_ := Aside0.mk (blk_below (g := gb188) (o := .cells #[.int .i64 ((rd_T58 t173 0).f0), .string ((rd_T58 t173 0).f1), .slice Ao95 y195.length co95] 58 (0, 0)) (by (with_reducible repeat (first | refine blk_drewN ?_ _ | refine blk_drew ?_ | refine blk_alloc ?_ _)); exact BK188.out) hb); have n4_ := Aside0.mk (below_step (by repeat (first | (with_reducible first | exact HB.out | apply below_alloc | apply pw_below_drewN | apply below_drew1 | refine below_set ?_ GE169.out | refine below_set ?_ GE188.out) | exact HB.out)) hb); clear HO_170002; clear HO_189002; clear BK169; clear BK188; clear HB; have HO_170002 := n0_; have HO_189002 := n1_; have BK169 := n2_; have BK188 := n3_; have HB := n4_; clear n0_ n1_ n2_ n3_ n4_; (try clear hb); (try clear hb2); (try clear hk); (try clear hi)))
                          go_ret
                          exact ⟨by first | rfl | (simp [errW_none, errW_some] <;> rfl) | (simp [*, errW_none, errW_some] <;> rfl), by repeat (first | (with_reducible first | exact HB.out | apply below_alloc | apply pw_below_drewN | apply below_drew1 | refine below_set ?_ GE169.out | refine below_set ?_ GE188.out) | exact HB.out)⟩
                        · replace c124 := Bool.eq_false_iff.mpr c124
                          subst c124
                          have H1 : ((tolllaw08_awake.f).bind fun t204 => (some t204)) = some true := by rw [if_neg (show ¬ (false = true) by decide)] at H; exact H
                          clear H
                          have H := H1
                          clear H1
                          replace H := Option.bind_eq_some_iff.mp H
                          obtain ⟨t204, A1290, H⟩ := H
                          replace H : (some t204) = some true := H
                          have A129 := Aside0.mk A1290
                          clear A1290
                          obtain rfl := Option.some.inj H
                          have hnb130 := NB169_188.out
                          have hnc130 := NB188_169.out
                          have hcz131_0 : wc.cell? ⟨gb169, 0, none⟩ = some (.int .i64 ((rd_T58 t173 0).f0)) := (blk_cell BK169.out 0).trans rfl
                          have hcz131_1 : wc.cell? ⟨gb169, 1, none⟩ = some (.string ((rd_T58 t173 0).f1)) := (blk_cell BK169.out 1).trans rfl
                          have hcz131_2 : wc.cell? ⟨gb169, 2, none⟩ = some (.slice A176_2 ((rd_T58 t173 0).f2).length c176_2) := (blk_cell BK169.out 2).trans rfl
                          have hfz131_0 := blk_frozen BK169.out 0
                          have hfz131_1 := blk_frozen BK169.out 1
                          have hfz131_2 := blk_frozen BK169.out 2
                          go_wp2_with (first | (go_at_call 53; (with_reducible refine (tolllaw08_awake.calls  true _ A129.out).mono ?_); rintro e w132 ⟨rfl, hb⟩; have n0_ := Aside0.mk (Kd.V_below (by (with_reducible repeat (first | apply Kd.V_alloc | apply Kd.V_drewN | apply Kd.V_drew)); exact HO_170002.out) hb); have n1_ := Aside0.mk (Kd.R_below (by (with_reducible repeat (first | apply Kd.R_alloc | apply Kd.R_drewN | apply Kd.R_drew)); exact HO_189002.out) hb); have n2_ := Aside0.mk (blk_below (g := gb169) (o := .cells #[.int .i64 ((rd_T58 t173 0).f0), .string ((rd_T58 t173 0).f1), .slice A176_2 ((rd_T58 t173 0).f2).length c176_2] 58 (0, 0)) (by (with_reducible repeat (first | refine blk_drewN ?_ _ | refine blk_drew ?_ | refine blk_alloc ?_ _)); exact BK169.out) hb); have n3_ := Aside0.mk (blk_below (g := gb188) (o := .cells #[.int .i64 ((rd_T58 t173 0).f0), .string ((rd_T58 t173 0).f1), .slice Ao95 y195.length co95] 58 (0, 0)) (by (with_reducible repeat (first | refine blk_drewN ?_ _ | refine blk_drew ?_ | refine blk_alloc ?_ _)); exact BK188.out) hb); have n4_ := Aside0.mk (below_step (by repeat (first | (with_reducible first | exact HB.out | apply below_alloc | apply pw_below_drewN | apply below_drew1 | refine below_set ?_ GE169.out | refine below_set ?_ GE188.out) | exact HB.out)) hb); clear HO_170002; clear HO_189002; clear BK169; clear BK188; clear HB; have HO_170002 := n0_; have HO_189002 := n1_; have BK169 := n2_; have BK188 := n3_; have HB := n4_; clear n0_ n1_ n2_ n3_ n4_; (try clear hb); (try clear hb2); (try clear hk); (try clear hi)))
                          go_ret
                          exact ⟨by first | rfl | (simp [errW_none, errW_some] <;> rfl) | (simp [*, errW_none, errW_some] <;> rfl), by repeat (first | (with_reducible first | exact HB.out | apply below_alloc | apply pw_below_drewN | apply below_drew1 | refine below_set ?_ GE169.out | refine below_set ?_ GE188.out) | exact HB.out)⟩
                      · replace c123 := Bool.eq_false_iff.mpr c123
                        subst c123
                        have H1 : (some false) = some true := by rw [if_neg (show ¬ (false = true) by decide)] at H; exact H
                        exact absurd H1 (by simp)
                    · replace c122 := Bool.eq_false_iff.mpr c122
                      subst c122
                      have H1 : (if x10_84 = true then ((tolllaw08_awake.f).bind fun t205 => (some t205)) else (if t198 = true then (some false) else (some false))) = some true := by rw [if_neg (show ¬ (false = true) by decide)] at H; exact H
                      clear H
                      have H := H1
                      clear H1
                      by_cases c135 : x10_84 = true
                      · subst c135
                        have H1 : ((tolllaw08_awake.f).bind fun t205 => (some t205)) = some true := by rw [if_pos rfl] at H; exact H
                        clear H
                        have H := H1
                        clear H1
                        replace H := Option.bind_eq_some_iff.mp H
                        obtain ⟨t205, A1360, H⟩ := H
                        replace H : (some t205) = some true := H
                        have A136 := Aside0.mk A1360
                        clear A1360
                        obtain rfl := Option.some.inj H
                        have hnb137 := NB169_188.out
                        have hnc137 := NB188_169.out
                        have hcz138_0 : wc.cell? ⟨gb169, 0, none⟩ = some (.int .i64 ((rd_T58 t173 0).f0)) := (blk_cell BK169.out 0).trans rfl
                        have hcz138_1 : wc.cell? ⟨gb169, 1, none⟩ = some (.string ((rd_T58 t173 0).f1)) := (blk_cell BK169.out 1).trans rfl
                        have hcz138_2 : wc.cell? ⟨gb169, 2, none⟩ = some (.slice A176_2 ((rd_T58 t173 0).f2).length c176_2) := (blk_cell BK169.out 2).trans rfl
                        have hfz138_0 := blk_frozen BK169.out 0
                        have hfz138_1 := blk_frozen BK169.out 1
                        have hfz138_2 := blk_frozen BK169.out 2
                        go_wp2_with (first | (go_at_call 53; (with_reducible refine (tolllaw08_awake.calls  true _ A136.out).mono ?_); rintro e w139 ⟨rfl, hb⟩; have n0_ := Aside0.mk (Kd.V_below (by (with_reducible repeat (first | apply Kd.V_alloc | apply Kd.V_drewN | apply Kd.V_drew)); exact HO_170002.out) hb); have n1_ := Aside0.mk (Kd.R_below (by (with_reducible repeat (first | apply Kd.R_alloc | apply Kd.R_drewN | apply Kd.R_drew)); exact HO_189002.out) hb); have n2_ := Aside0.mk (blk_below (g := gb169) (o := .cells #[.int .i64 ((rd_T58 t173 0).f0), .string ((rd_T58 t173 0).f1), .slice A176_2 ((rd_T58 t173 0).f2).length c176_2] 58 (0, 0)) (by (with_reducible repeat (first | refine blk_drewN ?_ _ | refine blk_drew ?_ | refine blk_alloc ?_ _)); exact BK169.out) hb); have n3_ := Aside0.mk (blk_below (g := gb188) (o := .cells #[.int .i64 ((rd_T58 t173 0).f0), .string ((rd_T58 t173 0).f1), .slice Ao95 y195.length co95] 58 (0, 0)) (by (with_reducible repeat (first | refine blk_drewN ?_ _ | refine blk_drew ?_ | refine blk_alloc ?_ _)); exact BK188.out) hb); have n4_ := Aside0.mk (below_step (by repeat (first | (with_reducible first | exact HB.out | apply below_alloc | apply pw_below_drewN | apply below_drew1 | refine below_set ?_ GE169.out | refine below_set ?_ GE188.out) | exact HB.out)) hb); clear HO_170002; clear HO_189002; clear BK169; clear BK188; clear HB; have HO_170002 := n0_; have HO_189002 := n1_; have BK169 := n2_; have BK188 := n3_; have HB := n4_; clear n0_ n1_ n2_ n3_ n4_; (try clear hb); (try clear hb2); (try clear hk); (try clear hi)))
                        go_ret
                        exact ⟨by first | rfl | (simp [errW_none, errW_some] <;> rfl) | (simp [*, errW_none, errW_some] <;> rfl), by repeat (first | (with_reducible first | exact HB.out | apply below_alloc | apply pw_below_drewN | apply below_drew1 | refine below_set ?_ GE169.out | refine below_set ?_ GE188.out) | exact HB.out)⟩
                      · replace c135 := Bool.eq_false_iff.mpr c135
                        subst c135
                        have H1 : (if t198 = true then (some false) else (some false)) = some true := by rw [if_neg (show ¬ (false = true) by decide)] at H; exact H
                        clear H
                        have H := H1
                        clear H1
                        by_cases c140 : t198 = true
                        · subst c140
                          have H1 : (some false) = some true := by rw [if_pos rfl] at H; exact H
                          exact absurd H1 (by simp)
                        · replace c140 := Bool.eq_false_iff.mpr c140
                          subst c140
                          have H1 : (some false) = some true := by rw [if_neg (show ¬ (false = true) by decide)] at H; exact H
                          exact absurd H1 (by simp)
            · rw [if_neg c82] at H
              exact absurd H (by simp)
          · rw [if_neg c81] at H
            exact absurd H (by simp)
  · rw [if_neg c5] at H
    exact absurd H (by simp)

end Go.Proofs.YtcakednecmngdaaDoor.L
