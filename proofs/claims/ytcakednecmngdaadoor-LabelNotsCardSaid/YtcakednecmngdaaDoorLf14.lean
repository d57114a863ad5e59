/- Functions of the program as plain functions, with proofs that the code comes to their answers; written by a program of this session. Conditions: as each theorem states them. -/
import Derived.Test.YtcakednecmngdaaDoorSwitch
import Derived.Test.YtcakednecmngdaaDoorLW
import Derived.Test.YtcakednecmngdaaDoorL0
import Derived.Test.YtcakednecmngdaaDoorLf52
import Derived.Test.YtcakednecmngdaaDoorLf51
import Derived.Test.YtcakednecmngdaaDoorLf53
import Derived.Test.YtcakednecmngdaaDoorLf55
import Derived.Test.YtcakednecmngdaaDoorLf59
import Derived.Test.YtcakednecmngdaaDoorLf60
import Derived.Test.YtcakednecmngdaaDoorLabelM
import Derived.Test.YtcakednecmngdaaDoorLabelO
import Derived.Test.YtcakednecmngdaaDoorPf48
namespace Go.Proofs.YtcakednecmngdaaDoor.P
end Go.Proofs.YtcakednecmngdaaDoor.P
namespace Go.Proofs.YtcakednecmngdaaDoorW.PrintMore
end Go.Proofs.YtcakednecmngdaaDoorW.PrintMore
namespace Go.Proofs.YtcakednecmngdaaDoor.L
open Go.Proofs.YtcakednecmngdaaDoor.P
open Go.RowKit Go.Proofs.YtcakednecmngdaaDoorW.PrintWords Go.Proofs.YtcakednecmngdaaDoorW.PrintLast Go.Proofs.YtcakednecmngdaaDoorW.PrintMore
set_option linter.unusedVariables false
set_option linter.unusedSimpArgs false

/-! ### tolllaw08_LabelNots: function 14 -/
def tolllaw08_LabelNots.j0 : Nat → List (S55) → Bool → Int → ByteArray → List ByteArray → Int → ByteArray → List ByteArray → Option (Bool)
  | 0, _, _, _, _, _, _, _, _ => none
  | k + 1, x1, x74, x259000, x259001, x259002, x276000, x276001, x276002 => if x74 = true then (some false) else ((label_May.f k x1).bind fun t296 => (if t296 = true then ((label_May.f k x1).bind fun t297 => (if t297 = true then ((label_Met.f x259000 x259001 x259002 x1).bind fun t298 => ((label_Met.f x276000 x276001 x276002 x1).bind fun t299 => (if (t298 != t299) = true then ((tolllaw08_awake.f).bind fun t300 => (some t300)) else (some false)))) else (some false))) else ((label_Met.f x259000 x259001 x259002 x1).bind fun t301 => (if t301 = true then ((label_May.f k x1).bind fun t302 => (if t302 = true then ((label_Met.f x259000 x259001 x259002 x1).bind fun t303 => ((label_Met.f x276000 x276001 x276002 x1).bind fun t304 => (if (t303 != t304) = true then ((tolllaw08_awake.f).bind fun t305 => (some t305)) else (some false)))) else (some false))) else ((label_Met.f x276000 x276001 x276002 x1).bind fun t306 => (if t306 = true then ((label_May.f k x1).bind fun t307 => (if t307 = true then ((label_Met.f x259000 x259001 x259002 x1).bind fun t308 => ((label_Met.f x276000 x276001 x276002 x1).bind fun t309 => (if (t308 != t309) = true then ((tolllaw08_awake.f).bind fun t310 => (some t310)) else (some false)))) else (some false))) else ((tolllaw08_awake.f).bind fun t311 => (some t311))))))))
def tolllaw08_LabelNots.f (k : Nat) (a0_0 : Int) (a0_1 : ByteArray) (l0_2 : List ByteArray) (l1 : List (S55)) : Option (Bool) := (tolllaw08_Few.f k (([(⟨a0_0, a0_1, l0_2⟩ : S58)] : List (S58)))).bind fun t262 => (if 0 < (t262.length : Int) then ((tolllaw05_Few.f k l1).bind fun t266 => ((label_Not.f ((rd_T58 t262 0).f0) ((rd_T58 t262 0).f1) ((rd_T58 t262 0).f2)).bind fun bt269 => ((label_Needs.f (([(⟨(rd_T58 t262 0).f0, (rd_T58 t262 0).f1, (rd_T58 t262 0).f2⟩ : S58)] : List (S58)))).bind fun t279 => (if (bt269.2.2.2 != t279) = true then (some false) else (if bt269.2.2.2 = true then ((label_Not.f bt269.1 bt269.2.1 bt269.2.2.1).bind fun bt281 => (if bt281.2.2.2 = true then ((tollref08_Same.f k (([(⟨bt281.1, bt281.2.1, bt281.2.2.1⟩ : S58)] : List (S58))) (([(⟨(rd_T58 t262 0).f0, (rd_T58 t262 0).f1, (rd_T58 t262 0).f2⟩ : S58)] : List (S58)))).bind fun t294 => (if t294 = true then (if bt269.2.1.toList = ((rd_T58 t262 0).f1).toList then ((tollref01_Same.f k bt269.2.2.1 ((rd_T58 t262 0).f2)).bind fun t295 => (tolllaw08_LabelNots.j0 k t266 (!t295) ((rd_T58 t262 0).f0) ((rd_T58 t262 0).f1) ((rd_T58 t262 0).f2) bt269.1 bt269.2.1 bt269.2.2.1)) else (tolllaw08_LabelNots.j0 k t266 true ((rd_T58 t262 0).f0) ((rd_T58 t262 0).f1) ((rd_T58 t262 0).f2) bt269.1 bt269.2.1 bt269.2.2.1)) else (tolllaw08_LabelNots.j0 k t266 true ((rd_T58 t262 0).f0) ((rd_T58 t262 0).f1) ((rd_T58 t262 0).f2) bt269.1 bt269.2.1 bt269.2.2.1))) else (tolllaw08_LabelNots.j0 k t266 true ((rd_T58 t262 0).f0) ((rd_T58 t262 0).f1) ((rd_T58 t262 0).f2) bt269.1 bt269.2.1 bt269.2.2.1))) else (if bt269.1 = 0 then (if bt269.2.1.toList = ([] : List UInt8) then (if (bt269.2.2.1.length : Int) = 0 then ((tolllaw08_awake.f).bind fun t280 => (some t280)) else (some false)) else (some false)) else (some false))))))) else (none))
theorem tolllaw08_LabelNots.mono_l : ∀ k, (∀ y0 y1 y2 y3 y4 y5 y6 y7, LeO (tolllaw08_LabelNots.j0 k y0 y1 y2 y3 y4 y5 y6 y7) (tolllaw08_LabelNots.j0 (k + 1) y0 y1 y2 y3 y4 y5 y6 y7))
  | 0 => fun _ _ _ _ _ _ _ _ r h => by simp [tolllaw08_LabelNots.j0] at h
  | k + 1 => by
    have ih0 := tolllaw08_LabelNots.mono_l k
    · intro y0 y1 y2 y3 y4 y5 y6 y7
      unfold tolllaw08_LabelNots.j0
      repeat' first
      | (with_reducible exact ih0 _ _ _ _ _ _ _ _)
      | (with_reducible exact label_May.mono _ _)
      | (with_reducible exact tolllaw05_Few.mono _ _)
      | (with_reducible exact tolllaw08_Few.mono _ _)
      | (with_reducible exact tollref01_Same.mono _ _ _)
      | (with_reducible exact tollref08_Same.mono _ _ _)
      | (with_reducible exact LeO.refl _)
      | (with_reducible exact LeO.none _)
      | (with_reducible refine LeO.ite ?_ ?_)
      | (with_reducible refine LeO.bind ?_ (fun _ => ?_))
      | exact ih0 _ _ _ _ _ _ _ _
      | exact label_May.mono _ _
      | exact tolllaw05_Few.mono _ _
      | exact tolllaw08_Few.mono _ _
      | exact tollref01_Same.mono _ _ _
      | exact tollref08_Same.mono _ _ _
      | exact LeO.none _
      | refine LeO.ite ?_ ?_
      | refine LeO.bind ?_ (fun _ => ?_)
theorem tolllaw08_LabelNots.mono : ∀ a0 a1 a2 a3 k, LeO (tolllaw08_LabelNots.f k a0 a1 a2 a3) (tolllaw08_LabelNots.f (k + 1) a0 a1 a2 a3) := by
  intro a0 a1 a2 a3 k
  have ih0 := tolllaw08_LabelNots.mono_l k
  unfold tolllaw08_LabelNots.f
  repeat' first
      | (with_reducible exact ih0 _ _ _ _ _ _ _ _)
      | (with_reducible exact label_May.mono _ _)
      | (with_reducible exact tolllaw05_Few.mono _ _)
      | (with_reducible exact tolllaw08_Few.mono _ _)
      | (with_reducible exact tollref01_Same.mono _ _ _)
      | (with_reducible exact tollref08_Same.mono _ _ _)
      | (with_reducible exact LeO.refl _)
      | (with_reducible exact LeO.none _)
      | (with_reducible refine LeO.ite ?_ ?_)
      | (with_reducible refine LeO.bind ?_ (fun _ => ?_))
      | exact ih0 _ _ _ _ _ _ _ _
      | exact label_May.mono _ _
      | exact tolllaw05_Few.mono _ _
      | exact tolllaw08_Few.mono _ _
      | exact tollref01_Same.mono _ _ _
      | exact tollref08_Same.mono _ _ _
      | exact LeO.none _
      | refine LeO.ite ?_ ?_
      | refine LeO.bind ?_ (fun _ => ?_)
def tolllaw08_LabelNots.T1 : Bool × List (List Nat × List Nat) := (true, [([], []), ([0], [0]), ([1], [1]), ([2], [2]), ([3], [3]), ([], []), ([5, 2], [5]), ([4, 6, 0, 1, 2, 3, 4], [4]), ([6, 7, 0, 1, 2, 3, 4, 5, 6, 7], [5, 6])])
def tolllaw08_LabelNots.B1 : List Nat := [0, 1, 3, 7, 15, 0, 39, 127, 255]
theorem tolllaw08_LabelNots.tab1 : rtab .any (opsOf Tryd.f14 1) = tolllaw08_LabelNots.T1 := by kernel_rfl
theorem tolllaw08_LabelNots.bits1 : waitsOk tolllaw08_LabelNots.T1.2 tolllaw08_LabelNots.B1 = true := by kernel_rfl
def tolllaw08_LabelNots.T10 : Bool × List (List Nat × List Nat) := (true, [([], []), ([0], [0]), ([1], [1]), ([2, 1], [2]), ([3], [3]), ([3], [3]), ([4, 5, 3, 3], [3, 4, 5]), ([6, 3], [3, 6]), ([3, 7], [3, 7]), ([8, 6], [8]), ([9], [9]), ([9], [9]), ([10, 11, 9, 9], [9, 10, 11]), ([12, 9], [9, 12]), ([9, 13], [9, 13]), ([14, 12], [14]), ([15], [15]), ([16, 15, 15], [15, 16]), ([17, 17, 15], [15, 17]), ([18], [18]), ([18], [18]), ([19, 20, 18, 18], [18, 19, 20]), ([18], [18]), ([18], [18]), ([22, 23, 21, 18], [18, 22, 23]), ([21, 24, 18], [18, 21, 24]), ([18, 25, 15], [15, 18, 25]), ([15, 26], [15, 26]), ([27, 24], [27]), ([28, 28], [28]), ([28, 29], [28, 29]), ([30, 29, 0, 1, 2, 3, 4, 5, 6, 7, 8, 9, 10, 11, 12, 13, 14, 15, 16, 17, 18, 19, 20, 21, 22, 23, 24, 25, 26, 27, 28, 29, 30], [30])])
def tolllaw08_LabelNots.B10 : List Nat := [0, 1, 3, 7, 15, 15, 63, 127, 255, 511, 1023, 1023, 4095, 8191, 16383, 32767, 65535, 131071, 262143, 524287, 524287, 2097151, 524287, 524287, 16777215, 33554431, 67108863, 134217727, 268435455, 536870911, 1073741823, 2147483647]
theorem tolllaw08_LabelNots.tab10 : rtab .any (opsOf Tryd.f14 10) = tolllaw08_LabelNots.T10 := by kernel_rfl
theorem tolllaw08_LabelNots.bits10 : waitsOk tolllaw08_LabelNots.T10.2 tolllaw08_LabelNots.B10 = true := by kernel_rfl
set_option maxHeartbeats 8000000 in
set_option maxRecDepth 100000 in
theorem tolllaw08_LabelNots.calls (k : Nat) (a0_0 : Int) (a0_1 : ByteArray) (P0_2_ : Nat → Prop) (A0_2 : Option Addr) (c0_2 : Nat) (l0_2 : List ByteArray) (A1 : Option Addr) (c1 : Nat) (l1 : List (S55)) (w : World) (hs0_2 : Kd.V Kd.string 9 w w.heap.size (fun k_ => P0_2_ k_) (.slice A0_2 l0_2.length c0_2) l0_2) (hr1 : Kd.C k55 w A1 l1.length l1) (hc1 : l1.length ≤ c1) (h : tolllaw08_LabelNots.f k a0_0 a0_1 l0_2 l1 = some true) :
    Calls Tryd.prog 14 #[.agg #[.int .i64 a0_0, .string a0_1, .slice A0_2 l0_2.length c0_2], .slice A1 l1.length c1] w fun e w' => e = .returned (.bool true) ∧ Below w.heap.size w w' := by
  have hu58 := Tryd.underlying58
  have HO0_2 := Aside0.mk (show Kd.V Kd.string 9 w w.heap.size (fun k_ => (P0_2_ k_ ∨ w.heap.size ≤ k_)) (.slice A0_2 l0_2.length c0_2) l0_2 from Kd.V_mono hs0_2 (fun k_ hk => .inl hk))
  have HR1 := Aside0.mk hr1
  have HC1 := Aside0.mk hc1
  clear hr1 hc1
  have HB := Aside0.mk (Below.refl w.heap.size w)
  have H : ((tolllaw08_Few.f k (([(⟨a0_0, a0_1, l0_2⟩ : S58)] : List (S58)))).bind fun t262 => (if 0 < (t262.length : Int) then ((tolllaw05_Few.f k l1).bind fun t266 => ((label_Not.f ((rd_T58 t262 0).f0) ((rd_T58 t262 0).f1) ((rd_T58 t262 0).f2)).bind fun bt269 => ((label_Needs.f (([(⟨(rd_T58 t262 0).f0, (rd_T58 t262 0).f1, (rd_T58 t262 0).f2⟩ : S58)] : List (S58)))).bind fun t279 => (if (bt269.2.2.2 != t279) = true then (some false) else (if bt269.2.2.2 = true then ((label_Not.f bt269.1 bt269.2.1 bt269.2.2.1).bind fun bt281 => (if bt281.2.2.2 = true then ((tollref08_Same.f k (([(⟨bt281.1, bt281.2.1, bt281.2.2.1⟩ : S58)] : List (S58))) (([(⟨(rd_T58 t262 0).f0, (rd_T58 t262 0).f1, (rd_T58 t262 0).f2⟩ : S58)] : List (S58)))).bind fun t294 => (if t294 = true then (if bt269.2.1.toList = ((rd_T58 t262 0).f1).toList then ((tollref01_Same.f k bt269.2.2.1 ((rd_T58 t262 0).f2)).bind fun t295 => (tolllaw08_LabelNots.j0 k t266 (!t295) ((rd_T58 t262 0).f0) ((rd_T58 t262 0).f1) ((rd_T58 t262 0).f2) bt269.1 bt269.2.1 bt269.2.2.1)) else (tolllaw08_LabelNots.j0 k t266 true ((rd_T58 t262 0).f0) ((rd_T58 t262 0).f1) ((rd_T58 t262 0).f2) bt269.1 bt269.2.1 bt269.2.2.1)) else (tolllaw08_LabelNots.j0 k t266 true ((rd_T58 t262 0).f0) ((rd_T58 t262 0).f1) ((rd_T58 t262 0).f2) bt269.1 bt269.2.1 bt269.2.2.1))) else (tolllaw08_LabelNots.j0 k t266 true ((rd_T58 t262 0).f0) ((rd_T58 t262 0).f1) ((rd_T58 t262 0).f2) bt269.1 bt269.2.1 bt269.2.2.1))) else (if bt269.1 = 0 then (if bt269.2.1.toList = ([] : List UInt8) then (if (bt269.2.2.1.length : Int) = 0 then ((tolllaw08_awake.f).bind fun t280 => (some t280)) else (some false)) else (some false)) else (some false))))))) else (none))) = some true := h
  clear h
  obtain ⟨y259, hy259⟩ : ∃ y_ : List (S58), y_ = (([(⟨a0_0, a0_1, l0_2⟩ : S58)] : List (S58))) := ⟨_, rfl⟩
  replace H : ((tolllaw08_Few.f k y259).bind fun t262 => (if 0 < (t262.length : Int) then ((tolllaw05_Few.f k l1).bind fun t266 => ((label_Not.f ((rd_T58 t262 0).f0) ((rd_T58 t262 0).f1) ((rd_T58 t262 0).f2)).bind fun bt269 => ((label_Needs.f (([(⟨(rd_T58 t262 0).f0, (rd_T58 t262 0).f1, (rd_T58 t262 0).f2⟩ : S58)] : List (S58)))).bind fun t279 => (if (bt269.2.2.2 != t279) = true then (some false) else (if bt269.2.2.2 = true then ((label_Not.f bt269.1 bt269.2.1 bt269.2.2.1).bind fun bt281 => (if bt281.2.2.2 = true then ((tollref08_Same.f k (([(⟨bt281.1, bt281.2.1, bt281.2.2.1⟩ : S58)] : List (S58))) (([(⟨(rd_T58 t262 0).f0, (rd_T58 t262 0).f1, (rd_T58 t262 0).f2⟩ : S58)] : List (S58)))).bind fun t294 => (if t294 = true then (if bt269.2.1.toList = ((rd_T58 t262 0).f1).toList then ((tollref01_Same.f k bt269.2.2.1 ((rd_T58 t262 0).f2)).bind fun t295 => (tolllaw08_LabelNots.j0 k t266 (!t295) ((rd_T58 t262 0).f0) ((rd_T58 t262 0).f1) ((rd_T58 t262 0).f2) bt269.1 bt269.2.1 bt269.2.2.1)) else (tolllaw08_LabelNots.j0 k t266 true ((rd_T58 t262 0).f0) ((rd_T58 t262 0).f1) ((rd_T58 t262 0).f2) bt269.1 bt269.2.1 bt269.2.2.1)) else (tolllaw08_LabelNots.j0 k t266 true ((rd_T58 t262 0).f0) ((rd_T58 t262 0).f1) ((rd_T58 t262 0).f2) bt269.1 bt269.2.1 bt269.2.2.1))) else (tolllaw08_LabelNots.j0 k t266 true ((rd_T58 t262 0).f0) ((rd_T58 t262 0).f1) ((rd_T58 t262 0).f2) bt269.1 bt269.2.1 bt269.2.2.1))) else (if bt269.1 = 0 then (if bt269.2.1.toList = ([] : List UInt8) then (if (bt269.2.2.1.length : Int) = 0 then ((tolllaw08_awake.f).bind fun t280 => (some t280)) else (some false)) else (some false)) else (some false))))))) else (none))) = some true := by first | (rw [hy259]; with_reducible exact H) | (have H2_ := (Option.bind_some _ _).symm.trans H; rw [hy259]; with_reducible exact H2_) | (have H2_ := (Option.bind_some _ _).symm.trans H; with_reducible exact H2_) | with_reducible exact H | (rw [hy259]; exact H) | exact H
  have Ny259 := Aside0.mk hy259
  clear hy259
  replace H := Option.bind_eq_some_iff.mp H
  obtain ⟨t262, A30, H⟩ := H
  replace H : (if 0 < (t262.length : Int) then ((tolllaw05_Few.f k l1).bind fun t266 => ((label_Not.f ((rd_T58 t262 0).f0) ((rd_T58 t262 0).f1) ((rd_T58 t262 0).f2)).bind fun bt269 => ((label_Needs.f (([(⟨(rd_T58 t262 0).f0, (rd_T58 t262 0).f1, (rd_T58 t262 0).f2⟩ : S58)] : List (S58)))).bind fun t279 => (if (bt269.2.2.2 != t279) = true then (some false) else (if bt269.2.2.2 = true then ((label_Not.f bt269.1 bt269.2.1 bt269.2.2.1).bind fun bt281 => (if bt281.2.2.2 = true then ((tollref08_Same.f k (([(⟨bt281.1, bt281.2.1, bt281.2.2.1⟩ : S58)] : List (S58))) (([(⟨(rd_T58 t262 0).f0, (rd_T58 t262 0).f1, (rd_T58 t262 0).f2⟩ : S58)] : List (S58)))).bind fun t294 => (if t294 = true then (if bt269.2.1.toList = ((rd_T58 t262 0).f1).toList then ((tollref01_Same.f k bt269.2.2.1 ((rd_T58 t262 0).f2)).bind fun t295 => (tolllaw08_LabelNots.j0 k t266 (!t295) ((rd_T58 t262 0).f0) ((rd_T58 t262 0).f1) ((rd_T58 t262 0).f2) bt269.1 bt269.2.1 bt269.2.2.1)) else (tolllaw08_LabelNots.j0 k t266 true ((rd_T58 t262 0).f0) ((rd_T58 t262 0).f1) ((rd_T58 t262 0).f2) bt269.1 bt269.2.1 bt269.2.2.1)) else (tolllaw08_LabelNots.j0 k t266 true ((rd_T58 t262 0).f0) ((rd_T58 t262 0).f1) ((rd_T58 t262 0).f2) bt269.1 bt269.2.1 bt269.2.2.1))) else (tolllaw08_LabelNots.j0 k t266 true ((rd_T58 t262 0).f0) ((rd_T58 t262 0).f1) ((rd_T58 t262 0).f2) bt269.1 bt269.2.1 bt269.2.2.1))) else (if bt269.1 = 0 then (if bt269.2.1.toList = ([] : List UInt8) then (if (bt269.2.2.1.length : Int) = 0 then ((tolllaw08_awake.f).bind fun t280 => (some t280)) else (some false)) else (some false)) else (some false))))))) else (none)) = some true := H
  have A3 := Aside0.mk A30
  clear A30
  by_cases c4 : 0 < (t262.length : Int)
  · rw [if_pos c4] at H
    have c4b0 : decide (0 < (t262.length : Int)) = true := decide_eq_true c4
    have c4b1 : decide (0 < t262.length) = true := decide_eq_true (by omega)
    clear c4
    replace H := Option.bind_eq_some_iff.mp H
    obtain ⟨t266, A50, H⟩ := H
    replace H : ((label_Not.f ((rd_T58 t262 0).f0) ((rd_T58 t262 0).f1) ((rd_T58 t262 0).f2)).bind fun bt269 => ((label_Needs.f (([(⟨(rd_T58 t262 0).f0, (rd_T58 t262 0).f1, (rd_T58 t262 0).f2⟩ : S58)] : List (S58)))).bind fun t279 => (if (bt269.2.2.2 != t279) = true then (some false) else (if bt269.2.2.2 = true then ((label_Not.f bt269.1 bt269.2.1 bt269.2.2.1).bind fun bt281 => (if bt281.2.2.2 = true then ((tollref08_Same.f k (([(⟨bt281.1, bt281.2.1, bt281.2.2.1⟩ : S58)] : List (S58))) (([(⟨(rd_T58 t262 0).f0, (rd_T58 t262 0).f1, (rd_T58 t262 0).f2⟩ : S58)] : List (S58)))).bind fun t294 => (if t294 = true then (if bt269.2.1.toList = ((rd_T58 t262 0).f1).toList then ((tollref01_Same.f k bt269.2.2.1 ((rd_T58 t262 0).f2)).bind fun t295 => (tolllaw08_LabelNots.j0 k t266 (!t295) ((rd_T58 t262 0).f0) ((rd_T58 t262 0).f1) ((rd_T58 t262 0).f2) bt269.1 bt269.2.1 bt269.2.2.1)) else (tolllaw08_LabelNots.j0 k t266 true ((rd_T58 t262 0).f0) ((rd_T58 t262 0).f1) ((rd_T58 t262 0).f2) bt269.1 bt269.2.1 bt269.2.2.1)) else (tolllaw08_LabelNots.j0 k t266 true ((rd_T58 t262 0).f0) ((rd_T58 t262 0).f1) ((rd_T58 t262 0).f2) bt269.1 bt269.2.1 bt269.2.2.1))) else (tolllaw08_LabelNots.j0 k t266 true ((rd_T58 t262 0).f0) ((rd_T58 t262 0).f1) ((rd_T58 t262 0).f2) bt269.1 bt269.2.1 bt269.2.2.1))) else (if bt269.1 = 0 then (if bt269.2.1.toList = ([] : List UInt8) then (if (bt269.2.2.1.length : Int) = 0 then ((tolllaw08_awake.f).bind fun t280 => (some t280)) else (some false)) else (some false)) else (some false)))))) = some true := H
    have A5 := Aside0.mk A50
    clear A50
    replace H := Option.bind_eq_some_iff.mp H
    obtain ⟨⟨t269, t270, t271, t274⟩, A60, H⟩ := H
    replace H : ((label_Needs.f (([(⟨(rd_T58 t262 0).f0, (rd_T58 t262 0).f1, (rd_T58 t262 0).f2⟩ : S58)] : List (S58)))).bind fun t279 => (if (t274 != t279) = true then (some false) else (if t274 = true then ((label_Not.f t269 t270 t271).bind fun bt281 => (if bt281.2.2.2 = true then ((tollref08_Same.f k (([(⟨bt281.1, bt281.2.1, bt281.2.2.1⟩ : S58)] : List (S58))) (([(⟨(rd_T58 t262 0).f0, (rd_T58 t262 0).f1, (rd_T58 t262 0).f2⟩ : S58)] : List (S58)))).bind fun t294 => (if t294 = true then (if t270.toList = ((rd_T58 t262 0).f1).toList then ((tollref01_Same.f k t271 ((rd_T58 t262 0).f2)).bind fun t295 => (tolllaw08_LabelNots.j0 k t266 (!t295) ((rd_T58 t262 0).f0) ((rd_T58 t262 0).f1) ((rd_T58 t262 0).f2) t269 t270 t271)) else (tolllaw08_LabelNots.j0 k t266 true ((rd_T58 t262 0).f0) ((rd_T58 t262 0).f1) ((rd_T58 t262 0).f2) t269 t270 t271)) else (tolllaw08_LabelNots.j0 k t266 true ((rd_T58 t262 0).f0) ((rd_T58 t262 0).f1) ((rd_T58 t262 0).f2) t269 t270 t271))) else (tolllaw08_LabelNots.j0 k t266 true ((rd_T58 t262 0).f0) ((rd_T58 t262 0).f1) ((rd_T58 t262 0).f2) t269 t270 t271))) else (if t269 = 0 then (if t270.toList = ([] : List UInt8) then (if (t271.length : Int) = 0 then ((tolllaw08_awake.f).bind fun t280 => (some t280)) else (some false)) else (some false)) else (some false))))) = some true := H
    have A6 := Aside0.mk A60
    clear A60
    obtain ⟨y276, hy276⟩ : ∃ y_ : List (S58), y_ = (([(⟨(rd_T58 t262 0).f0, (rd_T58 t262 0).f1, (rd_T58 t262 0).f2⟩ : S58)] : List (S58))) := ⟨_, rfl⟩
    replace H : ((label_Needs.f y276).bind fun t279 => (if (t274 != t279) = true then (some false) else (if t274 = true then ((label_Not.f t269 t270 t271).bind fun bt281 => (if bt281.2.2.2 = true then ((tollref08_Same.f k (([(⟨bt281.1, bt281.2.1, bt281.2.2.1⟩ : S58)] : List (S58))) (([(⟨(rd_T58 t262 0).f0, (rd_T58 t262 0).f1, (rd_T58 t262 0).f2⟩ : S58)] : List (S58)))).bind fun t294 => (if t294 = true then (if t270.toList = ((rd_T58 t262 0).f1).toList then ((tollref01_Same.f k t271 ((rd_T58 t262 0).f2)).bind fun t295 => (tolllaw08_LabelNots.j0 k t266 (!t295) ((rd_T58 t262 0).f0) ((rd_T58 t262 0).f1) ((rd_T58 t262 0).f2) t269 t270 t271)) else (tolllaw08_LabelNots.j0 k t266 true ((rd_T58 t262 0).f0) ((rd_T58 t262 0).f1) ((rd_T58 t262 0).f2) t269 t270 t271)) else (tolllaw08_LabelNots.j0 k t266 true ((rd_T58 t262 0).f0) ((rd_T58 t262 0).f1) ((rd_T58 t262 0).f2) t269 t270 t271))) else (tolllaw08_LabelNots.j0 k t266 true ((rd_T58 t262 0).f0) ((rd_T58 t262 0).f1) ((rd_T58 t262 0).f2) t269 t270 t271))) else (if t269 = 0 then (if t270.toList = ([] : List UInt8) then (if (t271.length : Int) = 0 then ((tolllaw08_awake.f).bind fun t280 => (some t280)) else (some false)) else (some false)) else (some false))))) = some true := by first | (rw [hy276]; with_reducible exact H) | (have H2_ := (Option.bind_some _ _).symm.trans H; rw [hy276]; with_reducible exact H2_) | (have H2_ := (Option.bind_some _ _).symm.trans H; with_reducible exact H2_) | with_reducible exact H | (rw [hy276]; exact H) | exact H
    have Ny276 := Aside0.mk hy276
    clear hy276
    replace H := Option.bind_eq_some_iff.mp H
    obtain ⟨t279, A70, H⟩ := H
    replace H : (if (t274 != t279) = true then (some false) else (if t274 = true then ((label_Not.f t269 t270 t271).bind fun bt281 => (if bt281.2.2.2 = true then ((tollref08_Same.f k (([(⟨bt281.1, bt281.2.1, bt281.2.2.1⟩ : S58)] : List (S58))) (([(⟨(rd_T58 t262 0).f0, (rd_T58 t262 0).f1, (rd_T58 t262 0).f2⟩ : S58)] : List (S58)))).bind fun t294 => (if t294 = true then (if t270.toList = ((rd_T58 t262 0).f1).toList then ((tollref01_Same.f k t271 ((rd_T58 t262 0).f2)).bind fun t295 => (tolllaw08_LabelNots.j0 k t266 (!t295) ((rd_T58 t262 0).f0) ((rd_T58 t262 0).f1) ((rd_T58 t262 0).f2) t269 t270 t271)) else (tolllaw08_LabelNots.j0 k t266 true ((rd_T58 t262 0).f0) ((rd_T58 t262 0).f1) ((rd_T58 t262 0).f2) t269 t270 t271)) else (tolllaw08_LabelNots.j0 k t266 true ((rd_T58 t262 0).f0) ((rd_T58 t262 0).f1) ((rd_T58 t262 0).f2) t269 t270 t271))) else (tolllaw08_LabelNots.j0 k t266 true ((rd_T58 t262 0).f0) ((rd_T58 t262 0).f1) ((rd_T58 t262 0).f2) t269 t270 t271))) else (if t269 = 0 then (if t270.toList = ([] : List UInt8) then (if (t271.length : Int) = 0 then ((tolllaw08_awake.f).bind fun t280 => (some t280)) else (some false)) else (some false)) else (some false)))) = some true := H
    have A7 := Aside0.mk A70
    clear A70
    by_cases c8 : (t274 != t279) = true
    · rw [if_pos c8] at H
      exact absurd H (by simp)
    · rw [if_neg c8] at H
      have c8b0 : (t274 != t279) = false := by simpa using c8
      (try (have c8b1 : decide (t274 = t279) = true := by simpa using c8))
      (try (have c8b2 : (t274 == t279) = true := by simpa using c8))
      clear c8
      by_cases c32 : t274 = true
      · subst c32
        have H1 : ((label_Not.f t269 t270 t271).bind fun bt281 => (if bt281.2.2.2 = true then ((tollref08_Same.f k (([(⟨bt281.1, bt281.2.1, bt281.2.2.1⟩ : S58)] : List (S58))) (([(⟨(rd_T58 t262 0).f0, (rd_T58 t262 0).f1, (rd_T58 t262 0).f2⟩ : S58)] : List (S58)))).bind fun t294 => (if t294 = true then (if t270.toList = ((rd_T58 t262 0).f1).toList then ((tollref01_Same.f k t271 ((rd_T58 t262 0).f2)).bind fun t295 => (tolllaw08_LabelNots.j0 k t266 (!t295) ((rd_T58 t262 0).f0) ((rd_T58 t262 0).f1) ((rd_T58 t262 0).f2) t269 t270 t271)) else (tolllaw08_LabelNots.j0 k t266 true ((rd_T58 t262 0).f0) ((rd_T58 t262 0).f1) ((rd_T58 t262 0).f2) t269 t270 t271)) else (tolllaw08_LabelNots.j0 k t266 true ((rd_T58 t262 0).f0) ((rd_T58 t262 0).f1) ((rd_T58 t262 0).f2) t269 t270 t271))) else (tolllaw08_LabelNots.j0 k t266 true ((rd_T58 t262 0).f0) ((rd_T58 t262 0).f1) ((rd_T58 t262 0).f2) t269 t270 t271))) = some true := by rw [if_pos rfl] at H; exact H
        clear H
        have H := H1
        clear H1
        replace H := Option.bind_eq_some_iff.mp H
        obtain ⟨⟨t281, t282, t283, t286⟩, A330, H⟩ := H
        replace H : (if t286 = true then ((tollref08_Same.f k (([(⟨t281, t282, t283⟩ : S58)] : List (S58))) (([(⟨(rd_T58 t262 0).f0, (rd_T58 t262 0).f1, (rd_T58 t262 0).f2⟩ : S58)] : List (S58)))).bind fun t294 => (if t294 = true then (if t270.toList = ((rd_T58 t262 0).f1).toList then ((tollref01_Same.f k t271 ((rd_T58 t262 0).f2)).bind fun t295 => (tolllaw08_LabelNots.j0 k t266 (!t295) ((rd_T58 t262 0).f0) ((rd_T58 t262 0).f1) ((rd_T58 t262 0).f2) t269 t270 t271)) else (tolllaw08_LabelNots.j0 k t266 true ((rd_T58 t262 0).f0) ((rd_T58 t262 0).f1) ((rd_T58 t262 0).f2) t269 t270 t271)) else (tolllaw08_LabelNots.j0 k t266 true ((rd_T58 t262 0).f0) ((rd_T58 t262 0).f1) ((rd_T58 t262 0).f2) t269 t270 t271))) else (tolllaw08_LabelNots.j0 k t266 true ((rd_T58 t262 0).f0) ((rd_T58 t262 0).f1) ((rd_T58 t262 0).f2) t269 t270 t271)) = some true := H
        have A33 := Aside0.mk A330
        clear A330
        have HC34 := Aside0.mk H
        clear H
        go_enter Tryd.func14, Tryd.ntmps14
        try go_wp2_with (first | ((with_reducible refine gate_dst (N := 2) rfl ?_); (try (refine gate_guard (by rfl) ?_; dsimp only)); refine box_event ?hg (N := 2) ?hd (cs := #[.int .i64 a0_0, .string a0_1, .slice A0_2 l0_2.length c0_2]) (t := 58) ?hr ?_; (case hd => rfl); (case hg => rfl); (case hr => first | (go_simp; done) | (go_simp; rfl)); intro gb258 hg w35 hbox hb; have n0_ := Aside0.mk (Kd.V_below (Kd.V_elderB (by (with_reducible repeat (first | apply Kd.V_alloc | apply Kd.V_drewN | apply Kd.V_drew)); exact HO0_2.out) gb258 (Nat.le_of_eq hg.symm)) hb); have n1_ := Aside0.mk (below_step (by repeat (first | (with_reducible first | exact HB.out | apply below_alloc | apply pw_below_drewN | apply below_drew1) | exact HB.out)) hb); have n2_ := Aside0.mk (hbox); have n3_ := Aside0.mk ((by rw [hg]; exact (below_size (by repeat (first | (with_reducible first | exact HB.out | apply below_alloc | apply pw_below_drewN | apply below_drew1) | exact HB.out))) : w.heap.size ≤ gb258)); have n4_ := Aside0.mk ((by rw [hg]; exact (below_size (by repeat (first | (with_reducible first | exact HB.out | apply below_alloc | apply pw_below_drewN | apply below_drew1) | exact HB.out))) : w.heap.size ≤ gb258)); clear HO0_2; clear HB; have HO0_2 := n0_; have HB := n1_; have BK258 := n2_; have GW258 := n3_; have GE258 := n4_; clear n0_ n1_ n2_ n3_ n4_; clear hb hbox hg))
        have n0_ := Aside0.mk (Kd.V_drew HO0_2.out)
        have n1_ := Aside0.mk (blk_drew BK258.out)
        have n2_ := Aside0.mk (below_drew1 HB.out)
        clear HO0_2
        clear BK258
        clear HB
        have HO0_2 := n0_
        have BK258 := n1_
        have HB := n2_
        clear n0_ n1_ n2_
        refine start_ (n := 9) (S := fun w' => w'.cell? ⟨gb258, 0, none⟩ = some (.int .i64 a0_0) ∧ w'.cell? ⟨gb258, 1, none⟩ = some (.string a0_1) ∧ w'.cell? ⟨gb258, 2, none⟩ = some (.slice A0_2 l0_2.length c0_2)) (ds := [3, 4, 6, 7, 8]) #[false, false, false, false, false, false, false, false, false] (by kernel_rfl) rfl rfl ⟨(blk_cell BK258.out 0).trans rfl, (blk_cell BK258.out 1).trans rfl, (blk_cell BK258.out 2).trans rfl⟩ (fun hHeld => ?_); refine with_tabW tolllaw08_LabelNots.tab1 tolllaw08_LabelNots.bits1 (fun HT_ HW_ => ?_)
        generalize w35.drew = w36 at HO0_2 BK258 HB hHeld ⊢
        refine pure_ (i := 5) (N := some 14) (v := ?_) (a' := ?_) #[false, false, false, false, false, true, false, false, false] rfl rfl (any_of HT_.out (by kernel_rfl)) (fun _ _ _ h => h) (Or.inl ⟨by rfl, ?_⟩) ?_ ?_
        rotate_left
        · intro w'
          go_simp
          with_reducible rfl
        rotate_left
        · simp only [Act.put, List.setIfInBounds_toArray, List.set_cons_zero, List.set_cons_succ, i64_w, i32_w]
          rfl
        refine take_ (i := 0) (N := some 9) (v := ?_) (a' := ?_) #[true, false, false, false, false, true, false, false, false] rfl rfl (take_ofW HT_.out HW_.out (by kernel_rfl)) (fun _ _ _ h => h) (Or.inl ⟨by rfl, ?_⟩) hHeld ?_ ?_
        rotate_left
        · rintro w' ⟨s0, s1, s2⟩
          go_simp
          with_reducible rfl
        rotate_left
        · simp only [Act.put, List.setIfInBounds_toArray, List.set_cons_zero, List.set_cons_succ, i64_w, i32_w]
          rfl
        refine one_ (i := 1) (N := some 10) #[true, true, false, false, false, true, false, false, false] rfl rfl (one_of HT_.out (by kernel_rfl)) (by decide) (fun K hK => ?_)
        refine Kd.N_lit_step k58 _ 58 ?hg (N' := 10) ?hd (xs := ([(⟨a0_0, a0_1, l0_2⟩ : S58)] : List (S58))) (inner := [.int .i64 a0_0, .string a0_1, .slice A0_2 l0_2.length c0_2]) (ok := (fun k_ => (P0_2_ k_ ∨ w.heap.size ≤ k_) ∧ k_ ≠ gb258)) (okp := (fun k_ => (P0_2_ k_ ∨ w.heap.size ≤ k_) ∧ k_ ≠ gb258)) ?hr ?hp (fun _ hk => hk) ((show ∀ k_, w36.heap.size ≤ k_ → (fun k_ => (P0_2_ k_ ∨ w.heap.size ≤ k_) ∧ k_ ≠ gb258) k_ from fun k_ hk => ⟨(.inr (Nat.le_trans (below_size (by repeat (first | (with_reducible first | exact HB.out | apply below_alloc | apply pw_below_drewN | apply below_drew1 | refine below_set ?_ GE258.out) | exact HB.out))) hk)), Kd.freshB (g := gb258) (o := .cells #[.int .i64 a0_0, .string a0_1, .slice A0_2 l0_2.length c0_2] 58 (0, 0)) (by (with_reducible repeat (first | refine blk_drewN ?_ _ | refine blk_drew ?_ | refine blk_alloc ?_ _)); exact BK258.out) k_ hk⟩) _ (Nat.le_refl _)) (Below.refl _ _) (Nat.le_refl _) (by simp) ?_; (case hd => rfl); (case hg => rfl); (case hr => first | (go_simp; done) | (go_simp; rfl)); (case hp => exact (Reps.c3 (show Kd.FK k58 _ _ (⟨a0_0, a0_1, l0_2⟩ : S58) [.int .i64 a0_0, .string a0_1, .slice A0_2 l0_2.length c0_2] from (k58_mkF _ _ (⟨a0_0, a0_1, l0_2⟩ : S58) (Kd.V_reads' (Kd.V_mono (ok' := (fun k_ => (P0_2_ k_ ∨ w.heap.size ≤ k_) ∧ k_ ≠ gb258)) (HO0_2.out) (fun k_ hk => ⟨hk.1, hk.2⟩))).2.1 (Kd.V_F (Kd.V_mono (ok' := (fun k_ => (P0_2_ k_ ∨ w.heap.size ≤ k_) ∧ k_ ≠ gb258)) (HO0_2.out) (fun k_ hk => ⟨hk.1, hk.2⟩))))) (Reps.none _ _)))
        intro v260 w37 ho38 hb hg_ hnew_
        clear hg_ hnew_
        (first | rw [← Ny259.out] at ho38 | (simp only [Int.reduceToNat] at ho38; rw [← Ny259.out] at ho38))
        have n0_ := Aside0.mk (Kd.V_elder' (by (with_reducible repeat (first | apply Kd.V_alloc | apply Kd.V_drewN | apply Kd.V_drew)); exact HO0_2.out) (Kd.N_base ho38) hb)
        have n1_ := Aside0.mk (Kd.N_lower ho38 (below_size (by repeat (first | (with_reducible first | exact HB.out | apply below_alloc | apply pw_below_drewN | apply below_drew1 | refine below_set ?_ GE258.out) | exact HB.out))))
        have n2_ := Aside0.mk (blk_below (g := gb258) (o := .cells #[.int .i64 a0_0, .string a0_1, .slice A0_2 l0_2.length c0_2] 58 (0, 0)) (by (with_reducible repeat (first | refine blk_drewN ?_ _ | refine blk_drew ?_ | refine blk_alloc ?_ _)); exact BK258.out) hb)
        have n3_ := Aside0.mk (below_step (by repeat (first | (with_reducible first | exact HB.out | apply below_alloc | apply pw_below_drewN | apply below_drew1 | refine below_set ?_ GE258.out) | exact HB.out)) hb)
        clear HO0_2
        clear BK258
        clear HB
        have HO0_2 := n0_
        have HO261 := n1_
        have BK258 := n2_
        have HB := n3_
        clear n0_ n1_ n2_ n3_
        clear hb ho38
        obtain ⟨Ao39, co39, eo39⟩ := Kd.N_slice HO261.out
        (first | subst eo39 | (injection eo39 with f1_ f2_ f3_; have f4_ := f1_.symm; have f5_ := f3_.symm; clear f1_ f2_ f3_; subst f4_; subst f5_))
        refine hK.out _ _ ⟨(blk_cell BK258.out 0).trans rfl, (blk_cell BK258.out 1).trans rfl, (blk_cell BK258.out 2).trans rfl⟩ (fun hHeld => ?_)
        clear hK K
        refine norm_ (a' := ?_) ?_ ?_
        rotate_left
        · show Act.put _ (some 10) _ = _
          simp only [Act.put, List.setIfInBounds_toArray, List.set_cons_zero, List.set_cons_succ, i64_w, i32_w]
          rfl
        refine one_ (i := 2) (N := some 11) #[true, true, true, false, false, true, false, false, false] rfl rfl (one_of HT_.out (by kernel_rfl)) (by decide) (fun K hK => ?_)
        refine goes_ Tryd.func55 (by kernel_rfl) rfl #[.slice Ao39 y259.length co39] (by rfl) rfl rfl (by (try simp only [List.map_toArray, List.map_cons, List.map_nil]); first | done | rfl | (simp only [List.length_drop, List.length_take]; rfl)) ?_
        with_reducible refine (tolllaw08_Few.calls k _ _ y259 t262 _ ?side1 ?side2 A3.out).mono ?_
        (case side1 => repeat (first | exact (Kd.N_reads' HO261.out).2.2 | (with_reducible refine Kd.C_alloc ?_ _) | (with_reducible refine Kd.C_drewN ?_ _) | (with_reducible refine Kd.C_drew ?_)))
        (case side2 => exact (Kd.N_reads' HO261.out).2.1)
        rintro e w40 ⟨v263, rfl, ho0, hb⟩
        refine ⟨_, rfl, ?_⟩
        have n0_ := Aside0.mk (Kd.V_elder' (by (with_reducible repeat (first | apply Kd.V_alloc | apply Kd.V_drewN | apply Kd.V_drew)); exact HO0_2.out) (by first | exact Kd.N_base ho0 | exact Kd.N_base (Kd.S_N ho0)) hb)
        have n1_ := Aside0.mk (Kd.N_elder' (by (with_reducible repeat (first | apply Kd.N_alloc | apply Kd.N_drewN | apply Kd.N_drew)); exact HO261.out) (by first | exact Kd.N_base ho0 | exact Kd.N_base (Kd.S_N ho0)) hb)
        have n2_ := Aside0.mk (Kd.N_lower (Kd.N_mono (ok' := fun k_ => (P0_2_ k_ ∨ w.heap.size ≤ k_) ∧ some k_ ≠ (.slice Ao39 y259.length co39 : Value).ownBlock ∧ k_ ≠ gb258) (Kd.S_N (Kd.S_bound ho0)) (fun k_ hk_ => ⟨(.inr (Nat.le_trans (below_size (by repeat (first | (with_reducible first | exact HB.out | apply below_alloc | apply pw_below_drewN | apply below_drew1 | refine below_set ?_ GE258.out) | exact HB.out))) hk_.2.1)), (Kd.fresh' (Kd.N_lt (by (with_reducible repeat (first | apply Kd.N_alloc | apply Kd.N_drewN | apply Kd.N_drew)); exact HO261.out)) k_ hk_.2.1), (Kd.freshB (g := gb258) (o := .cells #[.int .i64 a0_0, .string a0_1, .slice A0_2 l0_2.length c0_2] 58 (0, 0)) (by (with_reducible repeat (first | refine blk_drewN ?_ _ | refine blk_drew ?_ | refine blk_alloc ?_ _)); exact BK258.out) k_ hk_.2.1)⟩)) (below_size (by repeat (first | (with_reducible first | exact HB.out | apply below_alloc | apply pw_below_drewN | apply below_drew1 | refine below_set ?_ GE258.out) | exact HB.out))))
        have n3_ := Aside0.mk (blk_below (g := gb258) (o := .cells #[.int .i64 a0_0, .string a0_1, .slice A0_2 l0_2.length c0_2] 58 (0, 0)) (by (with_reducible repeat (first | refine blk_drewN ?_ _ | refine blk_drew ?_ | refine blk_alloc ?_ _)); exact BK258.out) hb)
        have n4_ := Aside0.mk (below_step (by repeat (first | (with_reducible first | exact HB.out | apply below_alloc | apply pw_below_drewN | apply below_drew1 | refine below_set ?_ GE258.out) | exact HB.out)) hb)
        clear HO0_2
        clear HO261
        clear BK258
        clear HB
        have HO0_2 := n0_
        have HO261 := n1_
        have HO264 := n2_
        have BK258 := n3_
        have HB := n4_
        clear n0_ n1_ n2_ n3_ n4_
        (try clear hb)
        (try clear hb2)
        (try clear hk)
        (try clear hi)
        (try clear ho0)
        obtain ⟨Ao41, co41, eo41⟩ := Kd.N_slice HO264.out
        (first | subst eo41 | (injection eo41 with f1_ f2_ f3_; have f4_ := f1_.symm; have f5_ := f3_.symm; clear f1_ f2_ f3_; subst f4_; subst f5_))
        have p265 : 0 ≤ (0 : Int) := (by omega)
        have q265 : 0 < (t262.length : Int) := of_decide_eq_true (by first | (with_reducible assumption) | assumption)
        obtain ⟨ad265, A265_2, c265_2, e265, hx265_0, hx265_1, hx265_2, hl265_2, hi265_2⟩ := at_T58 (Kd.N_reads' HO264.out).2.2 0 p265 q265
        cases e265
        obtain ⟨ce265, hce265, hMe265, hcc265⟩ := Kd.N_get HO264.out z58 0 p265 (by first | exact q265 | exact of_decide_eq_true (by first | (with_reducible assumption) | assumption) | (have e_ := (Kd.N_reads' HO264.out).1; omega))
        obtain ⟨ua265_2, uc265_2, rfl, ul265_2, ge265_2⟩ := k58_openF hMe265
        have hv265_2 := hcc265 2 _ rfl
        rw [add_field _ _ 2 (by omega)] at hv265_2
        replace hv265_2 := Option.some.inj (hv265_2.symm.trans hx265_2)
        injection hv265_2 with hva_ hvn_ hvc_
        rw [hva_] at ge265_2
        rw [hvc_] at ul265_2
        have HL265_2 := Aside0.mk (show Kd.V Kd.string 9 _ w.heap.size _ _ ((rd_T58 t262 0).f2) from Kd.V_mk ul265_2 ge265_2)
        clear hva_ hvn_ hvc_ ge265_2 ul265_2
        clear hcc265 hce265
        have qi265 : (0 < t262.length) = True := eq_true (by omega)
        (try rw [show ((0 : Int)).toNat = 0 from rfl] at hx265_0)
        (try rw [show 0 * 3 = 0 from rfl] at hx265_0)
        (try rw [Addr.add_zero'] at hx265_0)
        (try rw [show ((0 : Int)).toNat = 0 from rfl] at hx265_1)
        (try rw [show 0 * 3 = 0 from rfl] at hx265_1)
        (try rw [Addr.add_zero'] at hx265_1)
        (try rw [show ((0 : Int)).toNat = 0 from rfl] at hx265_2)
        (try rw [show 0 * 3 = 0 from rfl] at hx265_2)
        (try rw [Addr.add_zero'] at hx265_2)
        have HR265_2 := Aside0.mk hi265_2
        have HC265_2 := Aside0.mk hl265_2
        clear hi265_2 hl265_2
        replace p265 := eq_true p265
        replace q265 := eq_true q265
        refine hK.out _ _ ⟨(blk_cell BK258.out 0).trans rfl, (blk_cell BK258.out 1).trans rfl, (blk_cell BK258.out 2).trans rfl⟩ (fun _ => ?_)
        clear hK K
        refine switch_ (S2 := fun w' => w'.cell? ⟨gb258, 0, none⟩ = some (.int .i64 a0_0) ∧ w'.cell? ⟨gb258, 1, none⟩ = some (.string a0_1) ∧ w'.cell? ⟨gb258, 2, none⟩ = some (.slice A0_2 l0_2.length c0_2) ∧ w'.cell? ad265 = some (.int .i64 ((rd_T58 t262 0).f0)) ∧ w'.cell? ⟨ad265.block, ad265.off + 1, none⟩ = some (.string ((rd_T58 t262 0).f1)) ∧ w'.cell? ⟨ad265.block, ad265.off + 2, none⟩ = some (.slice A265_2 ((rd_T58 t262 0).f2).length c265_2)) (ds2 := [7]) (by kernel_rfl) ⟨(blk_cell BK258.out 0).trans rfl, (blk_cell BK258.out 1).trans rfl, (blk_cell BK258.out 2).trans rfl, hx265_0, hx265_1, hx265_2⟩ (fun hHeld => ?_)
        refine norm_ (a' := ?_) ?_ ?_
        rotate_left
        · show Act.put _ (some 11) _ = _
          simp only [Act.put, List.setIfInBounds_toArray, List.set_cons_zero, List.set_cons_succ, i64_w, i32_w]
          rfl
        refine pure_ (i := 3) (N := some 12) (v := ?_) (a' := ?_) #[true, true, true, true, false, true, false, false, false] rfl rfl (any_of HT_.out (by kernel_rfl)) (fun _ _ _ h => h) (Or.inl ⟨by rfl, ?_⟩) ?_ ?_
        rotate_left
        · intro w'
          go_simp
          with_reducible rfl
        rotate_left
        · simp only [Act.put, List.setIfInBounds_toArray, List.set_cons_zero, List.set_cons_succ, i64_w, i32_w]
          rfl
        refine take_ (i := 4) (N := some 13) (v := ?_) (a' := ?_) #[true, true, true, true, true, true, false, false, false] rfl rfl (take_ofW HT_.out HW_.out (by kernel_rfl)) (fun _ _ _ h => h) (Or.inl ⟨by rfl, ?_⟩) hHeld ?_ ?_
        rotate_left
        · rintro w' ⟨s0, s1, s2, s3, s4, s5⟩
          go_simp
          with_reducible rfl
        rotate_left
        · simp only [Act.put, List.setIfInBounds_toArray, List.set_cons_zero, List.set_cons_succ, i64_w, i32_w]
          rfl
        refine one_ (i := 6) (N := some 15) #[true, true, true, true, true, true, true, false, false] rfl rfl (one_of HT_.out (by kernel_rfl)) (by decide) (fun K hK => ?_)
        refine goes_ Tryd.func51 (by kernel_rfl) rfl #[.slice A1 l1.length c1] (by rfl) rfl rfl (by (try simp only [List.map_toArray, List.map_cons, List.map_nil]); first | done | rfl | (simp only [List.length_drop, List.length_take]; rfl)) ?_
        with_reducible refine (tolllaw05_Few.calls k _ _ l1 t266 _ ?side1 ?side2 A5.out).mono ?_
        (case side1 => repeat (first | exact (Kd.C_below HR1.out HB.out) | (with_reducible refine Kd.C_alloc ?_ _) | (with_reducible refine Kd.C_drewN ?_ _) | (with_reducible refine Kd.C_drew ?_)))
        (case side2 => exact HC1.out)
        rintro e w42 ⟨v267, rfl, ho0, hb⟩
        have HS3_ := (hb.cell (World.block_lt_of_cell? _ _ (hHeld.2.2.2.1))).trans (hHeld.2.2.2.1)
        have HS4_ := (hb.cell (World.block_lt_of_cell? _ _ (hHeld.2.2.2.2.1))).trans (hHeld.2.2.2.2.1)
        have HS5_ := (hb.cell (World.block_lt_of_cell? _ _ (hHeld.2.2.2.2.2))).trans (hHeld.2.2.2.2.2)
        refine ⟨_, rfl, ?_⟩
        have n0_ := Aside0.mk (Kd.V_elder' (by (with_reducible repeat (first | apply Kd.V_alloc | apply Kd.V_drewN | apply Kd.V_drew)); exact HO0_2.out) (Kd.R_base ho0) hb)
        have n1_ := Aside0.mk (Kd.N_elder' (by (with_reducible repeat (first | apply Kd.N_alloc | apply Kd.N_drewN | apply Kd.N_drew)); exact HO261.out) (Kd.R_base ho0) hb)
        have n2_ := Aside0.mk (Kd.N_elder' (by (with_reducible repeat (first | apply Kd.N_alloc | apply Kd.N_drewN | apply Kd.N_drew)); exact HO264.out) (Kd.R_base ho0) hb)
        have n3_ := Aside0.mk (Kd.V_elder' (by (with_reducible repeat (first | apply Kd.V_alloc | apply Kd.V_drewN | apply Kd.V_drew)); exact HL265_2.out) (Kd.R_base ho0) hb)
        have n4_ := Aside0.mk (Kd.R_lower (Kd.R_newM (M := fun k_ => (w.heap.size ≤ k_)) ho0 (below_size (by repeat (first | (with_reducible first | exact HB.out | apply below_alloc | apply pw_below_drewN | apply below_drew1 | refine below_set ?_ GE258.out) | exact HB.out))) (fun k_ h_ => h_)) (below_size (by repeat (first | (with_reducible first | exact HB.out | apply below_alloc | apply pw_below_drewN | apply below_drew1 | refine below_set ?_ GE258.out) | exact HB.out))))
        have n5_ := Aside0.mk (blk_below (g := gb258) (o := .cells #[.int .i64 a0_0, .string a0_1, .slice A0_2 l0_2.length c0_2] 58 (0, 0)) (by (with_reducible repeat (first | refine blk_drewN ?_ _ | refine blk_drew ?_ | refine blk_alloc ?_ _)); exact BK258.out) hb)
        have n6_ := Aside0.mk (Kd.C_below (by repeat (first | (with_reducible exact HR265_2.out) | (with_reducible refine Kd.C_alloc ?_ _) | (with_reducible refine Kd.C_drewN ?_ _) | (with_reducible refine Kd.C_drew ?_) | exact HR265_2.out | exact (Kd.V_reads' HL265_2.out).2.2)) hb)
        have n7_ := Aside0.mk (below_step (by repeat (first | (with_reducible first | exact HB.out | apply below_alloc | apply pw_below_drewN | apply below_drew1 | refine below_set ?_ GE258.out) | exact HB.out)) hb)
        clear HO0_2
        clear HO261
        clear HO264
        clear HL265_2
        clear BK258
        clear HR265_2
        clear HB
        have HO0_2 := n0_
        have HO261 := n1_
        have HO264 := n2_
        have HL265_2 := n3_
        have HO268 := n4_
        have BK258 := n5_
        have HR265_2 := n6_
        have HB := n7_
        clear n0_ n1_ n2_ n3_ n4_ n5_ n6_ n7_
        (try clear hb)
        (try clear hb2)
        (try clear hk)
        (try clear hi)
        (try clear ho0)
        refine hK.out _ _ ⟨(blk_cell BK258.out 0).trans rfl, (blk_cell BK258.out 1).trans rfl, (blk_cell BK258.out 2).trans rfl, HS3_, HS4_, HS5_⟩ (fun hHeld => ?_)
        clear hK K
        refine norm_ (a' := ?_) ?_ ?_
        rotate_left
        · show Act.put _ (some 15) _ = _
          simp only [Act.put, List.setIfInBounds_toArray, List.set_cons_zero, List.set_cons_succ, i64_w, i32_w]
          rfl
        refine last_ (i := 7) (N := none) #[true, true, true, true, true, true, true, true, false] rfl rfl (one_of HT_.out (by kernel_rfl)) (by decide) (fun K hK => ?_)
        have hs43 : w42.cell? ⟨gb258, 0, none⟩ = some (.int .i64 a0_0) := (blk_cell BK258.out 0).trans rfl
        have hfs43 := blk_frozen BK258.out 0
        have hs44 : w42.cell? ⟨gb258, 1, none⟩ = some (.string a0_1) := (blk_cell BK258.out 1).trans rfl
        have hfs44 := blk_frozen BK258.out 1
        have hs45 : w42.cell? ⟨gb258, 2, none⟩ = some (.slice A0_2 l0_2.length c0_2) := (blk_cell BK258.out 2).trans rfl
        have hfs45 := blk_frozen BK258.out 2
        refine skip_ (w1 := ?_) (by rfl) rfl ?_ ?_
        rotate_left
        · go_simp
          rfl
        refine hK.out _ _ ?_
        clear hK K
        refine pure_ (i := 8) (N := some 1) (v := ?_) (a' := ?_) #[true, true, true, true, true, true, true, true, true] rfl rfl (any_of HT_.out (by kernel_rfl)) (fun _ _ _ h => h) (Or.inl ⟨by rfl, ?_⟩) ?_ ?_
        rotate_left
        · intro w'
          go_simp
          with_reducible rfl
        rotate_left
        · simp only [Act.put, List.setIfInBounds_toArray, List.set_cons_zero, List.set_cons_succ, i64_w, i32_w]
          rfl
        refine done_ (done_of HT_.out (by kernel_rfl)) ?_
        have hcz46_0 : w42.cell? ⟨gb258, 0, none⟩ = some (.int .i64 a0_0) := (blk_cell BK258.out 0).trans rfl
        have hcz46_1 : w42.cell? ⟨gb258, 1, none⟩ = some (.string a0_1) := (blk_cell BK258.out 1).trans rfl
        have hcz46_2 : w42.cell? ⟨gb258, 2, none⟩ = some (.slice A0_2 l0_2.length c0_2) := (blk_cell BK258.out 2).trans rfl
        have hfz46_0 := blk_frozen BK258.out 0
        have hfz46_1 := blk_frozen BK258.out 1
        have hfz46_2 := blk_frozen BK258.out 2
        go_upto_region 8 with (first | ((with_reducible refine _root_.Go.Proofs.YtcakednecmngdaaDoorW.PrintMore.gate_callee (f := 58) rfl ?_); refine goesL_ (some 18) rfl rfl Tryd.func58 (by kernel_rfl) rfl #[.agg #[.int .i64 ((rd_T58 t262 0).f0), .string ((rd_T58 t262 0).f1), .slice A265_2 ((rd_T58 t262 0).f2).length c265_2]] rfl (by (try simp only [List.map_toArray, List.map_cons, List.map_nil]); first | done | rfl | (simp only [List.length_drop, List.length_take]; rfl)) ?_; (with_reducible refine (label_Not.calls ((rd_T58 t262 0).f0) ((rd_T58 t262 0).f1) _ _ ((rd_T58 t262 0).f2) t269 t270 t271 true _ ?side1 ?side2 A6.out).mono ?_); (case side1 => repeat (first | exact ((Kd.V_reads' (by (with_reducible repeat (first | apply Kd.V_alloc | apply Kd.V_drewN | apply Kd.V_drew)); exact (Kd.V_mono (Kd.V_far (p := ⟨gb258, 2, none⟩) (Kd.V_far (p := ⟨gb258, 1, none⟩) (Kd.V_far (p := ⟨gb258, 0, none⟩) (Kd.V_mono HL265_2.out (fun k_ hk => (⟨hk, hk.1.1.2.2⟩ : _ ∧ k_ ≠ gb258))) (fun _ hk => hk.2) (.int .i64 ((rd_T58 t262 0).f0))) (fun _ hk => hk.2) (.string ((rd_T58 t262 0).f1))) (fun _ hk => hk.2) (.slice A265_2 ((rd_T58 t262 0).f2).length c265_2)) (fun _ h_ => h_.1)))).2.2) | (with_reducible refine Kd.C_alloc ?_ _) | (with_reducible refine Kd.C_drewN ?_ _) | (with_reducible refine Kd.C_drew ?_))); (case side2 => exact HC265_2.out); rintro e w47 ⟨v272, rfl, ho0, hb⟩; refine ⟨_, rfl, ?_⟩; have n0_ := Aside0.mk (Kd.V_elder' (by (with_reducible repeat (first | apply Kd.V_alloc | apply Kd.V_drewN | apply Kd.V_drew)); exact (Kd.V_mono (Kd.V_far (p := ⟨gb258, 2, none⟩) (Kd.V_far (p := ⟨gb258, 1, none⟩) (Kd.V_far (p := ⟨gb258, 0, none⟩) (Kd.V_mono HO0_2.out (fun k_ hk => (⟨hk, hk.1.1.1.2⟩ : _ ∧ k_ ≠ gb258))) (fun _ hk => hk.2) (.int .i64 ((rd_T58 t262 0).f0))) (fun _ hk => hk.2) (.string ((rd_T58 t262 0).f1))) (fun _ hk => hk.2) (.slice A265_2 ((rd_T58 t262 0).f2).length c265_2)) (fun _ h_ => h_.1))) (Kd.R_base ho0) hb); have n1_ := Aside0.mk (Kd.N_elder' (by (with_reducible repeat (first | apply Kd.N_alloc | apply Kd.N_drewN | apply Kd.N_drew)); exact (Kd.N_mono (Kd.N_far (p := ⟨gb258, 2, none⟩) (Kd.N_far (p := ⟨gb258, 1, none⟩) (Kd.N_far (p := ⟨gb258, 0, none⟩) (Kd.N_mono HO261.out (fun k_ hk => (⟨hk, hk.1.1.2⟩ : _ ∧ k_ ≠ gb258))) (fun _ hk => hk.2) (.int .i64 ((rd_T58 t262 0).f0))) (fun _ hk => hk.2) (.string ((rd_T58 t262 0).f1))) (fun _ hk => hk.2) (.slice A265_2 ((rd_T58 t262 0).f2).length c265_2)) (fun _ h_ => h_.1))) (Kd.R_base ho0) hb); have n2_ := Aside0.mk (Kd.N_elder' (by (with_reducible repeat (first | apply Kd.N_alloc | apply Kd.N_drewN | apply Kd.N_drew)); exact (Kd.N_mono (Kd.N_far (p := ⟨gb258, 2, none⟩) (Kd.N_far (p := ⟨gb258, 1, none⟩) (Kd.N_far (p := ⟨gb258, 0, none⟩) (Kd.N_mono HO264.out (fun k_ hk => (⟨hk, hk.1.2.2⟩ : _ ∧ k_ ≠ gb258))) (fun _ hk => hk.2) (.int .i64 ((rd_T58 t262 0).f0))) (fun _ hk => hk.2) (.string ((rd_T58 t262 0).f1))) (fun _ hk => hk.2) (.slice A265_2 ((rd_T58 t262 0).f2).length c265_2)) (fun _ h_ => h_.1))) (Kd.R_base ho0) hb); have n3_ := Aside0.mk (Kd.V_elder' (by (with_reducible repeat (first | apply Kd.V_alloc | apply Kd.V_drewN | apply Kd.V_drew)); exact (Kd.V_mono (Kd.V_far (p := ⟨gb258, 2, none⟩) (Kd.V_far (p := ⟨gb258, 1, none⟩) (Kd.V_far (p := ⟨gb258, 0, none⟩) (Kd.V_mono HL265_2.out (fun k_ hk => (⟨hk, hk.1.1.2.2⟩ : _ ∧ k_ ≠ gb258))) (fun _ hk => hk.2) (.int .i64 ((rd_T58 t262 0).f0))) (fun _ hk => hk.2) (.string ((rd_T58 t262 0).f1))) (fun _ hk => hk.2) (.slice A265_2 ((rd_T58 t262 0).f2).length c265_2)) (fun _ h_ => h_.1))) (Kd.R_base ho0) hb); have n4_ := Aside0.mk (Kd.R_below (by (with_reducible repeat (first | apply Kd.R_alloc | apply Kd.R_drewN | apply Kd.R_drew)); exact (Kd.R_mono (Kd.R_far (p := ⟨gb258, 2, none⟩) (Kd.R_far (p := ⟨gb258, 1, none⟩) (Kd.R_far (p := ⟨gb258, 0, none⟩) (Kd.R_types HO268.out BK258.out (by decide)) (fun _ hk => hk.2) (.int .i64 ((rd_T58 t262 0).f0))) (fun _ hk => hk.2) (.string ((rd_T58 t262 0).f1))) (fun _ hk => hk.2) (.slice A265_2 ((rd_T58 t262 0).f2).length c265_2)) (fun _ h_ => h_.1))) hb); have n5_ := Aside0.mk (Kd.R_lower (Kd.R_newM (M := fun k_ => (w.heap.size ≤ k_)) ho0 (below_size (by repeat (first | (with_reducible first | exact HB.out | apply below_alloc | apply pw_below_drewN | apply below_drew1 | refine below_set ?_ GE258.out) | exact HB.out))) (fun k_ h_ => h_)) (below_size (by repeat (first | (with_reducible first | exact HB.out | apply below_alloc | apply pw_below_drewN | apply below_drew1 | refine below_set ?_ GE258.out) | exact HB.out)))); have n6_ := Aside0.mk (blk_below (g := gb258) (o := .cells #[.int .i64 ((rd_T58 t262 0).f0), .string ((rd_T58 t262 0).f1), .slice A265_2 ((rd_T58 t262 0).f2).length c265_2] 58 (0, 0)) (by (with_reducible repeat (first | refine blk_drewN ?_ _ | refine blk_drew ?_ | refine blk_alloc ?_ _)); refine blk_put (cs := #[.int .i64 ((rd_T58 t262 0).f0), .string ((rd_T58 t262 0).f1), .slice A0_2 l0_2.length c0_2]) ?_ 2 _ rfl; (with_reducible repeat (first | refine blk_drewN ?_ _ | refine blk_drew ?_ | refine blk_alloc ?_ _)); refine blk_put (cs := #[.int .i64 ((rd_T58 t262 0).f0), .string a0_1, .slice A0_2 l0_2.length c0_2]) ?_ 1 _ rfl; (with_reducible repeat (first | refine blk_drewN ?_ _ | refine blk_drew ?_ | refine blk_alloc ?_ _)); refine blk_put (cs := #[.int .i64 a0_0, .string a0_1, .slice A0_2 l0_2.length c0_2]) ?_ 0 _ rfl; (with_reducible repeat (first | refine blk_drewN ?_ _ | refine blk_drew ?_ | refine blk_alloc ?_ _)); exact BK258.out) hb); have n7_ := Aside0.mk (Kd.C_below ((Kd.V_reads' (by (with_reducible repeat (first | apply Kd.V_alloc | apply Kd.V_drewN | apply Kd.V_drew)); exact (Kd.V_mono (Kd.V_far (p := ⟨gb258, 2, none⟩) (Kd.V_far (p := ⟨gb258, 1, none⟩) (Kd.V_far (p := ⟨gb258, 0, none⟩) (Kd.V_mono HL265_2.out (fun k_ hk => (⟨hk, hk.1.1.2.2⟩ : _ ∧ k_ ≠ gb258))) (fun _ hk => hk.2) (.int .i64 ((rd_T58 t262 0).f0))) (fun _ hk => hk.2) (.string ((rd_T58 t262 0).f1))) (fun _ hk => hk.2) (.slice A265_2 ((rd_T58 t262 0).f2).length c265_2)) (fun _ h_ => h_.1)))).2.2) hb); have n8_ := Aside0.mk (below_step (by repeat (first | (with_reducible first | exact HB.out | apply below_alloc | apply pw_below_drewN | apply below_drew1 | refine below_set ?_ GE258.out) | exact HB.out)) hb); clear HO0_2; clear HO261; clear HO264; clear HL265_2; clear HO268; clear BK258; clear HR265_2; clear HB; have HO0_2 := n0_; have HO261 := n1_; have HO264 := n2_; have HL265_2 := n3_; have HO268 := n4_; have HO273 := n5_; have BK258 := n6_; have HR265_2 := n7_; have HB := n8_; clear n0_ n1_ n2_ n3_ n4_ n5_ n6_ n7_ n8_; (try clear hb); (try clear hb2); (try clear hk); (try clear hi); (try clear ho0)) | ((with_reducible refine gate_dst (N := 5) rfl ?_); (try (refine gate_guard (by rfl) ?_; dsimp only)); refine box_event ?hg (N := 5) ?hd (cs := #[.int .i64 0, .string (⟨#[]⟩ : ByteArray), .slice none 0 0]) (t := 58) ?hr ?_; (case hd => rfl); (case hg => rfl); (case hr => first | (go_simp; done) | (go_simp; rfl)); intro gb275 hg w48 hbox hb; have n0_ := Aside0.mk (Kd.V_below (Kd.V_elderB (by (with_reducible repeat (first | apply Kd.V_alloc | apply Kd.V_drewN | apply Kd.V_drew)); exact HO0_2.out) gb275 (Nat.le_of_eq hg.symm)) hb); have n1_ := Aside0.mk (Kd.N_below (Kd.N_elderB (by (with_reducible repeat (first | apply Kd.N_alloc | apply Kd.N_drewN | apply Kd.N_drew)); exact HO261.out) gb275 (Nat.le_of_eq hg.symm)) hb); have n2_ := Aside0.mk (Kd.N_below (Kd.N_elderB (by (with_reducible repeat (first | apply Kd.N_alloc | apply Kd.N_drewN | apply Kd.N_drew)); exact HO264.out) gb275 (Nat.le_of_eq hg.symm)) hb); have n3_ := Aside0.mk (Kd.V_below (Kd.V_elderB (by (with_reducible repeat (first | apply Kd.V_alloc | apply Kd.V_drewN | apply Kd.V_drew)); exact HL265_2.out) gb275 (Nat.le_of_eq hg.symm)) hb); have n4_ := Aside0.mk (Kd.R_below (by (with_reducible repeat (first | apply Kd.R_alloc | apply Kd.R_drewN | apply Kd.R_drew)); exact HO268.out) hb); have n5_ := Aside0.mk (Kd.R_below (by (with_reducible repeat (first | apply Kd.R_alloc | apply Kd.R_drewN | apply Kd.R_drew)); exact HO273.out) hb); have n6_ := Aside0.mk (blk_below (g := gb258) (o := .cells #[.int .i64 ((rd_T58 t262 0).f0), .string ((rd_T58 t262 0).f1), .slice A265_2 ((rd_T58 t262 0).f2).length c265_2] 58 (0, 0)) (by (with_reducible repeat (first | refine blk_drewN ?_ _ | refine blk_drew ?_ | refine blk_alloc ?_ _)); exact BK258.out) hb); have n7_ := Aside0.mk (Kd.C_below (by repeat (first | (with_reducible exact HR265_2.out) | (with_reducible refine Kd.C_alloc ?_ _) | (with_reducible refine Kd.C_drewN ?_ _) | (with_reducible refine Kd.C_drew ?_) | exact HR265_2.out | exact (Kd.V_reads' HL265_2.out).2.2)) hb); have n8_ := Aside0.mk (below_step (by repeat (first | (with_reducible first | exact HB.out | apply below_alloc | apply pw_below_drewN | apply below_drew1 | refine below_set ?_ GE258.out) | exact HB.out)) hb); have n9_ := Aside0.mk (hbox); have n10_ := Aside0.mk ((by rw [hg]; exact (below_size (by repeat (first | (with_reducible first | exact HB.out | apply below_alloc | apply pw_below_drewN | apply below_drew1 | refine below_set ?_ GE258.out) | exact HB.out))) : w.heap.size ≤ gb275)); have n11_ := Aside0.mk ((by rw [hg]; exact (below_size (by repeat (first | (with_reducible first | exact HB.out | apply below_alloc | apply pw_below_drewN | apply below_drew1 | refine below_set ?_ GE258.out) | exact HB.out))) : w.heap.size ≤ gb275)); have n12_ := Aside0.mk ((by rw [hg]; exact Nat.ne_of_lt (blk_lt (g := gb258) (o := .cells #[.int .i64 ((rd_T58 t262 0).f0), .string ((rd_T58 t262 0).f1), .slice A265_2 ((rd_T58 t262 0).f2).length c265_2] 58 (0, 0)) (by (with_reducible repeat (first | refine blk_drewN ?_ _ | refine blk_drew ?_ | refine blk_alloc ?_ _)); exact BK258.out)) : gb258 ≠ gb275)); have n13_ := Aside0.mk ((by rw [hg]; exact Nat.ne_of_gt (blk_lt (g := gb258) (o := .cells #[.int .i64 ((rd_T58 t262 0).f0), .string ((rd_T58 t262 0).f1), .slice A265_2 ((rd_T58 t262 0).f2).length c265_2] 58 (0, 0)) (by (with_reducible repeat (first | refine blk_drewN ?_ _ | refine blk_drew ?_ | refine blk_alloc ?_ _)); exact BK258.out)) : gb275 ≠ gb258)); clear HO0_2; clear HO261; clear HO264; clear HL265_2; clear HO268; clear HO273; clear BK258; clear HR265_2; clear HB; have HO0_2 := n0_; have HO261 := n1_; have HO264 := n2_; have HL265_2 := n3_; have HO268 := n4_; have HO273 := n5_; have BK258 := n6_; have HR265_2 := n7_; have HB := n8_; have BK275 := n9_; have GW275 := n10_; have GE275 := n11_; have NB258_275 := n12_; have NB275_258 := n13_; clear n0_ n1_ n2_ n3_ n4_ n5_ n6_ n7_ n8_ n9_ n10_ n11_ n12_ n13_; clear hb hbox hg; have hnb49 := NB275_258.out; have hnc49 := NB258_275.out; have hcz50_0 : w48.cell? ⟨gb275, 0, none⟩ = some (.int .i64 0) := (blk_cell BK275.out 0).trans rfl; have hcz50_1 : w48.cell? ⟨gb275, 1, none⟩ = some (.string (⟨#[]⟩ : ByteArray)) := (blk_cell BK275.out 1).trans rfl; have hcz50_2 : w48.cell? ⟨gb275, 2, none⟩ = some (.slice none 0 0) := (blk_cell BK275.out 2).trans rfl; have hfz50_0 := blk_frozen BK275.out 0; have hfz50_1 := blk_frozen BK275.out 1; have hfz50_2 := blk_frozen BK275.out 2; obtain ⟨Ao51, co51, eo51⟩ := Kd.R_slice HO273.out; subst eo51) | ((with_reducible refine gate_store (t := 58) (p := 5) rfl ?_); refine store_event (t := 58) (p := 5) (v := ?vo_w52) (w1 := (((w48.setCell ⟨gb275, 0, none⟩ (.int .i64 t269)).setCell ⟨gb275, 1, none⟩ (.string t270)).setCell ⟨gb275, 2, none⟩ (.slice Ao51 t271.length co51))) ?hg ?ho ?hn ?hr ?_; (case ho => rfl); (case hg => rfl); (case hn => rfl); (case hr => first | (go_simp; done) | (go_simp; rfl)); intro w52 hw; have n0_ : Aside0 (Kd.V Kd.string 9 w52 w.heap.size (fun k_ => (P0_2_ k_ ∨ w.heap.size ≤ k_) ∧ some k_ ≠ (.slice Ao39 y259.length co39 : Value).ownBlock ∧ some k_ ≠ (.slice (some ad265) t262.length co41 : Value).ownBlock ∧ some k_ ≠ (v267 : Value).ownBlock ∧ some k_ ≠ (.slice Ao51 t271.length co51 : Value).ownBlock ∧ k_ ≠ gb258 ∧ k_ ≠ gb275) (.slice A0_2 l0_2.length c0_2) l0_2) := ⟨(by rw [hw]; exact (by (with_reducible repeat (first | apply Kd.V_alloc | apply Kd.V_drewN | apply Kd.V_drew)); exact Kd.V_mono (Kd.V_far (p := ⟨gb275, 2, none⟩) (Kd.V_far (p := ⟨gb275, 1, none⟩) (Kd.V_far (p := ⟨gb275, 0, none⟩) (Kd.V_mono HO0_2.out (fun k_ hk => (⟨hk, hk.2⟩ : _ ∧ k_ ≠ gb275))) (fun _ hk => hk.2) (.int .i64 t269)) (fun _ hk => hk.2) (.string t270)) (fun _ hk => hk.2) (.slice Ao51 t271.length co51)) (fun _ hk => ⟨hk.1.1.1.1.1.1.1, ⟨hk.1.1.1.1.1.2, ⟨hk.1.1.1.1.2, ⟨hk.1.1.1.2, ⟨hk.1.1.2, ⟨hk.1.1.1.1.1.1.2, hk.1.2⟩⟩⟩⟩⟩⟩)))⟩; have n1_ : Aside0 (Kd.N k58 58 w52 w.heap.size (fun k_ => (P0_2_ k_ ∨ w.heap.size ≤ k_) ∧ some k_ ≠ (.slice (some ad265) t262.length co41 : Value).ownBlock ∧ some k_ ≠ (v267 : Value).ownBlock ∧ some k_ ≠ (.slice Ao51 t271.length co51 : Value).ownBlock ∧ k_ ≠ gb258 ∧ k_ ≠ gb275) (.slice Ao39 y259.length co39) y259) := ⟨(by rw [hw]; exact (by (with_reducible repeat (first | apply Kd.N_alloc | apply Kd.N_drewN | apply Kd.N_drew)); exact Kd.N_mono (Kd.N_far (p := ⟨gb275, 2, none⟩) (Kd.N_far (p := ⟨gb275, 1, none⟩) (Kd.N_far (p := ⟨gb275, 0, none⟩) (Kd.N_mono HO261.out (fun k_ hk => (⟨hk, hk.2⟩ : _ ∧ k_ ≠ gb275))) (fun _ hk => hk.2) (.int .i64 t269)) (fun _ hk => hk.2) (.string t270)) (fun _ hk => hk.2) (.slice Ao51 t271.length co51)) (fun _ hk => ⟨hk.1.1.1.1.1.1, ⟨hk.1.1.1.1.2, ⟨hk.1.1.1.2, ⟨hk.1.1.2, ⟨hk.1.1.1.1.1.2, hk.1.2⟩⟩⟩⟩⟩)))⟩; have n2_ : Aside0 (Kd.N k58 58 w52 w.heap.size (fun k_ => (P0_2_ k_ ∨ w.heap.size ≤ k_) ∧ some k_ ≠ (.slice Ao39 y259.length co39 : Value).ownBlock ∧ some k_ ≠ (v267 : Value).ownBlock ∧ some k_ ≠ (.slice Ao51 t271.length co51 : Value).ownBlock ∧ k_ ≠ gb258 ∧ k_ ≠ gb275) (.slice (some ad265) t262.length co41) t262) := ⟨(by rw [hw]; exact (by (with_reducible repeat (first | apply Kd.N_alloc | apply Kd.N_drewN | apply Kd.N_drew)); exact Kd.N_mono (Kd.N_far (p := ⟨gb275, 2, none⟩) (Kd.N_far (p := ⟨gb275, 1, none⟩) (Kd.N_far (p := ⟨gb275, 0, none⟩) (Kd.N_mono HO264.out (fun k_ hk => (⟨hk, hk.2⟩ : _ ∧ k_ ≠ gb275))) (fun _ hk => hk.2) (.int .i64 t269)) (fun _ hk => hk.2) (.string t270)) (fun _ hk => hk.2) (.slice Ao51 t271.length co51)) (fun _ hk => ⟨hk.1.1.1.1.1, ⟨hk.1.1.1.1.2.1, ⟨hk.1.1.1.2, ⟨hk.1.1.2, ⟨hk.1.1.1.1.2.2, hk.1.2⟩⟩⟩⟩⟩)))⟩; have n3_ : Aside0 (Kd.V Kd.string 9 w52 w.heap.size (fun k_ => (P0_2_ k_ ∨ w.heap.size ≤ k_) ∧ some k_ ≠ (.slice Ao39 y259.length co39 : Value).ownBlock ∧ some k_ ≠ (.slice (some ad265) t262.length co41 : Value).ownBlock ∧ some k_ ≠ (v267 : Value).ownBlock ∧ some k_ ≠ (.slice Ao51 t271.length co51 : Value).ownBlock ∧ k_ ≠ gb258 ∧ k_ ≠ gb275) (.slice A265_2 ((rd_T58 t262 0).f2).length c265_2) ((rd_T58 t262 0).f2)) := ⟨(by rw [hw]; exact (by (with_reducible repeat (first | apply Kd.V_alloc | apply Kd.V_drewN | apply Kd.V_drew)); exact Kd.V_mono (Kd.V_far (p := ⟨gb275, 2, none⟩) (Kd.V_far (p := ⟨gb275, 1, none⟩) (Kd.V_far (p := ⟨gb275, 0, none⟩) (Kd.V_mono HL265_2.out (fun k_ hk => (⟨hk, hk.2⟩ : _ ∧ k_ ≠ gb275))) (fun _ hk => hk.2) (.int .i64 t269)) (fun _ hk => hk.2) (.string t270)) (fun _ hk => hk.2) (.slice Ao51 t271.length co51)) (fun _ hk => ⟨hk.1.1.1.1.1.1, ⟨hk.1.1.1.1.1.2.1, ⟨hk.1.1.1.1.2, ⟨hk.1.1.1.2, ⟨hk.1.1.2, ⟨hk.1.1.1.1.1.2.2, hk.1.2⟩⟩⟩⟩⟩⟩)))⟩; have n4_ : Aside0 (Kd.R k55 55 w52 w.heap.size (fun k_ => (w.heap.size ≤ k_)) v267 t266) := ⟨(by rw [hw]; exact (by (with_reducible repeat (first | apply Kd.R_alloc | apply Kd.R_drewN | apply Kd.R_drew)); exact Kd.R_mono (Kd.R_far (p := ⟨gb275, 2, none⟩) (Kd.R_far (p := ⟨gb275, 1, none⟩) (Kd.R_far (p := ⟨gb275, 0, none⟩) (Kd.R_types HO268.out BK275.out (by decide)) (fun _ hk => hk.2) (.int .i64 t269)) (fun _ hk => hk.2) (.string t270)) (fun _ hk => hk.2) (.slice Ao51 t271.length co51)) (fun _ hk => hk.1.1)))⟩; have n5_ : Aside0 (Kd.R Kd.string 9 w52 w.heap.size (fun k_ => (w.heap.size ≤ k_)) (.slice Ao51 t271.length co51) t271) := ⟨(by rw [hw]; exact (by (with_reducible repeat (first | apply Kd.R_alloc | apply Kd.R_drewN | apply Kd.R_drew)); exact Kd.R_mono (Kd.R_far (p := ⟨gb275, 2, none⟩) (Kd.R_far (p := ⟨gb275, 1, none⟩) (Kd.R_far (p := ⟨gb275, 0, none⟩) (Kd.R_types HO273.out BK275.out (by decide)) (fun _ hk => hk.2) (.int .i64 t269)) (fun _ hk => hk.2) (.string t270)) (fun _ hk => hk.2) (.slice Ao51 t271.length co51)) (fun _ hk => hk.1.1)))⟩; have n6_ : Aside0 (w52.heap[gb258]? = some (.cells #[.int .i64 ((rd_T58 t262 0).f0), .string ((rd_T58 t262 0).f1), .slice A265_2 ((rd_T58 t262 0).f2).length c265_2] 58 (0, 0))) := ⟨(by rw [hw]; exact (by (with_reducible repeat (first | refine blk_drewN ?_ _ | refine blk_drew ?_ | refine blk_alloc ?_ _)); refine blk_far ?_ NB258_275.out _; (with_reducible repeat (first | refine blk_drewN ?_ _ | refine blk_drew ?_ | refine blk_alloc ?_ _)); refine blk_far ?_ NB258_275.out _; (with_reducible repeat (first | refine blk_drewN ?_ _ | refine blk_drew ?_ | refine blk_alloc ?_ _)); refine blk_far ?_ NB258_275.out _; (with_reducible repeat (first | refine blk_drewN ?_ _ | refine blk_drew ?_ | refine blk_alloc ?_ _)); exact BK258.out))⟩; have n7_ : Aside0 (w52.heap[gb275]? = some (.cells #[.int .i64 t269, .string t270, .slice Ao51 t271.length co51] 58 (0, 0))) := ⟨(by rw [hw]; exact (by (with_reducible repeat (first | refine blk_drewN ?_ _ | refine blk_drew ?_ | refine blk_alloc ?_ _)); refine blk_put (cs := #[.int .i64 t269, .string t270, .slice none 0 0]) ?_ 2 _ rfl; (with_reducible repeat (first | refine blk_drewN ?_ _ | refine blk_drew ?_ | refine blk_alloc ?_ _)); refine blk_put (cs := #[.int .i64 t269, .string (⟨#[]⟩ : ByteArray), .slice none 0 0]) ?_ 1 _ rfl; (with_reducible repeat (first | refine blk_drewN ?_ _ | refine blk_drew ?_ | refine blk_alloc ?_ _)); refine blk_put (cs := #[.int .i64 0, .string (⟨#[]⟩ : ByteArray), .slice none 0 0]) ?_ 0 _ rfl; (with_reducible repeat (first | refine blk_drewN ?_ _ | refine blk_drew ?_ | refine blk_alloc ?_ _)); exact BK275.out))⟩; have n8_ : Aside0 (Below w.heap.size w w52) := ⟨(by rw [hw]; exact (by repeat (first | (with_reducible first | exact HB.out | apply below_alloc | apply pw_below_drewN | apply below_drew1 | refine below_set ?_ GE258.out | refine below_set ?_ GE275.out) | exact HB.out)))⟩; clear hw; clear HO0_2; clear HO261; clear HO264; clear HL265_2; clear HO268; clear HO273; clear BK258; clear BK275; clear HB; have HO0_2 := n0_; have HO261 := n1_; have HO264 := n2_; have HL265_2 := n3_; have HO268 := n4_; have HO273 := n5_; have BK258 := n6_; have BK275 := n7_; have HB := n8_; clear n0_ n1_ n2_ n3_ n4_ n5_ n6_ n7_ n8_; have hcz53_0 : w52.cell? ⟨gb258, 0, none⟩ = some (.int .i64 ((rd_T58 t262 0).f0)) := (blk_cell BK258.out 0).trans rfl; have hcz53_1 : w52.cell? ⟨gb258, 1, none⟩ = some (.string ((rd_T58 t262 0).f1)) := (blk_cell BK258.out 1).trans rfl; have hcz53_2 : w52.cell? ⟨gb258, 2, none⟩ = some (.slice A265_2 ((rd_T58 t262 0).f2).length c265_2) := (blk_cell BK258.out 2).trans rfl; have hfz53_0 := blk_frozen BK258.out 0; have hfz53_1 := blk_frozen BK258.out 1; have hfz53_2 := blk_frozen BK258.out 2) | ((with_reducible refine gate_dst (N := 23) rfl ?_); (try (refine gate_guard (by rfl) ?_; dsimp only)); refine Kd.N_lit k58 _ 58 ?hg (N' := 23) ?hd (xs := ([(⟨(rd_T58 t262 0).f0, (rd_T58 t262 0).f1, (rd_T58 t262 0).f2⟩ : S58)] : List (S58))) (inner := [.int .i64 ((rd_T58 t262 0).f0), .string ((rd_T58 t262 0).f1), .slice A265_2 ((rd_T58 t262 0).f2).length c265_2]) (ok := (fun k_ => (P0_2_ k_ ∨ w.heap.size ≤ k_) ∧ some k_ ≠ (.slice Ao39 y259.length co39 : Value).ownBlock ∧ some k_ ≠ (.slice (some ad265) t262.length co41 : Value).ownBlock ∧ some k_ ≠ (v267 : Value).ownBlock ∧ some k_ ≠ (.slice Ao51 t271.length co51 : Value).ownBlock ∧ k_ ≠ gb258 ∧ k_ ≠ gb275)) (okp := (fun k_ => (P0_2_ k_ ∨ w.heap.size ≤ k_) ∧ some k_ ≠ (.slice Ao39 y259.length co39 : Value).ownBlock ∧ some k_ ≠ (.slice (some ad265) t262.length co41 : Value).ownBlock ∧ some k_ ≠ (v267 : Value).ownBlock ∧ some k_ ≠ (.slice Ao51 t271.length co51 : Value).ownBlock ∧ k_ ≠ gb258 ∧ k_ ≠ gb275)) ?hr ?hp (fun _ hk => hk) ((show ∀ k_, w52.heap.size ≤ k_ → (fun k_ => (P0_2_ k_ ∨ w.heap.size ≤ k_) ∧ some k_ ≠ (.slice Ao39 y259.length co39 : Value).ownBlock ∧ some k_ ≠ (.slice (some ad265) t262.length co41 : Value).ownBlock ∧ some k_ ≠ (v267 : Value).ownBlock ∧ some k_ ≠ (.slice Ao51 t271.length co51 : Value).ownBlock ∧ k_ ≠ gb258 ∧ k_ ≠ gb275) k_ from fun k_ hk => ⟨(.inr (Nat.le_trans (below_size (by repeat (first | (with_reducible first | exact HB.out | apply below_alloc | apply pw_below_drewN | apply below_drew1 | refine below_set ?_ GE258.out | refine below_set ?_ GE275.out) | exact HB.out))) hk)), Kd.fresh' (Kd.N_lt (by (with_reducible repeat (first | apply Kd.N_alloc | apply Kd.N_drewN | apply Kd.N_drew)); exact HO261.out)) k_ hk, Kd.fresh' (Kd.N_lt (by (with_reducible repeat (first | apply Kd.N_alloc | apply Kd.N_drewN | apply Kd.N_drew)); exact HO264.out)) k_ hk, Kd.fresh' (Kd.R_lt (by (with_reducible repeat (first | apply Kd.R_alloc | apply Kd.R_drewN | apply Kd.R_drew)); exact HO268.out)) k_ hk, Kd.fresh' (Kd.R_lt (by (with_reducible repeat (first | apply Kd.R_alloc | apply Kd.R_drewN | apply Kd.R_drew)); exact HO273.out)) k_ hk, Kd.freshB (g := gb258) (o := .cells #[.int .i64 ((rd_T58 t262 0).f0), .string ((rd_T58 t262 0).f1), .slice A265_2 ((rd_T58 t262 0).f2).length c265_2] 58 (0, 0)) (by (with_reducible repeat (first | refine blk_drewN ?_ _ | refine blk_drew ?_ | refine blk_alloc ?_ _)); exact BK258.out) k_ hk, Kd.freshB (g := gb275) (o := .cells #[.int .i64 t269, .string t270, .slice Ao51 t271.length co51] 58 (0, 0)) (by (with_reducible repeat (first | refine blk_drewN ?_ _ | refine blk_drew ?_ | refine blk_alloc ?_ _)); exact BK275.out) k_ hk⟩) _ (Nat.le_refl _)) (Below.refl _ _) (Nat.le_refl _) (by simp) ?_; (case hd => rfl); (case hg => rfl); (case hr => first | (go_simp; done) | (go_simp; rfl)); (case hp => exact (Reps.c3 (show Kd.FK k58 _ _ (⟨(rd_T58 t262 0).f0, (rd_T58 t262 0).f1, (rd_T58 t262 0).f2⟩ : S58) [.int .i64 ((rd_T58 t262 0).f0), .string ((rd_T58 t262 0).f1), .slice A265_2 ((rd_T58 t262 0).f2).length c265_2] from (k58_mkF _ _ (⟨(rd_T58 t262 0).f0, (rd_T58 t262 0).f1, (rd_T58 t262 0).f2⟩ : S58) (Kd.V_reads' (Kd.V_mono (ok' := (fun k_ => (P0_2_ k_ ∨ w.heap.size ≤ k_) ∧ some k_ ≠ (.slice Ao39 y259.length co39 : Value).ownBlock ∧ some k_ ≠ (.slice (some ad265) t262.length co41 : Value).ownBlock ∧ some k_ ≠ (v267 : Value).ownBlock ∧ some k_ ≠ (.slice Ao51 t271.length co51 : Value).ownBlock ∧ k_ ≠ gb258 ∧ k_ ≠ gb275)) (HL265_2.out) (fun k_ hk => ⟨hk.1, ⟨hk.2.1, ⟨hk.2.2.1, ⟨hk.2.2.2.1, ⟨hk.2.2.2.2.1, ⟨hk.2.2.2.2.2.1, hk.2.2.2.2.2.2⟩⟩⟩⟩⟩⟩))).2.1 (Kd.V_F (Kd.V_mono (ok' := (fun k_ => (P0_2_ k_ ∨ w.heap.size ≤ k_) ∧ some k_ ≠ (.slice Ao39 y259.length co39 : Value).ownBlock ∧ some k_ ≠ (.slice (some ad265) t262.length co41 : Value).ownBlock ∧ some k_ ≠ (v267 : Value).ownBlock ∧ some k_ ≠ (.slice Ao51 t271.length co51 : Value).ownBlock ∧ k_ ≠ gb258 ∧ k_ ≠ gb275)) (HL265_2.out) (fun k_ hk => ⟨hk.1, ⟨hk.2.1, ⟨hk.2.2.1, ⟨hk.2.2.2.1, ⟨hk.2.2.2.2.1, ⟨hk.2.2.2.2.2.1, hk.2.2.2.2.2.2⟩⟩⟩⟩⟩⟩))))) (Reps.none _ _))); intro v277 w54 ho55 hb hg_ hnew_; clear hg_ hnew_; (first | rw [← Ny276.out] at ho55 | (simp only [Int.reduceToNat] at ho55; rw [← Ny276.out] at ho55)); have n0_ := Aside0.mk (Kd.V_elder' (by (with_reducible repeat (first | apply Kd.V_alloc | apply Kd.V_drewN | apply Kd.V_drew)); exact HO0_2.out) (Kd.N_base ho55) hb); have n1_ := Aside0.mk (Kd.N_elder' (by (with_reducible repeat (first | apply Kd.N_alloc | apply Kd.N_drewN | apply Kd.N_drew)); exact HO261.out) (Kd.N_base ho55) hb); have n2_ := Aside0.mk (Kd.N_elder' (by (with_reducible repeat (first | apply Kd.N_alloc | apply Kd.N_drewN | apply Kd.N_drew)); exact HO264.out) (Kd.N_base ho55) hb); have n3_ := Aside0.mk (Kd.V_elder' (by (with_reducible repeat (first | apply Kd.V_alloc | apply Kd.V_drewN | apply Kd.V_drew)); exact HL265_2.out) (Kd.N_base ho55) hb); have n4_ := Aside0.mk (Kd.R_below (by (with_reducible repeat (first | apply Kd.R_alloc | apply Kd.R_drewN | apply Kd.R_drew)); exact HO268.out) hb); have n5_ := Aside0.mk (Kd.R_below (by (with_reducible repeat (first | apply Kd.R_alloc | apply Kd.R_drewN | apply Kd.R_drew)); exact HO273.out) hb); have n6_ := Aside0.mk (Kd.N_lower ho55 (below_size (by repeat (first | (with_reducible first | exact HB.out | apply below_alloc | apply pw_below_drewN | apply below_drew1 | refine below_set ?_ GE258.out | refine below_set ?_ GE275.out) | exact HB.out)))); have n7_ := Aside0.mk (blk_below (g := gb258) (o := .cells #[.int .i64 ((rd_T58 t262 0).f0), .string ((rd_T58 t262 0).f1), .slice A265_2 ((rd_T58 t262 0).f2).length c265_2] 58 (0, 0)) (by (with_reducible repeat (first | refine blk_drewN ?_ _ | refine blk_drew ?_ | refine blk_alloc ?_ _)); exact BK258.out) hb); have n8_ := Aside0.mk (Kd.C_below (by repeat (first | (with_reducible exact HR265_2.out) | (with_reducible refine Kd.C_alloc ?_ _) | (with_reducible refine Kd.C_drewN ?_ _) | (with_reducible refine Kd.C_drew ?_) | exact HR265_2.out | exact (Kd.V_reads' HL265_2.out).2.2)) hb); have n9_ := Aside0.mk (blk_below (g := gb275) (o := .cells #[.int .i64 t269, .string t270, .slice Ao51 t271.length co51] 58 (0, 0)) (by (with_reducible repeat (first | refine blk_drewN ?_ _ | refine blk_drew ?_ | refine blk_alloc ?_ _)); exact BK275.out) hb); have n10_ := Aside0.mk (below_step (by repeat (first | (with_reducible first | exact HB.out | apply below_alloc | apply pw_below_drewN | apply below_drew1 | refine below_set ?_ GE258.out | refine below_set ?_ GE275.out) | exact HB.out)) hb); clear HO0_2; clear HO261; clear HO264; clear HL265_2; clear HO268; clear HO273; clear BK258; clear HR265_2; clear BK275; clear HB; have HO0_2 := n0_; have HO261 := n1_; have HO264 := n2_; have HL265_2 := n3_; have HO268 := n4_; have HO273 := n5_; have HO278 := n6_; have BK258 := n7_; have HR265_2 := n8_; have BK275 := n9_; have HB := n10_; clear n0_ n1_ n2_ n3_ n4_ n5_ n6_ n7_ n8_ n9_ n10_; clear hb ho55; obtain ⟨Ao56, co56, eo56⟩ := Kd.N_slice HO278.out; subst eo56) | ((with_reducible refine _root_.Go.Proofs.YtcakednecmngdaaDoorW.PrintMore.gate_callee (f := 59) rfl ?_); refine goesL_ (some 24) rfl rfl Tryd.func59 (by kernel_rfl) rfl #[.slice Ao56 y276.length co56] rfl (by (try simp only [List.map_toArray, List.map_cons, List.map_nil]); first | done | rfl | (simp only [List.length_drop, List.length_take]; rfl)) ?_; (with_reducible refine (label_Needs.calls _ _ y276 t279 _ ?side1 ?side2 A7.out).mono ?_); (case side1 => repeat (first | exact (Kd.N_reads' HO278.out).2.2 | (with_reducible refine Kd.C_alloc ?_ _) | (with_reducible refine Kd.C_drewN ?_ _) | (with_reducible refine Kd.C_drew ?_))); (case side2 => exact (Kd.N_reads' HO278.out).2.1); rintro e w57 ⟨rfl, hb⟩; refine ⟨_, rfl, ?_⟩; have n0_ := Aside0.mk (Kd.V_below (by (with_reducible repeat (first | apply Kd.V_alloc | apply Kd.V_drewN | apply Kd.V_drew)); exact HO0_2.out) hb); have n1_ := Aside0.mk (Kd.N_below (by (with_reducible repeat (first | apply Kd.N_alloc | apply Kd.N_drewN | apply Kd.N_drew)); exact HO261.out) hb); have n2_ := Aside0.mk (Kd.N_below (by (with_reducible repeat (first | apply Kd.N_alloc | apply Kd.N_drewN | apply Kd.N_drew)); exact HO264.out) hb); have n3_ := Aside0.mk (Kd.V_below (by (with_reducible repeat (first | apply Kd.V_alloc | apply Kd.V_drewN | apply Kd.V_drew)); exact HL265_2.out) hb); have n4_ := Aside0.mk (Kd.R_below (by (with_reducible repeat (first | apply Kd.R_alloc | apply Kd.R_drewN | apply Kd.R_drew)); exact HO268.out) hb); have n5_ := Aside0.mk (Kd.R_below (by (with_reducible repeat (first | apply Kd.R_alloc | apply Kd.R_drewN | apply Kd.R_drew)); exact HO273.out) hb); have n6_ := Aside0.mk (Kd.N_below (by (with_reducible repeat (first | apply Kd.N_alloc | apply Kd.N_drewN | apply Kd.N_drew)); exact HO278.out) hb); have n7_ := Aside0.mk (blk_below (g := gb258) (o := .cells #[.int .i64 ((rd_T58 t262 0).f0), .string ((rd_T58 t262 0).f1), .slice A265_2 ((rd_T58 t262 0).f2).length c265_2] 58 (0, 0)) (by (with_reducible repeat (first | refine blk_drewN ?_ _ | refine blk_drew ?_ | refine blk_alloc ?_ _)); exact BK258.out) hb); have n8_ := Aside0.mk (Kd.C_below (by repeat (first | (with_reducible exact HR265_2.out) | (with_reducible refine Kd.C_alloc ?_ _) | (with_reducible refine Kd.C_drewN ?_ _) | (with_reducible refine Kd.C_drew ?_) | exact HR265_2.out | exact (Kd.V_reads' HL265_2.out).2.2)) hb); have n9_ := Aside0.mk (blk_below (g := gb275) (o := .cells #[.int .i64 t269, .string t270, .slice Ao51 t271.length co51] 58 (0, 0)) (by (with_reducible repeat (first | refine blk_drewN ?_ _ | refine blk_drew ?_ | refine blk_alloc ?_ _)); exact BK275.out) hb); have n10_ := Aside0.mk (below_step (by repeat (first | (with_reducible first | exact HB.out | apply below_alloc | apply pw_below_drewN | apply below_drew1 | refine below_set ?_ GE258.out | refine below_set ?_ GE275.out) | exact HB.out)) hb); clear HO0_2; clear HO261; clear HO264; clear HL265_2; clear HO268; clear HO273; clear HO278; clear BK258; clear HR265_2; clear BK275; clear HB; have HO0_2 := n0_; have HO261 := n1_; have HO264 := n2_; have HL265_2 := n3_; have HO268 := n4_; have HO273 := n5_; have HO278 := n6_; have BK258 := n7_; have HR265_2 := n8_; have BK275 := n9_; have HB := n10_; clear n0_ n1_ n2_ n3_ n4_ n5_ n6_ n7_ n8_ n9_ n10_; (try clear hb); (try clear hb2); (try clear hk); (try clear hi); have hcz58_0 : w57.cell? ⟨gb275, 0, none⟩ = some (.int .i64 t269) := (blk_cell BK275.out 0).trans rfl; have hcz58_1 : w57.cell? ⟨gb275, 1, none⟩ = some (.string t270) := (blk_cell BK275.out 1).trans rfl; have hcz58_2 : w57.cell? ⟨gb275, 2, none⟩ = some (.slice Ao51 t271.length co51) := (blk_cell BK275.out 2).trans rfl; have hfz58_0 := blk_frozen BK275.out 0; have hfz58_1 := blk_frozen BK275.out 1; have hfz58_2 := blk_frozen BK275.out 2) | ((with_reducible refine _root_.Go.Proofs.YtcakednecmngdaaDoorW.PrintMore.gate_callee (f := 58) rfl ?_); refine goesL_ (some 47) rfl rfl Tryd.func58 (by kernel_rfl) rfl #[.agg #[.int .i64 t269, .string t270, .slice Ao51 t271.length co51]] rfl (by (try simp only [List.map_toArray, List.map_cons, List.map_nil]); first | done | rfl | (simp only [List.length_drop, List.length_take]; rfl)) ?_; (with_reducible refine (label_Not.calls t269 t270 _ _ t271 t281 t282 t283 t286 _ ?side1 ?side2 A33.out).mono ?_); (case side1 => repeat (first | exact (Kd.R_reads' HO273.out).2.2 | (with_reducible refine Kd.C_alloc ?_ _) | (with_reducible refine Kd.C_drewN ?_ _) | (with_reducible refine Kd.C_drew ?_))); (case side2 => exact (Kd.R_reads' HO273.out).2.1); rintro e w59 ⟨v284, rfl, ho0, hb⟩; refine ⟨_, rfl, ?_⟩; have n0_ := Aside0.mk (Kd.V_elder' (by (with_reducible repeat (first | apply Kd.V_alloc | apply Kd.V_drewN | apply Kd.V_drew)); exact HO0_2.out) (Kd.R_base ho0) hb); have n1_ := Aside0.mk (Kd.N_elder' (by (with_reducible repeat (first | apply Kd.N_alloc | apply Kd.N_drewN | apply Kd.N_drew)); exact HO261.out) (Kd.R_base ho0) hb); have n2_ := Aside0.mk (Kd.N_elder' (by (with_reducible repeat (first | apply Kd.N_alloc | apply Kd.N_drewN | apply Kd.N_drew)); exact HO264.out) (Kd.R_base ho0) hb); have n3_ := Aside0.mk (Kd.V_elder' (by (with_reducible repeat (first | apply Kd.V_alloc | apply Kd.V_drewN | apply Kd.V_drew)); exact HL265_2.out) (Kd.R_base ho0) hb); have n4_ := Aside0.mk (Kd.R_below (by (with_reducible repeat (first | apply Kd.R_alloc | apply Kd.R_drewN | apply Kd.R_drew)); exact HO268.out) hb); have n5_ := Aside0.mk (Kd.R_elder' (by (with_reducible repeat (first | apply Kd.R_alloc | apply Kd.R_drewN | apply Kd.R_drew)); exact HO273.out) (Kd.R_base ho0) hb); have n6_ := Aside0.mk (Kd.N_elder' (by (with_reducible repeat (first | apply Kd.N_alloc | apply Kd.N_drewN | apply Kd.N_drew)); exact HO278.out) (Kd.R_base ho0) hb); have n7_ := Aside0.mk (Kd.R_lower (Kd.R_new' (Kd.R_newM (M := fun k_ => (w.heap.size ≤ k_)) ho0 (below_size (by repeat (first | (with_reducible first | exact HB.out | apply below_alloc | apply pw_below_drewN | apply below_drew1 | refine below_set ?_ GE258.out | refine below_set ?_ GE275.out) | exact HB.out))) (fun k_ h_ => h_)) (Kd.R_lt (by (with_reducible repeat (first | apply Kd.R_alloc | apply Kd.R_drewN | apply Kd.R_drew)); exact HO273.out))) (below_size (by repeat (first | (with_reducible first | exact HB.out | apply below_alloc | apply pw_below_drewN | apply below_drew1 | refine below_set ?_ GE258.out | refine below_set ?_ GE275.out) | exact HB.out)))); have n8_ := Aside0.mk (blk_below (g := gb258) (o := .cells #[.int .i64 ((rd_T58 t262 0).f0), .string ((rd_T58 t262 0).f1), .slice A265_2 ((rd_T58 t262 0).f2).length c265_2] 58 (0, 0)) (by (with_reducible repeat (first | refine blk_drewN ?_ _ | refine blk_drew ?_ | refine blk_alloc ?_ _)); exact BK258.out) hb); have n9_ := Aside0.mk (Kd.C_below (by repeat (first | (with_reducible exact HR265_2.out) | (with_reducible refine Kd.C_alloc ?_ _) | (with_reducible refine Kd.C_drewN ?_ _) | (with_reducible refine Kd.C_drew ?_) | exact HR265_2.out | exact (Kd.V_reads' HL265_2.out).2.2)) hb); have n10_ := Aside0.mk (blk_below (g := gb275) (o := .cells #[.int .i64 t269, .string t270, .slice Ao51 t271.length co51] 58 (0, 0)) (by (with_reducible repeat (first | refine blk_drewN ?_ _ | refine blk_drew ?_ | refine blk_alloc ?_ _)); exact BK275.out) hb); have n11_ := Aside0.mk (below_step (by repeat (first | (with_reducible first | exact HB.out | apply below_alloc | apply pw_below_drewN | apply below_drew1 | refine below_set ?_ GE258.out | refine below_set ?_ GE275.out) | exact HB.out)) hb); clear HO0_2; clear HO261; clear HO264; clear HL265_2; clear HO268; clear HO273; clear HO278; clear BK258; clear HR265_2; clear BK275; clear HB; have HO0_2 := n0_; have HO261 := n1_; have HO264 := n2_; have HL265_2 := n3_; have HO268 := n4_; have HO273 := n5_; have HO278 := n6_; have HO285 := n7_; have BK258 := n8_; have HR265_2 := n9_; have BK275 := n10_; have HB := n11_; clear n0_ n1_ n2_ n3_ n4_ n5_ n6_ n7_ n8_ n9_ n10_ n11_; (try clear hb); (try clear hb2); (try clear hk); (try clear hi); (try clear ho0)) | ((with_reducible refine gate_dst (N := 7) rfl ?_); (try (refine gate_guard (by rfl) ?_; dsimp only)); refine box_event ?hg (N := 7) ?hd (cs := #[.int .i64 0, .string (⟨#[]⟩ : ByteArray), .slice none 0 0]) (t := 58) ?hr ?_; (case hd => rfl); (case hg => rfl); (case hr => first | (go_simp; done) | (go_simp; rfl)); intro gb287 hg w60 hbox hb; have n0_ := Aside0.mk (Kd.V_below (Kd.V_elderB (by (with_reducible repeat (first | apply Kd.V_alloc | apply Kd.V_drewN | apply Kd.V_drew)); exact HO0_2.out) gb287 (Nat.le_of_eq hg.symm)) hb); have n1_ := Aside0.mk (Kd.N_below (Kd.N_elderB (by (with_reducible repeat (first | apply Kd.N_alloc | apply Kd.N_drewN | apply Kd.N_drew)); exact HO261.out) gb287 (Nat.le_of_eq hg.symm)) hb); have n2_ := Aside0.mk (Kd.N_below (Kd.N_elderB (by (with_reducible repeat (first | apply Kd.N_alloc | apply Kd.N_drewN | apply Kd.N_drew)); exact HO264.out) gb287 (Nat.le_of_eq hg.symm)) hb); have n3_ := Aside0.mk (Kd.V_below (Kd.V_elderB (by (with_reducible repeat (first | apply Kd.V_alloc | apply Kd.V_drewN | apply Kd.V_drew)); exact HL265_2.out) gb287 (Nat.le_of_eq hg.symm)) hb); have n4_ := Aside0.mk (Kd.R_below (by (with_reducible repeat (first | apply Kd.R_alloc | apply Kd.R_drewN | apply Kd.R_drew)); exact HO268.out) hb); have n5_ := Aside0.mk (Kd.R_below (by (with_reducible repeat (first | apply Kd.R_alloc | apply Kd.R_drewN | apply Kd.R_drew)); exact HO273.out) hb); have n6_ := Aside0.mk (Kd.N_below (Kd.N_elderB (by (with_reducible repeat (first | apply Kd.N_alloc | apply Kd.N_drewN | apply Kd.N_drew)); exact HO278.out) gb287 (Nat.le_of_eq hg.symm)) hb); have n7_ := Aside0.mk (Kd.R_below (by (with_reducible repeat (first | apply Kd.R_alloc | apply Kd.R_drewN | apply Kd.R_drew)); exact HO285.out) hb); have n8_ := Aside0.mk (blk_below (g := gb258) (o := .cells #[.int .i64 ((rd_T58 t262 0).f0), .string ((rd_T58 t262 0).f1), .slice A265_2 ((rd_T58 t262 0).f2).length c265_2] 58 (0, 0)) (by (with_reducible repeat (first | refine blk_drewN ?_ _ | refine blk_drew ?_ | refine blk_alloc ?_ _)); exact BK258.out) hb); have n9_ := Aside0.mk (Kd.C_below (by repeat (first | (with_reducible exact HR265_2.out) | (with_reducible refine Kd.C_alloc ?_ _) | (with_reducible refine Kd.C_drewN ?_ _) | (with_reducible refine Kd.C_drew ?_) | exact HR265_2.out | exact (Kd.V_reads' HL265_2.out).2.2)) hb); have n10_ := Aside0.mk (blk_below (g := gb275) (o := .cells #[.int .i64 t269, .string t270, .slice Ao51 t271.length co51] 58 (0, 0)) (by (with_reducible repeat (first | refine blk_drewN ?_ _ | refine blk_drew ?_ | refine blk_alloc ?_ _)); exact BK275.out) hb); have n11_ := Aside0.mk (below_step (by repeat (first | (with_reducible first | exact HB.out | apply below_alloc | apply pw_below_drewN | apply below_drew1 | refine below_set ?_ GE258.out | refine below_set ?_ GE275.out) | exact HB.out)) hb); have n12_ := Aside0.mk (hbox); have n13_ := Aside0.mk ((by rw [hg]; exact (below_size (by repeat (first | (with_reducible first | exact HB.out | apply below_alloc | apply pw_below_drewN | apply below_drew1 | refine below_set ?_ GE258.out | refine below_set ?_ GE275.out) | exact HB.out))) : w.heap.size ≤ gb287)); have n14_ := Aside0.mk ((by rw [hg]; exact (below_size (by repeat (first | (with_reducible first | exact HB.out | apply below_alloc | apply pw_below_drewN | apply below_drew1 | refine below_set ?_ GE258.out | refine below_set ?_ GE275.out) | exact HB.out))) : w.heap.size ≤ gb287)); have n15_ := Aside0.mk ((by rw [hg]; exact Nat.ne_of_lt (blk_lt (g := gb258) (o := .cells #[.int .i64 ((rd_T58 t262 0).f0), .string ((rd_T58 t262 0).f1), .slice A265_2 ((rd_T58 t262 0).f2).length c265_2] 58 (0, 0)) (by (with_reducible repeat (first | refine blk_drewN ?_ _ | refine blk_drew ?_ | refine blk_alloc ?_ _)); exact BK258.out)) : gb258 ≠ gb287)); have n16_ := Aside0.mk ((by rw [hg]; exact Nat.ne_of_gt (blk_lt (g := gb258) (o := .cells #[.int .i64 ((rd_T58 t262 0).f0), .string ((rd_T58 t262 0).f1), .slice A265_2 ((rd_T58 t262 0).f2).length c265_2] 58 (0, 0)) (by (with_reducible repeat (first | refine blk_drewN ?_ _ | refine blk_drew ?_ | refine blk_alloc ?_ _)); exact BK258.out)) : gb287 ≠ gb258)); have n17_ := Aside0.mk ((by rw [hg]; exact Nat.ne_of_lt (blk_lt (g := gb275) (o := .cells #[.int .i64 t269, .string t270, .slice Ao51 t271.length co51] 58 (0, 0)) (by (with_reducible repeat (first | refine blk_drewN ?_ _ | refine blk_drew ?_ | refine blk_alloc ?_ _)); exact BK275.out)) : gb275 ≠ gb287)); have n18_ := Aside0.mk ((by rw [hg]; exact Nat.ne_of_gt (blk_lt (g := gb275) (o := .cells #[.int .i64 t269, .string t270, .slice Ao51 t271.length co51] 58 (0, 0)) (by (with_reducible repeat (first | refine blk_drewN ?_ _ | refine blk_drew ?_ | refine blk_alloc ?_ _)); exact BK275.out)) : gb287 ≠ gb275)); clear HO0_2; clear HO261; clear HO264; clear HL265_2; clear HO268; clear HO273; clear HO278; clear HO285; clear BK258; clear HR265_2; clear BK275; clear HB; have HO0_2 := n0_; have HO261 := n1_; have HO264 := n2_; have HL265_2 := n3_; have HO268 := n4_; have HO273 := n5_; have HO278 := n6_; have HO285 := n7_; have BK258 := n8_; have HR265_2 := n9_; have BK275 := n10_; have HB := n11_; have BK287 := n12_; have GW287 := n13_; have GE287 := n14_; have NB258_287 := n15_; have NB287_258 := n16_; have NB275_287 := n17_; have NB287_275 := n18_; clear n0_ n1_ n2_ n3_ n4_ n5_ n6_ n7_ n8_ n9_ n10_ n11_ n12_ n13_ n14_ n15_ n16_ n17_ n18_; clear hb hbox hg; have hnb61 := NB287_258.out; have hnc61 := NB258_287.out; have hnb62 := NB287_275.out; have hnc62 := NB275_287.out; have hcz63_0 : w60.cell? ⟨gb287, 0, none⟩ = some (.int .i64 0) := (blk_cell BK287.out 0).trans rfl; have hcz63_1 : w60.cell? ⟨gb287, 1, none⟩ = some (.string (⟨#[]⟩ : ByteArray)) := (blk_cell BK287.out 1).trans rfl; have hcz63_2 : w60.cell? ⟨gb287, 2, none⟩ = some (.slice none 0 0) := (blk_cell BK287.out 2).trans rfl; have hfz63_0 := blk_frozen BK287.out 0; have hfz63_1 := blk_frozen BK287.out 1; have hfz63_2 := blk_frozen BK287.out 2; obtain ⟨Ao64, co64, eo64⟩ := Kd.R_slice HO285.out; subst eo64))
        (try simp only [Act.put, List.setIfInBounds_toArray, List.set_cons_zero, List.set_cons_succ])
        go_cut [74] (fun v74 wc => ∃ (kq : Nat) (x74_33 : Bool), v74 = .bool x74_33 ∧ Aside0 (tolllaw08_LabelNots.j0 kq t266 x74_33 ((rd_T58 t262 0).f0) ((rd_T58 t262 0).f1) ((rd_T58 t262 0).f2) t269 t270 t271 = some true) ∧ Aside0 (kq ≤ k) ∧ Aside0 (Kd.R k55 55 wc w.heap.size (fun k_ => (w.heap.size ≤ k_)) v267 t266) ∧ Aside0 (Kd.V Kd.string 9 wc w.heap.size (fun k_ => (P0_2_ k_ ∨ w.heap.size ≤ k_) ∧ some k_ ≠ (v267 : Value).ownBlock ∧ some k_ ≠ ((.slice Ao51 t271.length co51) : Value).ownBlock ∧ k_ ≠ gb258 ∧ k_ ≠ gb275) (.slice A265_2 ((rd_T58 t262 0).f2).length c265_2) ((rd_T58 t262 0).f2)) ∧ Aside0 (Kd.R Kd.string 9 wc w.heap.size (fun k_ => (w.heap.size ≤ k_)) (.slice Ao51 t271.length co51) t271) ∧ Aside0 (wc.heap[gb258]? = some (.cells #[.int .i64 ((rd_T58 t262 0).f0), .string ((rd_T58 t262 0).f1), (.slice A265_2 ((rd_T58 t262 0).f2).length c265_2)] 58 (0, 0))) ∧ Aside0 (wc.heap[gb275]? = some (.cells #[.int .i64 t269, .string t270, (.slice Ao51 t271.length co51)] 58 (0, 0))) ∧ Aside0 (Below w.heap.size w wc))
        case first =>
          have H := HC34.out
          clear HC34
          by_cases c65 : t286 = true
          · subst c65
            have H1 : ((tollref08_Same.f k (([(⟨t281, t282, t283⟩ : S58)] : List (S58))) (([(⟨(rd_T58 t262 0).f0, (rd_T58 t262 0).f1, (rd_T58 t262 0).f2⟩ : S58)] : List (S58)))).bind fun t294 => (if t294 = true then (if t270.toList = ((rd_T58 t262 0).f1).toList then ((tollref01_Same.f k t271 ((rd_T58 t262 0).f2)).bind fun t295 => (tolllaw08_LabelNots.j0 k t266 (!t295) ((rd_T58 t262 0).f0) ((rd_T58 t262 0).f1) ((rd_T58 t262 0).f2) t269 t270 t271)) else (tolllaw08_LabelNots.j0 k t266 true ((rd_T58 t262 0).f0) ((rd_T58 t262 0).f1) ((rd_T58 t262 0).f2) t269 t270 t271)) else (tolllaw08_LabelNots.j0 k t266 true ((rd_T58 t262 0).f0) ((rd_T58 t262 0).f1) ((rd_T58 t262 0).f2) t269 t270 t271))) = some true := by rw [if_pos rfl] at H; exact H
            clear H
            have H := H1
            clear H1
            obtain ⟨y288, hy288⟩ : ∃ y_ : List (S58), y_ = (([(⟨t281, t282, t283⟩ : S58)] : List (S58))) := ⟨_, rfl⟩
            replace H : ((tollref08_Same.f k y288 (([(⟨(rd_T58 t262 0).f0, (rd_T58 t262 0).f1, (rd_T58 t262 0).f2⟩ : S58)] : List (S58)))).bind fun t294 => (if t294 = true then (if t270.toList = ((rd_T58 t262 0).f1).toList then ((tollref01_Same.f k t271 ((rd_T58 t262 0).f2)).bind fun t295 => (tolllaw08_LabelNots.j0 k t266 (!t295) ((rd_T58 t262 0).f0) ((rd_T58 t262 0).f1) ((rd_T58 t262 0).f2) t269 t270 t271)) else (tolllaw08_LabelNots.j0 k t266 true ((rd_T58 t262 0).f0) ((rd_T58 t262 0).f1) ((rd_T58 t262 0).f2) t269 t270 t271)) else (tolllaw08_LabelNots.j0 k t266 true ((rd_T58 t262 0).f0) ((rd_T58 t262 0).f1) ((rd_T58 t262 0).f2) t269 t270 t271))) = some true := by first | (rw [hy288]; with_reducible exact H) | (have H2_ := (Option.bind_some _ _).symm.trans H; rw [hy288]; with_reducible exact H2_) | (have H2_ := (Option.bind_some _ _).symm.trans H; with_reducible exact H2_) | with_reducible exact H | (rw [hy288]; exact H) | exact H
            have Ny288 := Aside0.mk hy288
            clear hy288
            obtain ⟨y291, hy291⟩ : ∃ y_ : List (S58), y_ = (([(⟨(rd_T58 t262 0).f0, (rd_T58 t262 0).f1, (rd_T58 t262 0).f2⟩ : S58)] : List (S58))) := ⟨_, rfl⟩
            replace H : ((tollref08_Same.f k y288 y291).bind fun t294 => (if t294 = true then (if t270.toList = ((rd_T58 t262 0).f1).toList then ((tollref01_Same.f k t271 ((rd_T58 t262 0).f2)).bind fun t295 => (tolllaw08_LabelNots.j0 k t266 (!t295) ((rd_T58 t262 0).f0) ((rd_T58 t262 0).f1) ((rd_T58 t262 0).f2) t269 t270 t271)) else (tolllaw08_LabelNots.j0 k t266 true ((rd_T58 t262 0).f0) ((rd_T58 t262 0).f1) ((rd_T58 t262 0).f2) t269 t270 t271)) else (tolllaw08_LabelNots.j0 k t266 true ((rd_T58 t262 0).f0) ((rd_T58 t262 0).f1) ((rd_T58 t262 0).f2) t269 t270 t271))) = some true := by first | (rw [hy291]; with_reducible exact H) | (have H2_ := (Option.bind_some _ _).symm.trans H; rw [hy291]; with_reducible exact H2_) | (have H2_ := (Option.bind_some _ _).symm.trans H; with_reducible exact H2_) | with_reducible exact H | (rw [hy291]; exact H) | exact H
            have Ny291 := Aside0.mk hy291
            clear hy291
            replace H := Option.bind_eq_some_iff.mp H
            obtain ⟨t294, A660, H⟩ := H
            replace H : (if t294 = true then (if t270.toList = ((rd_T58 t262 0).f1).toList then ((tollref01_Same.f k t271 ((rd_T58 t262 0).f2)).bind fun t295 => (tolllaw08_LabelNots.j0 k t266 (!t295) ((rd_T58 t262 0).f0) ((rd_T58 t262 0).f1) ((rd_T58 t262 0).f2) t269 t270 t271)) else (tolllaw08_LabelNots.j0 k t266 true ((rd_T58 t262 0).f0) ((rd_T58 t262 0).f1) ((rd_T58 t262 0).f2) t269 t270 t271)) else (tolllaw08_LabelNots.j0 k t266 true ((rd_T58 t262 0).f0) ((rd_T58 t262 0).f1) ((rd_T58 t262 0).f2) t269 t270 t271)) = some true := H
            have A66 := Aside0.mk A660
            clear A660
            by_cases c67 : t294 = true
            · subst c67
              have H1 : (if t270.toList = ((rd_T58 t262 0).f1).toList then ((tollref01_Same.f k t271 ((rd_T58 t262 0).f2)).bind fun t295 => (tolllaw08_LabelNots.j0 k t266 (!t295) ((rd_T58 t262 0).f0) ((rd_T58 t262 0).f1) ((rd_T58 t262 0).f2) t269 t270 t271)) else (tolllaw08_LabelNots.j0 k t266 true ((rd_T58 t262 0).f0) ((rd_T58 t262 0).f1) ((rd_T58 t262 0).f2) t269 t270 t271)) = some true := by rw [if_pos rfl] at H; exact H
              clear H
              have H := H1
              clear H1
              by_cases c68 : t270.toList = ((rd_T58 t262 0).f1).toList
              · rw [if_pos c68] at H
                have c68b0 : (t270.toList == ((rd_T58 t262 0).f1).toList) = true := beq_iff_eq.mpr c68
                have c68b1 : (t270.toList != ((rd_T58 t262 0).f1).toList) = false := bne_eq_false_iff_eq.mpr c68
                clear c68
                (first | rw [c68b0] | (simp only [i64_w, i32_w]; rw [c68b0]) | skip)
                replace H := Option.bind_eq_some_iff.mp H
                obtain ⟨t295, A690, H⟩ := H
                replace H : (tolllaw08_LabelNots.j0 k t266 (!t295) ((rd_T58 t262 0).f0) ((rd_T58 t262 0).f1) ((rd_T58 t262 0).f2) t269 t270 t271) = some true := H
                have A69 := Aside0.mk A690
                clear A690
                have H' := Aside0.mk H
                clear H
                have n0_ : Aside0 (Kd.V Kd.string 9 (((w60.setCell ⟨gb287, 0, none⟩ (.int .i64 t281)).setCell ⟨gb287, 1, none⟩ (.string t282)).setCell ⟨gb287, 2, none⟩ (.slice Ao64 t283.length co64)) w.heap.size (fun k_ => (P0_2_ k_ ∨ w.heap.size ≤ k_) ∧ some k_ ≠ (.slice Ao39 y259.length co39 : Value).ownBlock ∧ some k_ ≠ (.slice (some ad265) t262.length co41 : Value).ownBlock ∧ some k_ ≠ (v267 : Value).ownBlock ∧ some k_ ≠ (.slice Ao51 t271.length co51 : Value).ownBlock ∧ some k_ ≠ (.slice Ao56 y276.length co56 : Value).ownBlock ∧ some k_ ≠ (.slice Ao64 t283.length co64 : Value).ownBlock ∧ k_ ≠ gb258 ∧ k_ ≠ gb275 ∧ k_ ≠ gb287) (.slice A0_2 l0_2.length c0_2) l0_2) := ⟨by (with_reducible repeat (first | apply Kd.V_alloc | apply Kd.V_drewN | apply Kd.V_drew)); exact Kd.V_mono (Kd.V_far (p := ⟨gb287, 2, none⟩) (Kd.V_far (p := ⟨gb287, 1, none⟩) (Kd.V_far (p := ⟨gb287, 0, none⟩) (Kd.V_mono HO0_2.out (fun k_ hk => (⟨hk, hk.2⟩ : _ ∧ k_ ≠ gb287))) (fun _ hk => hk.2) (.int .i64 t281)) (fun _ hk => hk.2) (.string t282)) (fun _ hk => hk.2) (.slice Ao64 t283.length co64)) (fun _ hk => ⟨hk.1.1.1.1.1, ⟨hk.1.1.1.1.2.1, ⟨hk.1.1.1.1.2.2.1, ⟨hk.1.1.1.1.2.2.2.1, ⟨hk.1.1.1.1.2.2.2.2.1, ⟨hk.1.1.1.2, ⟨hk.1.1.2, ⟨hk.1.1.1.1.2.2.2.2.2.1, ⟨hk.1.1.1.1.2.2.2.2.2.2, hk.1.2⟩⟩⟩⟩⟩⟩⟩⟩⟩)⟩
                have n1_ : Aside0 (Kd.N k58 58 (((w60.setCell ⟨gb287, 0, none⟩ (.int .i64 t281)).setCell ⟨gb287, 1, none⟩ (.string t282)).setCell ⟨gb287, 2, none⟩ (.slice Ao64 t283.length co64)) w.heap.size (fun k_ => (P0_2_ k_ ∨ w.heap.size ≤ k_) ∧ some k_ ≠ (.slice (some ad265) t262.length co41 : Value).ownBlock ∧ some k_ ≠ (v267 : Value).ownBlock ∧ some k_ ≠ (.slice Ao51 t271.length co51 : Value).ownBlock ∧ some k_ ≠ (.slice Ao56 y276.length co56 : Value).ownBlock ∧ some k_ ≠ (.slice Ao64 t283.length co64 : Value).ownBlock ∧ k_ ≠ gb258 ∧ k_ ≠ gb275 ∧ k_ ≠ gb287) (.slice Ao39 y259.length co39) y259) := ⟨by (with_reducible repeat (first | apply Kd.N_alloc | apply Kd.N_drewN | apply Kd.N_drew)); exact Kd.N_mono (Kd.N_far (p := ⟨gb287, 2, none⟩) (Kd.N_far (p := ⟨gb287, 1, none⟩) (Kd.N_far (p := ⟨gb287, 0, none⟩) (Kd.N_mono HO261.out (fun k_ hk => (⟨hk, hk.2⟩ : _ ∧ k_ ≠ gb287))) (fun _ hk => hk.2) (.int .i64 t281)) (fun _ hk => hk.2) (.string t282)) (fun _ hk => hk.2) (.slice Ao64 t283.length co64)) (fun _ hk => ⟨hk.1.1.1.1.1, ⟨hk.1.1.1.1.2.1, ⟨hk.1.1.1.1.2.2.1, ⟨hk.1.1.1.1.2.2.2.1, ⟨hk.1.1.1.2, ⟨hk.1.1.2, ⟨hk.1.1.1.1.2.2.2.2.1, ⟨hk.1.1.1.1.2.2.2.2.2, hk.1.2⟩⟩⟩⟩⟩⟩⟩⟩)⟩
                have n2_ : Aside0 (Kd.N k58 58 (((w60.setCell ⟨gb287, 0, none⟩ (.int .i64 t281)).setCell ⟨gb287, 1, none⟩ (.string t282)).setCell ⟨gb287, 2, none⟩ (.slice Ao64 t283.length co64)) w.heap.size (fun k_ => (P0_2_ k_ ∨ w.heap.size ≤ k_) ∧ some k_ ≠ (.slice Ao39 y259.length co39 : Value).ownBlock ∧ some k_ ≠ (v267 : Value).ownBlock ∧ some k_ ≠ (.slice Ao51 t271.length co51 : Value).ownBlock ∧ some k_ ≠ (.slice Ao56 y276.length co56 : Value).ownBlock ∧ some k_ ≠ (.slice Ao64 t283.length co64 : Value).ownBlock ∧ k_ ≠ gb258 ∧ k_ ≠ gb275 ∧ k_ ≠ gb287) (.slice (some ad265) t262.length co41) t262) := ⟨by (with_reducible repeat (first | apply Kd.N_alloc | apply Kd.N_drewN | apply Kd.N_drew)); exact Kd.N_mono (Kd.N_far (p := ⟨gb287, 2, none⟩) (Kd.N_far (p := ⟨gb287, 1, none⟩) (Kd.N_far (p := ⟨gb287, 0, none⟩) (Kd.N_mono HO264.out (fun k_ hk => (⟨hk, hk.2⟩ : _ ∧ k_ ≠ gb287))) (fun _ hk => hk.2) (.int .i64 t281)) (fun _ hk => hk.2) (.string t282)) (fun _ hk => hk.2) (.slice Ao64 t283.length co64)) (fun _ hk => ⟨hk.1.1.1.1.1, ⟨hk.1.1.1.1.2.1, ⟨hk.1.1.1.1.2.2.1, ⟨hk.1.1.1.1.2.2.2.1, ⟨hk.1.1.1.2, ⟨hk.1.1.2, ⟨hk.1.1.1.1.2.2.2.2.1, ⟨hk.1.1.1.1.2.2.2.2.2, hk.1.2⟩⟩⟩⟩⟩⟩⟩⟩)⟩
                have n3_ : Aside0 (Kd.V Kd.string 9 (((w60.setCell ⟨gb287, 0, none⟩ (.int .i64 t281)).setCell ⟨gb287, 1, none⟩ (.string t282)).setCell ⟨gb287, 2, none⟩ (.slice Ao64 t283.length co64)) w.heap.size (fun k_ => (P0_2_ k_ ∨ w.heap.size ≤ k_) ∧ some k_ ≠ (.slice Ao39 y259.length co39 : Value).ownBlock ∧ some k_ ≠ (.slice (some ad265) t262.length co41 : Value).ownBlock ∧ some k_ ≠ (v267 : Value).ownBlock ∧ some k_ ≠ (.slice Ao51 t271.length co51 : Value).ownBlock ∧ some k_ ≠ (.slice Ao56 y276.length co56 : Value).ownBlock ∧ some k_ ≠ (.slice Ao64 t283.length co64 : Value).ownBlock ∧ k_ ≠ gb258 ∧ k_ ≠ gb275 ∧ k_ ≠ gb287) (.slice A265_2 ((rd_T58 t262 0).f2).length c265_2) ((rd_T58 t262 0).f2)) := ⟨by (with_reducible repeat (first | apply Kd.V_alloc | apply Kd.V_drewN | apply Kd.V_drew)); exact Kd.V_mono (Kd.V_far (p := ⟨gb287, 2, none⟩) (Kd.V_far (p := ⟨gb287, 1, none⟩) (Kd.V_far (p := ⟨gb287, 0, none⟩) (Kd.V_mono HL265_2.out (fun k_ hk => (⟨hk, hk.2⟩ : _ ∧ k_ ≠ gb287))) (fun _ hk => hk.2) (.int .i64 t281)) (fun _ hk => hk.2) (.string t282)) (fun _ hk => hk.2) (.slice Ao64 t283.length co64)) (fun _ hk => ⟨hk.1.1.1.1.1, ⟨hk.1.1.1.1.2.1, ⟨hk.1.1.1.1.2.2.1, ⟨hk.1.1.1.1.2.2.2.1, ⟨hk.1.1.1.1.2.2.2.2.1, ⟨hk.1.1.1.2, ⟨hk.1.1.2, ⟨hk.1.1.1.1.2.2.2.2.2.1, ⟨hk.1.1.1.1.2.2.2.2.2.2, hk.1.2⟩⟩⟩⟩⟩⟩⟩⟩⟩)⟩
                have n4_ : Aside0 (Kd.R k55 55 (((w60.setCell ⟨gb287, 0, none⟩ (.int .i64 t281)).setCell ⟨gb287, 1, none⟩ (.string t282)).setCell ⟨gb287, 2, none⟩ (.slice Ao64 t283.length co64)) w.heap.size (fun k_ => (w.heap.size ≤ k_)) v267 t266) := ⟨by (with_reducible repeat (first | apply Kd.R_alloc | apply Kd.R_drewN | apply Kd.R_drew)); exact Kd.R_mono (Kd.R_far (p := ⟨gb287, 2, none⟩) (Kd.R_far (p := ⟨gb287, 1, none⟩) (Kd.R_far (p := ⟨gb287, 0, none⟩) (Kd.R_types HO268.out BK287.out (by decide)) (fun _ hk => hk.2) (.int .i64 t281)) (fun _ hk => hk.2) (.string t282)) (fun _ hk => hk.2) (.slice Ao64 t283.length co64)) (fun _ hk => hk.1)⟩
                have n5_ : Aside0 (Kd.R Kd.string 9 (((w60.setCell ⟨gb287, 0, none⟩ (.int .i64 t281)).setCell ⟨gb287, 1, none⟩ (.string t282)).setCell ⟨gb287, 2, none⟩ (.slice Ao64 t283.length co64)) w.heap.size (fun k_ => (w.heap.size ≤ k_) ∧ some k_ ≠ (.slice Ao64 t283.length co64 : Value).ownBlock) (.slice Ao51 t271.length co51) t271) := ⟨by (with_reducible repeat (first | apply Kd.R_alloc | apply Kd.R_drewN | apply Kd.R_drew)); exact Kd.R_mono (Kd.R_far (p := ⟨gb287, 2, none⟩) (Kd.R_far (p := ⟨gb287, 1, none⟩) (Kd.R_far (p := ⟨gb287, 0, none⟩) (Kd.R_types HO273.out BK287.out (by decide)) (fun _ hk => hk.2) (.int .i64 t281)) (fun _ hk => hk.2) (.string t282)) (fun _ hk => hk.2) (.slice Ao64 t283.length co64)) (fun _ hk => ⟨hk.1.1, hk.1.2⟩)⟩
                have n6_ : Aside0 (Kd.N k58 58 (((w60.setCell ⟨gb287, 0, none⟩ (.int .i64 t281)).setCell ⟨gb287, 1, none⟩ (.string t282)).setCell ⟨gb287, 2, none⟩ (.slice Ao64 t283.length co64)) w.heap.size (fun k_ => (P0_2_ k_ ∨ w.heap.size ≤ k_) ∧ some k_ ≠ (.slice Ao39 y259.length co39 : Value).ownBlock ∧ some k_ ≠ (.slice (some ad265) t262.length co41 : Value).ownBlock ∧ some k_ ≠ (v267 : Value).ownBlock ∧ some k_ ≠ (.slice Ao51 t271.length co51 : Value).ownBlock ∧ some k_ ≠ (.slice Ao64 t283.length co64 : Value).ownBlock ∧ k_ ≠ gb258 ∧ k_ ≠ gb275 ∧ k_ ≠ gb287) (.slice Ao56 y276.length co56) y276) := ⟨by (with_reducible repeat (first | apply Kd.N_alloc | apply Kd.N_drewN | apply Kd.N_drew)); exact Kd.N_mono (Kd.N_far (p := ⟨gb287, 2, none⟩) (Kd.N_far (p := ⟨gb287, 1, none⟩) (Kd.N_far (p := ⟨gb287, 0, none⟩) (Kd.N_mono HO278.out (fun k_ hk => (⟨hk, hk.2⟩ : _ ∧ k_ ≠ gb287))) (fun _ hk => hk.2) (.int .i64 t281)) (fun _ hk => hk.2) (.string t282)) (fun _ hk => hk.2) (.slice Ao64 t283.length co64)) (fun _ hk => ⟨hk.1.1.1.1, ⟨hk.1.1.1.2.1, ⟨hk.1.1.1.2.2.1, ⟨hk.1.1.1.2.2.2.1, ⟨hk.1.1.1.2.2.2.2.1, ⟨hk.1.1.2, ⟨hk.1.1.1.2.2.2.2.2.1, ⟨hk.1.1.1.2.2.2.2.2.2, hk.1.2⟩⟩⟩⟩⟩⟩⟩⟩)⟩
                have n7_ : Aside0 (Kd.R Kd.string 9 (((w60.setCell ⟨gb287, 0, none⟩ (.int .i64 t281)).setCell ⟨gb287, 1, none⟩ (.string t282)).setCell ⟨gb287, 2, none⟩ (.slice Ao64 t283.length co64)) w.heap.size (fun k_ => (w.heap.size ≤ k_) ∧ some k_ ≠ (.slice Ao51 t271.length co51 : Value).ownBlock) (.slice Ao64 t283.length co64) t283) := ⟨by (with_reducible repeat (first | apply Kd.R_alloc | apply Kd.R_drewN | apply Kd.R_drew)); exact Kd.R_mono (Kd.R_far (p := ⟨gb287, 2, none⟩) (Kd.R_far (p := ⟨gb287, 1, none⟩) (Kd.R_far (p := ⟨gb287, 0, none⟩) (Kd.R_types HO285.out BK287.out (by decide)) (fun _ hk => hk.2) (.int .i64 t281)) (fun _ hk => hk.2) (.string t282)) (fun _ hk => hk.2) (.slice Ao64 t283.length co64)) (fun _ hk => ⟨hk.1.1.1, hk.1.2⟩)⟩
                have n8_ : Aside0 ((((w60.setCell ⟨gb287, 0, none⟩ (.int .i64 t281)).setCell ⟨gb287, 1, none⟩ (.string t282)).setCell ⟨gb287, 2, none⟩ (.slice Ao64 t283.length co64)).heap[gb258]? = some (.cells #[.int .i64 ((rd_T58 t262 0).f0), .string ((rd_T58 t262 0).f1), .slice A265_2 ((rd_T58 t262 0).f2).length c265_2] 58 (0, 0))) := ⟨by (with_reducible repeat (first | refine blk_drewN ?_ _ | refine blk_drew ?_ | refine blk_alloc ?_ _)); refine blk_far ?_ NB258_287.out _; (with_reducible repeat (first | refine blk_drewN ?_ _ | refine blk_drew ?_ | refine blk_alloc ?_ _)); refine blk_far ?_ NB258_287.out _; (with_reducible repeat (first | refine blk_drewN ?_ _ | refine blk_drew ?_ | refine blk_alloc ?_ _)); refine blk_far ?_ NB258_287.out _; (with_reducible repeat (first | refine blk_drewN ?_ _ | refine blk_drew ?_ | refine blk_alloc ?_ _)); exact BK258.out⟩
                have n9_ : Aside0 ((((w60.setCell ⟨gb287, 0, none⟩ (.int .i64 t281)).setCell ⟨gb287, 1, none⟩ (.string t282)).setCell ⟨gb287, 2, none⟩ (.slice Ao64 t283.length co64)).heap[gb275]? = some (.cells #[.int .i64 t269, .string t270, .slice Ao51 t271.length co51] 58 (0, 0))) := ⟨by (with_reducible repeat (first | refine blk_drewN ?_ _ | refine blk_drew ?_ | refine blk_alloc ?_ _)); refine blk_far ?_ NB275_287.out _; (with_reducible repeat (first | refine blk_drewN ?_ _ | refine blk_drew ?_ | refine blk_alloc ?_ _)); refine blk_far ?_ NB275_287.out _; (with_reducible repeat (first | refine blk_drewN ?_ _ | refine blk_drew ?_ | refine blk_alloc ?_ _)); refine blk_far ?_ NB275_287.out _; (with_reducible repeat (first | refine blk_drewN ?_ _ | refine blk_drew ?_ | refine blk_alloc ?_ _)); exact BK275.out⟩
                have n10_ : Aside0 ((((w60.setCell ⟨gb287, 0, none⟩ (.int .i64 t281)).setCell ⟨gb287, 1, none⟩ (.string t282)).setCell ⟨gb287, 2, none⟩ (.slice Ao64 t283.length co64)).heap[gb287]? = some (.cells #[.int .i64 t281, .string t282, .slice Ao64 t283.length co64] 58 (0, 0))) := ⟨by (with_reducible repeat (first | refine blk_drewN ?_ _ | refine blk_drew ?_ | refine blk_alloc ?_ _)); refine blk_put (cs := #[.int .i64 t281, .string t282, .slice none 0 0]) ?_ 2 _ rfl; (with_reducible repeat (first | refine blk_drewN ?_ _ | refine blk_drew ?_ | refine blk_alloc ?_ _)); refine blk_put (cs := #[.int .i64 t281, .string (⟨#[]⟩ : ByteArray), .slice none 0 0]) ?_ 1 _ rfl; (with_reducible repeat (first | refine blk_drewN ?_ _ | refine blk_drew ?_ | refine blk_alloc ?_ _)); refine blk_put (cs := #[.int .i64 0, .string (⟨#[]⟩ : ByteArray), .slice none 0 0]) ?_ 0 _ rfl; (with_reducible repeat (first | refine blk_drewN ?_ _ | refine blk_drew ?_ | refine blk_alloc ?_ _)); exact BK287.out⟩
                have n11_ : Aside0 (Below w.heap.size w (((w60.setCell ⟨gb287, 0, none⟩ (.int .i64 t281)).setCell ⟨gb287, 1, none⟩ (.string t282)).setCell ⟨gb287, 2, none⟩ (.slice Ao64 t283.length co64))) := ⟨by repeat (first | (with_reducible first | exact HB.out | apply below_alloc | apply pw_below_drewN | apply below_drew1 | refine below_set ?_ GE258.out | refine below_set ?_ GE275.out | refine below_set ?_ GE287.out) | exact HB.out)⟩
                (try clear HO0_2)
                (try clear HO261)
                (try clear HO264)
                (try clear HL265_2)
                (try clear HO268)
                (try clear HO273)
                (try clear HO278)
                (try clear HO285)
                (try clear BK258)
                (try clear BK275)
                (try clear BK287)
                (try clear HB)
                generalize (((w60.setCell ⟨gb287, 0, none⟩ (.int .i64 t281)).setCell ⟨gb287, 1, none⟩ (.string t282)).setCell ⟨gb287, 2, none⟩ (.slice Ao64 t283.length co64)) = w70 at n0_ n1_ n2_ n3_ n4_ n5_ n6_ n7_ n8_ n9_ n10_ n11_ ⊢
                have HO0_2 := n0_
                have HO261 := n1_
                have HO264 := n2_
                have HL265_2 := n3_
                have HO268 := n4_
                have HO273 := n5_
                have HO278 := n6_
                have HO285 := n7_
                have BK258 := n8_
                have BK275 := n9_
                have BK287 := n10_
                have HB := n11_
                clear n0_ n1_ n2_ n3_ n4_ n5_ n6_ n7_ n8_ n9_ n10_ n11_
                have hnb71 := NB287_258.out
                have hnc71 := NB258_287.out
                have hnb72 := NB287_275.out
                have hnc72 := NB275_287.out
                have hcz73_0 : w70.cell? ⟨gb287, 0, none⟩ = some (.int .i64 t281) := (blk_cell BK287.out 0).trans rfl
                have hcz73_1 : w70.cell? ⟨gb287, 1, none⟩ = some (.string t282) := (blk_cell BK287.out 1).trans rfl
                have hcz73_2 : w70.cell? ⟨gb287, 2, none⟩ = some (.slice Ao64 t283.length co64) := (blk_cell BK287.out 2).trans rfl
                have hfz73_0 := blk_frozen BK287.out 0
                have hfz73_1 := blk_frozen BK287.out 1
                have hfz73_2 := blk_frozen BK287.out 2
                try go_wp2_with (first | ((with_reducible refine gate_dst (N := 54) rfl ?_); (try (refine gate_guard (by rfl) ?_; dsimp only)); refine Kd.N_lit k58 _ 58 ?hg (N' := 54) ?hd (xs := ([(⟨t281, t282, t283⟩ : S58)] : List (S58))) (inner := [.int .i64 t281, .string t282, .slice Ao64 t283.length co64]) (ok := (fun k_ => (P0_2_ k_ ∨ w.heap.size ≤ k_) ∧ some k_ ≠ (.slice Ao39 y259.length co39 : Value).ownBlock ∧ some k_ ≠ (.slice (some ad265) t262.length co41 : Value).ownBlock ∧ some k_ ≠ (v267 : Value).ownBlock ∧ some k_ ≠ (.slice Ao51 t271.length co51 : Value).ownBlock ∧ some k_ ≠ (.slice Ao56 y276.length co56 : Value).ownBlock ∧ k_ ≠ gb258 ∧ k_ ≠ gb275 ∧ k_ ≠ gb287)) (okp := (fun k_ => (P0_2_ k_ ∨ w.heap.size ≤ k_) ∧ some k_ ≠ (.slice Ao39 y259.length co39 : Value).ownBlock ∧ some k_ ≠ (.slice (some ad265) t262.length co41 : Value).ownBlock ∧ some k_ ≠ (v267 : Value).ownBlock ∧ some k_ ≠ (.slice Ao51 t271.length co51 : Value).ownBlock ∧ some k_ ≠ (.slice Ao56 y276.length co56 : Value).ownBlock ∧ k_ ≠ gb258 ∧ k_ ≠ gb275 ∧ k_ ≠ gb287)) ?hr ?hp (fun _ hk => hk) ((show ∀ k_, w70.heap.size ≤ k_ → (fun k_ => (P0_2_ k_ ∨ w.heap.size ≤ k_) ∧ some k_ ≠ (.slice Ao39 y259.length co39 : Value).ownBlock ∧ some k_ ≠ (.slice (some ad265) t262.length co41 : Value).ownBlock ∧ some k_ ≠ (v267 : Value).ownBlock ∧ some k_ ≠ (.slice Ao51 t271.length co51 : Value).ownBlock ∧ some k_ ≠ (.slice Ao56 y276.length co56 : Value).ownBlock ∧ k_ ≠ gb258 ∧ k_ ≠ gb275 ∧ k_ ≠ gb287) k_ from fun k_ hk => ⟨(.inr (Nat.le_trans (below_size (by repeat (first | (with_reducible first | exact HB.out | apply below_alloc | apply pw_below_drewN | apply below_drew1 | refine below_set ?_ GE258.out | refine below_set ?_ GE275.out | refine below_set ?_ GE287.out) | exact HB.out))) hk)), Kd.fresh' (Kd.N_lt (by (with_reducible repeat (first | apply Kd.N_alloc | apply Kd.N_drewN | apply Kd.N_drew)); exact HO261.out)) k_ hk, Kd.fresh' (Kd.N_lt (by (with_reducible repeat (first | apply Kd.N_alloc | apply Kd.N_drewN | apply Kd.N_drew)); exact HO264.out)) k_ hk, Kd.fresh' (Kd.R_lt (by (with_reducible repeat (first | apply Kd.R_alloc | apply Kd.R_drewN | apply Kd.R_drew)); exact HO268.out)) k_ hk, Kd.fresh' (Kd.R_lt (by (with_reducible repeat (first | apply Kd.R_alloc | apply Kd.R_drewN | apply Kd.R_drew)); exact HO273.out)) k_ hk, Kd.fresh' (Kd.N_lt (by (with_reducible repeat (first | apply Kd.N_alloc | apply Kd.N_drewN | apply Kd.N_drew)); exact HO278.out)) k_ hk, Kd.freshB (g := gb258) (o := .cells #[.int .i64 ((rd_T58 t262 0).f0), .string ((rd_T58 t262 0).f1), .slice A265_2 ((rd_T58 t262 0).f2).length c265_2] 58 (0, 0)) (by (with_reducible repeat (first | refine blk_drewN ?_ _ | refine blk_drew ?_ | refine blk_alloc ?_ _)); exact BK258.out) k_ hk, Kd.freshB (g := gb275) (o := .cells #[.int .i64 t269, .string t270, .slice Ao51 t271.length co51] 58 (0, 0)) (by (with_reducible repeat (first | refine blk_drewN ?_ _ | refine blk_drew ?_ | refine blk_alloc ?_ _)); exact BK275.out) k_ hk, Kd.freshB (g := gb287) (o := .cells #[.int .i64 t281, .string t282, .slice Ao64 t283.length co64] 58 (0, 0)) (by (with_reducible repeat (first | refine blk_drewN ?_ _ | refine blk_drew ?_ | refine blk_alloc ?_ _)); exact BK287.out) k_ hk⟩) _ (Nat.le_refl _)) (Below.refl _ _) (Nat.le_refl _) (by simp) ?_; (case hd => rfl); (case hg => rfl); (case hr => first | (go_simp; done) | (go_simp; rfl)); (case hp => exact (Reps.c3 (show Kd.FK k58 _ _ (⟨t281, t282, t283⟩ : S58) [.int .i64 t281, .string t282, .slice Ao64 t283.length co64] from (k58_mkF _ _ (⟨t281, t282, t283⟩ : S58) (Kd.R_reads' (Kd.R_mono (ok' := (fun k_ => (P0_2_ k_ ∨ w.heap.size ≤ k_) ∧ some k_ ≠ (.slice Ao39 y259.length co39 : Value).ownBlock ∧ some k_ ≠ (.slice (some ad265) t262.length co41 : Value).ownBlock ∧ some k_ ≠ (v267 : Value).ownBlock ∧ some k_ ≠ (.slice Ao51 t271.length co51 : Value).ownBlock ∧ some k_ ≠ (.slice Ao56 y276.length co56 : Value).ownBlock ∧ k_ ≠ gb258 ∧ k_ ≠ gb275 ∧ k_ ≠ gb287)) (Kd.R_types (Kd.R_types (Kd.R_types (Kd.R_apart' (Kd.R_apart' (Kd.R_apart' (Kd.R_apart' (HO285.out) (Kd.N_typed HO261.out) (by decide)) (Kd.N_typed HO264.out) (by decide)) (Kd.R_typed HO268.out) (by decide)) (Kd.N_typed HO278.out) (by decide)) BK258.out (by decide)) BK275.out (by decide)) BK287.out (by decide)) (fun k_ hk => ⟨(.inr (hk.1.1.1.1.1.1.1.1)), ⟨hk.1.1.1.1.1.1.2, ⟨hk.1.1.1.1.1.2, ⟨hk.1.1.1.1.2, ⟨hk.1.1.1.1.1.1.1.2, ⟨hk.1.1.1.2, ⟨hk.1.1.2, ⟨hk.1.2, hk.2⟩⟩⟩⟩⟩⟩⟩⟩))).2.1 (Kd.R_F (Kd.R_mono (ok' := (fun k_ => (P0_2_ k_ ∨ w.heap.size ≤ k_) ∧ some k_ ≠ (.slice Ao39 y259.length co39 : Value).ownBlock ∧ some k_ ≠ (.slice (some ad265) t262.length co41 : Value).ownBlock ∧ some k_ ≠ (v267 : Value).ownBlock ∧ some k_ ≠ (.slice Ao51 t271.length co51 : Value).ownBlock ∧ some k_ ≠ (.slice Ao56 y276.length co56 : Value).ownBlock ∧ k_ ≠ gb258 ∧ k_ ≠ gb275 ∧ k_ ≠ gb287)) (Kd.R_types (Kd.R_types (Kd.R_types (Kd.R_apart' (Kd.R_apart' (Kd.R_apart' (Kd.R_apart' (HO285.out) (Kd.N_typed HO261.out) (by decide)) (Kd.N_typed HO264.out) (by decide)) (Kd.R_typed HO268.out) (by decide)) (Kd.N_typed HO278.out) (by decide)) BK258.out (by decide)) BK275.out (by decide)) BK287.out (by decide)) (fun k_ hk => ⟨(.inr (hk.1.1.1.1.1.1.1.1)), ⟨hk.1.1.1.1.1.1.2, ⟨hk.1.1.1.1.1.2, ⟨hk.1.1.1.1.2, ⟨hk.1.1.1.1.1.1.1.2, ⟨hk.1.1.1.2, ⟨hk.1.1.2, ⟨hk.1.2, hk.2⟩⟩⟩⟩⟩⟩⟩⟩))))) (Reps.none _ _))); intro v289 w74 ho75 hb hg_ hnew_; clear hg_ hnew_; (first | rw [← Ny288.out] at ho75 | (simp only [Int.reduceToNat] at ho75; rw [← Ny288.out] at ho75)); have n0_ := Aside0.mk (Kd.V_elder' (by (with_reducible repeat (first | apply Kd.V_alloc | apply Kd.V_drewN | apply Kd.V_drew)); exact HO0_2.out) (Kd.N_base ho75) hb); have n1_ := Aside0.mk (Kd.N_elder' (by (with_reducible repeat (first | apply Kd.N_alloc | apply Kd.N_drewN | apply Kd.N_drew)); exact HO261.out) (Kd.N_base ho75) hb); have n2_ := Aside0.mk (Kd.N_elder' (by (with_reducible repeat (first | apply Kd.N_alloc | apply Kd.N_drewN | apply Kd.N_drew)); exact HO264.out) (Kd.N_base ho75) hb); have n3_ := Aside0.mk (Kd.V_elder' (by (with_reducible repeat (first | apply Kd.V_alloc | apply Kd.V_drewN | apply Kd.V_drew)); exact HL265_2.out) (Kd.N_base ho75) hb); have n4_ := Aside0.mk (Kd.R_below (by (with_reducible repeat (first | apply Kd.R_alloc | apply Kd.R_drewN | apply Kd.R_drew)); exact HO268.out) hb); have n5_ := Aside0.mk (Kd.R_below (by (with_reducible repeat (first | apply Kd.R_alloc | apply Kd.R_drewN | apply Kd.R_drew)); exact HO273.out) hb); have n6_ := Aside0.mk (Kd.N_elder' (by (with_reducible repeat (first | apply Kd.N_alloc | apply Kd.N_drewN | apply Kd.N_drew)); exact HO278.out) (Kd.N_base ho75) hb); have n7_ := Aside0.mk (Kd.N_lower ho75 (below_size (by repeat (first | (with_reducible first | exact HB.out | apply below_alloc | apply pw_below_drewN | apply below_drew1 | refine below_set ?_ GE258.out | refine below_set ?_ GE275.out | refine below_set ?_ GE287.out) | exact HB.out)))); have n8_ := Aside0.mk (blk_below (g := gb258) (o := .cells #[.int .i64 ((rd_T58 t262 0).f0), .string ((rd_T58 t262 0).f1), .slice A265_2 ((rd_T58 t262 0).f2).length c265_2] 58 (0, 0)) (by (with_reducible repeat (first | refine blk_drewN ?_ _ | refine blk_drew ?_ | refine blk_alloc ?_ _)); exact BK258.out) hb); have n9_ := Aside0.mk (blk_below (g := gb275) (o := .cells #[.int .i64 t269, .string t270, .slice Ao51 t271.length co51] 58 (0, 0)) (by (with_reducible repeat (first | refine blk_drewN ?_ _ | refine blk_drew ?_ | refine blk_alloc ?_ _)); exact BK275.out) hb); have n10_ := Aside0.mk (blk_below (g := gb287) (o := .cells #[.int .i64 t281, .string t282, .slice Ao64 t283.length co64] 58 (0, 0)) (by (with_reducible repeat (first | refine blk_drewN ?_ _ | refine blk_drew ?_ | refine blk_alloc ?_ _)); exact BK287.out) hb); have n11_ := Aside0.mk (below_step (by repeat (first | (with_reducible first | exact HB.out | apply below_alloc | apply pw_below_drewN | apply below_drew1 | refine below_set ?_ GE258.out | refine below_set ?_ GE275.out | refine below_set ?_ GE287.out) | exact HB.out)) hb); clear HO0_2; clear HO261; clear HO264; clear HL265_2; clear HO268; clear HO273; clear HO278; clear BK258; clear BK275; clear BK287; clear HB; clear HO285; have HO0_2 := n0_; have HO261 := n1_; have HO264 := n2_; have HL265_2 := n3_; have HO268 := n4_; have HO273 := n5_; have HO278 := n6_; have HO290 := n7_; have BK258 := n8_; have BK275 := n9_; have BK287 := n10_; have HB := n11_; clear n0_ n1_ n2_ n3_ n4_ n5_ n6_ n7_ n8_ n9_ n10_ n11_; clear hb ho75; have hnb76 := NB258_275.out; have hnc76 := NB275_258.out; have hcz77_0 : w74.cell? ⟨gb258, 0, none⟩ = some (.int .i64 ((rd_T58 t262 0).f0)) := (blk_cell BK258.out 0).trans rfl; have hcz77_1 : w74.cell? ⟨gb258, 1, none⟩ = some (.string ((rd_T58 t262 0).f1)) := (blk_cell BK258.out 1).trans rfl; have hcz77_2 : w74.cell? ⟨gb258, 2, none⟩ = some (.slice A265_2 ((rd_T58 t262 0).f2).length c265_2) := (blk_cell BK258.out 2).trans rfl; have hfz77_0 := blk_frozen BK258.out 0; have hfz77_1 := blk_frozen BK258.out 1; have hfz77_2 := blk_frozen BK258.out 2) | ((with_reducible refine gate_dst (N := 56) rfl ?_); (try (refine gate_guard (by rfl) ?_; dsimp only)); refine Kd.N_lit k58 _ 58 ?hg (N' := 56) ?hd (xs := ([(⟨(rd_T58 t262 0).f0, (rd_T58 t262 0).f1, (rd_T58 t262 0).f2⟩ : S58)] : List (S58))) (inner := [.int .i64 ((rd_T58 t262 0).f0), .string ((rd_T58 t262 0).f1), .slice A265_2 ((rd_T58 t262 0).f2).length c265_2]) (ok := (fun k_ => (P0_2_ k_ ∨ w.heap.size ≤ k_) ∧ some k_ ≠ (.slice Ao39 y259.length co39 : Value).ownBlock ∧ some k_ ≠ (.slice (some ad265) t262.length co41 : Value).ownBlock ∧ some k_ ≠ (v267 : Value).ownBlock ∧ some k_ ≠ (.slice Ao51 t271.length co51 : Value).ownBlock ∧ some k_ ≠ (.slice Ao56 y276.length co56 : Value).ownBlock ∧ some k_ ≠ (v289 : Value).ownBlock ∧ k_ ≠ gb258 ∧ k_ ≠ gb275 ∧ k_ ≠ gb287)) (okp := (fun k_ => (P0_2_ k_ ∨ w.heap.size ≤ k_) ∧ some k_ ≠ (.slice Ao39 y259.length co39 : Value).ownBlock ∧ some k_ ≠ (.slice (some ad265) t262.length co41 : Value).ownBlock ∧ some k_ ≠ (v267 : Value).ownBlock ∧ some k_ ≠ (.slice Ao51 t271.length co51 : Value).ownBlock ∧ some k_ ≠ (.slice Ao56 y276.length co56 : Value).ownBlock ∧ some k_ ≠ (v289 : Value).ownBlock ∧ k_ ≠ gb258 ∧ k_ ≠ gb275 ∧ k_ ≠ gb287)) ?hr ?hp (fun _ hk => hk) ((show ∀ k_, w74.heap.size ≤ k_ → (fun k_ => (P0_2_ k_ ∨ w.heap.size ≤ k_) ∧ some k_ ≠ (.slice Ao39 y259.length co39 : Value).ownBlock ∧ some k_ ≠ (.slice (some ad265) t262.length co41 : Value).ownBlock ∧ some k_ ≠ (v267 : Value).ownBlock ∧ some k_ ≠ (.slice Ao51 t271.length co51 : Value).ownBlock ∧ some k_ ≠ (.slice Ao56 y276.length co56 : Value).ownBlock ∧ some k_ ≠ (v289 : Value).ownBlock ∧ k_ ≠ gb258 ∧ k_ ≠ gb275 ∧ k_ ≠ gb287) k_ from fun k_ hk => ⟨(.inr (Nat.le_trans (below_size (by repeat (first | (with_reducible first | exact HB.out | apply below_alloc | apply pw_below_drewN | apply below_drew1 | refine below_set ?_ GE258.out | refine below_set ?_ GE275.out | refine below_set ?_ GE287.out) | exact HB.out))) hk)), Kd.fresh' (Kd.N_lt (by (with_reducible repeat (first | apply Kd.N_alloc | apply Kd.N_drewN | apply Kd.N_drew)); exact HO261.out)) k_ hk, Kd.fresh' (Kd.N_lt (by (with_reducible repeat (first | apply Kd.N_alloc | apply Kd.N_drewN | apply Kd.N_drew)); exact HO264.out)) k_ hk, Kd.fresh' (Kd.R_lt (by (with_reducible repeat (first | apply Kd.R_alloc | apply Kd.R_drewN | apply Kd.R_drew)); exact HO268.out)) k_ hk, Kd.fresh' (Kd.R_lt (by (with_reducible repeat (first | apply Kd.R_alloc | apply Kd.R_drewN | apply Kd.R_drew)); exact HO273.out)) k_ hk, Kd.fresh' (Kd.N_lt (by (with_reducible repeat (first | apply Kd.N_alloc | apply Kd.N_drewN | apply Kd.N_drew)); exact HO278.out)) k_ hk, Kd.fresh' (Kd.N_lt (by (with_reducible repeat (first | apply Kd.N_alloc | apply Kd.N_drewN | apply Kd.N_drew)); exact HO290.out)) k_ hk, Kd.freshB (g := gb258) (o := .cells #[.int .i64 ((rd_T58 t262 0).f0), .string ((rd_T58 t262 0).f1), .slice A265_2 ((rd_T58 t262 0).f2).length c265_2] 58 (0, 0)) (by (with_reducible repeat (first | refine blk_drewN ?_ _ | refine blk_drew ?_ | refine blk_alloc ?_ _)); exact BK258.out) k_ hk, Kd.freshB (g := gb275) (o := .cells #[.int .i64 t269, .string t270, .slice Ao51 t271.length co51] 58 (0, 0)) (by (with_reducible repeat (first | refine blk_drewN ?_ _ | refine blk_drew ?_ | refine blk_alloc ?_ _)); exact BK275.out) k_ hk, Kd.freshB (g := gb287) (o := .cells #[.int .i64 t281, .string t282, .slice Ao64 t283.length co64] 58 (0, 0)) (by (with_reducible repeat (first | refine blk_drewN ?_ _ | refine blk_drew ?_ | refine blk_alloc ?_ _)); exact BK287.out) k_ hk⟩) _ (Nat.le_refl _)) (Below.refl _ _) (Nat.le_refl _) (by simp) ?_; (case hd => rfl); (case hg => rfl); (case hr => first | (go_simp; done) | (go_simp; rfl)); (case hp => exact (Reps.c3 (show Kd.FK k58 _ _ (⟨(rd_T58 t262 0).f0, (rd_T58 t262 0).f1, (rd_T58 t262 0).f2⟩ : S58) [.int .i64 ((rd_T58 t262 0).f0), .string ((rd_T58 t262 0).f1), .slice A265_2 ((rd_T58 t262 0).f2).length c265_2] from (k58_mkF _ _ (⟨(rd_T58 t262 0).f0, (rd_T58 t262 0).f1, (rd_T58 t262 0).f2⟩ : S58) (Kd.V_reads' (Kd.V_mono (ok' := (fun k_ => (P0_2_ k_ ∨ w.heap.size ≤ k_) ∧ some k_ ≠ (.slice Ao39 y259.length co39 : Value).ownBlock ∧ some k_ ≠ (.slice (some ad265) t262.length co41 : Value).ownBlock ∧ some k_ ≠ (v267 : Value).ownBlock ∧ some k_ ≠ (.slice Ao51 t271.length co51 : Value).ownBlock ∧ some k_ ≠ (.slice Ao56 y276.length co56 : Value).ownBlock ∧ some k_ ≠ (v289 : Value).ownBlock ∧ k_ ≠ gb258 ∧ k_ ≠ gb275 ∧ k_ ≠ gb287)) (HL265_2.out) (fun k_ hk => ⟨hk.1.1, ⟨hk.1.2.1, ⟨hk.1.2.2.1, ⟨hk.1.2.2.2.1, ⟨hk.1.2.2.2.2.1, ⟨hk.1.2.2.2.2.2.1, ⟨hk.2, ⟨hk.1.2.2.2.2.2.2.2.1, ⟨hk.1.2.2.2.2.2.2.2.2.1, hk.1.2.2.2.2.2.2.2.2.2⟩⟩⟩⟩⟩⟩⟩⟩⟩))).2.1 (Kd.V_F (Kd.V_mono (ok' := (fun k_ => (P0_2_ k_ ∨ w.heap.size ≤ k_) ∧ some k_ ≠ (.slice Ao39 y259.length co39 : Value).ownBlock ∧ some k_ ≠ (.slice (some ad265) t262.length co41 : Value).ownBlock ∧ some k_ ≠ (v267 : Value).ownBlock ∧ some k_ ≠ (.slice Ao51 t271.length co51 : Value).ownBlock ∧ some k_ ≠ (.slice Ao56 y276.length co56 : Value).ownBlock ∧ some k_ ≠ (v289 : Value).ownBlock ∧ k_ ≠ gb258 ∧ k_ ≠ gb275 ∧ k_ ≠ gb287)) (HL265_2.out) (fun k_ hk => ⟨hk.1.1, ⟨hk.1.2.1, ⟨hk.1.2.2.1, ⟨hk.1.2.2.2.1, ⟨hk.1.2.2.2.2.1, ⟨hk.1.2.2.2.2.2.1, ⟨hk.2, ⟨hk.1.2.2.2.2.2.2.2.1, ⟨hk.1.2.2.2.2.2.2.2.2.1, hk.1.2.2.2.2.2.2.2.2.2⟩⟩⟩⟩⟩⟩⟩⟩⟩))))) (Reps.none _ _))); intro v292 w78 ho79 hb hg_ hnew_; clear hg_ hnew_; (first | rw [← Ny291.out] at ho79 | (simp only [Int.reduceToNat] at ho79; rw [← Ny291.out] at ho79)); have n0_ := Aside0.mk (Kd.V_elder' (by (with_reducible repeat (first | apply Kd.V_alloc | apply Kd.V_drewN | apply Kd.V_drew)); exact HO0_2.out) (Kd.N_base ho79) hb); have n1_ := Aside0.mk (Kd.N_elder' (by (with_reducible repeat (first | apply Kd.N_alloc | apply Kd.N_drewN | apply Kd.N_drew)); exact HO261.out) (Kd.N_base ho79) hb); have n2_ := Aside0.mk (Kd.N_elder' (by (with_reducible repeat (first | apply Kd.N_alloc | apply Kd.N_drewN | apply Kd.N_drew)); exact HO264.out) (Kd.N_base ho79) hb); have n3_ := Aside0.mk (Kd.V_elder' (by (with_reducible repeat (first | apply Kd.V_alloc | apply Kd.V_drewN | apply Kd.V_drew)); exact HL265_2.out) (Kd.N_base ho79) hb); have n4_ := Aside0.mk (Kd.R_below (by (with_reducible repeat (first | apply Kd.R_alloc | apply Kd.R_drewN | apply Kd.R_drew)); exact HO268.out) hb); have n5_ := Aside0.mk (Kd.R_below (by (with_reducible repeat (first | apply Kd.R_alloc | apply Kd.R_drewN | apply Kd.R_drew)); exact HO273.out) hb); have n6_ := Aside0.mk (Kd.N_elder' (by (with_reducible repeat (first | apply Kd.N_alloc | apply Kd.N_drewN | apply Kd.N_drew)); exact HO278.out) (Kd.N_base ho79) hb); have n7_ := Aside0.mk (Kd.N_elder' (by (with_reducible repeat (first | apply Kd.N_alloc | apply Kd.N_drewN | apply Kd.N_drew)); exact HO290.out) (Kd.N_base ho79) hb); have n8_ := Aside0.mk (Kd.N_lower ho79 (below_size (by repeat (first | (with_reducible first | exact HB.out | apply below_alloc | apply pw_below_drewN | apply below_drew1 | refine below_set ?_ GE258.out | refine below_set ?_ GE275.out | refine below_set ?_ GE287.out) | exact HB.out)))); have n9_ := Aside0.mk (blk_below (g := gb258) (o := .cells #[.int .i64 ((rd_T58 t262 0).f0), .string ((rd_T58 t262 0).f1), .slice A265_2 ((rd_T58 t262 0).f2).length c265_2] 58 (0, 0)) (by (with_reducible repeat (first | refine blk_drewN ?_ _ | refine blk_drew ?_ | refine blk_alloc ?_ _)); exact BK258.out) hb); have n10_ := Aside0.mk (blk_below (g := gb275) (o := .cells #[.int .i64 t269, .string t270, .slice Ao51 t271.length co51] 58 (0, 0)) (by (with_reducible repeat (first | refine blk_drewN ?_ _ | refine blk_drew ?_ | refine blk_alloc ?_ _)); exact BK275.out) hb); have n11_ := Aside0.mk (blk_below (g := gb287) (o := .cells #[.int .i64 t281, .string t282, .slice Ao64 t283.length co64] 58 (0, 0)) (by (with_reducible repeat (first | refine blk_drewN ?_ _ | refine blk_drew ?_ | refine blk_alloc ?_ _)); exact BK287.out) hb); have n12_ := Aside0.mk (below_step (by repeat (first | (with_reducible first | exact HB.out | apply below_alloc | apply pw_below_drewN | apply below_drew1 | refine below_set ?_ GE258.out | refine below_set ?_ GE275.out | refine below_set ?_ GE287.out) | exact HB.out)) hb); clear HO0_2; clear HO261; clear HO264; clear HL265_2; clear HO268; clear HO273; clear HO278; clear HO290; clear BK258; clear BK275; clear BK287; clear HB; have HO0_2 := n0_; have HO261 := n1_; have HO264 := n2_; have HL265_2 := n3_; have HO268 := n4_; have HO273 := n5_; have HO278 := n6_; have HO290 := n7_; have HO293 := n8_; have BK258 := n9_; have BK275 := n10_; have BK287 := n11_; have HB := n12_; clear n0_ n1_ n2_ n3_ n4_ n5_ n6_ n7_ n8_ n9_ n10_ n11_ n12_; clear hb ho79; obtain ⟨Ao80, co80, eo80⟩ := Kd.N_slice HO290.out; subst eo80; obtain ⟨Ao81, co81, eo81⟩ := Kd.N_slice HO293.out; subst eo81) | (go_at_call 60; (with_reducible refine (tollref08_Same.calls k _ _ y288 _ _ y291 true _ ?side1 ?side2 ?side3 ?side4 A66.out).mono ?_); (case side1 => repeat (first | exact (Kd.N_reads' HO290.out).2.2 | (with_reducible refine Kd.C_alloc ?_ _) | (with_reducible refine Kd.C_drewN ?_ _) | (with_reducible refine Kd.C_drew ?_))); (case side2 => exact (Kd.N_reads' HO290.out).2.1); (case side3 => repeat (first | exact (Kd.N_reads' HO293.out).2.2 | (with_reducible refine Kd.C_alloc ?_ _) | (with_reducible refine Kd.C_drewN ?_ _) | (with_reducible refine Kd.C_drew ?_))); (case side4 => exact (Kd.N_reads' HO293.out).2.1); rintro e w82 ⟨rfl, hb⟩; have n0_ := Aside0.mk (Kd.V_below (by (with_reducible repeat (first | apply Kd.V_alloc | apply Kd.V_drewN | apply Kd.V_drew)); exact HO0_2.out) hb); have n1_ := Aside0.mk (Kd.N_below (by (with_reducible repeat (first | apply Kd.N_alloc | apply Kd.N_drewN | apply Kd.N_drew)); exact HO261.out) hb); have n2_ := Aside0.mk (Kd.N_below (by (with_reducible repeat (first | apply Kd.N_alloc | apply Kd.N_drewN | apply Kd.N_drew)); exact HO264.out) hb); have n3_ := Aside0.mk (Kd.V_below (by (with_reducible repeat (first | apply Kd.V_alloc | apply Kd.V_drewN | apply Kd.V_drew)); exact HL265_2.out) hb); have n4_ := Aside0.mk (Kd.R_below (by (with_reducible repeat (first | apply Kd.R_alloc | apply Kd.R_drewN | apply Kd.R_drew)); exact HO268.out) hb); have n5_ := Aside0.mk (Kd.R_below (by (with_reducible repeat (first | apply Kd.R_alloc | apply Kd.R_drewN | apply Kd.R_drew)); exact HO273.out) hb); have n6_ := Aside0.mk (Kd.N_below (by (with_reducible repeat (first | apply Kd.N_alloc | apply Kd.N_drewN | apply Kd.N_drew)); exact HO278.out) hb); have n7_ := Aside0.mk (Kd.N_below (by (with_reducible repeat (first | apply Kd.N_alloc | apply Kd.N_drewN | apply Kd.N_drew)); exact HO290.out) hb); have n8_ := Aside0.mk (Kd.N_below (by (with_reducible repeat (first | apply Kd.N_alloc | apply Kd.N_drewN | apply Kd.N_drew)); exact HO293.out) hb); have n9_ := Aside0.mk (blk_below (g := gb258) (o := .cells #[.int .i64 ((rd_T58 t262 0).f0), .string ((rd_T58 t262 0).f1), .slice A265_2 ((rd_T58 t262 0).f2).length c265_2] 58 (0, 0)) (by (with_reducible repeat (first | refine blk_drewN ?_ _ | refine blk_drew ?_ | refine blk_alloc ?_ _)); exact BK258.out) hb); have n10_ := Aside0.mk (blk_below (g := gb275) (o := .cells #[.int .i64 t269, .string t270, .slice Ao51 t271.length co51] 58 (0, 0)) (by (with_reducible repeat (first | refine blk_drewN ?_ _ | refine blk_drew ?_ | refine blk_alloc ?_ _)); exact BK275.out) hb); have n11_ := Aside0.mk (blk_below (g := gb287) (o := .cells #[.int .i64 t281, .string t282, .slice Ao64 t283.length co64] 58 (0, 0)) (by (with_reducible repeat (first | refine blk_drewN ?_ _ | refine blk_drew ?_ | refine blk_alloc ?_ _)); exact BK287.out) hb); have n12_ := Aside0.mk (below_step (by repeat (first | (with_reducible first | exact HB.out | apply below_alloc | apply pw_below_drewN | apply below_drew1 | refine below_set ?_ GE258.out | refine below_set ?_ GE275.out | refine below_set ?_ GE287.out) | exact HB.out)) hb); clear HO0_2; clear HO261; clear HO264; clear HL265_2; clear HO268; clear HO273; clear HO278; clear HO290; clear HO293; clear BK258; clear BK275; clear BK287; clear HB; have HO0_2 := n0_; have HO261 := n1_; have HO264 := n2_; have HL265_2 := n3_; have HO268 := n4_; have HO273 := n5_; have HO278 := n6_; have HO290 := n7_; have HO293 := n8_; have BK258 := n9_; have BK275 := n10_; have BK287 := n11_; have HB := n12_; clear n0_ n1_ n2_ n3_ n4_ n5_ n6_ n7_ n8_ n9_ n10_ n11_ n12_; (try clear hb); (try clear hb2); (try clear hk); (try clear hi); have hcz83_0 : w82.cell? ⟨gb275, 0, none⟩ = some (.int .i64 t269) := (blk_cell BK275.out 0).trans rfl; have hcz83_1 : w82.cell? ⟨gb275, 1, none⟩ = some (.string t270) := (blk_cell BK275.out 1).trans rfl; have hcz83_2 : w82.cell? ⟨gb275, 2, none⟩ = some (.slice Ao51 t271.length co51) := (blk_cell BK275.out 2).trans rfl; have hfz83_0 := blk_frozen BK275.out 0; have hfz83_1 := blk_frozen BK275.out 1; have hfz83_2 := blk_frozen BK275.out 2; have hcz84_0 : w82.cell? ⟨gb258, 0, none⟩ = some (.int .i64 ((rd_T58 t262 0).f0)) := (blk_cell BK258.out 0).trans rfl; have hcz84_1 : w82.cell? ⟨gb258, 1, none⟩ = some (.string ((rd_T58 t262 0).f1)) := (blk_cell BK258.out 1).trans rfl; have hcz84_2 : w82.cell? ⟨gb258, 2, none⟩ = some (.slice A265_2 ((rd_T58 t262 0).f2).length c265_2) := (blk_cell BK258.out 2).trans rfl; have hfz84_0 := blk_frozen BK258.out 0; have hfz84_1 := blk_frozen BK258.out 1; have hfz84_2 := blk_frozen BK258.out 2) | (go_at_call 48; (with_reducible refine (tollref01_Same.calls k _ _ t271 _ _ ((rd_T58 t262 0).f2) t295 _ ?side1 ?side2 ?side3 ?side4 A69.out).mono ?_); (case side1 => repeat (first | exact (Kd.R_reads' HO273.out).2.2 | (with_reducible refine Kd.C_alloc ?_ _) | (with_reducible refine Kd.C_drewN ?_ _) | (with_reducible refine Kd.C_drew ?_))); (case side2 => exact (Kd.R_reads' HO273.out).2.1); (case side3 => repeat (first | exact ((Kd.V_reads' (by (with_reducible repeat (first | apply Kd.V_alloc | apply Kd.V_drewN | apply Kd.V_drew)); exact HL265_2.out)).2.2) | (with_reducible refine Kd.C_alloc ?_ _) | (with_reducible refine Kd.C_drewN ?_ _) | (with_reducible refine Kd.C_drew ?_))); (case side4 => exact HC265_2.out); rintro e w' ⟨rfl, ⟨nd, rfl⟩⟩))
                go_meet
                case rel => exact ⟨_, (!t295), (by first | rfl | (simp; done) | (simp [*]; done)), H', ⟨by first | omega | exact Nat.le_refl _⟩, ⟨by (with_reducible repeat (first | apply Kd.R_alloc | apply Kd.R_drewN | apply Kd.R_drew)); exact HO268.out⟩, ⟨by (with_reducible repeat (first | apply Kd.V_alloc | apply Kd.V_drewN | apply Kd.V_drew)); exact Kd.V_mono HL265_2.out (fun _ hk => ⟨hk.1.1.1, ⟨hk.1.1.2.2.2.1, ⟨hk.1.1.2.2.2.2.1, ⟨hk.1.1.2.2.2.2.2.2.2.1, hk.1.1.2.2.2.2.2.2.2.2.1⟩⟩⟩⟩)⟩, ⟨by (with_reducible repeat (first | apply Kd.R_alloc | apply Kd.R_drewN | apply Kd.R_drew)); exact Kd.R_mono HO273.out (fun _ hk => hk.1)⟩, ⟨by (with_reducible repeat (first | refine blk_drewN ?_ _ | refine blk_drew ?_ | refine blk_alloc ?_ _)); exact BK258.out⟩, ⟨by (with_reducible repeat (first | refine blk_drewN ?_ _ | refine blk_drew ?_ | refine blk_alloc ?_ _)); exact BK275.out⟩, ⟨by repeat (first | (with_reducible first | exact HB.out | apply below_alloc | apply pw_below_drewN | apply below_drew1 | refine below_set ?_ GE258.out | refine below_set ?_ GE275.out | refine below_set ?_ GE287.out) | exact HB.out)⟩⟩
              · rw [if_neg c68] at H
                exact absurd H (by cases k <;> simp [tolllaw08_LabelNots.j0])
            · replace c67 := Bool.eq_false_iff.mpr c67
              subst c67
              have H1 : (tolllaw08_LabelNots.j0 k t266 true ((rd_T58 t262 0).f0) ((rd_T58 t262 0).f1) ((rd_T58 t262 0).f2) t269 t270 t271) = some true := by rw [if_neg (show ¬ (false = true) by decide)] at H; exact H
              exact absurd H1 (by cases k <;> simp [tolllaw08_LabelNots.j0])
          · replace c65 := Bool.eq_false_iff.mpr c65
            subst c65
            have H1 : (tolllaw08_LabelNots.j0 k t266 true ((rd_T58 t262 0).f0) ((rd_T58 t262 0).f1) ((rd_T58 t262 0).f2) t269 t270 t271) = some true := by rw [if_neg (show ¬ (false = true) by decide)] at H; exact H
            exact absurd H1 (by cases k <;> simp [tolllaw08_LabelNots.j0])
        case rest =>
          clear HC34
          try clear c1
          try clear c2
          try clear p2
          try clear q2
          try clear hx2
          try clear qi2
          try clear c3
          try clear c4
          try clear c5
          try clear c6
          try clear c7
          try clear c8
          try clear c8b0
          try clear c8b1
          try clear c8b2
          try clear c9
          try clear c10
          try clear c14
          try clear c23
          try clear c26
          try clear p26
          try clear q26
          try clear hx26
          try clear qi26
          try clear c32
          try clear c49
          try clear c51
          try clear c55
          try clear c58
          try clear c59
          try clear c61
          try clear c62
          try clear c65
          try clear c67
          try clear c68
          try clear c68b0
          try clear c68b1
          try clear c71
          try clear c72
          try clear c76
          try clear c86
          try clear c87
          try clear c91
          try clear c101
          try clear c102
          try clear c106
          try clear hcz103_0
          try clear hcz103_1
          try clear hcz103_2
          try clear hcz107_0
          try clear hcz107_1
          try clear hcz107_2
          try clear hcz20_0
          try clear hcz20_1
          try clear hcz20_2
          try clear hcz24_0
          try clear hcz24_1
          try clear hcz24_2
          try clear hcz27_0
          try clear hcz27_1
          try clear hcz27_2
          try clear hcz46_0
          try clear hcz46_1
          try clear hcz46_2
          try clear hcz50_0
          try clear hcz50_1
          try clear hcz50_2
          try clear hcz53_0
          try clear hcz53_1
          try clear hcz53_2
          try clear hcz58_0
          try clear hcz58_1
          try clear hcz58_2
          try clear hcz63_0
          try clear hcz63_1
          try clear hcz63_2
          try clear hcz73_0
          try clear hcz73_1
          try clear hcz73_2
          try clear hcz77_0
          try clear hcz77_1
          try clear hcz77_2
          try clear hcz83_0
          try clear hcz83_1
          try clear hcz83_2
          try clear hcz84_0
          try clear hcz84_1
          try clear hcz84_2
          try clear hcz88_0
          try clear hcz88_1
          try clear hcz88_2
          try clear hcz92_0
          try clear hcz92_1
          try clear hcz92_2
          try clear hcz98_0
          try clear hcz98_1
          try clear hcz98_2
          try clear hcz99_0
          try clear hcz99_1
          try clear hcz99_2
          try clear hfz103_0
          try clear hfz103_1
          try clear hfz103_2
          try clear hfz107_0
          try clear hfz107_1
          try clear hfz107_2
          try clear hfz20_0
          try clear hfz20_1
          try clear hfz20_2
          try clear hfz24_0
          try clear hfz24_1
          try clear hfz24_2
          try clear hfz27_0
          try clear hfz27_1
          try clear hfz27_2
          try clear hfz46_0
          try clear hfz46_1
          try clear hfz46_2
          try clear hfz50_0
          try clear hfz50_1
          try clear hfz50_2
          try clear hfz53_0
          try clear hfz53_1
          try clear hfz53_2
          try clear hfz58_0
          try clear hfz58_1
          try clear hfz58_2
          try clear hfz63_0
          try clear hfz63_1
          try clear hfz63_2
          try clear hfz73_0
          try clear hfz73_1
          try clear hfz73_2
          try clear hfz77_0
          try clear hfz77_1
          try clear hfz77_2
          try clear hfz83_0
          try clear hfz83_1
          try clear hfz83_2
          try clear hfz84_0
          try clear hfz84_1
          try clear hfz84_2
          try clear hfz88_0
          try clear hfz88_1
          try clear hfz88_2
          try clear hfz92_0
          try clear hfz92_1
          try clear hfz92_2
          try clear hfz98_0
          try clear hfz98_1
          try clear hfz98_2
          try clear hfz99_0
          try clear hfz99_1
          try clear hfz99_2
          try clear hx265_0
          try clear hx265_1
          try clear hx265_2
          try clear p265
          try clear q265
          obtain ⟨kq, x74_33, rfl, HA, HJ33, HO_1, HO_259002, HO_276002, BK258, BK275, HB⟩ := hcut
          cases kq with
          | zero => exact absurd HA.out (by simp [tolllaw08_LabelNots.j0])
          | succ kj33 =>
            have H := HA.out
            clear HA
            simp only [tolllaw08_LabelNots.j0] at H
            by_cases c113 : x74_33 = true
            · subst c113
              have H1 : (some false) = some true := by rw [if_pos rfl] at H; exact H
              exact absurd H1 (by simp)
            · replace c113 := Bool.eq_false_iff.mpr c113
              subst c113
              have H1 : ((label_May.f kj33 t266).bind fun t296 => (if t296 = true then ((label_May.f kj33 t266).bind fun t297 => (if t297 = true then ((label_Met.f ((rd_T58 t262 0).f0) ((rd_T58 t262 0).f1) ((rd_T58 t262 0).f2) t266).bind fun t298 => ((label_Met.f t269 t270 t271 t266).bind fun t299 => (if (t298 != t299) = true then ((tolllaw08_awake.f).bind fun t300 => (some t300)) else (some false)))) else (some false))) else ((label_Met.f ((rd_T58 t262 0).f0) ((rd_T58 t262 0).f1) ((rd_T58 t262 0).f2) t266).bind fun t301 => (if t301 = true then ((label_May.f kj33 t266).bind fun t302 => (if t302 = true then ((label_Met.f ((rd_T58 t262 0).f0) ((rd_T58 t262 0).f1) ((rd_T58 t262 0).f2) t266).bind fun t303 => ((label_Met.f t269 t270 t271 t266).bind fun t304 => (if (t303 != t304) = true then ((tolllaw08_awake.f).bind fun t305 => (some t305)) else (some false)))) else (some false))) else ((label_Met.f t269 t270 t271 t266).bind fun t306 => (if t306 = true then ((label_May.f kj33 t266).bind fun t307 => (if t307 = true then ((label_Met.f ((rd_T58 t262 0).f0) ((rd_T58 t262 0).f1) ((rd_T58 t262 0).f2) t266).bind fun t308 => ((label_Met.f t269 t270 t271 t266).bind fun t309 => (if (t308 != t309) = true then ((tolllaw08_awake.f).bind fun t310 => (some t310)) else (some false)))) else (some false))) else ((tolllaw08_awake.f).bind fun t311 => (some t311)))))))) = some true := by rw [if_neg (show ¬ (false = true) by decide)] at H; exact H
              clear H
              have H := H1
              clear H1
              replace H := Option.bind_eq_some_iff.mp H
              obtain ⟨t296, A1140, H⟩ := H
              replace H : (if t296 = true then ((label_May.f kj33 t266).bind fun t297 => (if t297 = true then ((label_Met.f ((rd_T58 t262 0).f0) ((rd_T58 t262 0).f1) ((rd_T58 t262 0).f2) t266).bind fun t298 => ((label_Met.f t269 t270 t271 t266).bind fun t299 => (if (t298 != t299) = true then ((tolllaw08_awake.f).bind fun t300 => (some t300)) else (some false)))) else (some false))) else ((label_Met.f ((rd_T58 t262 0).f0) ((rd_T58 t262 0).f1) ((rd_T58 t262 0).f2) t266).bind fun t301 => (if t301 = true then ((label_May.f kj33 t266).bind fun t302 => (if t302 = true then ((label_Met.f ((rd_T58 t262 0).f0) ((rd_T58 t262 0).f1) ((rd_T58 t262 0).f2) t266).bind fun t303 => ((label_Met.f t269 t270 t271 t266).bind fun t304 => (if (t303 != t304) = true then ((tolllaw08_awake.f).bind fun t305 => (some t305)) else (some false)))) else (some false))) else ((label_Met.f t269 t270 t271 t266).bind fun t306 => (if t306 = true then ((label_May.f kj33 t266).bind fun t307 => (if t307 = true then ((label_Met.f ((rd_T58 t262 0).f0) ((rd_T58 t262 0).f1) ((rd_T58 t262 0).f2) t266).bind fun t308 => ((label_Met.f t269 t270 t271 t266).bind fun t309 => (if (t308 != t309) = true then ((tolllaw08_awake.f).bind fun t310 => (some t310)) else (some false)))) else (some false))) else ((tolllaw08_awake.f).bind fun t311 => (some t311))))))) = some true := H
              have A114 := Aside0.mk A1140
              clear A1140
              by_cases c115 : t296 = true
              · subst c115
                have H1 : ((label_May.f kj33 t266).bind fun t297 => (if t297 = true then ((label_Met.f ((rd_T58 t262 0).f0) ((rd_T58 t262 0).f1) ((rd_T58 t262 0).f2) t266).bind fun t298 => ((label_Met.f t269 t270 t271 t266).bind fun t299 => (if (t298 != t299) = true then ((tolllaw08_awake.f).bind fun t300 => (some t300)) else (some false)))) else (some false))) = some true := by rw [if_pos rfl] at H; exact H
                clear H
                have H := H1
                clear H1
                replace H := Option.bind_eq_some_iff.mp H
                obtain ⟨t297, A1160, H⟩ := H
                replace H : (if t297 = true then ((label_Met.f ((rd_T58 t262 0).f0) ((rd_T58 t262 0).f1) ((rd_T58 t262 0).f2) t266).bind fun t298 => ((label_Met.f t269 t270 t271 t266).bind fun t299 => (if (t298 != t299) = true then ((tolllaw08_awake.f).bind fun t300 => (some t300)) else (some false)))) else (some false)) = some true := H
                have A116 := Aside0.mk A1160
                clear A1160
                by_cases c117 : t297 = true
                · subst c117
                  have H1 : ((label_Met.f ((rd_T58 t262 0).f0) ((rd_T58 t262 0).f1) ((rd_T58 t262 0).f2) t266).bind fun t298 => ((label_Met.f t269 t270 t271 t266).bind fun t299 => (if (t298 != t299) = true then ((tolllaw08_awake.f).bind fun t300 => (some t300)) else (some false)))) = some true := by rw [if_pos rfl] at H; exact H
                  clear H
                  have H := H1
                  clear H1
                  replace H := Option.bind_eq_some_iff.mp H
                  obtain ⟨t298, A1180, H⟩ := H
                  replace H : ((label_Met.f t269 t270 t271 t266).bind fun t299 => (if (t298 != t299) = true then ((tolllaw08_awake.f).bind fun t300 => (some t300)) else (some false))) = some true := H
                  have A118 := Aside0.mk A1180
                  clear A1180
                  replace H := Option.bind_eq_some_iff.mp H
                  obtain ⟨t299, A1190, H⟩ := H
                  replace H : (if (t298 != t299) = true then ((tolllaw08_awake.f).bind fun t300 => (some t300)) else (some false)) = some true := H
                  have A119 := Aside0.mk A1190
                  clear A1190
                  by_cases c120 : (t298 != t299) = true
                  · rw [if_pos c120] at H
                    have c120b0 : (t298 != t299) = true := c120
                    (try (have c120b1 : decide (t298 = t299) = false := by simpa using c120))
                    (try (have c120b2 : (t298 == t299) = false := by simpa using c120))
                    (try (have c120b3 : ¬ (t298 = t299) := by simpa using c120))
                    clear c120
                    replace H := Option.bind_eq_some_iff.mp H
                    obtain ⟨t300, A1210, H⟩ := H
                    replace H : (some t300) = some true := H
                    have A121 := Aside0.mk A1210
                    clear A1210
                    obtain rfl := Option.some.inj H
                    try go_wp2
                    have n0_ := Aside0.mk (Kd.R_drew HO_1.out)
                    have n1_ := Aside0.mk (Kd.V_drew HO_259002.out)
                    have n2_ := Aside0.mk (Kd.R_drew HO_276002.out)
                    have n3_ := Aside0.mk (blk_drew BK258.out)
                    have n4_ := Aside0.mk (blk_drew BK275.out)
                    have n5_ := Aside0.mk (below_drew1 HB.out)
                    clear HO_1
                    clear HO_259002
                    clear HO_276002
                    clear BK258
                    clear BK275
                    clear HB
                    have HO_1 := n0_
                    have HO_259002 := n1_
                    have HO_276002 := n2_
                    have BK258 := n3_
                    have BK275 := n4_
                    have HB := n5_
                    clear n0_ n1_ n2_ n3_ n4_ n5_
                    obtain ⟨Ao123, co123, eo123⟩ := Kd.R_slice HO_1.out
                    (first | subst eo123 | (injection eo123 with f1_ f2_ f3_; have f4_ := f1_.symm; have f5_ := f3_.symm; clear f1_ f2_ f3_; subst f4_; subst f5_))
                    refine start_ (n := 32) (S := fun w' => w'.cell? ⟨gb258, 0, none⟩ = some (.int .i64 ((rd_T58 t262 0).f0)) ∧ w'.cell? ⟨gb258, 1, none⟩ = some (.string ((rd_T58 t262 0).f1)) ∧ w'.cell? ⟨gb258, 2, none⟩ = some (.slice A265_2 ((rd_T58 t262 0).f2).length c265_2) ∧ w'.cell? ⟨gb275, 0, none⟩ = some (.int .i64 t269) ∧ w'.cell? ⟨gb275, 1, none⟩ = some (.string t270) ∧ w'.cell? ⟨gb275, 2, none⟩ = some (.slice Ao51 t271.length co51)) (ds := []) #[false, false, false, false, false, false, false, false, false, false, false, false, false, false, false, false, false, false, false, false, false, false, false, false, false, false, false, false, false, false, false, false] (by kernel_rfl) rfl rfl ⟨(blk_cell BK258.out 0).trans rfl, (blk_cell BK258.out 1).trans rfl, (blk_cell BK258.out 2).trans rfl, (blk_cell BK275.out 0).trans rfl, (blk_cell BK275.out 1).trans rfl, (blk_cell BK275.out 2).trans rfl⟩ (fun hHeld => ?_); refine with_tabW tolllaw08_LabelNots.tab10 tolllaw08_LabelNots.bits10 (fun HT_ HW_ => ?_)
                    generalize wc.drew = w122 at HO_1 HO_259002 HO_276002 BK258 BK275 HB hHeld ⊢
                    refine pure_ (i := 0) (N := some 75) (v := ?_) (a' := ?_) #[true, false, false, false, false, false, false, false, false, false, false, false, false, false, false, false, false, false, false, false, false, false, false, false, false, false, false, false, false, false, false, false] rfl rfl (any_of HT_.out (by kernel_rfl)) (fun _ _ _ h => h) (Or.inl ⟨by rfl, ?_⟩) ?_ ?_
                    rotate_left
                    · intro w'
                      go_simp
                      with_reducible rfl
                    rotate_left
                    · simp only [Act.put, List.setIfInBounds_toArray, List.set_cons_zero, List.set_cons_succ, i64_w, i32_w]
                      rfl
                    refine one_ (i := 1) (N := some 76) #[true, true, false, false, false, false, false, false, false, false, false, false, false, false, false, false, false, false, false, false, false, false, false, false, false, false, false, false, false, false, false, false] rfl rfl (one_of HT_.out (by kernel_rfl)) (by decide) (fun K hK => ?_)
                    refine goes_ Tryd.func52 (by kernel_rfl) rfl #[.slice Ao123 t266.length co123] (by rfl) rfl rfl (by (try simp only [List.map_toArray, List.map_cons, List.map_nil]); first | done | rfl | (simp only [List.length_drop, List.length_take]; rfl)) ?_
                    with_reducible refine (label_May.calls kj33 _ _ t266 true _ ?side1 ?side2 A114.out).mono ?_
                    (case side1 => repeat (first | exact (Kd.R_reads' HO_1.out).2.2 | (with_reducible refine Kd.C_alloc ?_ _) | (with_reducible refine Kd.C_drewN ?_ _) | (with_reducible refine Kd.C_drew ?_)))
                    (case side2 => exact (Kd.R_reads' HO_1.out).2.1)
                    rintro e w124 ⟨rfl, hb⟩
                    refine ⟨_, rfl, ?_⟩
                    have n0_ := Aside0.mk (Kd.R_below (by (with_reducible repeat (first | apply Kd.R_alloc | apply Kd.R_drewN | apply Kd.R_drew)); exact HO_1.out) hb)
                    have n1_ := Aside0.mk (Kd.V_below (by (with_reducible repeat (first | apply Kd.V_alloc | apply Kd.V_drewN | apply Kd.V_drew)); exact HO_259002.out) hb)
                    have n2_ := Aside0.mk (Kd.R_below (by (with_reducible repeat (first | apply Kd.R_alloc | apply Kd.R_drewN | apply Kd.R_drew)); exact HO_276002.out) hb)
                    have n3_ := Aside0.mk (blk_below (g := gb258) (o := .cells #[.int .i64 ((rd_T58 t262 0).f0), .string ((rd_T58 t262 0).f1), .slice A265_2 ((rd_T58 t262 0).f2).length c265_2] 58 (0, 0)) (by (with_reducible repeat (first | refine blk_drewN ?_ _ | refine blk_drew ?_ | refine blk_alloc ?_ _)); exact BK258.out) hb)
                    have n4_ := Aside0.mk (blk_below (g := gb275) (o := .cells #[.int .i64 t269, .string t270, .slice Ao51 t271.length co51] 58 (0, 0)) (by (with_reducible repeat (first | refine blk_drewN ?_ _ | refine blk_drew ?_ | refine blk_alloc ?_ _)); exact BK275.out) hb)
                    have n5_ := Aside0.mk (below_step (by repeat (first | (with_reducible first | exact HB.out | apply below_alloc | apply pw_below_drewN | apply below_drew1 | refine below_set ?_ GE258.out | refine below_set ?_ GE275.out) | exact HB.out)) hb)
                    clear HO_1
                    clear HO_259002
                    clear HO_276002
                    clear BK258
                    clear BK275
                    clear HB
                    have HO_1 := n0_
                    have HO_259002 := n1_
                    have HO_276002 := n2_
                    have BK258 := n3_
                    have BK275 := n4_
                    have HB := n5_
                    clear n0_ n1_ n2_ n3_ n4_ n5_
                    (try clear hb)
                    (try clear hb2)
                    (try clear hk)
                    (try clear hi)
                    refine hK.out _ _ ⟨(blk_cell BK258.out 0).trans rfl, (blk_cell BK258.out 1).trans rfl, (blk_cell BK258.out 2).trans rfl, (blk_cell BK275.out 0).trans rfl, (blk_cell BK275.out 1).trans rfl, (blk_cell BK275.out 2).trans rfl⟩ (fun hHeld => ?_)
                    clear hK K
                    refine norm_ (a' := ?_) ?_ ?_
                    rotate_left
                    · show Act.put _ (some 76) _ = _
                      simp only [Act.put, List.setIfInBounds_toArray, List.set_cons_zero, List.set_cons_succ, i64_w, i32_w]
                      rfl
                    refine pure_ (i := 2) (N := some 77) (v := ?_) (a' := ?_) #[true, true, true, false, false, false, false, false, false, false, false, false, false, false, false, false, false, false, false, false, false, false, false, false, false, false, false, false, false, false, false, false] rfl rfl (any_of HT_.out (by kernel_rfl)) (fun _ _ _ h => h) (Or.inl ⟨by rfl, ?_⟩) ?_ ?_
                    rotate_left
                    · intro w'
                      go_simp
                      with_reducible rfl
                    rotate_left
                    · simp only [Act.put, List.setIfInBounds_toArray, List.set_cons_zero, List.set_cons_succ, i64_w, i32_w]
                      rfl
                    refine pure_ (i := 3) (N := some 78) (v := ?_) (a' := ?_) #[true, true, true, true, false, false, false, false, false, false, false, false, false, false, false, false, false, false, false, false, false, false, false, false, false, false, false, false, false, false, false, false] rfl rfl (any_of HT_.out (by kernel_rfl)) (fun _ _ _ h => h) (Or.inl ⟨by rfl, ?_⟩) ?_ ?_
                    rotate_left
                    · intro w'
                      go_simp
                      with_reducible rfl
                    rotate_left
                    · simp only [Act.put, List.setIfInBounds_toArray, List.set_cons_zero, List.set_cons_succ, i64_w, i32_w]
                      rfl
                    refine pure_ (i := 4) (N := some 79) (v := undef) (a' := ?_) #[true, true, true, true, true, false, false, false, false, false, false, false, false, false, false, false, false, false, false, false, false, false, false, false, false, false, false, false, false, false, false, false] rfl rfl (any_of HT_.out (by kernel_rfl)) (fun _ _ _ h => h) (Or.inr ⟨by rfl, rfl⟩) ?_ ?_
                    rotate_left
                    · simp only [Act.put, List.setIfInBounds_toArray, List.set_cons_zero, List.set_cons_succ, i64_w, i32_w]
                      rfl
                    refine pure_ (i := 5) (N := some 80) (v := undef) (a' := ?_) #[true, true, true, true, true, true, false, false, false, false, false, false, false, false, false, false, false, false, false, false, false, false, false, false, false, false, false, false, false, false, false, false] rfl rfl (any_of HT_.out (by kernel_rfl)) (fun _ _ _ h => h) (Or.inr ⟨by rfl, rfl⟩) ?_ ?_
                    rotate_left
                    · simp only [Act.put, List.setIfInBounds_toArray, List.set_cons_zero, List.set_cons_succ, i64_w, i32_w]
                      rfl
                    refine pure_ (i := 6) (N := some 81) (v := undef) (a' := ?_) #[true, true, true, true, true, true, true, false, false, false, false, false, false, false, false, false, false, false, false, false, false, false, false, false, false, false, false, false, false, false, false, false] rfl rfl (any_of HT_.out (by kernel_rfl)) (fun _ _ _ h => h) (Or.inr ⟨by rfl, rfl⟩) ?_ ?_
                    rotate_left
                    · simp only [Act.put, List.setIfInBounds_toArray, List.set_cons_zero, List.set_cons_succ, i64_w, i32_w]
                      rfl
                    refine pure_ (i := 7) (N := some 82) (v := undef) (a' := ?_) #[true, true, true, true, true, true, true, true, false, false, false, false, false, false, false, false, false, false, false, false, false, false, false, false, false, false, false, false, false, false, false, false] rfl rfl (any_of HT_.out (by kernel_rfl)) (fun _ _ _ h => h) (Or.inr ⟨by rfl, rfl⟩) ?_ ?_
                    rotate_left
                    · simp only [Act.put, List.setIfInBounds_toArray, List.set_cons_zero, List.set_cons_succ, i64_w, i32_w]
                      rfl
                    refine pure_ (i := 8) (N := some 83) (v := ?_) (a' := ?_) #[true, true, true, true, true, true, true, true, true, false, false, false, false, false, false, false, false, false, false, false, false, false, false, false, false, false, false, false, false, false, false, false] rfl rfl (any_of HT_.out (by kernel_rfl)) (fun _ _ _ h => h) (Or.inl ⟨by rfl, ?_⟩) ?_ ?_
                    rotate_left
                    · intro w'
                      go_simp
                      with_reducible rfl
                    rotate_left
                    · simp only [Act.put, List.setIfInBounds_toArray, List.set_cons_zero, List.set_cons_succ, i64_w, i32_w]
                      rfl
                    refine pure_ (i := 9) (N := some 84) (v := ?_) (a' := ?_) #[true, true, true, true, true, true, true, true, true, true, false, false, false, false, false, false, false, false, false, false, false, false, false, false, false, false, false, false, false, false, false, false] rfl rfl (any_of HT_.out (by kernel_rfl)) (fun _ _ _ h => h) (Or.inl ⟨by rfl, ?_⟩) ?_ ?_
                    rotate_left
                    · intro w'
                      go_simp
                      with_reducible rfl
                    rotate_left
                    · simp only [Act.put, List.setIfInBounds_toArray, List.set_cons_zero, List.set_cons_succ, i64_w, i32_w]
                      rfl
                    refine pure_ (i := 10) (N := some 85) (v := undef) (a' := ?_) #[true, true, true, true, true, true, true, true, true, true, true, false, false, false, false, false, false, false, false, false, false, false, false, false, false, false, false, false, false, false, false, false] rfl rfl (any_of HT_.out (by kernel_rfl)) (fun _ _ _ h => h) (Or.inr ⟨by rfl, rfl⟩) ?_ ?_
                    rotate_left
                    · simp only [Act.put, List.setIfInBounds_toArray, List.set_cons_zero, List.set_cons_succ, i64_w, i32_w]
                      rfl
                    refine pure_ (i := 11) (N := some 86) (v := undef) (a' := ?_) #[true, true, true, true, true, true, true, true, true, true, true, true, false, false, false, false, false, false, false, false, false, false, false, false, false, false, false, false, false, false, false, false] rfl rfl (any_of HT_.out (by kernel_rfl)) (fun _ _ _ h => h) (Or.inr ⟨by rfl, rfl⟩) ?_ ?_
                    rotate_left
                    · simp only [Act.put, List.setIfInBounds_toArray, List.set_cons_zero, List.set_cons_succ, i64_w, i32_w]
                      rfl
                    refine pure_ (i := 12) (N := some 87) (v := undef) (a' := ?_) #[true, true, true, true, true, true, true, true, true, true, true, true, true, false, false, false, false, false, false, false, false, false, false, false, false, false, false, false, false, false, false, false] rfl rfl (any_of HT_.out (by kernel_rfl)) (fun _ _ _ h => h) (Or.inr ⟨by rfl, rfl⟩) ?_ ?_
                    rotate_left
                    · simp only [Act.put, List.setIfInBounds_toArray, List.set_cons_zero, List.set_cons_succ, i64_w, i32_w]
                      rfl
                    refine pure_ (i := 13) (N := some 88) (v := undef) (a' := ?_) #[true, true, true, true, true, true, true, true, true, true, true, true, true, true, false, false, false, false, false, false, false, false, false, false, false, false, false, false, false, false, false, false] rfl rfl (any_of HT_.out (by kernel_rfl)) (fun _ _ _ h => h) (Or.inr ⟨by rfl, rfl⟩) ?_ ?_
                    rotate_left
                    · simp only [Act.put, List.setIfInBounds_toArray, List.set_cons_zero, List.set_cons_succ, i64_w, i32_w]
                      rfl
                    refine pure_ (i := 14) (N := some 89) (v := ?_) (a' := ?_) #[true, true, true, true, true, true, true, true, true, true, true, true, true, true, true, false, false, false, false, false, false, false, false, false, false, false, false, false, false, false, false, false] rfl rfl (any_of HT_.out (by kernel_rfl)) (fun _ _ _ h => h) (Or.inl ⟨by rfl, ?_⟩) ?_ ?_
                    rotate_left
                    · intro w'
                      go_simp
                      with_reducible rfl
                    rotate_left
                    · simp only [Act.put, List.setIfInBounds_toArray, List.set_cons_zero, List.set_cons_succ, i64_w, i32_w]
                      rfl
                    refine pure_ (i := 15) (N := some 90) (v := ?_) (a' := ?_) #[true, true, true, true, true, true, true, true, true, true, true, true, true, true, true, true, false, false, false, false, false, false, false, false, false, false, false, false, false, false, false, false] rfl rfl (any_of HT_.out (by kernel_rfl)) (fun _ _ _ h => h) (Or.inl ⟨by rfl, ?_⟩) ?_ ?_
                    rotate_left
                    · intro w'
                      go_simp
                      with_reducible rfl
                    rotate_left
                    · simp only [Act.put, List.setIfInBounds_toArray, List.set_cons_zero, List.set_cons_succ, i64_w, i32_w]
                      rfl
                    refine pure_ (i := 16) (N := some 91) (v := ?_) (a' := ?_) #[true, true, true, true, true, true, true, true, true, true, true, true, true, true, true, true, true, false, false, false, false, false, false, false, false, false, false, false, false, false, false, false] rfl rfl (any_of HT_.out (by kernel_rfl)) (fun _ _ _ h => h) (Or.inl ⟨by rfl, ?_⟩) ?_ ?_
                    rotate_left
                    · intro w'
                      go_simp
                      with_reducible rfl
                    rotate_left
                    · simp only [Act.put, List.setIfInBounds_toArray, List.set_cons_zero, List.set_cons_succ, i64_w, i32_w]
                      rfl
                    refine one_ (i := 17) (N := some 92) #[true, true, true, true, true, true, true, true, true, true, true, true, true, true, true, true, true, true, false, false, false, false, false, false, false, false, false, false, false, false, false, false] rfl rfl (one_of HT_.out (by kernel_rfl)) (by decide) (fun K hK => ?_)
                    refine goes_ Tryd.func52 (by kernel_rfl) rfl #[.slice Ao123 t266.length co123] (by rfl) rfl rfl (by (try simp only [List.map_toArray, List.map_cons, List.map_nil]); first | done | rfl | (simp only [List.length_drop, List.length_take]; rfl)) ?_
                    with_reducible refine (label_May.calls kj33 _ _ t266 true _ ?side1 ?side2 A116.out).mono ?_
                    (case side1 => repeat (first | exact (Kd.R_reads' HO_1.out).2.2 | (with_reducible refine Kd.C_alloc ?_ _) | (with_reducible refine Kd.C_drewN ?_ _) | (with_reducible refine Kd.C_drew ?_)))
                    (case side2 => exact (Kd.R_reads' HO_1.out).2.1)
                    rintro e w125 ⟨rfl, hb⟩
                    refine ⟨_, rfl, ?_⟩
                    have n0_ := Aside0.mk (Kd.R_below (by (with_reducible repeat (first | apply Kd.R_alloc | apply Kd.R_drewN | apply Kd.R_drew)); exact HO_1.out) hb)
                    have n1_ := Aside0.mk (Kd.V_below (by (with_reducible repeat (first | apply Kd.V_alloc | apply Kd.V_drewN | apply Kd.V_drew)); exact HO_259002.out) hb)
                    have n2_ := Aside0.mk (Kd.R_below (by (with_reducible repeat (first | apply Kd.R_alloc | apply Kd.R_drewN | apply Kd.R_drew)); exact HO_276002.out) hb)
                    have n3_ := Aside0.mk (blk_below (g := gb258) (o := .cells #[.int .i64 ((rd_T58 t262 0).f0), .string ((rd_T58 t262 0).f1), .slice A265_2 ((rd_T58 t262 0).f2).length c265_2] 58 (0, 0)) (by (with_reducible repeat (first | refine blk_drewN ?_ _ | refine blk_drew ?_ | refine blk_alloc ?_ _)); exact BK258.out) hb)
                    have n4_ := Aside0.mk (blk_below (g := gb275) (o := .cells #[.int .i64 t269, .string t270, .slice Ao51 t271.length co51] 58 (0, 0)) (by (with_reducible repeat (first | refine blk_drewN ?_ _ | refine blk_drew ?_ | refine blk_alloc ?_ _)); exact BK275.out) hb)
                    have n5_ := Aside0.mk (below_step (by repeat (first | (with_reducible first | exact HB.out | apply below_alloc | apply pw_below_drewN | apply below_drew1 | refine below_set ?_ GE258.out | refine below_set ?_ GE275.out) | exact HB.out)) hb)
                    clear HO_1
                    clear HO_259002
                    clear HO_276002
                    clear BK258
                    clear BK275
                    clear HB
                    have HO_1 := n0_
                    have HO_259002 := n1_
                    have HO_276002 := n2_
                    have BK258 := n3_
                    have BK275 := n4_
                    have HB := n5_
                    clear n0_ n1_ n2_ n3_ n4_ n5_
                    (try clear hb)
                    (try clear hb2)
                    (try clear hk)
                    (try clear hi)
                    refine hK.out _ _ ⟨(blk_cell BK258.out 0).trans rfl, (blk_cell BK258.out 1).trans rfl, (blk_cell BK258.out 2).trans rfl, (blk_cell BK275.out 0).trans rfl, (blk_cell BK275.out 1).trans rfl, (blk_cell BK275.out 2).trans rfl⟩ (fun hHeld => ?_)
                    clear hK K
                    refine norm_ (a' := ?_) ?_ ?_
                    rotate_left
                    · show Act.put _ (some 92) _ = _
                      simp only [Act.put, List.setIfInBounds_toArray, List.set_cons_zero, List.set_cons_succ, i64_w, i32_w]
                      rfl
                    refine pure_ (i := 18) (N := some 93) (v := ?_) (a' := ?_) #[true, true, true, true, true, true, true, true, true, true, true, true, true, true, true, true, true, true, true, false, false, false, false, false, false, false, false, false, false, false, false, false] rfl rfl (any_of HT_.out (by kernel_rfl)) (fun _ _ _ h => h) (Or.inl ⟨by rfl, ?_⟩) ?_ ?_
                    rotate_left
                    · intro w'
                      go_simp
                      with_reducible rfl
                    rotate_left
                    · simp only [Act.put, List.setIfInBounds_toArray, List.set_cons_zero, List.set_cons_succ, i64_w, i32_w]
                      rfl
                    refine pure_ (i := 20) (N := some 95) (v := ?_) (a' := ?_) #[true, true, true, true, true, true, true, true, true, true, true, true, true, true, true, true, true, true, true, false, true, false, false, false, false, false, false, false, false, false, false, false] rfl rfl (any_of HT_.out (by kernel_rfl)) (fun _ _ _ h => h) (Or.inl ⟨by rfl, ?_⟩) ?_ ?_
                    rotate_left
                    · intro w'
                      go_simp
                      with_reducible rfl
                    rotate_left
                    · simp only [Act.put, List.setIfInBounds_toArray, List.set_cons_zero, List.set_cons_succ, i64_w, i32_w]
                      rfl
                    refine pure_ (i := 23) (N := some 98) (v := ?_) (a' := ?_) #[true, true, true, true, true, true, true, true, true, true, true, true, true, true, true, true, true, true, true, false, true, false, false, true, false, false, false, false, false, false, false, false] rfl rfl (any_of HT_.out (by kernel_rfl)) (fun _ _ _ h => h) (Or.inl ⟨by rfl, ?_⟩) ?_ ?_
                    rotate_left
                    · intro w'
                      go_simp
                      with_reducible rfl
                    rotate_left
                    · simp only [Act.put, List.setIfInBounds_toArray, List.set_cons_zero, List.set_cons_succ, i64_w, i32_w]
                      rfl
                    refine take_ (i := 19) (N := some 94) (v := ?_) (a' := ?_) #[true, true, true, true, true, true, true, true, true, true, true, true, true, true, true, true, true, true, true, true, true, false, false, true, false, false, false, false, false, false, false, false] rfl rfl (take_ofW HT_.out HW_.out (by kernel_rfl)) (fun _ _ _ h => h) (Or.inl ⟨by rfl, ?_⟩) hHeld ?_ ?_
                    rotate_left
                    · rintro w' ⟨s0, s1, s2, s3, s4, s5⟩
                      go_simp
                      with_reducible rfl
                    rotate_left
                    · simp only [Act.put, List.setIfInBounds_toArray, List.set_cons_zero, List.set_cons_succ, i64_w, i32_w]
                      rfl
                    refine take_ (i := 22) (N := some 97) (v := ?_) (a' := ?_) #[true, true, true, true, true, true, true, true, true, true, true, true, true, true, true, true, true, true, true, true, true, false, true, true, false, false, false, false, false, false, false, false] rfl rfl (take_ofW HT_.out HW_.out (by kernel_rfl)) (fun _ _ _ h => h) (Or.inl ⟨by rfl, ?_⟩) hHeld ?_ ?_
                    rotate_left
                    · rintro w' ⟨s0, s1, s2, s3, s4, s5⟩
                      go_simp
                      with_reducible rfl
                    rotate_left
                    · simp only [Act.put, List.setIfInBounds_toArray, List.set_cons_zero, List.set_cons_succ, i64_w, i32_w]
                      rfl
                    refine one_ (i := 21) (N := some 96) #[true, true, true, true, true, true, true, true, true, true, true, true, true, true, true, true, true, true, true, true, true, true, true, true, false, false, false, false, false, false, false, false] rfl rfl (one_of HT_.out (by kernel_rfl)) (by decide) (fun K hK => ?_)
                    refine goes_ Tryd.func54 (by kernel_rfl) rfl #[.agg #[.int .i64 ((rd_T58 t262 0).f0), .string ((rd_T58 t262 0).f1), .slice A265_2 ((rd_T58 t262 0).f2).length c265_2], .slice Ao123 t266.length co123] (by rfl) rfl rfl (by (try simp only [List.map_toArray, List.map_cons, List.map_nil]); first | done | rfl | (simp only [List.length_drop, List.length_take]; rfl)) ?_
                    with_reducible refine (label_Met.calls ((rd_T58 t262 0).f0) ((rd_T58 t262 0).f1) _ _ ((rd_T58 t262 0).f2) _ _ t266 t298 _ ?side1 ?side2 ?side3 ?side4 A118.out).mono ?_
                    (case side1 => repeat (first | exact (Kd.V_reads' HO_259002.out).2.2 | (with_reducible refine Kd.C_alloc ?_ _) | (with_reducible refine Kd.C_drewN ?_ _) | (with_reducible refine Kd.C_drew ?_)))
                    (case side2 => exact (Kd.V_reads' HO_259002.out).2.1)
                    (case side3 => repeat (first | exact (Kd.R_reads' HO_1.out).2.2 | (with_reducible refine Kd.C_alloc ?_ _) | (with_reducible refine Kd.C_drewN ?_ _) | (with_reducible refine Kd.C_drew ?_)))
                    (case side4 => exact (Kd.R_reads' HO_1.out).2.1)
                    rintro e w126 ⟨rfl, hb⟩
                    refine ⟨_, rfl, ?_⟩
                    have n0_ := Aside0.mk (Kd.R_below (by (with_reducible repeat (first | apply Kd.R_alloc | apply Kd.R_drewN | apply Kd.R_drew)); exact HO_1.out) hb)
                    have n1_ := Aside0.mk (Kd.V_below (by (with_reducible repeat (first | apply Kd.V_alloc | apply Kd.V_drewN | apply Kd.V_drew)); exact HO_259002.out) hb)
                    have n2_ := Aside0.mk (Kd.R_below (by (with_reducible repeat (first | apply Kd.R_alloc | apply Kd.R_drewN | apply Kd.R_drew)); exact HO_276002.out) hb)
                    have n3_ := Aside0.mk (blk_below (g := gb258) (o := .cells #[.int .i64 ((rd_T58 t262 0).f0), .string ((rd_T58 t262 0).f1), .slice A265_2 ((rd_T58 t262 0).f2).length c265_2] 58 (0, 0)) (by (with_reducible repeat (first | refine blk_drewN ?_ _ | refine blk_drew ?_ | refine blk_alloc ?_ _)); exact BK258.out) hb)
                    have n4_ := Aside0.mk (blk_below (g := gb275) (o := .cells #[.int .i64 t269, .string t270, .slice Ao51 t271.length co51] 58 (0, 0)) (by (with_reducible repeat (first | refine blk_drewN ?_ _ | refine blk_drew ?_ | refine blk_alloc ?_ _)); exact BK275.out) hb)
                    have n5_ := Aside0.mk (below_step (by repeat (first | (with_reducible first | exact HB.out | apply below_alloc | apply pw_below_drewN | apply below_drew1 | refine below_set ?_ GE258.out | refine below_set ?_ GE275.out) | exact HB.out)) hb)
                    clear HO_1
                    clear HO_259002
                    clear HO_276002
                    clear BK258
                    clear BK275
                    clear HB
                    have HO_1 := n0_
                    have HO_259002 := n1_
                    have HO_276002 := n2_
                    have BK258 := n3_
                    have BK275 := n4_
                    have HB := n5_
                    clear n0_ n1_ n2_ n3_ n4_ n5_
                    (try clear hb)
                    (try clear hb2)
                    (try clear hk)
                    (try clear hi)
                    refine hK.out _ _ ⟨(blk_cell BK258.out 0).trans rfl, (blk_cell BK258.out 1).trans rfl, (blk_cell BK258.out 2).trans rfl, (blk_cell BK275.out 0).trans rfl, (blk_cell BK275.out 1).trans rfl, (blk_cell BK275.out 2).trans rfl⟩ (fun hHeld => ?_)
                    clear hK K
                    refine norm_ (a' := ?_) ?_ ?_
                    rotate_left
                    · show Act.put _ (some 96) _ = _
                      simp only [Act.put, List.setIfInBounds_toArray, List.set_cons_zero, List.set_cons_succ, i64_w, i32_w]
                      rfl
                    refine one_ (i := 24) (N := some 99) #[true, true, true, true, true, true, true, true, true, true, true, true, true, true, true, true, true, true, true, true, true, true, true, true, true, false, false, false, false, false, false, false] rfl rfl (one_of HT_.out (by kernel_rfl)) (by decide) (fun K hK => ?_)
                    refine goes_ Tryd.func54 (by kernel_rfl) rfl #[.agg #[.int .i64 t269, .string t270, .slice Ao51 t271.length co51], .slice Ao123 t266.length co123] (by rfl) rfl rfl (by (try simp only [List.map_toArray, List.map_cons, List.map_nil]); first | done | rfl | (simp only [List.length_drop, List.length_take]; rfl)) ?_
                    with_reducible refine (label_Met.calls t269 t270 _ _ t271 _ _ t266 t299 _ ?side1 ?side2 ?side3 ?side4 A119.out).mono ?_
                    (case side1 => repeat (first | exact (Kd.R_reads' HO_276002.out).2.2 | (with_reducible refine Kd.C_alloc ?_ _) | (with_reducible refine Kd.C_drewN ?_ _) | (with_reducible refine Kd.C_drew ?_)))
                    (case side2 => exact (Kd.R_reads' HO_276002.out).2.1)
                    (case side3 => repeat (first | exact (Kd.R_reads' HO_1.out).2.2 | (with_reducible refine Kd.C_alloc ?_ _) | (with_reducible refine Kd.C_drewN ?_ _) | (with_reducible refine Kd.C_drew ?_)))
                    (case side4 => exact (Kd.R_reads' HO_1.out).2.1)
                    rintro e w127 ⟨rfl, hb⟩
                    refine ⟨_, rfl, ?_⟩
                    have n0_ := Aside0.mk (Kd.R_below (by (with_reducible repeat (first | apply Kd.R_alloc | apply Kd.R_drewN | apply Kd.R_drew)); exact HO_1.out) hb)
                    have n1_ := Aside0.mk (Kd.V_below (by (with_reducible repeat (first | apply Kd.V_alloc | apply Kd.V_drewN | apply Kd.V_drew)); exact HO_259002.out) hb)
                    have n2_ := Aside0.mk (Kd.R_below (by (with_reducible repeat (first | apply Kd.R_alloc | apply Kd.R_drewN | apply Kd.R_drew)); exact HO_276002.out) hb)
                    have n3_ := Aside0.mk (blk_below (g := gb258) (o := .cells #[.int .i64 ((rd_T58 t262 0).f0), .string ((rd_T58 t262 0).f1), .slice A265_2 ((rd_T58 t262 0).f2).length c265_2] 58 (0, 0)) (by (with_reducible repeat (first | refine blk_drewN ?_ _ | refine blk_drew ?_ | refine blk_alloc ?_ _)); exact BK258.out) hb)
                    have n4_ := Aside0.mk (blk_below (g := gb275) (o := .cells #[.int .i64 t269, .string t270, .slice Ao51 t271.length co51] 58 (0, 0)) (by (with_reducible repeat (first | refine blk_drewN ?_ _ | refine blk_drew ?_ | refine blk_alloc ?_ _)); exact BK275.out) hb)
                    have n5_ := Aside0.mk (below_step (by repeat (first | (with_reducible first | exact HB.out | apply below_alloc | apply pw_below_drewN | apply below_drew1 | refine below_set ?_ GE258.out | refine below_set ?_ GE275.out) | exact HB.out)) hb)
                    clear HO_1
                    clear HO_259002
                    clear HO_276002
                    clear BK258
                    clear BK275
                    clear HB
                    have HO_1 := n0_
                    have HO_259002 := n1_
                    have HO_276002 := n2_
                    have BK258 := n3_
                    have BK275 := n4_
                    have HB := n5_
                    clear n0_ n1_ n2_ n3_ n4_ n5_
                    (try clear hb)
                    (try clear hb2)
                    (try clear hk)
                    (try clear hi)
                    refine hK.out _ _ ⟨(blk_cell BK258.out 0).trans rfl, (blk_cell BK258.out 1).trans rfl, (blk_cell BK258.out 2).trans rfl, (blk_cell BK275.out 0).trans rfl, (blk_cell BK275.out 1).trans rfl, (blk_cell BK275.out 2).trans rfl⟩ (fun hHeld => ?_)
                    clear hK K
                    refine norm_ (a' := ?_) ?_ ?_
                    rotate_left
                    · show Act.put _ (some 99) _ = _
                      simp only [Act.put, List.setIfInBounds_toArray, List.set_cons_zero, List.set_cons_succ, i64_w, i32_w]
                      rfl
                    refine pure_ (i := 25) (N := some 100) (v := ?_) (a' := ?_) #[true, true, true, true, true, true, true, true, true, true, true, true, true, true, true, true, true, true, true, true, true, true, true, true, true, true, false, false, false, false, false, false] rfl rfl (any_of HT_.out (by kernel_rfl)) (fun _ _ _ h => h) (Or.inl ⟨by rfl, ?_⟩) ?_ ?_
                    rotate_left
                    · intro w'
                      go_simp
                      with_reducible rfl
                    rotate_left
                    · simp only [Act.put, List.setIfInBounds_toArray, List.set_cons_zero, List.set_cons_succ, i64_w, i32_w]
                      rfl
                    refine pure_ (i := 26) (N := some 101) (v := ?_) (a' := ?_) #[true, true, true, true, true, true, true, true, true, true, true, true, true, true, true, true, true, true, true, true, true, true, true, true, true, true, true, false, false, false, false, false] rfl rfl (any_of HT_.out (by kernel_rfl)) (fun _ _ _ h => h) (Or.inl ⟨by rfl, ?_⟩) ?_ ?_
                    rotate_left
                    · intro w'
                      go_simp
                      with_reducible rfl
                    rotate_left
                    · simp only [Act.put, List.setIfInBounds_toArray, List.set_cons_zero, List.set_cons_succ, i64_w, i32_w]
                      rfl
                    refine pure_ (i := 27) (N := some 102) (v := ?_) (a' := ?_) #[true, true, true, true, true, true, true, true, true, true, true, true, true, true, true, true, true, true, true, true, true, true, true, true, true, true, true, true, false, false, false, false] rfl rfl (any_of HT_.out (by kernel_rfl)) (fun _ _ _ h => h) (Or.inl ⟨by rfl, ?_⟩) ?_ ?_
                    rotate_left
                    · intro w'
                      go_simp
                      with_reducible rfl
                    rotate_left
                    · simp only [Act.put, List.setIfInBounds_toArray, List.set_cons_zero, List.set_cons_succ, i64_w, i32_w]
                      rfl
                    refine pure_ (i := 28) (N := some 103) (v := ?_) (a' := ?_) #[true, true, true, true, true, true, true, true, true, true, true, true, true, true, true, true, true, true, true, true, true, true, true, true, true, true, true, true, true, false, false, false] rfl rfl (any_of HT_.out (by kernel_rfl)) (fun _ _ _ h => h) (Or.inl ⟨by rfl, ?_⟩) ?_ ?_
                    rotate_left
                    · intro w'
                      go_simp
                      with_reducible rfl
                    rotate_left
                    · simp only [Act.put, List.setIfInBounds_toArray, List.set_cons_zero, List.set_cons_succ, i64_w, i32_w]
                      rfl
                    refine one_ (i := 29) (N := some 104) #[true, true, true, true, true, true, true, true, true, true, true, true, true, true, true, true, true, true, true, true, true, true, true, true, true, true, true, true, true, true, false, false] rfl rfl (one_of HT_.out (by kernel_rfl)) (by decide) (fun K hK => ?_)
                    refine goes_ Tryd.func53 (by kernel_rfl) rfl #[] (by rfl) rfl rfl (by (try simp only [List.map_toArray, List.map_cons, List.map_nil]); first | done | rfl | (simp only [List.length_drop, List.length_take]; rfl)) ?_
                    with_reducible refine (tolllaw08_awake.calls  true _ A121.out).mono ?_
                    rintro e w128 ⟨rfl, hb⟩
                    refine ⟨_, rfl, ?_⟩
                    have n0_ := Aside0.mk (Kd.R_below (by (with_reducible repeat (first | apply Kd.R_alloc | apply Kd.R_drewN | apply Kd.R_drew)); exact HO_1.out) hb)
                    have n1_ := Aside0.mk (Kd.V_below (by (with_reducible repeat (first | apply Kd.V_alloc | apply Kd.V_drewN | apply Kd.V_drew)); exact HO_259002.out) hb)
                    have n2_ := Aside0.mk (Kd.R_below (by (with_reducible repeat (first | apply Kd.R_alloc | apply Kd.R_drewN | apply Kd.R_drew)); exact HO_276002.out) hb)
                    have n3_ := Aside0.mk (blk_below (g := gb258) (o := .cells #[.int .i64 ((rd_T58 t262 0).f0), .string ((rd_T58 t262 0).f1), .slice A265_2 ((rd_T58 t262 0).f2).length c265_2] 58 (0, 0)) (by (with_reducible repeat (first | refine blk_drewN ?_ _ | refine blk_drew ?_ | refine blk_alloc ?_ _)); exact BK258.out) hb)
                    have n4_ := Aside0.mk (blk_below (g := gb275) (o := .cells #[.int .i64 t269, .string t270, .slice Ao51 t271.length co51] 58 (0, 0)) (by (with_reducible repeat (first | refine blk_drewN ?_ _ | refine blk_drew ?_ | refine blk_alloc ?_ _)); exact BK275.out) hb)
                    have n5_ := Aside0.mk (below_step (by repeat (first | (with_reducible first | exact HB.out | apply below_alloc | apply pw_below_drewN | apply below_drew1 | refine below_set ?_ GE258.out | refine below_set ?_ GE275.out) | exact HB.out)) hb)
                    clear HO_1
                    clear HO_259002
                    clear HO_276002
                    clear BK258
                    clear BK275
                    clear HB
                    have HO_1 := n0_
                    have HO_259002 := n1_
                    have HO_276002 := n2_
                    have BK258 := n3_
                    have BK275 := n4_
                    have HB := n5_
                    clear n0_ n1_ n2_ n3_ n4_ n5_
                    (try clear hb)
                    (try clear hb2)
                    (try clear hk)
                    (try clear hi)
                    refine hK.out _ _ ⟨(blk_cell BK258.out 0).trans rfl, (blk_cell BK258.out 1).trans rfl, (blk_cell BK258.out 2).trans rfl, (blk_cell BK275.out 0).trans rfl, (blk_cell BK275.out 1).trans rfl, (blk_cell BK275.out 2).trans rfl⟩ (fun hHeld => ?_)
                    clear hK K
                    refine norm_ (a' := ?_) ?_ ?_
                    rotate_left
                    · show Act.put _ (some 104) _ = _
                      simp only [Act.put, List.setIfInBounds_toArray, List.set_cons_zero, List.set_cons_succ, i64_w, i32_w]
                      rfl
                    refine pure_ (i := 30) (N := some 105) (v := ?_) (a' := ?_) #[true, true, true, true, true, true, true, true, true, true, true, true, true, true, true, true, true, true, true, true, true, true, true, true, true, true, true, true, true, true, true, false] rfl rfl (any_of HT_.out (by kernel_rfl)) (fun _ _ _ h => h) (Or.inl ⟨by rfl, ?_⟩) ?_ ?_
                    rotate_left
                    · intro w'
                      go_simp
                      with_reducible rfl
                    rotate_left
                    · simp only [Act.put, List.setIfInBounds_toArray, List.set_cons_zero, List.set_cons_succ, i64_w, i32_w]
                      rfl
                    refine pure_ (i := 31) (N := some 4) (v := ?_) (a' := ?_) #[true, true, true, true, true, true, true, true, true, true, true, true, true, true, true, true, true, true, true, true, true, true, true, true, true, true, true, true, true, true, true, true] rfl rfl (any_of HT_.out (by kernel_rfl)) (fun _ _ _ h => h) (Or.inl ⟨by rfl, ?_⟩) ?_ ?_
                    rotate_left
                    · intro w'
                      go_simp
                      with_reducible rfl
                    rotate_left
                    · simp only [Act.put, List.setIfInBounds_toArray, List.set_cons_zero, List.set_cons_succ, i64_w, i32_w]
                      rfl
                    refine done_ (done_of HT_.out (by kernel_rfl)) ?_
                    try go_wp2
                    go_ret
                    exact ⟨by first | rfl | (simp [errW_none, errW_some] <;> rfl) | (simp [*, errW_none, errW_some] <;> rfl), by repeat (first | (with_reducible first | exact HB.out | apply below_alloc | apply pw_below_drewN | apply below_drew1 | refine below_set ?_ GE258.out | refine below_set ?_ GE275.out) | exact HB.out)⟩
                  · rw [if_neg c120] at H
                    exact absurd H (by simp)
                · replace c117 := Bool.eq_false_iff.mpr c117
                  subst c117
                  exact absurd (A114.out.symm.trans A116.out) (by simp)
              · replace c115 := Bool.eq_false_iff.mpr c115
                subst c115
                have H1 : ((label_Met.f ((rd_T58 t262 0).f0) ((rd_T58 t262 0).f1) ((rd_T58 t262 0).f2) t266).bind fun t301 => (if t301 = true then ((label_May.f kj33 t266).bind fun t302 => (if t302 = true then ((label_Met.f ((rd_T58 t262 0).f0) ((rd_T58 t262 0).f1) ((rd_T58 t262 0).f2) t266).bind fun t303 => ((label_Met.f t269 t270 t271 t266).bind fun t304 => (if (t303 != t304) = true then ((tolllaw08_awake.f).bind fun t305 => (some t305)) else (some false)))) else (some false))) else ((label_Met.f t269 t270 t271 t266).bind fun t306 => (if t306 = true then ((label_May.f kj33 t266).bind fun t307 => (if t307 = true then ((label_Met.f ((rd_T58 t262 0).f0) ((rd_T58 t262 0).f1) ((rd_T58 t262 0).f2) t266).bind fun t308 => ((label_Met.f t269 t270 t271 t266).bind fun t309 => (if (t308 != t309) = true then ((tolllaw08_awake.f).bind fun t310 => (some t310)) else (some false)))) else (some false))) else ((tolllaw08_awake.f).bind fun t311 => (some t311)))))) = some true := by rw [if_neg (show ¬ (false = true) by decide)] at H; exact H
                clear H
                have H := H1
                clear H1
                replace H := Option.bind_eq_some_iff.mp H
                obtain ⟨t301, A1390, H⟩ := H
                replace H : (if t301 = true then ((label_May.f kj33 t266).bind fun t302 => (if t302 = true then ((label_Met.f ((rd_T58 t262 0).f0) ((rd_T58 t262 0).f1) ((rd_T58 t262 0).f2) t266).bind fun t303 => ((label_Met.f t269 t270 t271 t266).bind fun t304 => (if (t303 != t304) = true then ((tolllaw08_awake.f).bind fun t305 => (some t305)) else (some false)))) else (some false))) else ((label_Met.f t269 t270 t271 t266).bind fun t306 => (if t306 = true then ((label_May.f kj33 t266).bind fun t307 => (if t307 = true then ((label_Met.f ((rd_T58 t262 0).f0) ((rd_T58 t262 0).f1) ((rd_T58 t262 0).f2) t266).bind fun t308 => ((label_Met.f t269 t270 t271 t266).bind fun t309 => (if (t308 != t309) = true then ((tolllaw08_awake.f).bind fun t310 => (some t310)) else (some false)))) else (some false))) else ((tolllaw08_awake.f).bind fun t311 => (some t311))))) = some true := H
                have A139 := Aside0.mk A1390
                clear A1390
                by_cases c140 : t301 = true
                · subst c140
                  have H1 : ((label_May.f kj33 t266).bind fun t302 => (if t302 = true then ((label_Met.f ((rd_T58 t262 0).f0) ((rd_T58 t262 0).f1) ((rd_T58 t262 0).f2) t266).bind fun t303 => ((label_Met.f t269 t270 t271 t266).bind fun t304 => (if (t303 != t304) = true then ((tolllaw08_awake.f).bind fun t305 => (some t305)) else (some false)))) else (some false))) = some true := by rw [if_pos rfl] at H; exact H
                  clear H
                  have H := H1
                  clear H1
                  replace H := Option.bind_eq_some_iff.mp H
                  obtain ⟨t302, A1410, H⟩ := H
                  replace H : (if t302 = true then ((label_Met.f ((rd_T58 t262 0).f0) ((rd_T58 t262 0).f1) ((rd_T58 t262 0).f2) t266).bind fun t303 => ((label_Met.f t269 t270 t271 t266).bind fun t304 => (if (t303 != t304) = true then ((tolllaw08_awake.f).bind fun t305 => (some t305)) else (some false)))) else (some false)) = some true := H
                  have A141 := Aside0.mk A1410
                  clear A1410
                  by_cases c142 : t302 = true
                  · subst c142
                    exact absurd (A114.out.symm.trans A141.out) (by simp)
                  · replace c142 := Bool.eq_false_iff.mpr c142
                    subst c142
                    have H1 : (some false) = some true := by rw [if_neg (show ¬ (false = true) by decide)] at H; exact H
                    exact absurd H1 (by simp)
                · replace c140 := Bool.eq_false_iff.mpr c140
                  subst c140
                  have H1 : ((label_Met.f t269 t270 t271 t266).bind fun t306 => (if t306 = true then ((label_May.f kj33 t266).bind fun t307 => (if t307 = true then ((label_Met.f ((rd_T58 t262 0).f0) ((rd_T58 t262 0).f1) ((rd_T58 t262 0).f2) t266).bind fun t308 => ((label_Met.f t269 t270 t271 t266).bind fun t309 => (if (t308 != t309) = true then ((tolllaw08_awake.f).bind fun t310 => (some t310)) else (some false)))) else (some false))) else ((tolllaw08_awake.f).bind fun t311 => (some t311)))) = some true := by rw [if_neg (show ¬ (false = true) by decide)] at H; exact H
                  clear H
                  have H := H1
                  clear H1
                  replace H := Option.bind_eq_some_iff.mp H
                  obtain ⟨t306, A1670, H⟩ := H
                  replace H : (if t306 = true then ((label_May.f kj33 t266).bind fun t307 => (if t307 = true then ((label_Met.f ((rd_T58 t262 0).f0) ((rd_T58 t262 0).f1) ((rd_T58 t262 0).f2) t266).bind fun t308 => ((label_Met.f t269 t270 t271 t266).bind fun t309 => (if (t308 != t309) = true then ((tolllaw08_awake.f).bind fun t310 => (some t310)) else (some false)))) else (some false))) else ((tolllaw08_awake.f).bind fun t311 => (some t311))) = some true := H
                  have A167 := Aside0.mk A1670
                  clear A1670
                  by_cases c168 : t306 = true
                  · subst c168
                    have H1 : ((label_May.f kj33 t266).bind fun t307 => (if t307 = true then ((label_Met.f ((rd_T58 t262 0).f0) ((rd_T58 t262 0).f1) ((rd_T58 t262 0).f2) t266).bind fun t308 => ((label_Met.f t269 t270 t271 t266).bind fun t309 => (if (t308 != t309) = true then ((tolllaw08_awake.f).bind fun t310 => (some t310)) else (some false)))) else (some false))) = some true := by rw [if_pos rfl] at H; exact H
                    clear H
                    have H := H1
                    clear H1
                    replace H := Option.bind_eq_some_iff.mp H
                    obtain ⟨t307, A1690, H⟩ := H
                    replace H : (if t307 = true then ((label_Met.f ((rd_T58 t262 0).f0) ((rd_T58 t262 0).f1) ((rd_T58 t262 0).f2) t266).bind fun t308 => ((label_Met.f t269 t270 t271 t266).bind fun t309 => (if (t308 != t309) = true then ((tolllaw08_awake.f).bind fun t310 => (some t310)) else (some false)))) else (some false)) = some true := H
                    have A169 := Aside0.mk A1690
                    clear A1690
                    by_cases c170 : t307 = true
                    · subst c170
                      exact absurd (A114.out.symm.trans A169.out) (by simp)
                    · replace c170 := Bool.eq_false_iff.mpr c170
                      subst c170
                      have H1 : (some false) = some true := by rw [if_neg (show ¬ (false = true) by decide)] at H; exact H
                      exact absurd H1 (by simp)
                  · replace c168 := Bool.eq_false_iff.mpr c168
                    subst c168
                    have H1 : ((tolllaw08_awake.f).bind fun t311 => (some t311)) = some true := by rw [if_neg (show ¬ (false = true) by decide)] at H; exact H
                    clear H
                    have H := H1
                    clear H1
                    replace H := Option.bind_eq_some_iff.mp H
                    obtain ⟨t311, A1980, H⟩ := H
                    replace H : (some t311) = some true := H
                    have A198 := Aside0.mk A1980
                    clear A1980
                    obtain rfl := Option.some.inj H
                    try go_wp2
                    have n0_ := Aside0.mk (Kd.R_drew HO_1.out)
                    have n1_ := Aside0.mk (Kd.V_drew HO_259002.out)
                    have n2_ := Aside0.mk (Kd.R_drew HO_276002.out)
                    have n3_ := Aside0.mk (blk_drew BK258.out)
                    have n4_ := Aside0.mk (blk_drew BK275.out)
                    have n5_ := Aside0.mk (below_drew1 HB.out)
                    clear HO_1
                    clear HO_259002
                    clear HO_276002
                    clear BK258
                    clear BK275
                    clear HB
                    have HO_1 := n0_
                    have HO_259002 := n1_
                    have HO_276002 := n2_
                    have BK258 := n3_
                    have BK275 := n4_
                    have HB := n5_
                    clear n0_ n1_ n2_ n3_ n4_ n5_
                    obtain ⟨Ao200, co200, eo200⟩ := Kd.R_slice HO_1.out
                    (first | subst eo200 | (injection eo200 with f1_ f2_ f3_; have f4_ := f1_.symm; have f5_ := f3_.symm; clear f1_ f2_ f3_; subst f4_; subst f5_))
                    refine start_ (n := 32) (S := fun w' => w'.cell? ⟨gb258, 0, none⟩ = some (.int .i64 ((rd_T58 t262 0).f0)) ∧ w'.cell? ⟨gb258, 1, none⟩ = some (.string ((rd_T58 t262 0).f1)) ∧ w'.cell? ⟨gb258, 2, none⟩ = some (.slice A265_2 ((rd_T58 t262 0).f2).length c265_2) ∧ w'.cell? ⟨gb275, 0, none⟩ = some (.int .i64 t269) ∧ w'.cell? ⟨gb275, 1, none⟩ = some (.string t270) ∧ w'.cell? ⟨gb275, 2, none⟩ = some (.slice Ao51 t271.length co51)) (ds := []) #[false, false, false, false, false, false, false, false, false, false, false, false, false, false, false, false, false, false, false, false, false, false, false, false, false, false, false, false, false, false, false, false] (by kernel_rfl) rfl rfl ⟨(blk_cell BK258.out 0).trans rfl, (blk_cell BK258.out 1).trans rfl, (blk_cell BK258.out 2).trans rfl, (blk_cell BK275.out 0).trans rfl, (blk_cell BK275.out 1).trans rfl, (blk_cell BK275.out 2).trans rfl⟩ (fun hHeld => ?_); refine with_tabW tolllaw08_LabelNots.tab10 tolllaw08_LabelNots.bits10 (fun HT_ HW_ => ?_)
                    generalize wc.drew = w199 at HO_1 HO_259002 HO_276002 BK258 BK275 HB hHeld ⊢
                    refine pure_ (i := 0) (N := some 75) (v := ?_) (a' := ?_) #[true, false, false, false, false, false, false, false, false, false, false, false, false, false, false, false, false, false, false, false, false, false, false, false, false, false, false, false, false, false, false, false] rfl rfl (any_of HT_.out (by kernel_rfl)) (fun _ _ _ h => h) (Or.inl ⟨by rfl, ?_⟩) ?_ ?_
                    rotate_left
                    · intro w'
                      go_simp
                      with_reducible rfl
                    rotate_left
                    · simp only [Act.put, List.setIfInBounds_toArray, List.set_cons_zero, List.set_cons_succ, i64_w, i32_w]
                      rfl
                    refine one_ (i := 1) (N := some 76) #[true, true, false, false, false, false, false, false, false, false, false, false, false, false, false, false, false, false, false, false, false, false, false, false, false, false, false, false, false, false, false, false] rfl rfl (one_of HT_.out (by kernel_rfl)) (by decide) (fun K hK => ?_)
                    refine goes_ Tryd.func52 (by kernel_rfl) rfl #[.slice Ao200 t266.length co200] (by rfl) rfl rfl (by (try simp only [List.map_toArray, List.map_cons, List.map_nil]); first | done | rfl | (simp only [List.length_drop, List.length_take]; rfl)) ?_
                    with_reducible refine (label_May.calls kj33 _ _ t266 false _ ?side1 ?side2 A114.out).mono ?_
                    (case side1 => repeat (first | exact (Kd.R_reads' HO_1.out).2.2 | (with_reducible refine Kd.C_alloc ?_ _) | (with_reducible refine Kd.C_drewN ?_ _) | (with_reducible refine Kd.C_drew ?_)))
                    (case side2 => exact (Kd.R_reads' HO_1.out).2.1)
                    rintro e w201 ⟨rfl, hb⟩
                    refine ⟨_, rfl, ?_⟩
                    have n0_ := Aside0.mk (Kd.R_below (by (with_reducible repeat (first | apply Kd.R_alloc | apply Kd.R_drewN | apply Kd.R_drew)); exact HO_1.out) hb)
                    have n1_ := Aside0.mk (Kd.V_below (by (with_reducible repeat (first | apply Kd.V_alloc | apply Kd.V_drewN | apply Kd.V_drew)); exact HO_259002.out) hb)
                    have n2_ := Aside0.mk (Kd.R_below (by (with_reducible repeat (first | apply Kd.R_alloc | apply Kd.R_drewN | apply Kd.R_drew)); exact HO_276002.out) hb)
                    have n3_ := Aside0.mk (blk_below (g := gb258) (o := .cells #[.int .i64 ((rd_T58 t262 0).f0), .string ((rd_T58 t262 0).f1), .slice A265_2 ((rd_T58 t262 0).f2).length c265_2] 58 (0, 0)) (by (with_reducible repeat (first | refine blk_drewN ?_ _ | refine blk_drew ?_ | refine blk_alloc ?_ _)); exact BK258.out) hb)
                    have n4_ := Aside0.mk (blk_below (g := gb275) (o := .cells #[.int .i64 t269, .string t270, .slice Ao51 t271.length co51] 58 (0, 0)) (by (with_reducible repeat (first | refine blk_drewN ?_ _ | refine blk_drew ?_ | refine blk_alloc ?_ _)); exact BK275.out) hb)
                    have n5_ := Aside0.mk (below_step (by repeat (first | (with_reducible first | exact HB.out | apply below_alloc | apply pw_below_drewN | apply below_drew1 | refine below_set ?_ GE258.out | refine below_set ?_ GE275.out) | exact HB.out)) hb)
                    clear HO_1
                    clear HO_259002
                    clear HO_276002
                    clear BK258
                    clear BK275
                    clear HB
                    have HO_1 := n0_
                    have HO_259002 := n1_
                    have HO_276002 := n2_
                    have BK258 := n3_
                    have BK275 := n4_
                    have HB := n5_
                    clear n0_ n1_ n2_ n3_ n4_ n5_
                    (try clear hb)
                    (try clear hb2)
                    (try clear hk)
                    (try clear hi)
                    refine hK.out _ _ ⟨(blk_cell BK258.out 0).trans rfl, (blk_cell BK258.out 1).trans rfl, (blk_cell BK258.out 2).trans rfl, (blk_cell BK275.out 0).trans rfl, (blk_cell BK275.out 1).trans rfl, (blk_cell BK275.out 2).trans rfl⟩ (fun hHeld => ?_)
                    clear hK K
                    refine norm_ (a' := ?_) ?_ ?_
                    rotate_left
                    · show Act.put _ (some 76) _ = _
                      simp only [Act.put, List.setIfInBounds_toArray, List.set_cons_zero, List.set_cons_succ, i64_w, i32_w]
                      rfl
                    refine pure_ (i := 2) (N := some 77) (v := ?_) (a' := ?_) #[true, true, true, false, false, false, false, false, false, false, false, false, false, false, false, false, false, false, false, false, false, false, false, false, false, false, false, false, false, false, false, false] rfl rfl (any_of HT_.out (by kernel_rfl)) (fun _ _ _ h => h) (Or.inl ⟨by rfl, ?_⟩) ?_ ?_
                    rotate_left
                    · intro w'
                      go_simp
                      with_reducible rfl
                    rotate_left
                    · simp only [Act.put, List.setIfInBounds_toArray, List.set_cons_zero, List.set_cons_succ, i64_w, i32_w]
                      rfl
                    refine pure_ (i := 3) (N := some 78) (v := ?_) (a' := ?_) #[true, true, true, true, false, false, false, false, false, false, false, false, false, false, false, false, false, false, false, false, false, false, false, false, false, false, false, false, false, false, false, false] rfl rfl (any_of HT_.out (by kernel_rfl)) (fun _ _ _ h => h) (Or.inl ⟨by rfl, ?_⟩) ?_ ?_
                    rotate_left
                    · intro w'
                      go_simp
                      with_reducible rfl
                    rotate_left
                    · simp only [Act.put, List.setIfInBounds_toArray, List.set_cons_zero, List.set_cons_succ, i64_w, i32_w]
                      rfl
                    refine pure_ (i := 5) (N := some 80) (v := ?_) (a' := ?_) #[true, true, true, true, false, true, false, false, false, false, false, false, false, false, false, false, false, false, false, false, false, false, false, false, false, false, false, false, false, false, false, false] rfl rfl (any_of HT_.out (by kernel_rfl)) (fun _ _ _ h => h) (Or.inl ⟨by rfl, ?_⟩) ?_ ?_
                    rotate_left
                    · intro w'
                      go_simp
                      with_reducible rfl
                    rotate_left
                    · simp only [Act.put, List.setIfInBounds_toArray, List.set_cons_zero, List.set_cons_succ, i64_w, i32_w]
                      rfl
                    refine take_ (i := 4) (N := some 79) (v := ?_) (a' := ?_) #[true, true, true, true, true, true, false, false, false, false, false, false, false, false, false, false, false, false, false, false, false, false, false, false, false, false, false, false, false, false, false, false] rfl rfl (take_ofW HT_.out HW_.out (by kernel_rfl)) (fun _ _ _ h => h) (Or.inl ⟨by rfl, ?_⟩) hHeld ?_ ?_
                    rotate_left
                    · rintro w' ⟨s0, s1, s2, s3, s4, s5⟩
                      go_simp
                      with_reducible rfl
                    rotate_left
                    · simp only [Act.put, List.setIfInBounds_toArray, List.set_cons_zero, List.set_cons_succ, i64_w, i32_w]
                      rfl
                    refine one_ (i := 6) (N := some 81) #[true, true, true, true, true, true, true, false, false, false, false, false, false, false, false, false, false, false, false, false, false, false, false, false, false, false, false, false, false, false, false, false] rfl rfl (one_of HT_.out (by kernel_rfl)) (by decide) (fun K hK => ?_)
                    refine goes_ Tryd.func54 (by kernel_rfl) rfl #[.agg #[.int .i64 ((rd_T58 t262 0).f0), .string ((rd_T58 t262 0).f1), .slice A265_2 ((rd_T58 t262 0).f2).length c265_2], .slice Ao200 t266.length co200] (by rfl) rfl rfl (by (try simp only [List.map_toArray, List.map_cons, List.map_nil]); first | done | rfl | (simp only [List.length_drop, List.length_take]; rfl)) ?_
                    with_reducible refine (label_Met.calls ((rd_T58 t262 0).f0) ((rd_T58 t262 0).f1) _ _ ((rd_T58 t262 0).f2) _ _ t266 false _ ?side1 ?side2 ?side3 ?side4 A139.out).mono ?_
                    (case side1 => repeat (first | exact (Kd.V_reads' HO_259002.out).2.2 | (with_reducible refine Kd.C_alloc ?_ _) | (with_reducible refine Kd.C_drewN ?_ _) | (with_reducible refine Kd.C_drew ?_)))
                    (case side2 => exact (Kd.V_reads' HO_259002.out).2.1)
                    (case side3 => repeat (first | exact (Kd.R_reads' HO_1.out).2.2 | (with_reducible refine Kd.C_alloc ?_ _) | (with_reducible refine Kd.C_drewN ?_ _) | (with_reducible refine Kd.C_drew ?_)))
                    (case side4 => exact (Kd.R_reads' HO_1.out).2.1)
                    rintro e w202 ⟨rfl, hb⟩
                    refine ⟨_, rfl, ?_⟩
                    have n0_ := Aside0.mk (Kd.R_below (by (with_reducible repeat (first | apply Kd.R_alloc | apply Kd.R_drewN | apply Kd.R_drew)); exact HO_1.out) hb)
                    have n1_ := Aside0.mk (Kd.V_below (by (with_reducible repeat (first | apply Kd.V_alloc | apply Kd.V_drewN | apply Kd.V_drew)); exact HO_259002.out) hb)
                    have n2_ := Aside0.mk (Kd.R_below (by (with_reducible repeat (first | apply Kd.R_alloc | apply Kd.R_drewN | apply Kd.R_drew)); exact HO_276002.out) hb)
                    have n3_ := Aside0.mk (blk_below (g := gb258) (o := .cells #[.int .i64 ((rd_T58 t262 0).f0), .string ((rd_T58 t262 0).f1), .slice A265_2 ((rd_T58 t262 0).f2).length c265_2] 58 (0, 0)) (by (with_reducible repeat (first | refine blk_drewN ?_ _ | refine blk_drew ?_ | refine blk_alloc ?_ _)); exact BK258.out) hb)
                    have n4_ := Aside0.mk (blk_below (g := gb275) (o := .cells #[.int .i64 t269, .string t270, .slice Ao51 t271.length co51] 58 (0, 0)) (by (with_reducible repeat (first | refine blk_drewN ?_ _ | refine blk_drew ?_ | refine blk_alloc ?_ _)); exact BK275.out) hb)
                    have n5_ := Aside0.mk (below_step (by repeat (first | (with_reducible first | exact HB.out | apply below_alloc | apply pw_below_drewN | apply below_drew1 | refine below_set ?_ GE258.out | refine below_set ?_ GE275.out) | exact HB.out)) hb)
                    clear HO_1
                    clear HO_259002
                    clear HO_276002
                    clear BK258
                    clear BK275
                    clear HB
                    have HO_1 := n0_
                    have HO_259002 := n1_
                    have HO_276002 := n2_
                    have BK258 := n3_
                    have BK275 := n4_
                    have HB := n5_
                    clear n0_ n1_ n2_ n3_ n4_ n5_
                    (try clear hb)
                    (try clear hb2)
                    (try clear hk)
                    (try clear hi)
                    refine hK.out _ _ ⟨(blk_cell BK258.out 0).trans rfl, (blk_cell BK258.out 1).trans rfl, (blk_cell BK258.out 2).trans rfl, (blk_cell BK275.out 0).trans rfl, (blk_cell BK275.out 1).trans rfl, (blk_cell BK275.out 2).trans rfl⟩ (fun hHeld => ?_)
                    clear hK K
                    refine norm_ (a' := ?_) ?_ ?_
                    rotate_left
                    · show Act.put _ (some 81) _ = _
                      simp only [Act.put, List.setIfInBounds_toArray, List.set_cons_zero, List.set_cons_succ, i64_w, i32_w]
                      rfl
                    refine pure_ (i := 7) (N := some 82) (v := ?_) (a' := ?_) #[true, true, true, true, true, true, true, true, false, false, false, false, false, false, false, false, false, false, false, false, false, false, false, false, false, false, false, false, false, false, false, false] rfl rfl (any_of HT_.out (by kernel_rfl)) (fun _ _ _ h => h) (Or.inl ⟨by rfl, ?_⟩) ?_ ?_
                    rotate_left
                    · intro w'
                      go_simp
                      with_reducible rfl
                    rotate_left
                    · simp only [Act.put, List.setIfInBounds_toArray, List.set_cons_zero, List.set_cons_succ, i64_w, i32_w]
                      rfl
                    refine pure_ (i := 8) (N := some 83) (v := ?_) (a' := ?_) #[true, true, true, true, true, true, true, true, true, false, false, false, false, false, false, false, false, false, false, false, false, false, false, false, false, false, false, false, false, false, false, false] rfl rfl (any_of HT_.out (by kernel_rfl)) (fun _ _ _ h => h) (Or.inl ⟨by rfl, ?_⟩) ?_ ?_
                    rotate_left
                    · intro w'
                      go_simp
                      with_reducible rfl
                    rotate_left
                    · simp only [Act.put, List.setIfInBounds_toArray, List.set_cons_zero, List.set_cons_succ, i64_w, i32_w]
                      rfl
                    refine pure_ (i := 9) (N := some 84) (v := ?_) (a' := ?_) #[true, true, true, true, true, true, true, true, true, true, false, false, false, false, false, false, false, false, false, false, false, false, false, false, false, false, false, false, false, false, false, false] rfl rfl (any_of HT_.out (by kernel_rfl)) (fun _ _ _ h => h) (Or.inl ⟨by rfl, ?_⟩) ?_ ?_
                    rotate_left
                    · intro w'
                      go_simp
                      with_reducible rfl
                    rotate_left
                    · simp only [Act.put, List.setIfInBounds_toArray, List.set_cons_zero, List.set_cons_succ, i64_w, i32_w]
                      rfl
                    refine pure_ (i := 11) (N := some 86) (v := ?_) (a' := ?_) #[true, true, true, true, true, true, true, true, true, true, false, true, false, false, false, false, false, false, false, false, false, false, false, false, false, false, false, false, false, false, false, false] rfl rfl (any_of HT_.out (by kernel_rfl)) (fun _ _ _ h => h) (Or.inl ⟨by rfl, ?_⟩) ?_ ?_
                    rotate_left
                    · intro w'
                      go_simp
                      with_reducible rfl
                    rotate_left
                    · simp only [Act.put, List.setIfInBounds_toArray, List.set_cons_zero, List.set_cons_succ, i64_w, i32_w]
                      rfl
                    refine take_ (i := 10) (N := some 85) (v := ?_) (a' := ?_) #[true, true, true, true, true, true, true, true, true, true, true, true, false, false, false, false, false, false, false, false, false, false, false, false, false, false, false, false, false, false, false, false] rfl rfl (take_ofW HT_.out HW_.out (by kernel_rfl)) (fun _ _ _ h => h) (Or.inl ⟨by rfl, ?_⟩) hHeld ?_ ?_
                    rotate_left
                    · rintro w' ⟨s0, s1, s2, s3, s4, s5⟩
                      go_simp
                      with_reducible rfl
                    rotate_left
                    · simp only [Act.put, List.setIfInBounds_toArray, List.set_cons_zero, List.set_cons_succ, i64_w, i32_w]
                      rfl
                    refine one_ (i := 12) (N := some 87) #[true, true, true, true, true, true, true, true, true, true, true, true, true, false, false, false, false, false, false, false, false, false, false, false, false, false, false, false, false, false, false, false] rfl rfl (one_of HT_.out (by kernel_rfl)) (by decide) (fun K hK => ?_)
                    refine goes_ Tryd.func54 (by kernel_rfl) rfl #[.agg #[.int .i64 t269, .string t270, .slice Ao51 t271.length co51], .slice Ao200 t266.length co200] (by rfl) rfl rfl (by (try simp only [List.map_toArray, List.map_cons, List.map_nil]); first | done | rfl | (simp only [List.length_drop, List.length_take]; rfl)) ?_
                    with_reducible refine (label_Met.calls t269 t270 _ _ t271 _ _ t266 false _ ?side1 ?side2 ?side3 ?side4 A167.out).mono ?_
                    (case side1 => repeat (first | exact (Kd.R_reads' HO_276002.out).2.2 | (with_reducible refine Kd.C_alloc ?_ _) | (with_reducible refine Kd.C_drewN ?_ _) | (with_reducible refine Kd.C_drew ?_)))
                    (case side2 => exact (Kd.R_reads' HO_276002.out).2.1)
                    (case side3 => repeat (first | exact (Kd.R_reads' HO_1.out).2.2 | (with_reducible refine Kd.C_alloc ?_ _) | (with_reducible refine Kd.C_drewN ?_ _) | (with_reducible refine Kd.C_drew ?_)))
                    (case side4 => exact (Kd.R_reads' HO_1.out).2.1)
                    rintro e w203 ⟨rfl, hb⟩
                    refine ⟨_, rfl, ?_⟩
                    have n0_ := Aside0.mk (Kd.R_below (by (with_reducible repeat (first | apply Kd.R_alloc | apply Kd.R_drewN | apply Kd.R_drew)); exact HO_1.out) hb)
                    have n1_ := Aside0.mk (Kd.V_below (by (with_reducible repeat (first | apply Kd.V_alloc | apply Kd.V_drewN | apply Kd.V_drew)); exact HO_259002.out) hb)
                    have n2_ := Aside0.mk (Kd.R_below (by (with_reducible repeat (first | apply Kd.R_alloc | apply Kd.R_drewN | apply Kd.R_drew)); exact HO_276002.out) hb)
                    have n3_ := Aside0.mk (blk_below (g := gb258) (o := .cells #[.int .i64 ((rd_T58 t262 0).f0), .string ((rd_T58 t262 0).f1), .slice A265_2 ((rd_T58 t262 0).f2).length c265_2] 58 (0, 0)) (by (with_reducible repeat (first | refine blk_drewN ?_ _ | refine blk_drew ?_ | refine blk_alloc ?_ _)); exact BK258.out) hb)
                    have n4_ := Aside0.mk (blk_below (g := gb275) (o := .cells #[.int .i64 t269, .string t270, .slice Ao51 t271.length co51] 58 (0, 0)) (by (with_reducible repeat (first | refine blk_drewN ?_ _ | refine blk_drew ?_ | refine blk_alloc ?_ _)); exact BK275.out) hb)
                    have n5_ := Aside0.mk (below_step (by repeat (first | (with_reducible first | exact HB.out | apply below_alloc | apply pw_below_drewN | apply below_drew1 | refine below_set ?_ GE258.out | refine below_set ?_ GE275.out) | exact HB.out)) hb)
                    clear HO_1
                    clear HO_259002
                    clear HO_276002
                    clear BK258
                    clear BK275
                    clear HB
                    have HO_1 := n0_
                    have HO_259002 := n1_
                    have HO_276002 := n2_
                    have BK258 := n3_
                    have BK275 := n4_
                    have HB := n5_
                    clear n0_ n1_ n2_ n3_ n4_ n5_
                    (try clear hb)
                    (try clear hb2)
                    (try clear hk)
                    (try clear hi)
                    refine hK.out _ _ ⟨(blk_cell BK258.out 0).trans rfl, (blk_cell BK258.out 1).trans rfl, (blk_cell BK258.out 2).trans rfl, (blk_cell BK275.out 0).trans rfl, (blk_cell BK275.out 1).trans rfl, (blk_cell BK275.out 2).trans rfl⟩ (fun hHeld => ?_)
                    clear hK K
                    refine norm_ (a' := ?_) ?_ ?_
                    rotate_left
                    · show Act.put _ (some 87) _ = _
                      simp only [Act.put, List.setIfInBounds_toArray, List.set_cons_zero, List.set_cons_succ, i64_w, i32_w]
                      rfl
                    refine pure_ (i := 13) (N := some 88) (v := ?_) (a' := ?_) #[true, true, true, true, true, true, true, true, true, true, true, true, true, true, false, false, false, false, false, false, false, false, false, false, false, false, false, false, false, false, false, false] rfl rfl (any_of HT_.out (by kernel_rfl)) (fun _ _ _ h => h) (Or.inl ⟨by rfl, ?_⟩) ?_ ?_
                    rotate_left
                    · intro w'
                      go_simp
                      with_reducible rfl
                    rotate_left
                    · simp only [Act.put, List.setIfInBounds_toArray, List.set_cons_zero, List.set_cons_succ, i64_w, i32_w]
                      rfl
                    refine pure_ (i := 14) (N := some 89) (v := ?_) (a' := ?_) #[true, true, true, true, true, true, true, true, true, true, true, true, true, true, true, false, false, false, false, false, false, false, false, false, false, false, false, false, false, false, false, false] rfl rfl (any_of HT_.out (by kernel_rfl)) (fun _ _ _ h => h) (Or.inl ⟨by rfl, ?_⟩) ?_ ?_
                    rotate_left
                    · intro w'
                      go_simp
                      with_reducible rfl
                    rotate_left
                    · simp only [Act.put, List.setIfInBounds_toArray, List.set_cons_zero, List.set_cons_succ, i64_w, i32_w]
                      rfl
                    refine pure_ (i := 15) (N := some 90) (v := ?_) (a' := ?_) #[true, true, true, true, true, true, true, true, true, true, true, true, true, true, true, true, false, false, false, false, false, false, false, false, false, false, false, false, false, false, false, false] rfl rfl (any_of HT_.out (by kernel_rfl)) (fun _ _ _ h => h) (Or.inl ⟨by rfl, ?_⟩) ?_ ?_
                    rotate_left
                    · intro w'
                      go_simp
                      with_reducible rfl
                    rotate_left
                    · simp only [Act.put, List.setIfInBounds_toArray, List.set_cons_zero, List.set_cons_succ, i64_w, i32_w]
                      rfl
                    refine pure_ (i := 16) (N := some 91) (v := undef) (a' := ?_) #[true, true, true, true, true, true, true, true, true, true, true, true, true, true, true, true, true, false, false, false, false, false, false, false, false, false, false, false, false, false, false, false] rfl rfl (any_of HT_.out (by kernel_rfl)) (fun _ _ _ h => h) (Or.inr ⟨by rfl, rfl⟩) ?_ ?_
                    rotate_left
                    · simp only [Act.put, List.setIfInBounds_toArray, List.set_cons_zero, List.set_cons_succ, i64_w, i32_w]
                      rfl
                    refine pure_ (i := 17) (N := some 92) (v := undef) (a' := ?_) #[true, true, true, true, true, true, true, true, true, true, true, true, true, true, true, true, true, true, false, false, false, false, false, false, false, false, false, false, false, false, false, false] rfl rfl (any_of HT_.out (by kernel_rfl)) (fun _ _ _ h => h) (Or.inr ⟨by rfl, rfl⟩) ?_ ?_
                    rotate_left
                    · simp only [Act.put, List.setIfInBounds_toArray, List.set_cons_zero, List.set_cons_succ, i64_w, i32_w]
                      rfl
                    refine pure_ (i := 18) (N := some 93) (v := undef) (a' := ?_) #[true, true, true, true, true, true, true, true, true, true, true, true, true, true, true, true, true, true, true, false, false, false, false, false, false, false, false, false, false, false, false, false] rfl rfl (any_of HT_.out (by kernel_rfl)) (fun _ _ _ h => h) (Or.inr ⟨by rfl, rfl⟩) ?_ ?_
                    rotate_left
                    · simp only [Act.put, List.setIfInBounds_toArray, List.set_cons_zero, List.set_cons_succ, i64_w, i32_w]
                      rfl
                    refine pure_ (i := 19) (N := some 94) (v := undef) (a' := ?_) #[true, true, true, true, true, true, true, true, true, true, true, true, true, true, true, true, true, true, true, true, false, false, false, false, false, false, false, false, false, false, false, false] rfl rfl (any_of HT_.out (by kernel_rfl)) (fun _ _ _ h => h) (Or.inr ⟨by rfl, rfl⟩) ?_ ?_
                    rotate_left
                    · simp only [Act.put, List.setIfInBounds_toArray, List.set_cons_zero, List.set_cons_succ, i64_w, i32_w]
                      rfl
                    refine pure_ (i := 20) (N := some 95) (v := undef) (a' := ?_) #[true, true, true, true, true, true, true, true, true, true, true, true, true, true, true, true, true, true, true, true, true, false, false, false, false, false, false, false, false, false, false, false] rfl rfl (any_of HT_.out (by kernel_rfl)) (fun _ _ _ h => h) (Or.inr ⟨by rfl, rfl⟩) ?_ ?_
                    rotate_left
                    · simp only [Act.put, List.setIfInBounds_toArray, List.set_cons_zero, List.set_cons_succ, i64_w, i32_w]
                      rfl
                    refine pure_ (i := 21) (N := some 96) (v := undef) (a' := ?_) #[true, true, true, true, true, true, true, true, true, true, true, true, true, true, true, true, true, true, true, true, true, true, false, false, false, false, false, false, false, false, false, false] rfl rfl (any_of HT_.out (by kernel_rfl)) (fun _ _ _ h => h) (Or.inr ⟨by rfl, rfl⟩) ?_ ?_
                    rotate_left
                    · simp only [Act.put, List.setIfInBounds_toArray, List.set_cons_zero, List.set_cons_succ, i64_w, i32_w]
                      rfl
                    refine pure_ (i := 22) (N := some 97) (v := undef) (a' := ?_) #[true, true, true, true, true, true, true, true, true, true, true, true, true, true, true, true, true, true, true, true, true, true, true, false, false, false, false, false, false, false, false, false] rfl rfl (any_of HT_.out (by kernel_rfl)) (fun _ _ _ h => h) (Or.inr ⟨by rfl, rfl⟩) ?_ ?_
                    rotate_left
                    · simp only [Act.put, List.setIfInBounds_toArray, List.set_cons_zero, List.set_cons_succ, i64_w, i32_w]
                      rfl
                    refine pure_ (i := 23) (N := some 98) (v := undef) (a' := ?_) #[true, true, true, true, true, true, true, true, true, true, true, true, true, true, true, true, true, true, true, true, true, true, true, true, false, false, false, false, false, false, false, false] rfl rfl (any_of HT_.out (by kernel_rfl)) (fun _ _ _ h => h) (Or.inr ⟨by rfl, rfl⟩) ?_ ?_
                    rotate_left
                    · simp only [Act.put, List.setIfInBounds_toArray, List.set_cons_zero, List.set_cons_succ, i64_w, i32_w]
                      rfl
                    refine pure_ (i := 24) (N := some 99) (v := undef) (a' := ?_) #[true, true, true, true, true, true, true, true, true, true, true, true, true, true, true, true, true, true, true, true, true, true, true, true, true, false, false, false, false, false, false, false] rfl rfl (any_of HT_.out (by kernel_rfl)) (fun _ _ _ h => h) (Or.inr ⟨by rfl, rfl⟩) ?_ ?_
                    rotate_left
                    · simp only [Act.put, List.setIfInBounds_toArray, List.set_cons_zero, List.set_cons_succ, i64_w, i32_w]
                      rfl
                    refine pure_ (i := 25) (N := some 100) (v := undef) (a' := ?_) #[true, true, true, true, true, true, true, true, true, true, true, true, true, true, true, true, true, true, true, true, true, true, true, true, true, true, false, false, false, false, false, false] rfl rfl (any_of HT_.out (by kernel_rfl)) (fun _ _ _ h => h) (Or.inr ⟨by rfl, rfl⟩) ?_ ?_
                    rotate_left
                    · simp only [Act.put, List.setIfInBounds_toArray, List.set_cons_zero, List.set_cons_succ, i64_w, i32_w]
                      rfl
                    refine pure_ (i := 26) (N := some 101) (v := undef) (a' := ?_) #[true, true, true, true, true, true, true, true, true, true, true, true, true, true, true, true, true, true, true, true, true, true, true, true, true, true, true, false, false, false, false, false] rfl rfl (any_of HT_.out (by kernel_rfl)) (fun _ _ _ h => h) (Or.inr ⟨by rfl, rfl⟩) ?_ ?_
                    rotate_left
                    · simp only [Act.put, List.setIfInBounds_toArray, List.set_cons_zero, List.set_cons_succ, i64_w, i32_w]
                      rfl
                    refine pure_ (i := 27) (N := some 102) (v := ?_) (a' := ?_) #[true, true, true, true, true, true, true, true, true, true, true, true, true, true, true, true, true, true, true, true, true, true, true, true, true, true, true, true, false, false, false, false] rfl rfl (any_of HT_.out (by kernel_rfl)) (fun _ _ _ h => h) (Or.inl ⟨by rfl, ?_⟩) ?_ ?_
                    rotate_left
                    · intro w'
                      go_simp
                      with_reducible rfl
                    rotate_left
                    · simp only [Act.put, List.setIfInBounds_toArray, List.set_cons_zero, List.set_cons_succ, i64_w, i32_w]
                      rfl
                    refine pure_ (i := 28) (N := some 103) (v := ?_) (a' := ?_) #[true, true, true, true, true, true, true, true, true, true, true, true, true, true, true, true, true, true, true, true, true, true, true, true, true, true, true, true, true, false, false, false] rfl rfl (any_of HT_.out (by kernel_rfl)) (fun _ _ _ h => h) (Or.inl ⟨by rfl, ?_⟩) ?_ ?_
                    rotate_left
                    · intro w'
                      go_simp
                      with_reducible rfl
                    rotate_left
                    · simp only [Act.put, List.setIfInBounds_toArray, List.set_cons_zero, List.set_cons_succ, i64_w, i32_w]
                      rfl
                    refine one_ (i := 29) (N := some 104) #[true, true, true, true, true, true, true, true, true, true, true, true, true, true, true, true, true, true, true, true, true, true, true, true, true, true, true, true, true, true, false, false] rfl rfl (one_of HT_.out (by kernel_rfl)) (by decide) (fun K hK => ?_)
                    refine goes_ Tryd.func53 (by kernel_rfl) rfl #[] (by rfl) rfl rfl (by (try simp only [List.map_toArray, List.map_cons, List.map_nil]); first | done | rfl | (simp only [List.length_drop, List.length_take]; rfl)) ?_
                    with_reducible refine (tolllaw08_awake.calls  true _ A198.out).mono ?_
                    rintro e w204 ⟨rfl, hb⟩
                    refine ⟨_, rfl, ?_⟩
                    have n0_ := Aside0.mk (Kd.R_below (by (with_reducible repeat (first | apply Kd.R_alloc | apply Kd.R_drewN | apply Kd.R_drew)); exact HO_1.out) hb)
                    have n1_ := Aside0.mk (Kd.V_below (by (with_reducible repeat (first | apply Kd.V_alloc | apply Kd.V_drewN | apply Kd.V_drew)); exact HO_259002.out) hb)
                    have n2_ := Aside0.mk (Kd.R_below (by (with_reducible repeat (first | apply Kd.R_alloc | apply Kd.R_drewN | apply Kd.R_drew)); exact HO_276002.out) hb)
                    have n3_ := Aside0.mk (blk_below (g := gb258) (o := .cells #[.int .i64 ((rd_T58 t262 0).f0), .string ((rd_T58 t262 0).f1), .slice A265_2 ((rd_T58 t262 0).f2).length c265_2] 58 (0, 0)) (by (with_reducible repeat (first | refine blk_drewN ?_ _ | refine blk_drew ?_ | refine blk_alloc ?_ _)); exact BK258.out) hb)
                    have n4_ := Aside0.mk (blk_below (g := gb275) (o := .cells #[.int .i64 t269, .string t270, .slice Ao51 t271.length co51] 58 (0, 0)) (by (with_reducible repeat (first | refine blk_drewN ?_ _ | refine blk_drew ?_ | refine blk_alloc ?_ _)); exact BK275.out) hb)
                    have n5_ := Aside0.mk (below_step (by repeat (first | (with_reducible first | exact HB.out | apply below_alloc | apply pw_below_drewN | apply below_drew1 | refine below_set ?_ GE258.out | refine below_set ?_ GE275.out) | exact HB.out)) hb)
                    clear HO_1
                    clear HO_259002
                    clear HO_276002
                    clear BK258
                    clear BK275
                    clear HB
                    have HO_1 := n0_
                    have HO_259002 := n1_
                    have HO_276002 := n2_
                    have BK258 := n3_
                    have BK275 := n4_
                    have HB := n5_
                    clear n0_ n1_ n2_ n3_ n4_ n5_
                    (try clear hb)
                    (try clear hb2)
                    (try clear hk)
                    (try clear hi)
                    refine hK.out _ _ ⟨(blk_cell BK258.out 0).trans rfl, (blk_cell BK258.out 1).trans rfl, (blk_cell BK258.out 2).trans rfl, (blk_cell BK275.out 0).trans rfl, (blk_cell BK275.out 1).trans rfl, (blk_cell BK275.out 2).trans rfl⟩ (fun hHeld => ?_)
                    clear hK K
                    refine norm_ (a' := ?_) ?_ ?_
                    rotate_left
                    · show Act.put _ (some 104) _ = _
                      simp only [Act.put, List.setIfInBounds_toArray, List.set_cons_zero, List.set_cons_succ, i64_w, i32_w]
                      rfl
                    refine pure_ (i := 30) (N := some 105) (v := ?_) (a' := ?_) #[true, true, true, true, true, true, true, true, true, true, true, true, true, true, true, true, true, true, true, true, true, true, true, true, true, true, true, true, true, true, true, false] rfl rfl (any_of HT_.out (by kernel_rfl)) (fun _ _ _ h => h) (Or.inl ⟨by rfl, ?_⟩) ?_ ?_
                    rotate_left
                    · intro w'
                      go_simp
                      with_reducible rfl
                    rotate_left
                    · simp only [Act.put, List.setIfInBounds_toArray, List.set_cons_zero, List.set_cons_succ, i64_w, i32_w]
                      rfl
                    refine pure_ (i := 31) (N := some 4) (v := ?_) (a' := ?_) #[true, true, true, true, true, true, true, true, true, true, true, true, true, true, true, true, true, true, true, true, true, true, true, true, true, true, true, true, true, true, true, true] rfl rfl (any_of HT_.out (by kernel_rfl)) (fun _ _ _ h => h) (Or.inl ⟨by rfl, ?_⟩) ?_ ?_
                    rotate_left
                    · intro w'
                      go_simp
                      with_reducible rfl
                    rotate_left
                    · simp only [Act.put, List.setIfInBounds_toArray, List.set_cons_zero, List.set_cons_succ, i64_w, i32_w]
                      rfl
                    refine done_ (done_of HT_.out (by kernel_rfl)) ?_
                    try go_wp2
                    go_ret
                    exact ⟨by first | rfl | (simp [errW_none, errW_some] <;> rfl) | (simp [*, errW_none, errW_some] <;> rfl), by repeat (first | (with_reducible first | exact HB.out | apply below_alloc | apply pw_below_drewN | apply below_drew1 | refine below_set ?_ GE258.out | refine below_set ?_ GE275.out) | exact HB.out)⟩
      · replace c32 := Bool.eq_false_iff.mpr c32
        subst c32
        have H1 : (if t269 = 0 then (if t270.toList = ([] : List UInt8) then (if (t271.length : Int) = 0 then ((tolllaw08_awake.f).bind fun t280 => (some t280)) else (some false)) else (some false)) else (some false)) = some true := by rw [if_neg (show ¬ (false = true) by decide)] at H; exact H
        clear H
        have H := H1
        clear H1
        by_cases c205 : t269 = 0
        · rw [if_pos c205] at H
          have c205b0 : (t269 == 0) = true := beq_iff_eq.mpr c205
          have c205b1 : (t269 != 0) = false := bne_eq_false_iff_eq.mpr c205
          clear c205
          by_cases c206 : t270.toList = ([] : List UInt8)
          · rw [if_pos c206] at H
            have c206b0 : (t270.toList == ([] : List UInt8)) = true := beq_iff_eq.mpr c206
            have c206b1 : (t270.toList != ([] : List UInt8)) = false := bne_eq_false_iff_eq.mpr c206
            clear c206
            by_cases c207 : (t271.length : Int) = 0
            · rw [if_pos c207] at H
              have c207b0 : ((t271.length : Int) == 0) = true := beq_iff_eq.mpr c207
              have c207b1 : ((t271.length : Int) != 0) = false := bne_eq_false_iff_eq.mpr c207
              clear c207
              replace H := Option.bind_eq_some_iff.mp H
              obtain ⟨t280, A2080, H⟩ := H
              replace H : (some t280) = some true := H
              have A208 := Aside0.mk A2080
              clear A2080
              obtain rfl := Option.some.inj H
              go_enter Tryd.func14, Tryd.ntmps14
              try go_wp2_with (first | ((with_reducible refine gate_dst (N := 2) rfl ?_); (try (refine gate_guard (by rfl) ?_; dsimp only)); refine box_event ?hg (N := 2) ?hd (cs := #[.int .i64 a0_0, .string a0_1, .slice A0_2 l0_2.length c0_2]) (t := 58) ?hr ?_; (case hd => rfl); (case hg => rfl); (case hr => first | (go_simp; done) | (go_simp; rfl)); intro gb258 hg w209 hbox hb; have n0_ := Aside0.mk (Kd.V_below (Kd.V_elderB (by (with_reducible repeat (first | apply Kd.V_alloc | apply Kd.V_drewN | apply Kd.V_drew)); exact HO0_2.out) gb258 (Nat.le_of_eq hg.symm)) hb); have n1_ := Aside0.mk (below_step (by repeat (first | (with_reducible first | exact HB.out | apply below_alloc | apply pw_below_drewN | apply below_drew1) | exact HB.out)) hb); have n2_ := Aside0.mk (hbox); have n3_ := Aside0.mk ((by rw [hg]; exact (below_size (by repeat (first | (with_reducible first | exact HB.out | apply below_alloc | apply pw_below_drewN | apply below_drew1) | exact HB.out))) : w.heap.size ≤ gb258)); have n4_ := Aside0.mk ((by rw [hg]; exact (below_size (by repeat (first | (with_reducible first | exact HB.out | apply below_alloc | apply pw_below_drewN | apply below_drew1) | exact HB.out))) : w.heap.size ≤ gb258)); clear HO0_2; clear HB; have HO0_2 := n0_; have HB := n1_; have BK258 := n2_; have GW258 := n3_; have GE258 := n4_; clear n0_ n1_ n2_ n3_ n4_; clear hb hbox hg))
              have n0_ := Aside0.mk (Kd.V_drew HO0_2.out)
              have n1_ := Aside0.mk (blk_drew BK258.out)
              have n2_ := Aside0.mk (below_drew1 HB.out)
              clear HO0_2
              clear BK258
              clear HB
              have HO0_2 := n0_
              have BK258 := n1_
              have HB := n2_
              clear n0_ n1_ n2_
              refine start_ (n := 9) (S := fun w' => w'.cell? ⟨gb258, 0, none⟩ = some (.int .i64 a0_0) ∧ w'.cell? ⟨gb258, 1, none⟩ = some (.string a0_1) ∧ w'.cell? ⟨gb258, 2, none⟩ = some (.slice A0_2 l0_2.length c0_2)) (ds := [3, 4, 6, 7, 8]) #[false, false, false, false, false, false, false, false, false] (by kernel_rfl) rfl rfl ⟨(blk_cell BK258.out 0).trans rfl, (blk_cell BK258.out 1).trans rfl, (blk_cell BK258.out 2).trans rfl⟩ (fun hHeld => ?_); refine with_tabW tolllaw08_LabelNots.tab1 tolllaw08_LabelNots.bits1 (fun HT_ HW_ => ?_)
              generalize w209.drew = w210 at HO0_2 BK258 HB hHeld ⊢
              refine pure_ (i := 5) (N := some 14) (v := ?_) (a' := ?_) #[false, false, false, false, false, true, false, false, false] rfl rfl (any_of HT_.out (by kernel_rfl)) (fun _ _ _ h => h) (Or.inl ⟨by rfl, ?_⟩) ?_ ?_
              rotate_left
              · intro w'
                go_simp
                with_reducible rfl
              rotate_left
              · simp only [Act.put, List.setIfInBounds_toArray, List.set_cons_zero, List.set_cons_succ, i64_w, i32_w]
                rfl
              refine take_ (i := 0) (N := some 9) (v := ?_) (a' := ?_) #[true, false, false, false, false, true, false, false, false] rfl rfl (take_ofW HT_.out HW_.out (by kernel_rfl)) (fun _ _ _ h => h) (Or.inl ⟨by rfl, ?_⟩) hHeld ?_ ?_
              rotate_left
              · rintro w' ⟨s0, s1, s2⟩
                go_simp
                with_reducible rfl
              rotate_left
              · simp only [Act.put, List.setIfInBounds_toArray, List.set_cons_zero, List.set_cons_succ, i64_w, i32_w]
                rfl
              refine one_ (i := 1) (N := some 10) #[true, true, false, false, false, true, false, false, false] rfl rfl (one_of HT_.out (by kernel_rfl)) (by decide) (fun K hK => ?_)
              refine Kd.N_lit_step k58 _ 58 ?hg (N' := 10) ?hd (xs := ([(⟨a0_0, a0_1, l0_2⟩ : S58)] : List (S58))) (inner := [.int .i64 a0_0, .string a0_1, .slice A0_2 l0_2.length c0_2]) (ok := (fun k_ => (P0_2_ k_ ∨ w.heap.size ≤ k_) ∧ k_ ≠ gb258)) (okp := (fun k_ => (P0_2_ k_ ∨ w.heap.size ≤ k_) ∧ k_ ≠ gb258)) ?hr ?hp (fun _ hk => hk) ((show ∀ k_, w210.heap.size ≤ k_ → (fun k_ => (P0_2_ k_ ∨ w.heap.size ≤ k_) ∧ k_ ≠ gb258) k_ from fun k_ hk => ⟨(.inr (Nat.le_trans (below_size (by repeat (first | (with_reducible first | exact HB.out | apply below_alloc | apply pw_below_drewN | apply below_drew1 | refine below_set ?_ GE258.out) | exact HB.out))) hk)), Kd.freshB (g := gb258) (o := .cells #[.int .i64 a0_0, .string a0_1, .slice A0_2 l0_2.length c0_2] 58 (0, 0)) (by (with_reducible repeat (first | refine blk_drewN ?_ _ | refine blk_drew ?_ | refine blk_alloc ?_ _)); exact BK258.out) k_ hk⟩) _ (Nat.le_refl _)) (Below.refl _ _) (Nat.le_refl _) (by simp) ?_; (case hd => rfl); (case hg => rfl); (case hr => first | (go_simp; done) | (go_simp; rfl)); (case hp => exact (Reps.c3 (show Kd.FK k58 _ _ (⟨a0_0, a0_1, l0_2⟩ : S58) [.int .i64 a0_0, .string a0_1, .slice A0_2 l0_2.length c0_2] from (k58_mkF _ _ (⟨a0_0, a0_1, l0_2⟩ : S58) (Kd.V_reads' (Kd.V_mono (ok' := (fun k_ => (P0_2_ k_ ∨ w.heap.size ≤ k_) ∧ k_ ≠ gb258)) (HO0_2.out) (fun k_ hk => ⟨hk.1, hk.2⟩))).2.1 (Kd.V_F (Kd.V_mono (ok' := (fun k_ => (P0_2_ k_ ∨ w.heap.size ≤ k_) ∧ k_ ≠ gb258)) (HO0_2.out) (fun k_ hk => ⟨hk.1, hk.2⟩))))) (Reps.none _ _)))
              intro v260 w211 ho212 hb hg_ hnew_
              clear hg_ hnew_
              (first | rw [← Ny259.out] at ho212 | (simp only [Int.reduceToNat] at ho212; rw [← Ny259.out] at ho212))
              have n0_ := Aside0.mk (Kd.V_elder' (by (with_reducible repeat (first | apply Kd.V_alloc | apply Kd.V_drewN | apply Kd.V_drew)); exact HO0_2.out) (Kd.N_base ho212) hb)
              have n1_ := Aside0.mk (Kd.N_lower ho212 (below_size (by repeat (first | (with_reducible first | exact HB.out | apply below_alloc | apply pw_below_drewN | apply below_drew1 | refine below_set ?_ GE258.out) | exact HB.out))))
              have n2_ := Aside0.mk (blk_below (g := gb258) (o := .cells #[.int .i64 a0_0, .string a0_1, .slice A0_2 l0_2.length c0_2] 58 (0, 0)) (by (with_reducible repeat (first | refine blk_drewN ?_ _ | refine blk_drew ?_ | refine blk_alloc ?_ _)); exact BK258.out) hb)
              have n3_ := Aside0.mk (below_step (by repeat (first | (with_reducible first | exact HB.out | apply below_alloc | apply pw_below_drewN | apply below_drew1 | refine below_set ?_ GE258.out) | exact HB.out)) hb)
              clear HO0_2
              clear BK258
              clear HB
              have HO0_2 := n0_
              have HO261 := n1_
              have BK258 := n2_
              have HB := n3_
              clear n0_ n1_ n2_ n3_
              clear hb ho212
              obtain ⟨Ao213, co213, eo213⟩ := Kd.N_slice HO261.out
              (first | subst eo213 | (injection eo213 with f1_ f2_ f3_; have f4_ := f1_.symm; have f5_ := f3_.symm; clear f1_ f2_ f3_; subst f4_; subst f5_))
              refine hK.out _ _ ⟨(blk_cell BK258.out 0).trans rfl, (blk_cell BK258.out 1).trans rfl, (blk_cell BK258.out 2).trans rfl⟩ (fun hHeld => ?_)
              clear hK K
              refine norm_ (a' := ?_) ?_ ?_
              rotate_left
              · show Act.put _ (some 10) _ = _
                simp only [Act.put, List.setIfInBounds_toArray, List.set_cons_zero, List.set_cons_succ, i64_w, i32_w]
                rfl
              refine one_ (i := 2) (N := some 11) #[true, true, true, false, false, true, false, false, false] rfl rfl (one_of HT_.out (by kernel_rfl)) (by decide) (fun K hK => ?_)
              refine goes_ Tryd.func55 (by kernel_rfl) rfl #[.slice Ao213 y259.length co213] (by rfl) rfl rfl (by (try simp only [List.map_toArray, List.map_cons, List.map_nil]); first | done | rfl | (simp only [List.length_drop, List.length_take]; rfl)) ?_
              with_reducible refine (tolllaw08_Few.calls k _ _ y259 t262 _ ?side1 ?side2 A3.out).mono ?_
              (case side1 => repeat (first | exact (Kd.N_reads' HO261.out).2.2 | (with_reducible refine Kd.C_alloc ?_ _) | (with_reducible refine Kd.C_drewN ?_ _) | (with_reducible refine Kd.C_drew ?_)))
              (case side2 => exact (Kd.N_reads' HO261.out).2.1)
              rintro e w214 ⟨v263, rfl, ho0, hb⟩
              refine ⟨_, rfl, ?_⟩
              have n0_ := Aside0.mk (Kd.V_elder' (by (with_reducible repeat (first | apply Kd.V_alloc | apply Kd.V_drewN | apply Kd.V_drew)); exact HO0_2.out) (by first | exact Kd.N_base ho0 | exact Kd.N_base (Kd.S_N ho0)) hb)
              have n1_ := Aside0.mk (Kd.N_elder' (by (with_reducible repeat (first | apply Kd.N_alloc | apply Kd.N_drewN | apply Kd.N_drew)); exact HO261.out) (by first | exact Kd.N_base ho0 | exact Kd.N_base (Kd.S_N ho0)) hb)
              have n2_ := Aside0.mk (Kd.N_lower (Kd.N_mono (ok' := fun k_ => (P0_2_ k_ ∨ w.heap.size ≤ k_) ∧ some k_ ≠ (.slice Ao213 y259.length co213 : Value).ownBlock ∧ k_ ≠ gb258) (Kd.S_N (Kd.S_bound ho0)) (fun k_ hk_ => ⟨(.inr (Nat.le_trans (below_size (by repeat (first | (with_reducible first | exact HB.out | apply below_alloc | apply pw_below_drewN | apply below_drew1 | refine below_set ?_ GE258.out) | exact HB.out))) hk_.2.1)), (Kd.fresh' (Kd.N_lt (by (with_reducible repeat (first | apply Kd.N_alloc | apply Kd.N_drewN | apply Kd.N_drew)); exact HO261.out)) k_ hk_.2.1), (Kd.freshB (g := gb258) (o := .cells #[.int .i64 a0_0, .string a0_1, .slice A0_2 l0_2.length c0_2] 58 (0, 0)) (by (with_reducible repeat (first | refine blk_drewN ?_ _ | refine blk_drew ?_ | refine blk_alloc ?_ _)); exact BK258.out) k_ hk_.2.1)⟩)) (below_size (by repeat (first | (with_reducible first | exact HB.out | apply below_alloc | apply pw_below_drewN | apply below_drew1 | refine below_set ?_ GE258.out) | exact HB.out))))
              have n3_ := Aside0.mk (blk_below (g := gb258) (o := .cells #[.int .i64 a0_0, .string a0_1, .slice A0_2 l0_2.length c0_2] 58 (0, 0)) (by (with_reducible repeat (first | refine blk_drewN ?_ _ | refine blk_drew ?_ | refine blk_alloc ?_ _)); exact BK258.out) hb)
              have n4_ := Aside0.mk (below_step (by repeat (first | (with_reducible first | exact HB.out | apply below_alloc | apply pw_below_drewN | apply below_drew1 | refine below_set ?_ GE258.out) | exact HB.out)) hb)
              clear HO0_2
              clear HO261
              clear BK258
              clear HB
              have HO0_2 := n0_
              have HO261 := n1_
              have HO264 := n2_
              have BK258 := n3_
              have HB := n4_
              clear n0_ n1_ n2_ n3_ n4_
              (try clear hb)
              (try clear hb2)
              (try clear hk)
              (try clear hi)
              (try clear ho0)
              obtain ⟨Ao215, co215, eo215⟩ := Kd.N_slice HO264.out
              (first | subst eo215 | (injection eo215 with f1_ f2_ f3_; have f4_ := f1_.symm; have f5_ := f3_.symm; clear f1_ f2_ f3_; subst f4_; subst f5_))
              have p265 : 0 ≤ (0 : Int) := (by omega)
              have q265 : 0 < (t262.length : Int) := of_decide_eq_true (by first | (with_reducible assumption) | assumption)
              obtain ⟨ad265, A265_2, c265_2, e265, hx265_0, hx265_1, hx265_2, hl265_2, hi265_2⟩ := at_T58 (Kd.N_reads' HO264.out).2.2 0 p265 q265
              cases e265
              obtain ⟨ce265, hce265, hMe265, hcc265⟩ := Kd.N_get HO264.out z58 0 p265 (by first | exact q265 | exact of_decide_eq_true (by first | (with_reducible assumption) | assumption) | (have e_ := (Kd.N_reads' HO264.out).1; omega))
              obtain ⟨ua265_2, uc265_2, rfl, ul265_2, ge265_2⟩ := k58_openF hMe265
              have hv265_2 := hcc265 2 _ rfl
              rw [add_field _ _ 2 (by omega)] at hv265_2
              replace hv265_2 := Option.some.inj (hv265_2.symm.trans hx265_2)
              injection hv265_2 with hva_ hvn_ hvc_
              rw [hva_] at ge265_2
              rw [hvc_] at ul265_2
              have HL265_2 := Aside0.mk (show Kd.V Kd.string 9 _ w.heap.size _ _ ((rd_T58 t262 0).f2) from Kd.V_mk ul265_2 ge265_2)
              clear hva_ hvn_ hvc_ ge265_2 ul265_2
              clear hcc265 hce265
              have qi265 : (0 < t262.length) = True := eq_true (by omega)
              (try rw [show ((0 : Int)).toNat = 0 from rfl] at hx265_0)
              (try rw [show 0 * 3 = 0 from rfl] at hx265_0)
              (try rw [Addr.add_zero'] at hx265_0)
              (try rw [show ((0 : Int)).toNat = 0 from rfl] at hx265_1)
              (try rw [show 0 * 3 = 0 from rfl] at hx265_1)
              (try rw [Addr.add_zero'] at hx265_1)
              (try rw [show ((0 : Int)).toNat = 0 from rfl] at hx265_2)
              (try rw [show 0 * 3 = 0 from rfl] at hx265_2)
              (try rw [Addr.add_zero'] at hx265_2)
              have HR265_2 := Aside0.mk hi265_2
              have HC265_2 := Aside0.mk hl265_2
              clear hi265_2 hl265_2
              replace p265 := eq_true p265
              replace q265 := eq_true q265
              refine hK.out _ _ ⟨(blk_cell BK258.out 0).trans rfl, (blk_cell BK258.out 1).trans rfl, (blk_cell BK258.out 2).trans rfl⟩ (fun _ => ?_)
              clear hK K
              refine switch_ (S2 := fun w' => w'.cell? ⟨gb258, 0, none⟩ = some (.int .i64 a0_0) ∧ w'.cell? ⟨gb258, 1, none⟩ = some (.string a0_1) ∧ w'.cell? ⟨gb258, 2, none⟩ = some (.slice A0_2 l0_2.length c0_2) ∧ w'.cell? ad265 = some (.int .i64 ((rd_T58 t262 0).f0)) ∧ w'.cell? ⟨ad265.block, ad265.off + 1, none⟩ = some (.string ((rd_T58 t262 0).f1)) ∧ w'.cell? ⟨ad265.block, ad265.off + 2, none⟩ = some (.slice A265_2 ((rd_T58 t262 0).f2).length c265_2)) (ds2 := [7]) (by kernel_rfl) ⟨(blk_cell BK258.out 0).trans rfl, (blk_cell BK258.out 1).trans rfl, (blk_cell BK258.out 2).trans rfl, hx265_0, hx265_1, hx265_2⟩ (fun hHeld => ?_)
              refine norm_ (a' := ?_) ?_ ?_
              rotate_left
              · show Act.put _ (some 11) _ = _
                simp only [Act.put, List.setIfInBounds_toArray, List.set_cons_zero, List.set_cons_succ, i64_w, i32_w]
                rfl
              refine pure_ (i := 3) (N := some 12) (v := ?_) (a' := ?_) #[true, true, true, true, false, true, false, false, false] rfl rfl (any_of HT_.out (by kernel_rfl)) (fun _ _ _ h => h) (Or.inl ⟨by rfl, ?_⟩) ?_ ?_
              rotate_left
              · intro w'
                go_simp
                with_reducible rfl
              rotate_left
              · simp only [Act.put, List.setIfInBounds_toArray, List.set_cons_zero, List.set_cons_succ, i64_w, i32_w]
                rfl
              refine take_ (i := 4) (N := some 13) (v := ?_) (a' := ?_) #[true, true, true, true, true, true, false, false, false] rfl rfl (take_ofW HT_.out HW_.out (by kernel_rfl)) (fun _ _ _ h => h) (Or.inl ⟨by rfl, ?_⟩) hHeld ?_ ?_
              rotate_left
              · rintro w' ⟨s0, s1, s2, s3, s4, s5⟩
                go_simp
                with_reducible rfl
              rotate_left
              · simp only [Act.put, List.setIfInBounds_toArray, List.set_cons_zero, List.set_cons_succ, i64_w, i32_w]
                rfl
              refine one_ (i := 6) (N := some 15) #[true, true, true, true, true, true, true, false, false] rfl rfl (one_of HT_.out (by kernel_rfl)) (by decide) (fun K hK => ?_)
              refine goes_ Tryd.func51 (by kernel_rfl) rfl #[.slice A1 l1.length c1] (by rfl) rfl rfl (by (try simp only [List.map_toArray, List.map_cons, List.map_nil]); first | done | rfl | (simp only [List.length_drop, List.length_take]; rfl)) ?_
              with_reducible refine (tolllaw05_Few.calls k _ _ l1 t266 _ ?side1 ?side2 A5.out).mono ?_
              (case side1 => repeat (first | exact (Kd.C_below HR1.out HB.out) | (with_reducible refine Kd.C_alloc ?_ _) | (with_reducible refine Kd.C_drewN ?_ _) | (with_reducible refine Kd.C_drew ?_)))
              (case side2 => exact HC1.out)
              rintro e w216 ⟨v267, rfl, ho0, hb⟩
              have HS3_ := (hb.cell (World.block_lt_of_cell? _ _ (hHeld.2.2.2.1))).trans (hHeld.2.2.2.1)
              have HS4_ := (hb.cell (World.block_lt_of_cell? _ _ (hHeld.2.2.2.2.1))).trans (hHeld.2.2.2.2.1)
              have HS5_ := (hb.cell (World.block_lt_of_cell? _ _ (hHeld.2.2.2.2.2))).trans (hHeld.2.2.2.2.2)
              refine ⟨_, rfl, ?_⟩
              have n0_ := Aside0.mk (Kd.V_elder' (by (with_reducible repeat (first | apply Kd.V_alloc | apply Kd.V_drewN | apply Kd.V_drew)); exact HO0_2.out) (Kd.R_base ho0) hb)
              have n1_ := Aside0.mk (Kd.N_elder' (by (with_reducible repeat (first | apply Kd.N_alloc | apply Kd.N_drewN | apply Kd.N_drew)); exact HO261.out) (Kd.R_base ho0) hb)
              have n2_ := Aside0.mk (Kd.N_elder' (by (with_reducible repeat (first | apply Kd.N_alloc | apply Kd.N_drewN | apply Kd.N_drew)); exact HO264.out) (Kd.R_base ho0) hb)
              have n3_ := Aside0.mk (Kd.V_elder' (by (with_reducible repeat (first | apply Kd.V_alloc | apply Kd.V_drewN | apply Kd.V_drew)); exact HL265_2.out) (Kd.R_base ho0) hb)
              have n4_ := Aside0.mk (Kd.R_lower (Kd.R_newM (M := fun k_ => (w.heap.size ≤ k_)) ho0 (below_size (by repeat (first | (with_reducible first | exact HB.out | apply below_alloc | apply pw_below_drewN | apply below_drew1 | refine below_set ?_ GE258.out) | exact HB.out))) (fun k_ h_ => h_)) (below_size (by repeat (first | (with_reducible first | exact HB.out | apply below_alloc | apply pw_below_drewN | apply below_drew1 | refine below_set ?_ GE258.out) | exact HB.out))))
              have n5_ := Aside0.mk (blk_below (g := gb258) (o := .cells #[.int .i64 a0_0, .string a0_1, .slice A0_2 l0_2.length c0_2] 58 (0, 0)) (by (with_reducible repeat (first | refine blk_drewN ?_ _ | refine blk_drew ?_ | refine blk_alloc ?_ _)); exact BK258.out) hb)
              have n6_ := Aside0.mk (Kd.C_below (by repeat (first | (with_reducible exact HR265_2.out) | (with_reducible refine Kd.C_alloc ?_ _) | (with_reducible refine Kd.C_drewN ?_ _) | (with_reducible refine Kd.C_drew ?_) | exact HR265_2.out | exact (Kd.V_reads' HL265_2.out).2.2)) hb)
              have n7_ := Aside0.mk (below_step (by repeat (first | (with_reducible first | exact HB.out | apply below_alloc | apply pw_below_drewN | apply below_drew1 | refine below_set ?_ GE258.out) | exact HB.out)) hb)
              clear HO0_2
              clear HO261
              clear HO264
              clear HL265_2
              clear BK258
              clear HR265_2
              clear HB
              have HO0_2 := n0_
              have HO261 := n1_
              have HO264 := n2_
              have HL265_2 := n3_
              have HO268 := n4_
              have BK258 := n5_
              have HR265_2 := n6_
              have HB := n7_
              clear n0_ n1_ n2_ n3_ n4_ n5_ n6_ n7_
              (try clear hb)
              (try clear hb2)
              (try clear hk)
              (try clear hi)
              (try clear ho0)
              refine hK.out _ _ ⟨(blk_cell BK258.out 0).trans rfl, (blk_cell BK258.out 1).trans rfl, (blk_cell BK258.out 2).trans rfl, HS3_, HS4_, HS5_⟩ (fun hHeld => ?_)
              clear hK K
              refine norm_ (a' := ?_) ?_ ?_
              rotate_left
              · show Act.put _ (some 15) _ = _
                simp only [Act.put, List.setIfInBounds_toArray, List.set_cons_zero, List.set_cons_succ, i64_w, i32_w]
                rfl
              refine last_ (i := 7) (N := none) #[true, true, true, true, true, true, true, true, false] rfl rfl (one_of HT_.out (by kernel_rfl)) (by decide) (fun K hK => ?_)
              have hs217 : w216.cell? ⟨gb258, 0, none⟩ = some (.int .i64 a0_0) := (blk_cell BK258.out 0).trans rfl
              have hfs217 := blk_frozen BK258.out 0
              have hs218 : w216.cell? ⟨gb258, 1, none⟩ = some (.string a0_1) := (blk_cell BK258.out 1).trans rfl
              have hfs218 := blk_frozen BK258.out 1
              have hs219 : w216.cell? ⟨gb258, 2, none⟩ = some (.slice A0_2 l0_2.length c0_2) := (blk_cell BK258.out 2).trans rfl
              have hfs219 := blk_frozen BK258.out 2
              refine skip_ (w1 := ?_) (by rfl) rfl ?_ ?_
              rotate_left
              · go_simp
                rfl
              refine hK.out _ _ ?_
              clear hK K
              refine pure_ (i := 8) (N := some 1) (v := ?_) (a' := ?_) #[true, true, true, true, true, true, true, true, true] rfl rfl (any_of HT_.out (by kernel_rfl)) (fun _ _ _ h => h) (Or.inl ⟨by rfl, ?_⟩) ?_ ?_
              rotate_left
              · intro w'
                go_simp
                with_reducible rfl
              rotate_left
              · simp only [Act.put, List.setIfInBounds_toArray, List.set_cons_zero, List.set_cons_succ, i64_w, i32_w]
                rfl
              refine done_ (done_of HT_.out (by kernel_rfl)) ?_
              have hcz220_0 : w216.cell? ⟨gb258, 0, none⟩ = some (.int .i64 a0_0) := (blk_cell BK258.out 0).trans rfl
              have hcz220_1 : w216.cell? ⟨gb258, 1, none⟩ = some (.string a0_1) := (blk_cell BK258.out 1).trans rfl
              have hcz220_2 : w216.cell? ⟨gb258, 2, none⟩ = some (.slice A0_2 l0_2.length c0_2) := (blk_cell BK258.out 2).trans rfl
              have hfz220_0 := blk_frozen BK258.out 0
              have hfz220_1 := blk_frozen BK258.out 1
              have hfz220_2 := blk_frozen BK258.out 2
              try go_wp2_with (first | ((with_reducible refine _root_.Go.Proofs.YtcakednecmngdaaDoorW.PrintMore.gate_callee (f := 58) rfl ?_); refine goesL_ (some 18) rfl rfl Tryd.func58 (by kernel_rfl) rfl #[.agg #[.int .i64 ((rd_T58 t262 0).f0), .string ((rd_T58 t262 0).f1), .slice A265_2 ((rd_T58 t262 0).f2).length c265_2]] rfl (by (try simp only [List.map_toArray, List.map_cons, List.map_nil]); first | done | rfl | (simp only [List.length_drop, List.length_take]; rfl)) ?_; (with_reducible refine (label_Not.calls ((rd_T58 t262 0).f0) ((rd_T58 t262 0).f1) _ _ ((rd_T58 t262 0).f2) t269 t270 t271 false _ ?side1 ?side2 A6.out).mono ?_); (case side1 => repeat (first | exact ((Kd.V_reads' (by (with_reducible repeat (first | apply Kd.V_alloc | apply Kd.V_drewN | apply Kd.V_drew)); exact (Kd.V_mono (Kd.V_far (p := ⟨gb258, 2, none⟩) (Kd.V_far (p := ⟨gb258, 1, none⟩) (Kd.V_far (p := ⟨gb258, 0, none⟩) (Kd.V_mono HL265_2.out (fun k_ hk => (⟨hk, hk.1.1.2.2⟩ : _ ∧ k_ ≠ gb258))) (fun _ hk => hk.2) (.int .i64 ((rd_T58 t262 0).f0))) (fun _ hk => hk.2) (.string ((rd_T58 t262 0).f1))) (fun _ hk => hk.2) (.slice A265_2 ((rd_T58 t262 0).f2).length c265_2)) (fun _ h_ => h_.1)))).2.2) | (with_reducible refine Kd.C_alloc ?_ _) | (with_reducible refine Kd.C_drewN ?_ _) | (with_reducible refine Kd.C_drew ?_))); (case side2 => exact HC265_2.out); rintro e w221 ⟨v272, rfl, ho0, hb⟩; refine ⟨_, rfl, ?_⟩; have n0_ := Aside0.mk (Kd.V_elder' (by (with_reducible repeat (first | apply Kd.V_alloc | apply Kd.V_drewN | apply Kd.V_drew)); exact (Kd.V_mono (Kd.V_far (p := ⟨gb258, 2, none⟩) (Kd.V_far (p := ⟨gb258, 1, none⟩) (Kd.V_far (p := ⟨gb258, 0, none⟩) (Kd.V_mono HO0_2.out (fun k_ hk => (⟨hk, hk.1.1.1.2⟩ : _ ∧ k_ ≠ gb258))) (fun _ hk => hk.2) (.int .i64 ((rd_T58 t262 0).f0))) (fun _ hk => hk.2) (.string ((rd_T58 t262 0).f1))) (fun _ hk => hk.2) (.slice A265_2 ((rd_T58 t262 0).f2).length c265_2)) (fun _ h_ => h_.1))) (Kd.R_base ho0) hb); have n1_ := Aside0.mk (Kd.N_elder' (by (with_reducible repeat (first | apply Kd.N_alloc | apply Kd.N_drewN | apply Kd.N_drew)); exact (Kd.N_mono (Kd.N_far (p := ⟨gb258, 2, none⟩) (Kd.N_far (p := ⟨gb258, 1, none⟩) (Kd.N_far (p := ⟨gb258, 0, none⟩) (Kd.N_mono HO261.out (fun k_ hk => (⟨hk, hk.1.1.2⟩ : _ ∧ k_ ≠ gb258))) (fun _ hk => hk.2) (.int .i64 ((rd_T58 t262 0).f0))) (fun _ hk => hk.2) (.string ((rd_T58 t262 0).f1))) (fun _ hk => hk.2) (.slice A265_2 ((rd_T58 t262 0).f2).length c265_2)) (fun _ h_ => h_.1))) (Kd.R_base ho0) hb); have n2_ := Aside0.mk (Kd.N_elder' (by (with_reducible repeat (first | apply Kd.N_alloc | apply Kd.N_drewN | apply Kd.N_drew)); exact (Kd.N_mono (Kd.N_far (p := ⟨gb258, 2, none⟩) (Kd.N_far (p := ⟨gb258, 1, none⟩) (Kd.N_far (p := ⟨gb258, 0, none⟩) (Kd.N_mono HO264.out (fun k_ hk => (⟨hk, hk.1.2.2⟩ : _ ∧ k_ ≠ gb258))) (fun _ hk => hk.2) (.int .i64 ((rd_T58 t262 0).f0))) (fun _ hk => hk.2) (.string ((rd_T58 t262 0).f1))) (fun _ hk => hk.2) (.slice A265_2 ((rd_T58 t262 0).f2).length c265_2)) (fun _ h_ => h_.1))) (Kd.R_base ho0) hb); have n3_ := Aside0.mk (Kd.V_elder' (by (with_reducible repeat (first | apply Kd.V_alloc | apply Kd.V_drewN | apply Kd.V_drew)); exact (Kd.V_mono (Kd.V_far (p := ⟨gb258, 2, none⟩) (Kd.V_far (p := ⟨gb258, 1, none⟩) (Kd.V_far (p := ⟨gb258, 0, none⟩) (Kd.V_mono HL265_2.out (fun k_ hk => (⟨hk, hk.1.1.2.2⟩ : _ ∧ k_ ≠ gb258))) (fun _ hk => hk.2) (.int .i64 ((rd_T58 t262 0).f0))) (fun _ hk => hk.2) (.string ((rd_T58 t262 0).f1))) (fun _ hk => hk.2) (.slice A265_2 ((rd_T58 t262 0).f2).length c265_2)) (fun _ h_ => h_.1))) (Kd.R_base ho0) hb); have n4_ := Aside0.mk (Kd.R_below (by (with_reducible repeat (first | apply Kd.R_alloc | apply Kd.R_drewN | apply Kd.R_drew)); exact (Kd.R_mono (Kd.R_far (p := ⟨gb258, 2, none⟩) (Kd.R_far (p := ⟨gb258, 1, none⟩) (Kd.R_far (p := ⟨gb258, 0, none⟩) (Kd.R_types HO268.out BK258.out (by decide)) (fun _ hk => hk.2) (.int .i64 ((rd_T58 t262 0).f0))) (fun _ hk => hk.2) (.string ((rd_T58 t262 0).f1))) (fun _ hk => hk.2) (.slice A265_2 ((rd_T58 t262 0).f2).length c265_2)) (fun _ h_ => h_.1))) hb); have n5_ := Aside0.mk (Kd.R_lower (Kd.R_newM (M := fun k_ => (w.heap.size ≤ k_)) ho0 (below_size (by repeat (first | (with_reducible first | exact HB.out | apply below_alloc | apply pw_below_drewN | apply below_drew1 | refine below_set ?_ GE258.out) | exact HB.out))) (fun k_ h_ => h_)) (below_size (by repeat (first | (with_reducible first | exact HB.out | apply below_alloc | apply pw_below_drewN | apply below_drew1 | refine below_set ?_ GE258.out) | exact HB.out)))); have n6_ := Aside0.mk (blk_below (g := gb258) (o := .cells #[.int .i64 ((rd_T58 t262 0).f0), .string ((rd_T58 t262 0).f1), .slice A265_2 ((rd_T58 t262 0).f2).length c265_2] 58 (0, 0)) (by (with_reducible repeat (first | refine blk_drewN ?_ _ | refine blk_drew ?_ | refine blk_alloc ?_ _)); refine blk_put (cs := #[.int .i64 ((rd_T58 t262 0).f0), .string ((rd_T58 t262 0).f1), .slice A0_2 l0_2.length c0_2]) ?_ 2 _ rfl; (with_reducible repeat (first | refine blk_drewN ?_ _ | refine blk_drew ?_ | refine blk_alloc ?_ _)); refine blk_put (cs := #[.int .i64 ((rd_T58 t262 0).f0), .string a0_1, .slice A0_2 l0_2.length c0_2]) ?_ 1 _ rfl; (with_reducible repeat (first | refine blk_drewN ?_ _ | refine blk_drew ?_ | refine blk_alloc ?_ _)); refine blk_put (cs := #[.int .i64 a0_0, .string a0_1, .slice A0_2 l0_2.length c0_2]) ?_ 0 _ rfl; (with_reducible repeat (first | refine blk_drewN ?_ _ | refine blk_drew ?_ | refine blk_alloc ?_ _)); exact BK258.out) hb); have n7_ := Aside0.mk (Kd.C_below ((Kd.V_reads' (by (with_reducible repeat (first | apply Kd.V_alloc | apply Kd.V_drewN | apply Kd.V_drew)); exact (Kd.V_mono (Kd.V_far (p := ⟨gb258, 2, none⟩) (Kd.V_far (p := ⟨gb258, 1, none⟩) (Kd.V_far (p := ⟨gb258, 0, none⟩) (Kd.V_mono HL265_2.out (fun k_ hk => (⟨hk, hk.1.1.2.2⟩ : _ ∧ k_ ≠ gb258))) (fun _ hk => hk.2) (.int .i64 ((rd_T58 t262 0).f0))) (fun _ hk => hk.2) (.string ((rd_T58 t262 0).f1))) (fun _ hk => hk.2) (.slice A265_2 ((rd_T58 t262 0).f2).length c265_2)) (fun _ h_ => h_.1)))).2.2) hb); have n8_ := Aside0.mk (below_step (by repeat (first | (with_reducible first | exact HB.out | apply below_alloc | apply pw_below_drewN | apply below_drew1 | refine below_set ?_ GE258.out) | exact HB.out)) hb); clear HO0_2; clear HO261; clear HO264; clear HL265_2; clear HO268; clear BK258; clear HR265_2; clear HB; have HO0_2 := n0_; have HO261 := n1_; have HO264 := n2_; have HL265_2 := n3_; have HO268 := n4_; have HO273 := n5_; have BK258 := n6_; have HR265_2 := n7_; have HB := n8_; clear n0_ n1_ n2_ n3_ n4_ n5_ n6_ n7_ n8_; (try clear hb); (try clear hb2); (try clear hk); (try clear hi); (try clear ho0)) | ((with_reducible refine gate_dst (N := 5) rfl ?_); (try (refine gate_guard (by rfl) ?_; dsimp only)); refine box_event ?hg (N := 5) ?hd (cs := #[.int .i64 0, .string (⟨#[]⟩ : ByteArray), .slice none 0 0]) (t := 58) ?hr ?_; (case hd => rfl); (case hg => rfl); (case hr => first | (go_simp; done) | (go_simp; rfl)); intro gb275 hg w222 hbox hb; have n0_ := Aside0.mk (Kd.V_below (Kd.V_elderB (by (with_reducible repeat (first | apply Kd.V_alloc | apply Kd.V_drewN | apply Kd.V_drew)); exact HO0_2.out) gb275 (Nat.le_of_eq hg.symm)) hb); have n1_ := Aside0.mk (Kd.N_below (Kd.N_elderB (by (with_reducible repeat (first | apply Kd.N_alloc | apply Kd.N_drewN | apply Kd.N_drew)); exact HO261.out) gb275 (Nat.le_of_eq hg.symm)) hb); have n2_ := Aside0.mk (Kd.N_below (Kd.N_elderB (by (with_reducible repeat (first | apply Kd.N_alloc | apply Kd.N_drewN | apply Kd.N_drew)); exact HO264.out) gb275 (Nat.le_of_eq hg.symm)) hb); have n3_ := Aside0.mk (Kd.V_below (Kd.V_elderB (by (with_reducible repeat (first | apply Kd.V_alloc | apply Kd.V_drewN | apply Kd.V_drew)); exact HL265_2.out) gb275 (Nat.le_of_eq hg.symm)) hb); have n4_ := Aside0.mk (Kd.R_below (by (with_reducible repeat (first | apply Kd.R_alloc | apply Kd.R_drewN | apply Kd.R_drew)); exact HO268.out) hb); have n5_ := Aside0.mk (Kd.R_below (by (with_reducible repeat (first | apply Kd.R_alloc | apply Kd.R_drewN | apply Kd.R_drew)); exact HO273.out) hb); have n6_ := Aside0.mk (blk_below (g := gb258) (o := .cells #[.int .i64 ((rd_T58 t262 0).f0), .string ((rd_T58 t262 0).f1), .slice A265_2 ((rd_T58 t262 0).f2).length c265_2] 58 (0, 0)) (by (with_reducible repeat (first | refine blk_drewN ?_ _ | refine blk_drew ?_ | refine blk_alloc ?_ _)); exact BK258.out) hb); have n7_ := Aside0.mk (Kd.C_below (by repeat (first | (with_reducible exact HR265_2.out) | (with_reducible refine Kd.C_alloc ?_ _) | (with_reducible refine Kd.C_drewN ?_ _) | (with_reducible refine Kd.C_drew ?_) | exact HR265_2.out | exact (Kd.V_reads' HL265_2.out).2.2)) hb); have n8_ := Aside0.mk (below_step (by repeat (first | (with_reducible first | exact HB.out | apply below_alloc | apply pw_below_drewN | apply below_drew1 | refine below_set ?_ GE258.out) | exact HB.out)) hb); have n9_ := Aside0.mk (hbox); have n10_ := Aside0.mk ((by rw [hg]; exact (below_size (by repeat (first | (with_reducible first | exact HB.out | apply below_alloc | apply pw_below_drewN | apply below_drew1 | refine below_set ?_ GE258.out) | exact HB.out))) : w.heap.size ≤ gb275)); have n11_ := Aside0.mk ((by rw [hg]; exact (below_size (by repeat (first | (with_reducible first | exact HB.out | apply below_alloc | apply pw_below_drewN | apply below_drew1 | refine below_set ?_ GE258.out) | exact HB.out))) : w.heap.size ≤ gb275)); have n12_ := Aside0.mk ((by rw [hg]; exact Nat.ne_of_lt (blk_lt (g := gb258) (o := .cells #[.int .i64 ((rd_T58 t262 0).f0), .string ((rd_T58 t262 0).f1), .slice A265_2 ((rd_T58 t262 0).f2).length c265_2] 58 (0, 0)) (by (with_reducible repeat (first | refine blk_drewN ?_ _ | refine blk_drew ?_ | refine blk_alloc ?_ _)); exact BK258.out)) : gb258 ≠ gb275)); have n13_ := Aside0.mk ((by rw [hg]; exact Nat.ne_of_gt (blk_lt (g := gb258) (o := .cells #[.int .i64 ((rd_T58 t262 0).f0), .string ((rd_T58 t262 0).f1), .slice A265_2 ((rd_T58 t262 0).f2).length c265_2] 58 (0, 0)) (by (with_reducible repeat (first | refine blk_drewN ?_ _ | refine blk_drew ?_ | refine blk_alloc ?_ _)); exact BK258.out)) : gb275 ≠ gb258)); clear HO0_2; clear HO261; clear HO264; clear HL265_2; clear HO268; clear HO273; clear BK258; clear HR265_2; clear HB; have HO0_2 := n0_; have HO261 := n1_; have HO264 := n2_; have HL265_2 := n3_; have HO268 := n4_; have HO273 := n5_; have BK258 := n6_; have HR265_2 := n7_; have HB := n8_; have BK275 := n9_; have GW275 := n10_; have GE275 := n11_; have NB258_275 := n12_; have NB275_258 := n13_; clear n0_ n1_ n2_ n3_ n4_ n5_ n6_ n7_ n8_ n9_ n10_ n11_ n12_ n13_; clear hb hbox hg; have hnb223 := NB275_258.out; have hnc223 := NB258_275.out; have hcz224_0 : w222.cell? ⟨gb275, 0, none⟩ = some (.int .i64 0) := (blk_cell BK275.out 0).trans rfl; have hcz224_1 : w222.cell? ⟨gb275, 1, none⟩ = some (.string (⟨#[]⟩ : ByteArray)) := (blk_cell BK275.out 1).trans rfl; have hcz224_2 : w222.cell? ⟨gb275, 2, none⟩ = some (.slice none 0 0) := (blk_cell BK275.out 2).trans rfl; have hfz224_0 := blk_frozen BK275.out 0; have hfz224_1 := blk_frozen BK275.out 1; have hfz224_2 := blk_frozen BK275.out 2; obtain ⟨Ao225, co225, eo225⟩ := Kd.R_slice HO273.out; subst eo225) | ((with_reducible refine gate_store (t := 58) (p := 5) rfl ?_); refine store_event (t := 58) (p := 5) (v := ?vo_w226) (w1 := (((w222.setCell ⟨gb275, 0, none⟩ (.int .i64 t269)).setCell ⟨gb275, 1, none⟩ (.string t270)).setCell ⟨gb275, 2, none⟩ (.slice Ao225 t271.length co225))) ?hg ?ho ?hn ?hr ?_; (case ho => rfl); (case hg => rfl); (case hn => rfl); (case hr => first | (go_simp; done) | (go_simp; rfl)); intro w226 hw; have n0_ : Aside0 (Kd.V Kd.string 9 w226 w.heap.size (fun k_ => (P0_2_ k_ ∨ w.heap.size ≤ k_) ∧ some k_ ≠ (.slice Ao213 y259.length co213 : Value).ownBlock ∧ some k_ ≠ (.slice (some ad265) t262.length co215 : Value).ownBlock ∧ some k_ ≠ (v267 : Value).ownBlock ∧ some k_ ≠ (.slice Ao225 t271.length co225 : Value).ownBlock ∧ k_ ≠ gb258 ∧ k_ ≠ gb275) (.slice A0_2 l0_2.length c0_2) l0_2) := ⟨(by rw [hw]; exact (by (with_reducible repeat (first | apply Kd.V_alloc | apply Kd.V_drewN | apply Kd.V_drew)); exact Kd.V_mono (Kd.V_far (p := ⟨gb275, 2, none⟩) (Kd.V_far (p := ⟨gb275, 1, none⟩) (Kd.V_far (p := ⟨gb275, 0, none⟩) (Kd.V_mono HO0_2.out (fun k_ hk => (⟨hk, hk.2⟩ : _ ∧ k_ ≠ gb275))) (fun _ hk => hk.2) (.int .i64 t269)) (fun _ hk => hk.2) (.string t270)) (fun _ hk => hk.2) (.slice Ao225 t271.length co225)) (fun _ hk => ⟨hk.1.1.1.1.1.1.1, ⟨hk.1.1.1.1.1.2, ⟨hk.1.1.1.1.2, ⟨hk.1.1.1.2, ⟨hk.1.1.2, ⟨hk.1.1.1.1.1.1.2, hk.1.2⟩⟩⟩⟩⟩⟩)))⟩; have n1_ : Aside0 (Kd.N k58 58 w226 w.heap.size (fun k_ => (P0_2_ k_ ∨ w.heap.size ≤ k_) ∧ some k_ ≠ (.slice (some ad265) t262.length co215 : Value).ownBlock ∧ some k_ ≠ (v267 : Value).ownBlock ∧ some k_ ≠ (.slice Ao225 t271.length co225 : Value).ownBlock ∧ k_ ≠ gb258 ∧ k_ ≠ gb275) (.slice Ao213 y259.length co213) y259) := ⟨(by rw [hw]; exact (by (with_reducible repeat (first | apply Kd.N_alloc | apply Kd.N_drewN | apply Kd.N_drew)); exact Kd.N_mono (Kd.N_far (p := ⟨gb275, 2, none⟩) (Kd.N_far (p := ⟨gb275, 1, none⟩) (Kd.N_far (p := ⟨gb275, 0, none⟩) (Kd.N_mono HO261.out (fun k_ hk => (⟨hk, hk.2⟩ : _ ∧ k_ ≠ gb275))) (fun _ hk => hk.2) (.int .i64 t269)) (fun _ hk => hk.2) (.string t270)) (fun _ hk => hk.2) (.slice Ao225 t271.length co225)) (fun _ hk => ⟨hk.1.1.1.1.1.1, ⟨hk.1.1.1.1.2, ⟨hk.1.1.1.2, ⟨hk.1.1.2, ⟨hk.1.1.1.1.1.2, hk.1.2⟩⟩⟩⟩⟩)))⟩; have n2_ : Aside0 (Kd.N k58 58 w226 w.heap.size (fun k_ => (P0_2_ k_ ∨ w.heap.size ≤ k_) ∧ some k_ ≠ (.slice Ao213 y259.length co213 : Value).ownBlock ∧ some k_ ≠ (v267 : Value).ownBlock ∧ some k_ ≠ (.slice Ao225 t271.length co225 : Value).ownBlock ∧ k_ ≠ gb258 ∧ k_ ≠ gb275) (.slice (some ad265) t262.length co215) t262) := ⟨(by rw [hw]; exact (by (with_reducible repeat (first | apply Kd.N_alloc | apply Kd.N_drewN | apply Kd.N_drew)); exact Kd.N_mono (Kd.N_far (p := ⟨gb275, 2, none⟩) (Kd.N_far (p := ⟨gb275, 1, none⟩) (Kd.N_far (p := ⟨gb275, 0, none⟩) (Kd.N_mono HO264.out (fun k_ hk => (⟨hk, hk.2⟩ : _ ∧ k_ ≠ gb275))) (fun _ hk => hk.2) (.int .i64 t269)) (fun _ hk => hk.2) (.string t270)) (fun _ hk => hk.2) (.slice Ao225 t271.length co225)) (fun _ hk => ⟨hk.1.1.1.1.1, ⟨hk.1.1.1.1.2.1, ⟨hk.1.1.1.2, ⟨hk.1.1.2, ⟨hk.1.1.1.1.2.2, hk.1.2⟩⟩⟩⟩⟩)))⟩; have n3_ : Aside0 (Kd.V Kd.string 9 w226 w.heap.size (fun k_ => (P0_2_ k_ ∨ w.heap.size ≤ k_) ∧ some k_ ≠ (.slice Ao213 y259.length co213 : Value).ownBlock ∧ some k_ ≠ (.slice (some ad265) t262.length co215 : Value).ownBlock ∧ some k_ ≠ (v267 : Value).ownBlock ∧ some k_ ≠ (.slice Ao225 t271.length co225 : Value).ownBlock ∧ k_ ≠ gb258 ∧ k_ ≠ gb275) (.slice A265_2 ((rd_T58 t262 0).f2).length c265_2) ((rd_T58 t262 0).f2)) := ⟨(by rw [hw]; exact (by (with_reducible repeat (first | apply Kd.V_alloc | apply Kd.V_drewN | apply Kd.V_drew)); exact Kd.V_mono (Kd.V_far (p := ⟨gb275, 2, none⟩) (Kd.V_far (p := ⟨gb275, 1, none⟩) (Kd.V_far (p := ⟨gb275, 0, none⟩) (Kd.V_mono HL265_2.out (fun k_ hk => (⟨hk, hk.2⟩ : _ ∧ k_ ≠ gb275))) (fun _ hk => hk.2) (.int .i64 t269)) (fun _ hk => hk.2) (.string t270)) (fun _ hk => hk.2) (.slice Ao225 t271.length co225)) (fun _ hk => ⟨hk.1.1.1.1.1.1, ⟨hk.1.1.1.1.1.2.1, ⟨hk.1.1.1.1.2, ⟨hk.1.1.1.2, ⟨hk.1.1.2, ⟨hk.1.1.1.1.1.2.2, hk.1.2⟩⟩⟩⟩⟩⟩)))⟩; have n4_ : Aside0 (Kd.R k55 55 w226 w.heap.size (fun k_ => (w.heap.size ≤ k_)) v267 t266) := ⟨(by rw [hw]; exact (by (with_reducible repeat (first | apply Kd.R_alloc | apply Kd.R_drewN | apply Kd.R_drew)); exact Kd.R_mono (Kd.R_far (p := ⟨gb275, 2, none⟩) (Kd.R_far (p := ⟨gb275, 1, none⟩) (Kd.R_far (p := ⟨gb275, 0, none⟩) (Kd.R_types HO268.out BK275.out (by decide)) (fun _ hk => hk.2) (.int .i64 t269)) (fun _ hk => hk.2) (.string t270)) (fun _ hk => hk.2) (.slice Ao225 t271.length co225)) (fun _ hk => hk.1.1)))⟩; have n5_ : Aside0 (Kd.R Kd.string 9 w226 w.heap.size (fun k_ => (w.heap.size ≤ k_)) (.slice Ao225 t271.length co225) t271) := ⟨(by rw [hw]; exact (by (with_reducible repeat (first | apply Kd.R_alloc | apply Kd.R_drewN | apply Kd.R_drew)); exact Kd.R_mono (Kd.R_far (p := ⟨gb275, 2, none⟩) (Kd.R_far (p := ⟨gb275, 1, none⟩) (Kd.R_far (p := ⟨gb275, 0, none⟩) (Kd.R_types HO273.out BK275.out (by decide)) (fun _ hk => hk.2) (.int .i64 t269)) (fun _ hk => hk.2) (.string t270)) (fun _ hk => hk.2) (.slice Ao225 t271.length co225)) (fun _ hk => hk.1.1)))⟩; have n6_ : Aside0 (w226.heap[gb258]? = some (.cells #[.int .i64 ((rd_T58 t262 0).f0), .string ((rd_T58 t262 0).f1), .slice A265_2 ((rd_T58 t262 0).f2).length c265_2] 58 (0, 0))) := ⟨(by rw [hw]; exact (by (with_reducible repeat (first | refine blk_drewN ?_ _ | refine blk_drew ?_ | refine blk_alloc ?_ _)); refine blk_far ?_ NB258_275.out _; (with_reducible repeat (first | refine blk_drewN ?_ _ | refine blk_drew ?_ | refine blk_alloc ?_ _)); refine blk_far ?_ NB258_275.out _; (with_reducible repeat (first | refine blk_drewN ?_ _ | refine blk_drew ?_ | refine blk_alloc ?_ _)); refine blk_far ?_ NB258_275.out _; (with_reducible repeat (first | refine blk_drewN ?_ _ | refine blk_drew ?_ | refine blk_alloc ?_ _)); exact BK258.out))⟩; have n7_ : Aside0 (w226.heap[gb275]? = some (.cells #[.int .i64 t269, .string t270, .slice Ao225 t271.length co225] 58 (0, 0))) := ⟨(by rw [hw]; exact (by (with_reducible repeat (first | refine blk_drewN ?_ _ | refine blk_drew ?_ | refine blk_alloc ?_ _)); refine blk_put (cs := #[.int .i64 t269, .string t270, .slice none 0 0]) ?_ 2 _ rfl; (with_reducible repeat (first | refine blk_drewN ?_ _ | refine blk_drew ?_ | refine blk_alloc ?_ _)); refine blk_put (cs := #[.int .i64 t269, .string (⟨#[]⟩ : ByteArray), .slice none 0 0]) ?_ 1 _ rfl; (with_reducible repeat (first | refine blk_drewN ?_ _ | refine blk_drew ?_ | refine blk_alloc ?_ _)); refine blk_put (cs := #[.int .i64 0, .string (⟨#[]⟩ : ByteArray), .slice none 0 0]) ?_ 0 _ rfl; (with_reducible repeat (first | refine blk_drewN ?_ _ | refine blk_drew ?_ | refine blk_alloc ?_ _)); exact BK275.out))⟩; have n8_ : Aside0 (Below w.heap.size w w226) := ⟨(by rw [hw]; exact (by repeat (first | (with_reducible first | exact HB.out | apply below_alloc | apply pw_below_drewN | apply below_drew1 | refine below_set ?_ GE258.out | refine below_set ?_ GE275.out) | exact HB.out)))⟩; clear hw; clear HO0_2; clear HO261; clear HO264; clear HL265_2; clear HO268; clear HO273; clear BK258; clear BK275; clear HB; have HO0_2 := n0_; have HO261 := n1_; have HO264 := n2_; have HL265_2 := n3_; have HO268 := n4_; have HO273 := n5_; have BK258 := n6_; have BK275 := n7_; have HB := n8_; clear n0_ n1_ n2_ n3_ n4_ n5_ n6_ n7_ n8_; have hcz227_0 : w226.cell? ⟨gb258, 0, none⟩ = some (.int .i64 ((rd_T58 t262 0).f0)) := (blk_cell BK258.out 0).trans rfl; have hcz227_1 : w226.cell? ⟨gb258, 1, none⟩ = some (.string ((rd_T58 t262 0).f1)) := (blk_cell BK258.out 1).trans rfl; have hcz227_2 : w226.cell? ⟨gb258, 2, none⟩ = some (.slice A265_2 ((rd_T58 t262 0).f2).length c265_2) := (blk_cell BK258.out 2).trans rfl; have hfz227_0 := blk_frozen BK258.out 0; have hfz227_1 := blk_frozen BK258.out 1; have hfz227_2 := blk_frozen BK258.out 2) | ((with_reducible refine gate_dst (N := 23) rfl ?_); (try (refine gate_guard (by rfl) ?_; dsimp only)); refine Kd.N_lit k58 _ 58 ?hg (N' := 23) ?hd (xs := ([(⟨(rd_T58 t262 0).f0, (rd_T58 t262 0).f1, (rd_T58 t262 0).f2⟩ : S58)] : List (S58))) (inner := [.int .i64 ((rd_T58 t262 0).f0), .string ((rd_T58 t262 0).f1), .slice A265_2 ((rd_T58 t262 0).f2).length c265_2]) (ok := (fun k_ => (P0_2_ k_ ∨ w.heap.size ≤ k_) ∧ some k_ ≠ (.slice Ao213 y259.length co213 : Value).ownBlock ∧ some k_ ≠ (.slice (some ad265) t262.length co215 : Value).ownBlock ∧ some k_ ≠ (v267 : Value).ownBlock ∧ some k_ ≠ (.slice Ao225 t271.length co225 : Value).ownBlock ∧ k_ ≠ gb258 ∧ k_ ≠ gb275)) (okp := (fun k_ => (P0_2_ k_ ∨ w.heap.size ≤ k_) ∧ some k_ ≠ (.slice Ao213 y259.length co213 : Value).ownBlock ∧ some k_ ≠ (.slice (some ad265) t262.length co215 : Value).ownBlock ∧ some k_ ≠ (v267 : Value).ownBlock ∧ some k_ ≠ (.slice Ao225 t271.length co225 : Value).ownBlock ∧ k_ ≠ gb258 ∧ k_ ≠ gb275)) ?hr ?hp (fun _ hk => hk) ((show ∀ k_, w226.heap.size ≤ k_ → (fun k_ => (P0_2_ k_ ∨ w.heap.size ≤ k_) ∧ some k_ ≠ (.slice Ao213 y259.length co213 : Value).ownBlock ∧ some k_ ≠ (.slice (some ad265) t262.length co215 : Value).ownBlock ∧ some k_ ≠ (v267 : Value).ownBlock ∧ some k_ ≠ (.slice Ao225 t271.length co225 : Value).ownBlock ∧ k_ ≠ gb258 ∧ k_ ≠ gb275) k_ from fun k_ hk => ⟨(.inr (Nat.le_trans (below_size (by repeat (first | (with_reducible first | exact HB.out | apply below_alloc | apply pw_below_drewN | apply below_drew1 | refine below_set ?_ GE258.out | refine below_set ?_ GE275.out) | exact HB.out))) hk)), Kd.fresh' (Kd.N_lt (by (with_reducible repeat (first | apply Kd.N_alloc | apply Kd.N_drewN | apply Kd.N_drew)); exact HO261.out)) k_ hk, Kd.fresh' (Kd.N_lt (by (with_reducible repeat (first | apply Kd.N_alloc | apply Kd.N_drewN | apply Kd.N_drew)); exact HO264.out)) k_ hk, Kd.fresh' (Kd.R_lt (by (with_reducible repeat (first | apply Kd.R_alloc | apply Kd.R_drewN | apply Kd.R_drew)); exact HO268.out)) k_ hk, Kd.fresh' (Kd.R_lt (by (with_reducible repeat (first | apply Kd.R_alloc | apply Kd.R_drewN | apply Kd.R_drew)); exact HO273.out)) k_ hk, Kd.freshB (g := gb258) (o := .cells #[.int .i64 ((rd_T58 t262 0).f0), .string ((rd_T58 t262 0).f1), .slice A265_2 ((rd_T58 t262 0).f2).length c265_2] 58 (0, 0)) (by (with_reducible repeat (first | refine blk_drewN ?_ _ | refine blk_drew ?_ | refine blk_alloc ?_ _)); exact BK258.out) k_ hk, Kd.freshB (g := gb275) (o := .cells #[.int .i64 t269, .string t270, .slice Ao225 t271.length co225] 58 (0, 0)) (by (with_reducible repeat (first | refine blk_drewN ?_ _ | refine blk_drew ?_ | refine blk_alloc ?_ _)); exact BK275.out) k_ hk⟩) _ (Nat.le_refl _)) (Below.refl _ _) (Nat.le_refl _) (by simp) ?_; (case hd => rfl); (case hg => rfl); (case hr => first | (go_simp; done) | (go_simp; rfl)); (case hp => exact (Reps.c3 (show Kd.FK k58 _ _ (⟨(rd_T58 t262 0).f0, (rd_T58 t262 0).f1, (rd_T58 t262 0).f2⟩ : S58) [.int .i64 ((rd_T58 t262 0).f0), .string ((rd_T58 t262 0).f1), .slice A265_2 ((rd_T58 t262 0).f2).length c265_2] from (k58_mkF _ _ (⟨(rd_T58 t262 0).f0, (rd_T58 t262 0).f1, (rd_T58 t262 0).f2⟩ : S58) (Kd.V_reads' (Kd.V_mono (ok' := (fun k_ => (P0_2_ k_ ∨ w.heap.size ≤ k_) ∧ some k_ ≠ (.slice Ao213 y259.length co213 : Value).ownBlock ∧ some k_ ≠ (.slice (some ad265) t262.length co215 : Value).ownBlock ∧ some k_ ≠ (v267 : Value).ownBlock ∧ some k_ ≠ (.slice Ao225 t271.length co225 : Value).ownBlock ∧ k_ ≠ gb258 ∧ k_ ≠ gb275)) (HL265_2.out) (fun k_ hk => ⟨hk.1, ⟨hk.2.1, ⟨hk.2.2.1, ⟨hk.2.2.2.1, ⟨hk.2.2.2.2.1, ⟨hk.2.2.2.2.2.1, hk.2.2.2.2.2.2⟩⟩⟩⟩⟩⟩))).2.1 (Kd.V_F (Kd.V_mono (ok' := (fun k_ => (P0_2_ k_ ∨ w.heap.size ≤ k_) ∧ some k_ ≠ (.slice Ao213 y259.length co213 : Value).ownBlock ∧ some k_ ≠ (.slice (some ad265) t262.length co215 : Value).ownBlock ∧ some k_ ≠ (v267 : Value).ownBlock ∧ some k_ ≠ (.slice Ao225 t271.length co225 : Value).ownBlock ∧ k_ ≠ gb258 ∧ k_ ≠ gb275)) (HL265_2.out) (fun k_ hk => ⟨hk.1, ⟨hk.2.1, ⟨hk.2.2.1, ⟨hk.2.2.2.1, ⟨hk.2.2.2.2.1, ⟨hk.2.2.2.2.2.1, hk.2.2.2.2.2.2⟩⟩⟩⟩⟩⟩))))) (Reps.none _ _))); intro v277 w228 ho229 hb hg_ hnew_; clear hg_ hnew_; (first | rw [← Ny276.out] at ho229 | (simp only [Int.reduceToNat] at ho229; rw [← Ny276.out] at ho229)); have n0_ := Aside0.mk (Kd.V_elder' (by (with_reducible repeat (first | apply Kd.V_alloc | apply Kd.V_drewN | apply Kd.V_drew)); exact HO0_2.out) (Kd.N_base ho229) hb); have n1_ := Aside0.mk (Kd.N_elder' (by (with_reducible repeat (first | apply Kd.N_alloc | apply Kd.N_drewN | apply Kd.N_drew)); exact HO261.out) (Kd.N_base ho229) hb); have n2_ := Aside0.mk (Kd.N_elder' (by (with_reducible repeat (first | apply Kd.N_alloc | apply Kd.N_drewN | apply Kd.N_drew)); exact HO264.out) (Kd.N_base ho229) hb); have n3_ := Aside0.mk (Kd.V_elder' (by (with_reducible repeat (first | apply Kd.V_alloc | apply Kd.V_drewN | apply Kd.V_drew)); exact HL265_2.out) (Kd.N_base ho229) hb); have n4_ := Aside0.mk (Kd.R_below (by (with_reducible repeat (first | apply Kd.R_alloc | apply Kd.R_drewN | apply Kd.R_drew)); exact HO268.out) hb); have n5_ := Aside0.mk (Kd.R_below (by (with_reducible repeat (first | apply Kd.R_alloc | apply Kd.R_drewN | apply Kd.R_drew)); exact HO273.out) hb); have n6_ := Aside0.mk (Kd.N_lower ho229 (below_size (by repeat (first | (with_reducible first | exact HB.out | apply below_alloc | apply pw_below_drewN | apply below_drew1 | refine below_set ?_ GE258.out | refine below_set ?_ GE275.out) | exact HB.out)))); have n7_ := Aside0.mk (blk_below (g := gb258) (o := .cells #[.int .i64 ((rd_T58 t262 0).f0), .string ((rd_T58 t262 0).f1), .slice A265_2 ((rd_T58 t262 0).f2).length c265_2] 58 (0, 0)) (by (with_reducible repeat (first | refine blk_drewN ?_ _ | refine blk_drew ?_ | refine blk_alloc ?_ _)); exact BK258.out) hb); have n8_ := Aside0.mk (Kd.C_below (by repeat (first | (with_reducible exact HR265_2.out) | (with_reducible refine Kd.C_alloc ?_ _) | (with_reducible refine Kd.C_drewN ?_ _) | (with_reducible refine Kd.C_drew ?_) | exact HR265_2.out | exact (Kd.V_reads' HL265_2.out).2.2)) hb); have n9_ := Aside0.mk (blk_below (g := gb275) (o := .cells #[.int .i64 t269, .string t270, .slice Ao225 t271.length co225] 58 (0, 0)) (by (with_reducible repeat (first | refine blk_drewN ?_ _ | refine blk_drew ?_ | refine blk_alloc ?_ _)); exact BK275.out) hb); have n10_ := Aside0.mk (below_step (by repeat (first | (with_reducible first | exact HB.out | apply below_alloc | apply pw_below_drewN | apply below_drew1 | refine below_set ?_ GE258.out | refine below_set ?_ GE275.out) | exact HB.out)) hb); clear HO0_2; clear HO261; clear HO264; clear HL265_2; clear HO268; clear HO273; clear BK258; clear HR265_2; clear BK275; clear HB; have HO0_2 := n0_; have HO261 := n1_; have HO264 := n2_; have HL265_2 := n3_; have HO268 := n4_; have HO273 := n5_; have HO278 := n6_; have BK258 := n7_; have HR265_2 := n8_; have BK275 := n9_; have HB := n10_; clear n0_ n1_ n2_ n3_ n4_ n5_ n6_ n7_ n8_ n9_ n10_; clear hb ho229; obtain ⟨Ao230, co230, eo230⟩ := Kd.N_slice HO278.out; subst eo230) | ((with_reducible refine _root_.Go.Proofs.YtcakednecmngdaaDoorW.PrintMore.gate_callee (f := 59) rfl ?_); refine goesL_ (some 24) rfl rfl Tryd.func59 (by kernel_rfl) rfl #[.slice Ao230 y276.length co230] rfl (by (try simp only [List.map_toArray, List.map_cons, List.map_nil]); first | done | rfl | (simp only [List.length_drop, List.length_take]; rfl)) ?_; (with_reducible refine (label_Needs.calls _ _ y276 t279 _ ?side1 ?side2 A7.out).mono ?_); (case side1 => repeat (first | exact (Kd.N_reads' HO278.out).2.2 | (with_reducible refine Kd.C_alloc ?_ _) | (with_reducible refine Kd.C_drewN ?_ _) | (with_reducible refine Kd.C_drew ?_))); (case side2 => exact (Kd.N_reads' HO278.out).2.1); rintro e w231 ⟨rfl, hb⟩; refine ⟨_, rfl, ?_⟩; have n0_ := Aside0.mk (Kd.V_below (by (with_reducible repeat (first | apply Kd.V_alloc | apply Kd.V_drewN | apply Kd.V_drew)); exact HO0_2.out) hb); have n1_ := Aside0.mk (Kd.N_below (by (with_reducible repeat (first | apply Kd.N_alloc | apply Kd.N_drewN | apply Kd.N_drew)); exact HO261.out) hb); have n2_ := Aside0.mk (Kd.N_below (by (with_reducible repeat (first | apply Kd.N_alloc | apply Kd.N_drewN | apply Kd.N_drew)); exact HO264.out) hb); have n3_ := Aside0.mk (Kd.V_below (by (with_reducible repeat (first | apply Kd.V_alloc | apply Kd.V_drewN | apply Kd.V_drew)); exact HL265_2.out) hb); have n4_ := Aside0.mk (Kd.R_below (by (with_reducible repeat (first | apply Kd.R_alloc | apply Kd.R_drewN | apply Kd.R_drew)); exact HO268.out) hb); have n5_ := Aside0.mk (Kd.R_below (by (with_reducible repeat (first | apply Kd.R_alloc | apply Kd.R_drewN | apply Kd.R_drew)); exact HO273.out) hb); have n6_ := Aside0.mk (Kd.N_below (by (with_reducible repeat (first | apply Kd.N_alloc | apply Kd.N_drewN | apply Kd.N_drew)); exact HO278.out) hb); have n7_ := Aside0.mk (blk_below (g := gb258) (o := .cells #[.int .i64 ((rd_T58 t262 0).f0), .string ((rd_T58 t262 0).f1), .slice A265_2 ((rd_T58 t262 0).f2).length c265_2] 58 (0, 0)) (by (with_reducible repeat (first | refine blk_drewN ?_ _ | refine blk_drew ?_ | refine blk_alloc ?_ _)); exact BK258.out) hb); have n8_ := Aside0.mk (Kd.C_below (by repeat (first | (with_reducible exact HR265_2.out) | (with_reducible refine Kd.C_alloc ?_ _) | (with_reducible refine Kd.C_drewN ?_ _) | (with_reducible refine Kd.C_drew ?_) | exact HR265_2.out | exact (Kd.V_reads' HL265_2.out).2.2)) hb); have n9_ := Aside0.mk (blk_below (g := gb275) (o := .cells #[.int .i64 t269, .string t270, .slice Ao225 t271.length co225] 58 (0, 0)) (by (with_reducible repeat (first | refine blk_drewN ?_ _ | refine blk_drew ?_ | refine blk_alloc ?_ _)); exact BK275.out) hb); have n10_ := Aside0.mk (below_step (by repeat (first | (with_reducible first | exact HB.out | apply below_alloc | apply pw_below_drewN | apply below_drew1 | refine below_set ?_ GE258.out | refine below_set ?_ GE275.out) | exact HB.out)) hb); clear HO0_2; clear HO261; clear HO264; clear HL265_2; clear HO268; clear HO273; clear HO278; clear BK258; clear HR265_2; clear BK275; clear HB; have HO0_2 := n0_; have HO261 := n1_; have HO264 := n2_; have HL265_2 := n3_; have HO268 := n4_; have HO273 := n5_; have HO278 := n6_; have BK258 := n7_; have HR265_2 := n8_; have BK275 := n9_; have HB := n10_; clear n0_ n1_ n2_ n3_ n4_ n5_ n6_ n7_ n8_ n9_ n10_; (try clear hb); (try clear hb2); (try clear hk); (try clear hi); have hcz232_0 : w231.cell? ⟨gb275, 0, none⟩ = some (.int .i64 t269) := (blk_cell BK275.out 0).trans rfl; have hcz232_1 : w231.cell? ⟨gb275, 1, none⟩ = some (.string t270) := (blk_cell BK275.out 1).trans rfl; have hcz232_2 : w231.cell? ⟨gb275, 2, none⟩ = some (.slice Ao225 t271.length co225) := (blk_cell BK275.out 2).trans rfl; have hfz232_0 := blk_frozen BK275.out 0; have hfz232_1 := blk_frozen BK275.out 1; have hfz232_2 := blk_frozen BK275.out 2) | (go_at_call 53; (with_reducible refine (tolllaw08_awake.calls  true _ A208.out).mono ?_); rintro e w233 ⟨rfl, hb⟩; have n0_ := Aside0.mk (Kd.V_below (by (with_reducible repeat (first | apply Kd.V_alloc | apply Kd.V_drewN | apply Kd.V_drew)); exact HO0_2.out) hb); have n1_ := Aside0.mk (Kd.N_below (by (with_reducible repeat (first | apply Kd.N_alloc | apply Kd.N_drewN | apply Kd.N_drew)); exact HO261.out) hb); have n2_ := Aside0.mk (Kd.N_below (by (with_reducible repeat (first | apply Kd.N_alloc | apply Kd.N_drewN | apply Kd.N_drew)); exact HO264.out) hb); have n3_ := Aside0.mk (Kd.V_below (by (with_reducible repeat (first | apply Kd.V_alloc | apply Kd.V_drewN | apply Kd.V_drew)); exact HL265_2.out) hb); have n4_ := Aside0.mk (Kd.R_below (by (with_reducible repeat (first | apply Kd.R_alloc | apply Kd.R_drewN | apply Kd.R_drew)); exact HO268.out) hb); have n5_ := Aside0.mk (Kd.R_below (by (with_reducible repeat (first | apply Kd.R_alloc | apply Kd.R_drewN | apply Kd.R_drew)); exact HO273.out) hb); have n6_ := Aside0.mk (Kd.N_below (by (with_reducible repeat (first | apply Kd.N_alloc | apply Kd.N_drewN | apply Kd.N_drew)); exact HO278.out) hb); have n7_ := Aside0.mk (blk_below (g := gb258) (o := .cells #[.int .i64 ((rd_T58 t262 0).f0), .string ((rd_T58 t262 0).f1), .slice A265_2 ((rd_T58 t262 0).f2).length c265_2] 58 (0, 0)) (by (with_reducible repeat (first | refine blk_drewN ?_ _ | refine blk_drew ?_ | refine blk_alloc ?_ _)); exact BK258.out) hb); have n8_ := Aside0.mk (Kd.C_below (by repeat (first | (with_reducible exact HR265_2.out) | (with_reducible refine Kd.C_alloc ?_ _) | (with_reducible refine Kd.C_drewN ?_ _) | (with_reducible refine Kd.C_drew ?_) | exact HR265_2.out | exact (Kd.V_reads' HL265_2.out).2.2)) hb); have n9_ := Aside0.mk (blk_below (g := gb275) (o := .cells #[.int .i64 t269, .string t270, .slice Ao225 t271.length co225] 58 (0, 0)) (by (with_reducible repeat (first | refine blk_drewN ?_ _ | refine blk_drew ?_ | refine blk_alloc ?_ _)); exact BK275.out) hb); have n10_ := Aside0.mk (below_step (by repeat (first | (with_reducible first | exact HB.out | apply below_alloc | apply pw_below_drewN | apply below_drew1 | refine below_set ?_ GE258.out | refine below_set ?_ GE275.out) | exact HB.out)) hb); clear HO0_2; clear HO261; clear HO264; clear HL265_2; clear HO268; clear HO273; clear HO278; clear BK258; clear HR265_2; clear BK275; clear HB; have HO0_2 := n0_; have HO261 := n1_; have HO264 := n2_; have HL265_2 := n3_; have HO268 := n4_; have HO273 := n5_; have HO278 := n6_; have BK258 := n7_; have HR265_2 := n8_; have BK275 := n9_; have HB := n10_; clear n0_ n1_ n2_ n3_ n4_ n5_ n6_ n7_ n8_ n9_ n10_; (try clear hb); (try clear hb2); (try clear hk); (try clear hi)))
              go_ret
              exact ⟨by first | rfl | (simp [errW_none, errW_some] <;> rfl) | (simp [*, errW_none, errW_some] <;> rfl), by repeat (first | (with_reducible first | exact HB.out | apply below_alloc | apply pw_below_drewN | apply below_drew1 | refine below_set ?_ GE258.out | refine below_set ?_ GE275.out) | exact HB.out)⟩
            · rw [if_neg c207] at H
              exact absurd H (by simp)
          · rw [if_neg c206] at H
            exact absurd H (by simp)
        · rw [if_neg c205] at H
          exact absurd H (by simp)
  · rw [if_neg c4] at H
    exact absurd H (by simp)

end Go.Proofs.YtcakednecmngdaaDoor.L
