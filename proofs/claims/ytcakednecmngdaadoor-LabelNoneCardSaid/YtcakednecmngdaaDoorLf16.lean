/- Functions of the program as plain functions, with proofs that the code comes to their answers; written by a program of this session. Conditions: as each theorem states them. -/
import Derived.Test.YtcakednecmngdaaDoorSwitch
import Derived.Test.YtcakednecmngdaaDoorWNEv
import Derived.Test.YtcakednecmngdaaDoorWMore
import Derived.Test.YtcakednecmngdaaDoorL0
import Derived.Test.YtcakednecmngdaaDoorLf51
import Derived.Test.YtcakednecmngdaaDoorLf53
import Derived.Test.YtcakednecmngdaaDoorLf55
import Derived.Test.YtcakednecmngdaaDoorLabelM
import Derived.Test.YtcakednecmngdaaDoorLabelO
namespace Go.Proofs.YtcakednecmngdaaDoor.P
end Go.Proofs.YtcakednecmngdaaDoor.P
namespace Go.Proofs.YtcakednecmngdaaDoorW.PrintMore
end Go.Proofs.YtcakednecmngdaaDoorW.PrintMore
namespace Go.Proofs.YtcakednecmngdaaDoor.L
open Go.Proofs.YtcakednecmngdaaDoor.P
open Go.RowKit Go.Proofs.YtcakednecmngdaaDoorW.PrintWords Go.Proofs.YtcakednecmngdaaDoorW.PrintLast Go.Proofs.YtcakednecmngdaaDoorW.PrintMore
set_option linter.unusedVariables false
set_option linter.unusedSimpArgs false

/-! ### tolllaw08_LabelNone: function 16 -/
def tolllaw08_LabelNone.f (k : Nat) (a0_0 : Int) (a0_1 : ByteArray) (l0_2 : List ByteArray) (l1 : List (S55)) : Option (Bool) := (tolllaw08_Few.f k (([(⟨a0_0, a0_1, l0_2⟩ : S58)] : List (S58)))).bind fun t316 => (if 0 < (t316.length : Int) then ((tolllaw05_Few.f k l1).bind fun t320 => ((label_Not.f ((rd_T58 t316 0).f0) ((rd_T58 t316 0).f1) ((rd_T58 t316 0).f2)).bind fun bt323 => (if bt323.2.2.2 = true then ((label_All.f (([(⟨(rd_T58 t316 0).f0, (rd_T58 t316 0).f1, (rd_T58 t316 0).f2⟩ : S58), (⟨bt323.1, bt323.2.1, bt323.2.2.1⟩ : S58)] : List (S58))) t320).bind fun t338 => (if t338 = true then (some false) else ((label_All.f (([(⟨(rd_T58 t316 0).f0, (rd_T58 t316 0).f1, (rd_T58 t316 0).f2⟩ : S58), (⟨(rd_T58 t316 0).f0, (rd_T58 t316 0).f1, (rd_T58 t316 0).f2⟩ : S58)] : List (S58))) t320).bind fun t342 => ((label_Met.f ((rd_T58 t316 0).f0) ((rd_T58 t316 0).f1) ((rd_T58 t316 0).f2) t320).bind fun t343 => (if (t342 == t343) = true then ((tolllaw08_awake.f).bind fun t344 => (some t344)) else (some false)))))) else ((label_All.f (([(⟨(rd_T58 t316 0).f0, (rd_T58 t316 0).f1, (rd_T58 t316 0).f2⟩ : S58)] : List (S58))) t320).bind fun t333 => (if t333 = true then (some false) else ((tolllaw08_awake.f).bind fun t334 => (some t334))))))) else (none))
theorem tolllaw08_LabelNone.mono : ∀ a0 a1 a2 a3 k, LeO (tolllaw08_LabelNone.f k a0 a1 a2 a3) (tolllaw08_LabelNone.f (k + 1) a0 a1 a2 a3) := by
  intro a0 a1 a2 a3 k
  unfold tolllaw08_LabelNone.f
  repeat' first
      | (with_reducible exact tolllaw05_Few.mono _ _)
      | (with_reducible exact tolllaw08_Few.mono _ _)
      | (with_reducible exact LeO.refl _)
      | (with_reducible exact LeO.none _)
      | (with_reducible refine LeO.ite ?_ ?_)
      | (with_reducible refine LeO.bind ?_ (fun _ => ?_))
      | exact tolllaw05_Few.mono _ _
      | exact tolllaw08_Few.mono _ _
      | exact LeO.none _
      | refine LeO.ite ?_ ?_
      | refine LeO.bind ?_ (fun _ => ?_)
def tolllaw08_LabelNone.T1 : Bool × List (List Nat × List Nat) := (true, [([], []), ([0], [0]), ([1], [1]), ([2], [2]), ([3], [3]), ([], []), ([5, 2], [5]), ([4, 6, 0, 1, 2, 3, 4], [4]), ([6, 7, 0, 1, 2, 3, 4, 5, 6, 7], [5, 6])])
def tolllaw08_LabelNone.B1 : List Nat := [0, 1, 3, 7, 15, 0, 39, 127, 255]
theorem tolllaw08_LabelNone.tab1 : rtab .any (opsOf Tryd.f16 1) = tolllaw08_LabelNone.T1 := by kernel_rfl
theorem tolllaw08_LabelNone.bits1 : waitsOk tolllaw08_LabelNone.T1.2 tolllaw08_LabelNone.B1 = true := by kernel_rfl
def tolllaw08_LabelNone.T5 : Bool × List (List Nat × List Nat) := (true, [([], []), ([], []), ([0, 1], [0, 1]), ([], []), ([2, 3], [2, 3]), ([4], [4]), ([5, 4], [5]), ([6], [6]), ([6], [6]), ([7, 8, 6], [6, 7, 8]), ([6], [6]), ([9, 10, 6, 6], [6, 9, 10]), ([6], [6]), ([6], [6]), ([12, 13, 11, 6], [6, 12, 13]), ([11, 14, 6], [6, 11, 14]), ([6, 15], [6, 15]), ([16, 14], [16]), ([17, 17], [17]), ([17, 18], [17, 18]), ([19, 18, 0, 1, 2, 3, 4, 5, 6, 7, 8, 9, 10, 11, 12, 13, 14, 15, 16, 17, 18, 19], [19])])
def tolllaw08_LabelNone.B5 : List Nat := [0, 0, 3, 0, 15, 31, 63, 127, 127, 511, 127, 2047, 127, 127, 16383, 32767, 65535, 131071, 262143, 524287, 1048575]
theorem tolllaw08_LabelNone.tab5 : rtab .any (opsOf Tryd.f16 5) = tolllaw08_LabelNone.T5 := by kernel_rfl
theorem tolllaw08_LabelNone.bits5 : waitsOk tolllaw08_LabelNone.T5.2 tolllaw08_LabelNone.B5 = true := by kernel_rfl
set_option maxHeartbeats 8000000 in
set_option maxRecDepth 100000 in
theorem tolllaw08_LabelNone.calls (k : Nat) (a0_0 : Int) (a0_1 : ByteArray) (P0_2_ : Nat → Prop) (A0_2 : Option Addr) (c0_2 : Nat) (l0_2 : List ByteArray) (A1 : Option Addr) (c1 : Nat) (l1 : List (S55)) (w : World) (hs0_2 : Kd.V Kd.string 9 w w.heap.size (fun k_ => P0_2_ k_) (.slice A0_2 l0_2.length c0_2) l0_2) (hr1 : Kd.C k55 w A1 l1.length l1) (hc1 : l1.length ≤ c1) (h : tolllaw08_LabelNone.f k a0_0 a0_1 l0_2 l1 = some true) :
    Calls Tryd.prog 16 #[.agg #[.int .i64 a0_0, .string a0_1, .slice A0_2 l0_2.length c0_2], .slice A1 l1.length c1] w fun e w' => e = .returned (.bool true) ∧ Below w.heap.size w w' := by
  have hu58 := Tryd.underlying58
  have HO0_2 := Aside0.mk (show Kd.V Kd.string 9 w w.heap.size (fun k_ => (P0_2_ k_ ∨ w.heap.size ≤ k_)) (.slice A0_2 l0_2.length c0_2) l0_2 from Kd.V_mono hs0_2 (fun k_ hk => .inl hk))
  have HR1 := Aside0.mk hr1
  have HC1 := Aside0.mk hc1
  clear hr1 hc1
  have HB := Aside0.mk (Below.refl w.heap.size w)
  have H : ((tolllaw08_Few.f k (([(⟨a0_0, a0_1, l0_2⟩ : S58)] : List (S58)))).bind fun t316 => (if 0 < (t316.length : Int) then ((tolllaw05_Few.f k l1).bind fun t320 => ((label_Not.f ((rd_T58 t316 0).f0) ((rd_T58 t316 0).f1) ((rd_T58 t316 0).f2)).bind fun bt323 => (if bt323.2.2.2 = true then ((label_All.f (([(⟨(rd_T58 t316 0).f0, (rd_T58 t316 0).f1, (rd_T58 t316 0).f2⟩ : S58), (⟨bt323.1, bt323.2.1, bt323.2.2.1⟩ : S58)] : List (S58))) t320).bind fun t338 => (if t338 = true then (some false) else ((label_All.f (([(⟨(rd_T58 t316 0).f0, (rd_T58 t316 0).f1, (rd_T58 t316 0).f2⟩ : S58), (⟨(rd_T58 t316 0).f0, (rd_T58 t316 0).f1, (rd_T58 t316 0).f2⟩ : S58)] : List (S58))) t320).bind fun t342 => ((label_Met.f ((rd_T58 t316 0).f0) ((rd_T58 t316 0).f1) ((rd_T58 t316 0).f2) t320).bind fun t343 => (if (t342 == t343) = true then ((tolllaw08_awake.f).bind fun t344 => (some t344)) else (some false)))))) else ((label_All.f (([(⟨(rd_T58 t316 0).f0, (rd_T58 t316 0).f1, (rd_T58 t316 0).f2⟩ : S58)] : List (S58))) t320).bind fun t333 => (if t333 = true then (some false) else ((tolllaw08_awake.f).bind fun t334 => (some t334))))))) else (none))) = some true := h
  clear h
  obtain ⟨y313, hy313⟩ : ∃ y_ : List (S58), y_ = (([(⟨a0_0, a0_1, l0_2⟩ : S58)] : List (S58))) := ⟨_, rfl⟩
  replace H : ((tolllaw08_Few.f k y313).bind fun t316 => (if 0 < (t316.length : Int) then ((tolllaw05_Few.f k l1).bind fun t320 => ((label_Not.f ((rd_T58 t316 0).f0) ((rd_T58 t316 0).f1) ((rd_T58 t316 0).f2)).bind fun bt323 => (if bt323.2.2.2 = true then ((label_All.f (([(⟨(rd_T58 t316 0).f0, (rd_T58 t316 0).f1, (rd_T58 t316 0).f2⟩ : S58), (⟨bt323.1, bt323.2.1, bt323.2.2.1⟩ : S58)] : List (S58))) t320).bind fun t338 => (if t338 = true then (some false) else ((label_All.f (([(⟨(rd_T58 t316 0).f0, (rd_T58 t316 0).f1, (rd_T58 t316 0).f2⟩ : S58), (⟨(rd_T58 t316 0).f0, (rd_T58 t316 0).f1, (rd_T58 t316 0).f2⟩ : S58)] : List (S58))) t320).bind fun t342 => ((label_Met.f ((rd_T58 t316 0).f0) ((rd_T58 t316 0).f1) ((rd_T58 t316 0).f2) t320).bind fun t343 => (if (t342 == t343) = true then ((tolllaw08_awake.f).bind fun t344 => (some t344)) else (some false)))))) else ((label_All.f (([(⟨(rd_T58 t316 0).f0, (rd_T58 t316 0).f1, (rd_T58 t316 0).f2⟩ : S58)] : List (S58))) t320).bind fun t333 => (if t333 = true then (some false) else ((tolllaw08_awake.f).bind fun t334 => (some t334))))))) else (none))) = some true := by first | (rw [hy313]; with_reducible exact H) | (have H2_ := (Option.bind_some _ _).symm.trans H; rw [hy313]; with_reducible exact H2_) | (have H2_ := (Option.bind_some _ _).symm.trans H; with_reducible exact H2_) | with_reducible exact H | (rw [hy313]; exact H) | exact H
  have Ny313 := Aside0.mk hy313
  clear hy313
  replace H := Option.bind_eq_some_iff.mp H
  obtain ⟨t316, A30, H⟩ := H
  replace H : (if 0 < (t316.length : Int) then ((tolllaw05_Few.f k l1).bind fun t320 => ((label_Not.f ((rd_T58 t316 0).f0) ((rd_T58 t316 0).f1) ((rd_T58 t316 0).f2)).bind fun bt323 => (if bt323.2.2.2 = true then ((label_All.f (([(⟨(rd_T58 t316 0).f0, (rd_T58 t316 0).f1, (rd_T58 t316 0).f2⟩ : S58), (⟨bt323.1, bt323.2.1, bt323.2.2.1⟩ : S58)] : List (S58))) t320).bind fun t338 => (if t338 = true then (some false) else ((label_All.f (([(⟨(rd_T58 t316 0).f0, (rd_T58 t316 0).f1, (rd_T58 t316 0).f2⟩ : S58), (⟨(rd_T58 t316 0).f0, (rd_T58 t316 0).f1, (rd_T58 t316 0).f2⟩ : S58)] : List (S58))) t320).bind fun t342 => ((label_Met.f ((rd_T58 t316 0).f0) ((rd_T58 t316 0).f1) ((rd_T58 t316 0).f2) t320).bind fun t343 => (if (t342 == t343) = true then ((tolllaw08_awake.f).bind fun t344 => (some t344)) else (some false)))))) else ((label_All.f (([(⟨(rd_T58 t316 0).f0, (rd_T58 t316 0).f1, (rd_T58 t316 0).f2⟩ : S58)] : List (S58))) t320).bind fun t333 => (if t333 = true then (some false) else ((tolllaw08_awake.f).bind fun t334 => (some t334))))))) else (none)) = some true := H
  have A3 := Aside0.mk A30
  clear A30
  by_cases c4 : 0 < (t316.length : Int)
  · rw [if_pos c4] at H
    have c4b0 : decide (0 < (t316.length : Int)) = true := decide_eq_true c4
    have c4b1 : decide (0 < t316.length) = true := decide_eq_true (by omega)
    clear c4
    replace H := Option.bind_eq_some_iff.mp H
    obtain ⟨t320, A50, H⟩ := H
    replace H : ((label_Not.f ((rd_T58 t316 0).f0) ((rd_T58 t316 0).f1) ((rd_T58 t316 0).f2)).bind fun bt323 => (if bt323.2.2.2 = true then ((label_All.f (([(⟨(rd_T58 t316 0).f0, (rd_T58 t316 0).f1, (rd_T58 t316 0).f2⟩ : S58), (⟨bt323.1, bt323.2.1, bt323.2.2.1⟩ : S58)] : List (S58))) t320).bind fun t338 => (if t338 = true then (some false) else ((label_All.f (([(⟨(rd_T58 t316 0).f0, (rd_T58 t316 0).f1, (rd_T58 t316 0).f2⟩ : S58), (⟨(rd_T58 t316 0).f0, (rd_T58 t316 0).f1, (rd_T58 t316 0).f2⟩ : S58)] : List (S58))) t320).bind fun t342 => ((label_Met.f ((rd_T58 t316 0).f0) ((rd_T58 t316 0).f1) ((rd_T58 t316 0).f2) t320).bind fun t343 => (if (t342 == t343) = true then ((tolllaw08_awake.f).bind fun t344 => (some t344)) else (some false)))))) else ((label_All.f (([(⟨(rd_T58 t316 0).f0, (rd_T58 t316 0).f1, (rd_T58 t316 0).f2⟩ : S58)] : List (S58))) t320).bind fun t333 => (if t333 = true then (some false) else ((tolllaw08_awake.f).bind fun t334 => (some t334)))))) = some true := H
    have A5 := Aside0.mk A50
    clear A50
    replace H := Option.bind_eq_some_iff.mp H
    obtain ⟨⟨t323, t324, t325, t328⟩, A60, H⟩ := H
    replace H : (if t328 = true then ((label_All.f (([(⟨(rd_T58 t316 0).f0, (rd_T58 t316 0).f1, (rd_T58 t316 0).f2⟩ : S58), (⟨t323, t324, t325⟩ : S58)] : List (S58))) t320).bind fun t338 => (if t338 = true then (some false) else ((label_All.f (([(⟨(rd_T58 t316 0).f0, (rd_T58 t316 0).f1, (rd_T58 t316 0).f2⟩ : S58), (⟨(rd_T58 t316 0).f0, (rd_T58 t316 0).f1, (rd_T58 t316 0).f2⟩ : S58)] : List (S58))) t320).bind fun t342 => ((label_Met.f ((rd_T58 t316 0).f0) ((rd_T58 t316 0).f1) ((rd_T58 t316 0).f2) t320).bind fun t343 => (if (t342 == t343) = true then ((tolllaw08_awake.f).bind fun t344 => (some t344)) else (some false)))))) else ((label_All.f (([(⟨(rd_T58 t316 0).f0, (rd_T58 t316 0).f1, (rd_T58 t316 0).f2⟩ : S58)] : List (S58))) t320).bind fun t333 => (if t333 = true then (some false) else ((tolllaw08_awake.f).bind fun t334 => (some t334))))) = some true := H
    have A6 := Aside0.mk A60
    clear A60
    by_cases c7 : t328 = true
    · subst c7
      have H1 : ((label_All.f (([(⟨(rd_T58 t316 0).f0, (rd_T58 t316 0).f1, (rd_T58 t316 0).f2⟩ : S58), (⟨t323, t324, t325⟩ : S58)] : List (S58))) t320).bind fun t338 => (if t338 = true then (some false) else ((label_All.f (([(⟨(rd_T58 t316 0).f0, (rd_T58 t316 0).f1, (rd_T58 t316 0).f2⟩ : S58), (⟨(rd_T58 t316 0).f0, (rd_T58 t316 0).f1, (rd_T58 t316 0).f2⟩ : S58)] : List (S58))) t320).bind fun t342 => ((label_Met.f ((rd_T58 t316 0).f0) ((rd_T58 t316 0).f1) ((rd_T58 t316 0).f2) t320).bind fun t343 => (if (t342 == t343) = true then ((tolllaw08_awake.f).bind fun t344 => (some t344)) else (some false)))))) = some true := by rw [if_pos rfl] at H; exact H
      clear H
      have H := H1
      clear H1
      obtain ⟨y335, hy335⟩ : ∃ y_ : List (S58), y_ = (([(⟨(rd_T58 t316 0).f0, (rd_T58 t316 0).f1, (rd_T58 t316 0).f2⟩ : S58), (⟨t323, t324, t325⟩ : S58)] : List (S58))) := ⟨_, rfl⟩
      replace H : ((label_All.f y335 t320).bind fun t338 => (if t338 = true then (some false) else ((label_All.f (([(⟨(rd_T58 t316 0).f0, (rd_T58 t316 0).f1, (rd_T58 t316 0).f2⟩ : S58), (⟨(rd_T58 t316 0).f0, (rd_T58 t316 0).f1, (rd_T58 t316 0).f2⟩ : S58)] : List (S58))) t320).bind fun t342 => ((label_Met.f ((rd_T58 t316 0).f0) ((rd_T58 t316 0).f1) ((rd_T58 t316 0).f2) t320).bind fun t343 => (if (t342 == t343) = true then ((tolllaw08_awake.f).bind fun t344 => (some t344)) else (some false)))))) = some true := by first | (rw [hy335]; with_reducible exact H) | (have H2_ := (Option.bind_some _ _).symm.trans H; rw [hy335]; with_reducible exact H2_) | (have H2_ := (Option.bind_some _ _).symm.trans H; with_reducible exact H2_) | with_reducible exact H | (rw [hy335]; exact H) | exact H
      have Ny335 := Aside0.mk hy335
      clear hy335
      replace H := Option.bind_eq_some_iff.mp H
      obtain ⟨t338, A80, H⟩ := H
      replace H : (if t338 = true then (some false) else ((label_All.f (([(⟨(rd_T58 t316 0).f0, (rd_T58 t316 0).f1, (rd_T58 t316 0).f2⟩ : S58), (⟨(rd_T58 t316 0).f0, (rd_T58 t316 0).f1, (rd_T58 t316 0).f2⟩ : S58)] : List (S58))) t320).bind fun t342 => ((label_Met.f ((rd_T58 t316 0).f0) ((rd_T58 t316 0).f1) ((rd_T58 t316 0).f2) t320).bind fun t343 => (if (t342 == t343) = true then ((tolllaw08_awake.f).bind fun t344 => (some t344)) else (some false))))) = some true := H
      have A8 := Aside0.mk A80
      clear A80
      by_cases c9 : t338 = true
      · subst c9
        have H1 : (some false) = some true := by rw [if_pos rfl] at H; exact H
        exact absurd H1 (by simp)
      · replace c9 := Bool.eq_false_iff.mpr c9
        subst c9
        have H1 : ((label_All.f (([(⟨(rd_T58 t316 0).f0, (rd_T58 t316 0).f1, (rd_T58 t316 0).f2⟩ : S58), (⟨(rd_T58 t316 0).f0, (rd_T58 t316 0).f1, (rd_T58 t316 0).f2⟩ : S58)] : List (S58))) t320).bind fun t342 => ((label_Met.f ((rd_T58 t316 0).f0) ((rd_T58 t316 0).f1) ((rd_T58 t316 0).f2) t320).bind fun t343 => (if (t342 == t343) = true then ((tolllaw08_awake.f).bind fun t344 => (some t344)) else (some false)))) = some true := by rw [if_neg (show ¬ (false = true) by decide)] at H; exact H
        clear H
        have H := H1
        clear H1
        obtain ⟨y339, hy339⟩ : ∃ y_ : List (S58), y_ = (([(⟨(rd_T58 t316 0).f0, (rd_T58 t316 0).f1, (rd_T58 t316 0).f2⟩ : S58), (⟨(rd_T58 t316 0).f0, (rd_T58 t316 0).f1, (rd_T58 t316 0).f2⟩ : S58)] : List (S58))) := ⟨_, rfl⟩
        replace H : ((label_All.f y339 t320).bind fun t342 => ((label_Met.f ((rd_T58 t316 0).f0) ((rd_T58 t316 0).f1) ((rd_T58 t316 0).f2) t320).bind fun t343 => (if (t342 == t343) = true then ((tolllaw08_awake.f).bind fun t344 => (some t344)) else (some false)))) = some true := by first | (rw [hy339]; with_reducible exact H) | (have H2_ := (Option.bind_some _ _).symm.trans H; rw [hy339]; with_reducible exact H2_) | (have H2_ := (Option.bind_some _ _).symm.trans H; with_reducible exact H2_) | with_reducible exact H | (rw [hy339]; exact H) | exact H
        have Ny339 := Aside0.mk hy339
        clear hy339
        replace H := Option.bind_eq_some_iff.mp H
        obtain ⟨t342, A340, H⟩ := H
        replace H : ((label_Met.f ((rd_T58 t316 0).f0) ((rd_T58 t316 0).f1) ((rd_T58 t316 0).f2) t320).bind fun t343 => (if (t342 == t343) = true then ((tolllaw08_awake.f).bind fun t344 => (some t344)) else (some false))) = some true := H
        have A34 := Aside0.mk A340
        clear A340
        replace H := Option.bind_eq_some_iff.mp H
        obtain ⟨t343, A350, H⟩ := H
        replace H : (if (t342 == t343) = true then ((tolllaw08_awake.f).bind fun t344 => (some t344)) else (some false)) = some true := H
        have A35 := Aside0.mk A350
        clear A350
        by_cases c36 : (t342 == t343) = true
        · rw [if_pos c36] at H
          have c36b0 : (t342 == t343) = true := c36
          (try (have c36b1 : decide (t342 = t343) = true := by simpa using c36))
          (try (have c36b2 : (t342 == t343) = true := by simpa using c36))
          clear c36
          replace H := Option.bind_eq_some_iff.mp H
          obtain ⟨t344, A370, H⟩ := H
          replace H : (some t344) = some true := H
          have A37 := Aside0.mk A370
          clear A370
          obtain rfl := Option.some.inj H
          go_enter Tryd.func16, Tryd.ntmps16
          try go_wp2_with (first | ((with_reducible refine gate_dst (N := 2) rfl ?_); (try (refine gate_guard (by rfl) ?_; dsimp only)); refine box_event ?hg (N := 2) ?hd (cs := #[.int .i64 a0_0, .string a0_1, .slice A0_2 l0_2.length c0_2]) (t := 58) ?hr ?_; (case hd => rfl); (case hg => rfl); (case hr => first | (go_simp; done) | (go_simp; rfl)); intro gb312 hg w38 hbox hb; have n0_ := Aside0.mk (Kd.V_below (Kd.V_elderB (by (with_reducible repeat (first | apply Kd.V_alloc | apply Kd.V_drewN | apply Kd.V_drew)); exact HO0_2.out) gb312 (Nat.le_of_eq hg.symm)) hb); have n1_ := Aside0.mk (below_step (by repeat (first | (with_reducible first | exact HB.out | apply below_alloc | apply pw_below_drewN | apply below_drew1) | exact HB.out)) hb); have n2_ := Aside0.mk (hbox); have n3_ := Aside0.mk ((by rw [hg]; exact (below_size (by repeat (first | (with_reducible first | exact HB.out | apply below_alloc | apply pw_below_drewN | apply below_drew1) | exact HB.out))) : w.heap.size ≤ gb312)); have n4_ := Aside0.mk ((by rw [hg]; exact (below_size (by repeat (first | (with_reducible first | exact HB.out | apply below_alloc | apply pw_below_drewN | apply below_drew1) | exact HB.out))) : w.heap.size ≤ gb312)); clear HO0_2; clear HB; have HO0_2 := n0_; have HB := n1_; have BK312 := n2_; have GW312 := n3_; have GE312 := n4_; clear n0_ n1_ n2_ n3_ n4_; clear hb hbox hg))
          have n0_ := Aside0.mk (Kd.V_drew HO0_2.out)
          have n1_ := Aside0.mk (blk_drew BK312.out)
          have n2_ := Aside0.mk (below_drew1 HB.out)
          clear HO0_2
          clear BK312
          clear HB
          have HO0_2 := n0_
          have BK312 := n1_
          have HB := n2_
          clear n0_ n1_ n2_
          refine start_ (n := 9) (S := fun w' => w'.cell? ⟨gb312, 0, none⟩ = some (.int .i64 a0_0) ∧ w'.cell? ⟨gb312, 1, none⟩ = some (.string a0_1) ∧ w'.cell? ⟨gb312, 2, none⟩ = some (.slice A0_2 l0_2.length c0_2)) (ds := [3, 4, 6, 7, 8]) #[false, false, false, false, false, false, false, false, false] (by kernel_rfl) rfl rfl ⟨(blk_cell BK312.out 0).trans rfl, (blk_cell BK312.out 1).trans rfl, (blk_cell BK312.out 2).trans rfl⟩ (fun hHeld => ?_); refine with_tabW tolllaw08_LabelNone.tab1 tolllaw08_LabelNone.bits1 (fun HT_ HW_ => ?_)
          generalize w38.drew = w39 at HO0_2 BK312 HB hHeld ⊢
          refine pure_ (i := 5) (N := some 12) (v := ?_) (a' := ?_) #[false, false, false, false, false, true, false, false, false] rfl rfl (any_of HT_.out (by kernel_rfl)) (fun _ _ _ h => h) (Or.inl ⟨by rfl, ?_⟩) ?_ ?_
          rotate_left
          · intro w'
            go_simp
            with_reducible rfl
          rotate_left
          · simp only [Act.put, List.setIfInBounds_toArray, List.set_cons_zero, List.set_cons_succ, i64_w, i32_w]
            rfl
          refine take_ (i := 0) (N := some 7) (v := ?_) (a' := ?_) #[true, false, false, false, false, true, false, false, false] rfl rfl (take_ofW HT_.out HW_.out (by kernel_rfl)) (fun _ _ _ h => h) (Or.inl ⟨by rfl, ?_⟩) hHeld ?_ ?_
          rotate_left
          · rintro w' ⟨s0, s1, s2⟩
            go_simp
            with_reducible rfl
          rotate_left
          · simp only [Act.put, List.setIfInBounds_toArray, List.set_cons_zero, List.set_cons_succ, i64_w, i32_w]
            rfl
          refine one_ (i := 1) (N := some 8) #[true, true, false, false, false, true, false, false, false] rfl rfl (one_of HT_.out (by kernel_rfl)) (by decide) (fun K hK => ?_)
          refine Kd.N_lit_step k58 _ 58 ?hg (N' := 8) ?hd (xs := ([(⟨a0_0, a0_1, l0_2⟩ : S58)] : List (S58))) (inner := [.int .i64 a0_0, .string a0_1, .slice A0_2 l0_2.length c0_2]) (ok := (fun k_ => (P0_2_ k_ ∨ w.heap.size ≤ k_) ∧ k_ ≠ gb312)) (okp := (fun k_ => (P0_2_ k_ ∨ w.heap.size ≤ k_) ∧ k_ ≠ gb312)) ?hr ?hp (fun _ hk => hk) ((show ∀ k_, w39.heap.size ≤ k_ → (fun k_ => (P0_2_ k_ ∨ w.heap.size ≤ k_) ∧ k_ ≠ gb312) k_ from fun k_ hk => ⟨(.inr (Nat.le_trans (below_size (by repeat (first | (with_reducible first | exact HB.out | apply below_alloc | apply pw_below_drewN | apply below_drew1 | refine below_set ?_ GE312.out) | exact HB.out))) hk)), Kd.freshB (g := gb312) (o := .cells #[.int .i64 a0_0, .string a0_1, .slice A0_2 l0_2.length c0_2] 58 (0, 0)) (by (with_reducible repeat (first | refine blk_drewN ?_ _ | refine blk_drew ?_ | refine blk_alloc ?_ _)); exact BK312.out) k_ hk⟩) _ (Nat.le_refl _)) (Below.refl _ _) (Nat.le_refl _) (by simp) ?_; (case hd => rfl); (case hg => rfl); (case hr => first | (go_simp; done) | (go_simp; rfl)); (case hp => exact (Reps.c3 (show Kd.FK k58 _ _ (⟨a0_0, a0_1, l0_2⟩ : S58) [.int .i64 a0_0, .string a0_1, .slice A0_2 l0_2.length c0_2] from (k58_mkF _ _ (⟨a0_0, a0_1, l0_2⟩ : S58) (Kd.V_reads' (Kd.V_mono (ok' := (fun k_ => (P0_2_ k_ ∨ w.heap.size ≤ k_) ∧ k_ ≠ gb312)) (HO0_2.out) (fun k_ hk => ⟨hk.1, hk.2⟩))).2.1 (Kd.V_F (Kd.V_mono (ok' := (fun k_ => (P0_2_ k_ ∨ w.heap.size ≤ k_) ∧ k_ ≠ gb312)) (HO0_2.out) (fun k_ hk => ⟨hk.1, hk.2⟩))))) (Reps.none _ _)))
          intro v314 w40 ho41 hb hg_ hnew_
          clear hg_ hnew_
          (first | rw [← Ny313.out] at ho41 | (simp only [Int.reduceToNat] at ho41; rw [← Ny313.out] at ho41))
          have n0_ := Aside0.mk (Kd.V_elder' (by (with_reducible repeat (first | apply Kd.V_alloc | apply Kd.V_drewN | apply Kd.V_drew)); exact HO0_2.out) (Kd.N_base ho41) hb)
          have n1_ := Aside0.mk (Kd.N_lower ho41 (below_size (by repeat (first | (with_reducible first | exact HB.out | apply below_alloc | apply pw_below_drewN | apply below_drew1 | refine below_set ?_ GE312.out) | exact HB.out))))
          have n2_ := Aside0.mk (blk_below (g := gb312) (o := .cells #[.int .i64 a0_0, .string a0_1, .slice A0_2 l0_2.length c0_2] 58 (0, 0)) (by (with_reducible repeat (first | refine blk_drewN ?_ _ | refine blk_drew ?_ | refine blk_alloc ?_ _)); exact BK312.out) hb)
          have n3_ := Aside0.mk (below_step (by repeat (first | (with_reducible first | exact HB.out | apply below_alloc | apply pw_below_drewN | apply below_drew1 | refine below_set ?_ GE312.out) | exact HB.out)) hb)
          clear HO0_2
          clear BK312
          clear HB
          have HO0_2 := n0_
          have HO315 := n1_
          have BK312 := n2_
          have HB := n3_
          clear n0_ n1_ n2_ n3_
          clear hb ho41
          obtain ⟨Ao42, co42, eo42⟩ := Kd.N_slice HO315.out
          (first | subst eo42 | (injection eo42 with f1_ f2_ f3_; have f4_ := f1_.symm; have f5_ := f3_.symm; clear f1_ f2_ f3_; subst f4_; subst f5_))
          refine hK.out _ _ ⟨(blk_cell BK312.out 0).trans rfl, (blk_cell BK312.out 1).trans rfl, (blk_cell BK312.out 2).trans rfl⟩ (fun hHeld => ?_)
          clear hK K
          refine norm_ (a' := ?_) ?_ ?_
          rotate_left
          · show Act.put _ (some 8) _ = _
            simp only [Act.put, List.setIfInBounds_toArray, List.set_cons_zero, List.set_cons_succ, i64_w, i32_w]
            rfl
          refine one_ (i := 2) (N := some 9) #[true, true, true, false, false, true, false, false, false] rfl rfl (one_of HT_.out (by kernel_rfl)) (by decide) (fun K hK => ?_)
          refine goes_ Tryd.func55 (by kernel_rfl) rfl #[.slice Ao42 y313.length co42] (by rfl) rfl rfl (by (try simp only [List.map_toArray, List.map_cons, List.map_nil]); first | done | rfl | (simp only [List.length_drop, List.length_take]; rfl)) ?_
          with_reducible refine (tolllaw08_Few.calls k _ _ y313 t316 _ ?side1 ?side2 A3.out).mono ?_
          (case side1 => repeat (first | exact (Kd.N_reads' HO315.out).2.2 | (with_reducible refine Kd.C_alloc ?_ _) | (with_reducible refine Kd.C_drewN ?_ _) | (with_reducible refine Kd.C_drew ?_)))
          (case side2 => exact (Kd.N_reads' HO315.out).2.1)
          rintro e w43 ⟨v317, rfl, ho0, hb⟩
          refine ⟨_, rfl, ?_⟩
          have n0_ := Aside0.mk (Kd.V_elder' (by (with_reducible repeat (first | apply Kd.V_alloc | apply Kd.V_drewN | apply Kd.V_drew)); exact HO0_2.out) (by first | exact Kd.N_base ho0 | exact Kd.N_base (Kd.S_N ho0)) hb)
          have n1_ := Aside0.mk (Kd.N_elder' (by (with_reducible repeat (first | apply Kd.N_alloc | apply Kd.N_drewN | apply Kd.N_drew)); exact HO315.out) (by first | exact Kd.N_base ho0 | exact Kd.N_base (Kd.S_N ho0)) hb)
          have n2_ := Aside0.mk (Kd.N_lower (Kd.N_mono (ok' := fun k_ => (P0_2_ k_ ∨ w.heap.size ≤ k_) ∧ some k_ ≠ (.slice Ao42 y313.length co42 : Value).ownBlock ∧ k_ ≠ gb312) (Kd.S_N (Kd.S_bound ho0)) (fun k_ hk_ => ⟨(.inr (Nat.le_trans (below_size (by repeat (first | (with_reducible first | exact HB.out | apply below_alloc | apply pw_below_drewN | apply below_drew1 | refine below_set ?_ GE312.out) | exact HB.out))) hk_.2.1)), (Kd.fresh' (Kd.N_lt (by (with_reducible repeat (first | apply Kd.N_alloc | apply Kd.N_drewN | apply Kd.N_drew)); exact HO315.out)) k_ hk_.2.1), (Kd.freshB (g := gb312) (o := .cells #[.int .i64 a0_0, .string a0_1, .slice A0_2 l0_2.length c0_2] 58 (0, 0)) (by (with_reducible repeat (first | refine blk_drewN ?_ _ | refine blk_drew ?_ | refine blk_alloc ?_ _)); exact BK312.out) k_ hk_.2.1)⟩)) (below_size (by repeat (first | (with_reducible first | exact HB.out | apply below_alloc | apply pw_below_drewN | apply below_drew1 | refine below_set ?_ GE312.out) | exact HB.out))))
          have n3_ := Aside0.mk (blk_below (g := gb312) (o := .cells #[.int .i64 a0_0, .string a0_1, .slice A0_2 l0_2.length c0_2] 58 (0, 0)) (by (with_reducible repeat (first | refine blk_drewN ?_ _ | refine blk_drew ?_ | refine blk_alloc ?_ _)); exact BK312.out) hb)
          have n4_ := Aside0.mk (below_step (by repeat (first | (with_reducible first | exact HB.out | apply below_alloc | apply pw_below_drewN | apply below_drew1 | refine below_set ?_ GE312.out) | exact HB.out)) hb)
          clear HO0_2
          clear HO315
          clear BK312
          clear HB
          have HO0_2 := n0_
          have HO315 := n1_
          have HO318 := n2_
          have BK312 := n3_
          have HB := n4_
          clear n0_ n1_ n2_ n3_ n4_
          (try clear hb)
          (try clear hb2)
          (try clear hk)
          (try clear hi)
          (try clear ho0)
          obtain ⟨Ao44, co44, eo44⟩ := Kd.N_slice HO318.out
          (first | subst eo44 | (injection eo44 with f1_ f2_ f3_; have f4_ := f1_.symm; have f5_ := f3_.symm; clear f1_ f2_ f3_; subst f4_; subst f5_))
          have p319 : 0 ≤ (0 : Int) := (by omega)
          have q319 : 0 < (t316.length : Int) := of_decide_eq_true (by first | (with_reducible assumption) | assumption)
          obtain ⟨ad319, A319_2, c319_2, e319, hx319_0, hx319_1, hx319_2, hl319_2, hi319_2⟩ := at_T58 (Kd.N_reads' HO318.out).2.2 0 p319 q319
          cases e319
          obtain ⟨ce319, hce319, hMe319, hcc319⟩ := Kd.N_get HO318.out z58 0 p319 (by first | exact q319 | exact of_decide_eq_true (by first | (with_reducible assumption) | assumption) | (have e_ := (Kd.N_reads' HO318.out).1; omega))
          obtain ⟨ua319_2, uc319_2, rfl, ul319_2, ge319_2⟩ := k58_openF hMe319
          have hv319_2 := hcc319 2 _ rfl
          rw [add_field _ _ 2 (by omega)] at hv319_2
          replace hv319_2 := Option.some.inj (hv319_2.symm.trans hx319_2)
          injection hv319_2 with hva_ hvn_ hvc_
          rw [hva_] at ge319_2
          rw [hvc_] at ul319_2
          have HL319_2 := Aside0.mk (show Kd.V Kd.string 9 _ w.heap.size _ _ ((rd_T58 t316 0).f2) from Kd.V_mk ul319_2 ge319_2)
          clear hva_ hvn_ hvc_ ge319_2 ul319_2
          clear hcc319 hce319
          have qi319 : (0 < t316.length) = True := eq_true (by omega)
          (try rw [show ((0 : Int)).toNat = 0 from rfl] at hx319_0)
          (try rw [show 0 * 3 = 0 from rfl] at hx319_0)
          (try rw [Addr.add_zero'] at hx319_0)
          (try rw [show ((0 : Int)).toNat = 0 from rfl] at hx319_1)
          (try rw [show 0 * 3 = 0 from rfl] at hx319_1)
          (try rw [Addr.add_zero'] at hx319_1)
          (try rw [show ((0 : Int)).toNat = 0 from rfl] at hx319_2)
          (try rw [show 0 * 3 = 0 from rfl] at hx319_2)
          (try rw [Addr.add_zero'] at hx319_2)
          have HR319_2 := Aside0.mk hi319_2
          have HC319_2 := Aside0.mk hl319_2
          clear hi319_2 hl319_2
          replace p319 := eq_true p319
          replace q319 := eq_true q319
          refine hK.out _ _ ⟨(blk_cell BK312.out 0).trans rfl, (blk_cell BK312.out 1).trans rfl, (blk_cell BK312.out 2).trans rfl⟩ (fun _ => ?_)
          clear hK K
          refine switch_ (S2 := fun w' => w'.cell? ⟨gb312, 0, none⟩ = some (.int .i64 a0_0) ∧ w'.cell? ⟨gb312, 1, none⟩ = some (.string a0_1) ∧ w'.cell? ⟨gb312, 2, none⟩ = some (.slice A0_2 l0_2.length c0_2) ∧ w'.cell? ad319 = some (.int .i64 ((rd_T58 t316 0).f0)) ∧ w'.cell? ⟨ad319.block, ad319.off + 1, none⟩ = some (.string ((rd_T58 t316 0).f1)) ∧ w'.cell? ⟨ad319.block, ad319.off + 2, none⟩ = some (.slice A319_2 ((rd_T58 t316 0).f2).length c319_2)) (ds2 := [7]) (by kernel_rfl) ⟨(blk_cell BK312.out 0).trans rfl, (blk_cell BK312.out 1).trans rfl, (blk_cell BK312.out 2).trans rfl, hx319_0, hx319_1, hx319_2⟩ (fun hHeld => ?_)
          refine norm_ (a' := ?_) ?_ ?_
          rotate_left
          · show Act.put _ (some 9) _ = _
            simp only [Act.put, List.setIfInBounds_toArray, List.set_cons_zero, List.set_cons_succ, i64_w, i32_w]
            rfl
          refine pure_ (i := 3) (N := some 10) (v := ?_) (a' := ?_) #[true, true, true, true, false, true, false, false, false] rfl rfl (any_of HT_.out (by kernel_rfl)) (fun _ _ _ h => h) (Or.inl ⟨by rfl, ?_⟩) ?_ ?_
          rotate_left
          · intro w'
            go_simp
            with_reducible rfl
          rotate_left
          · simp only [Act.put, List.setIfInBounds_toArray, List.set_cons_zero, List.set_cons_succ, i64_w, i32_w]
            rfl
          refine take_ (i := 4) (N := some 11) (v := ?_) (a' := ?_) #[true, true, true, true, true, true, false, false, false] rfl rfl (take_ofW HT_.out HW_.out (by kernel_rfl)) (fun _ _ _ h => h) (Or.inl ⟨by rfl, ?_⟩) hHeld ?_ ?_
          rotate_left
          · rintro w' ⟨s0, s1, s2, s3, s4, s5⟩
            go_simp
            with_reducible rfl
          rotate_left
          · simp only [Act.put, List.setIfInBounds_toArray, List.set_cons_zero, List.set_cons_succ, i64_w, i32_w]
            rfl
          refine one_ (i := 6) (N := some 13) #[true, true, true, true, true, true, true, false, false] rfl rfl (one_of HT_.out (by kernel_rfl)) (by decide) (fun K hK => ?_)
          refine goes_ Tryd.func51 (by kernel_rfl) rfl #[.slice A1 l1.length c1] (by rfl) rfl rfl (by (try simp only [List.map_toArray, List.map_cons, List.map_nil]); first | done | rfl | (simp only [List.length_drop, List.length_take]; rfl)) ?_
          with_reducible refine (tolllaw05_Few.calls k _ _ l1 t320 _ ?side1 ?side2 A5.out).mono ?_
          (case side1 => repeat (first | exact (Kd.C_below HR1.out HB.out) | (with_reducible refine Kd.C_alloc ?_ _) | (with_reducible refine Kd.C_drewN ?_ _) | (with_reducible refine Kd.C_drew ?_)))
          (case side2 => exact HC1.out)
          rintro e w45 ⟨v321, rfl, ho0, hb⟩
          have HS3_ := (hb.cell (World.block_lt_of_cell? _ _ (hHeld.2.2.2.1))).trans (hHeld.2.2.2.1)
          have HS4_ := (hb.cell (World.block_lt_of_cell? _ _ (hHeld.2.2.2.2.1))).trans (hHeld.2.2.2.2.1)
          have HS5_ := (hb.cell (World.block_lt_of_cell? _ _ (hHeld.2.2.2.2.2))).trans (hHeld.2.2.2.2.2)
          refine ⟨_, rfl, ?_⟩
          have n0_ := Aside0.mk (Kd.V_elder' (by (with_reducible repeat (first | apply Kd.V_alloc | apply Kd.V_drewN | apply Kd.V_drew)); exact HO0_2.out) (Kd.R_base ho0) hb)
          have n1_ := Aside0.mk (Kd.N_elder' (by (with_reducible repeat (first | apply Kd.N_alloc | apply Kd.N_drewN | apply Kd.N_drew)); exact HO315.out) (Kd.R_base ho0) hb)
          have n2_ := Aside0.mk (Kd.N_elder' (by (with_reducible repeat (first | apply Kd.N_alloc | apply Kd.N_drewN | apply Kd.N_drew)); exact HO318.out) (Kd.R_base ho0) hb)
          have n3_ := Aside0.mk (Kd.V_elder' (by (with_reducible repeat (first | apply Kd.V_alloc | apply Kd.V_drewN | apply Kd.V_drew)); exact HL319_2.out) (Kd.R_base ho0) hb)
          have n4_ := Aside0.mk (Kd.R_lower (Kd.R_newM (M := fun k_ => (w.heap.size ≤ k_)) ho0 (below_size (by repeat (first | (with_reducible first | exact HB.out | apply below_alloc | apply pw_below_drewN | apply below_drew1 | refine below_set ?_ GE312.out) | exact HB.out))) (fun k_ h_ => h_)) (below_size (by repeat (first | (with_reducible first | exact HB.out | apply below_alloc | apply pw_below_drewN | apply below_drew1 | refine below_set ?_ GE312.out) | exact HB.out))))
          have n5_ := Aside0.mk (blk_below (g := gb312) (o := .cells #[.int .i64 a0_0, .string a0_1, .slice A0_2 l0_2.length c0_2] 58 (0, 0)) (by (with_reducible repeat (first | refine blk_drewN ?_ _ | refine blk_drew ?_ | refine blk_alloc ?_ _)); exact BK312.out) hb)
          have n6_ := Aside0.mk (Kd.C_below (by repeat (first | (with_reducible exact HR319_2.out) | (with_reducible refine Kd.C_alloc ?_ _) | (with_reducible refine Kd.C_drewN ?_ _) | (with_reducible refine Kd.C_drew ?_) | exact HR319_2.out | exact (Kd.V_reads' HL319_2.out).2.2)) hb)
          have n7_ := Aside0.mk (below_step (by repeat (first | (with_reducible first | exact HB.out | apply below_alloc | apply pw_below_drewN | apply below_drew1 | refine below_set ?_ GE312.out) | exact HB.out)) hb)
          clear HO0_2
          clear HO315
          clear HO318
          clear HL319_2
          clear BK312
          clear HR319_2
          clear HB
          have HO0_2 := n0_
          have HO315 := n1_
          have HO318 := n2_
          have HL319_2 := n3_
          have HO322 := n4_
          have BK312 := n5_
          have HR319_2 := n6_
          have HB := n7_
          clear n0_ n1_ n2_ n3_ n4_ n5_ n6_ n7_
          (try clear hb)
          (try clear hb2)
          (try clear hk)
          (try clear hi)
          (try clear ho0)
          refine hK.out _ _ ⟨(blk_cell BK312.out 0).trans rfl, (blk_cell BK312.out 1).trans rfl, (blk_cell BK312.out 2).trans rfl, HS3_, HS4_, HS5_⟩ (fun hHeld => ?_)
          clear hK K
          refine norm_ (a' := ?_) ?_ ?_
          rotate_left
          · show Act.put _ (some 13) _ = _
            simp only [Act.put, List.setIfInBounds_toArray, List.set_cons_zero, List.set_cons_succ, i64_w, i32_w]
            rfl
          refine last_ (i := 7) (N := none) #[true, true, true, true, true, true, true, true, false] rfl rfl (one_of HT_.out (by kernel_rfl)) (by decide) (fun K hK => ?_)
          have hs46 : w45.cell? ⟨gb312, 0, none⟩ = some (.int .i64 a0_0) := (blk_cell BK312.out 0).trans rfl
          have hfs46 := blk_frozen BK312.out 0
          have hs47 : w45.cell? ⟨gb312, 1, none⟩ = some (.string a0_1) := (blk_cell BK312.out 1).trans rfl
          have hfs47 := blk_frozen BK312.out 1
          have hs48 : w45.cell? ⟨gb312, 2, none⟩ = some (.slice A0_2 l0_2.length c0_2) := (blk_cell BK312.out 2).trans rfl
          have hfs48 := blk_frozen BK312.out 2
          refine skip_ (w1 := ?_) (by rfl) rfl ?_ ?_
          rotate_left
          · go_simp
            rfl
          refine hK.out _ _ ?_
          clear hK K
          refine pure_ (i := 8) (N := some 1) (v := ?_) (a' := ?_) #[true, true, true, true, true, true, true, true, true] rfl rfl (any_of HT_.out (by kernel_rfl)) (fun _ _ _ h => h) (Or.inl ⟨by rfl, ?_⟩) ?_ ?_
          rotate_left
          · intro w'
            go_simp
            with_reducible rfl
          rotate_left
          · simp only [Act.put, List.setIfInBounds_toArray, List.set_cons_zero, List.set_cons_succ, i64_w, i32_w]
            rfl
          refine done_ (done_of HT_.out (by kernel_rfl)) ?_
          have hcz49_0 : w45.cell? ⟨gb312, 0, none⟩ = some (.int .i64 a0_0) := (blk_cell BK312.out 0).trans rfl
          have hcz49_1 : w45.cell? ⟨gb312, 1, none⟩ = some (.string a0_1) := (blk_cell BK312.out 1).trans rfl
          have hcz49_2 : w45.cell? ⟨gb312, 2, none⟩ = some (.slice A0_2 l0_2.length c0_2) := (blk_cell BK312.out 2).trans rfl
          have hfz49_0 := blk_frozen BK312.out 0
          have hfz49_1 := blk_frozen BK312.out 1
          have hfz49_2 := blk_frozen BK312.out 2
          try go_wp2_with (first | ((with_reducible refine _root_.Go.Proofs.YtcakednecmngdaaDoorW.PrintMore.gate_callee (f := 58) rfl ?_); refine goesL_ (some 16) rfl rfl Tryd.func58 (by kernel_rfl) rfl #[.agg #[.int .i64 ((rd_T58 t316 0).f0), .string ((rd_T58 t316 0).f1), .slice A319_2 ((rd_T58 t316 0).f2).length c319_2]] rfl (by (try simp only [List.map_toArray, List.map_cons, List.map_nil]); first | done | rfl | (simp only [List.length_drop, List.length_take]; rfl)) ?_; (with_reducible refine (label_Not.calls ((rd_T58 t316 0).f0) ((rd_T58 t316 0).f1) _ _ ((rd_T58 t316 0).f2) t323 t324 t325 true _ ?side1 ?side2 A6.out).mono ?_); (case side1 => repeat (first | exact ((Kd.V_reads' (by (with_reducible repeat (first | apply Kd.V_alloc | apply Kd.V_drewN | apply Kd.V_drew)); exact (Kd.V_mono (Kd.V_far (p := ⟨gb312, 2, none⟩) (Kd.V_far (p := ⟨gb312, 1, none⟩) (Kd.V_far (p := ⟨gb312, 0, none⟩) (Kd.V_mono HL319_2.out (fun k_ hk => (⟨hk, hk.1.1.2.2⟩ : _ ∧ k_ ≠ gb312))) (fun _ hk => hk.2) (.int .i64 ((rd_T58 t316 0).f0))) (fun _ hk => hk.2) (.string ((rd_T58 t316 0).f1))) (fun _ hk => hk.2) (.slice A319_2 ((rd_T58 t316 0).f2).length c319_2)) (fun _ h_ => h_.1)))).2.2) | (with_reducible refine Kd.C_alloc ?_ _) | (with_reducible refine Kd.C_drewN ?_ _) | (with_reducible refine Kd.C_drew ?_))); (case side2 => exact HC319_2.out); rintro e w50 ⟨v326, rfl, ho0, hb⟩; refine ⟨_, rfl, ?_⟩; have n0_ := Aside0.mk (Kd.V_elder' (by (with_reducible repeat (first | apply Kd.V_alloc | apply Kd.V_drewN | apply Kd.V_drew)); exact (Kd.V_mono (Kd.V_far (p := ⟨gb312, 2, none⟩) (Kd.V_far (p := ⟨gb312, 1, none⟩) (Kd.V_far (p := ⟨gb312, 0, none⟩) (Kd.V_mono HO0_2.out (fun k_ hk => (⟨hk, hk.1.1.1.2⟩ : _ ∧ k_ ≠ gb312))) (fun _ hk => hk.2) (.int .i64 ((rd_T58 t316 0).f0))) (fun _ hk => hk.2) (.string ((rd_T58 t316 0).f1))) (fun _ hk => hk.2) (.slice A319_2 ((rd_T58 t316 0).f2).length c319_2)) (fun _ h_ => h_.1))) (Kd.R_base ho0) hb); have n1_ := Aside0.mk (Kd.N_elder' (by (with_reducible repeat (first | apply Kd.N_alloc | apply Kd.N_drewN | apply Kd.N_drew)); exact (Kd.N_mono (Kd.N_far (p := ⟨gb312, 2, none⟩) (Kd.N_far (p := ⟨gb312, 1, none⟩) (Kd.N_far (p := ⟨gb312, 0, none⟩) (Kd.N_mono HO315.out (fun k_ hk => (⟨hk, hk.1.1.2⟩ : _ ∧ k_ ≠ gb312))) (fun _ hk => hk.2) (.int .i64 ((rd_T58 t316 0).f0))) (fun _ hk => hk.2) (.string ((rd_T58 t316 0).f1))) (fun _ hk => hk.2) (.slice A319_2 ((rd_T58 t316 0).f2).length c319_2)) (fun _ h_ => h_.1))) (Kd.R_base ho0) hb); have n2_ := Aside0.mk (Kd.N_elder' (by (with_reducible repeat (first | apply Kd.N_alloc | apply Kd.N_drewN | apply Kd.N_drew)); exact (Kd.N_mono (Kd.N_far (p := ⟨gb312, 2, none⟩) (Kd.N_far (p := ⟨gb312, 1, none⟩) (Kd.N_far (p := ⟨gb312, 0, none⟩) (Kd.N_mono HO318.out (fun k_ hk => (⟨hk, hk.1.2.2⟩ : _ ∧ k_ ≠ gb312))) (fun _ hk => hk.2) (.int .i64 ((rd_T58 t316 0).f0))) (fun _ hk => hk.2) (.string ((rd_T58 t316 0).f1))) (fun _ hk => hk.2) (.slice A319_2 ((rd_T58 t316 0).f2).length c319_2)) (fun _ h_ => h_.1))) (Kd.R_base ho0) hb); have n3_ := Aside0.mk (Kd.V_elder' (by (with_reducible repeat (first | apply Kd.V_alloc | apply Kd.V_drewN | apply Kd.V_drew)); exact (Kd.V_mono (Kd.V_far (p := ⟨gb312, 2, none⟩) (Kd.V_far (p := ⟨gb312, 1, none⟩) (Kd.V_far (p := ⟨gb312, 0, none⟩) (Kd.V_mono HL319_2.out (fun k_ hk => (⟨hk, hk.1.1.2.2⟩ : _ ∧ k_ ≠ gb312))) (fun _ hk => hk.2) (.int .i64 ((rd_T58 t316 0).f0))) (fun _ hk => hk.2) (.string ((rd_T58 t316 0).f1))) (fun _ hk => hk.2) (.slice A319_2 ((rd_T58 t316 0).f2).length c319_2)) (fun _ h_ => h_.1))) (Kd.R_base ho0) hb); have n4_ := Aside0.mk (Kd.R_below (by (with_reducible repeat (first | apply Kd.R_alloc | apply Kd.R_drewN | apply Kd.R_drew)); exact (Kd.R_mono (Kd.R_far (p := ⟨gb312, 2, none⟩) (Kd.R_far (p := ⟨gb312, 1, none⟩) (Kd.R_far (p := ⟨gb312, 0, none⟩) (Kd.R_types HO322.out BK312.out (by decide)) (fun _ hk => hk.2) (.int .i64 ((rd_T58 t316 0).f0))) (fun _ hk => hk.2) (.string ((rd_T58 t316 0).f1))) (fun _ hk => hk.2) (.slice A319_2 ((rd_T58 t316 0).f2).length c319_2)) (fun _ h_ => h_.1))) hb); have n5_ := Aside0.mk (Kd.R_lower (Kd.R_newM (M := fun k_ => (w.heap.size ≤ k_)) ho0 (below_size (by repeat (first | (with_reducible first | exact HB.out | apply below_alloc | apply pw_below_drewN | apply below_drew1 | refine below_set ?_ GE312.out) | exact HB.out))) (fun k_ h_ => h_)) (below_size (by repeat (first | (with_reducible first | exact HB.out | apply below_alloc | apply pw_below_drewN | apply below_drew1 | refine below_set ?_ GE312.out) | exact HB.out)))); have n6_ := Aside0.mk (blk_below (g := gb312) (o := .cells #[.int .i64 ((rd_T58 t316 0).f0), .string ((rd_T58 t316 0).f1), .slice A319_2 ((rd_T58 t316 0).f2).length c319_2] 58 (0, 0)) (by (with_reducible repeat (first | refine blk_drewN ?_ _ | refine blk_drew ?_ | refine blk_alloc ?_ _)); refine blk_put (cs := #[.int .i64 ((rd_T58 t316 0).f0), .string ((rd_T58 t316 0).f1), .slice A0_2 l0_2.length c0_2]) ?_ 2 _ rfl; (with_reducible repeat (first | refine blk_drewN ?_ _ | refine blk_drew ?_ | refine blk_alloc ?_ _)); refine blk_put (cs := #[.int .i64 ((rd_T58 t316 0).f0), .string a0_1, .slice A0_2 l0_2.length c0_2]) ?_ 1 _ rfl; (with_reducible repeat (first | refine blk_drewN ?_ _ | refine blk_drew ?_ | refine blk_alloc ?_ _)); refine blk_put (cs := #[.int .i64 a0_0, .string a0_1, .slice A0_2 l0_2.length c0_2]) ?_ 0 _ rfl; (with_reducible repeat (first | refine blk_drewN ?_ _ | refine blk_drew ?_ | refine blk_alloc ?_ _)); exact BK312.out) hb); have n7_ := Aside0.mk (Kd.C_below ((Kd.V_reads' (by (with_reducible repeat (first | apply Kd.V_alloc | apply Kd.V_drewN | apply Kd.V_drew)); exact (Kd.V_mono (Kd.V_far (p := ⟨gb312, 2, none⟩) (Kd.V_far (p := ⟨gb312, 1, none⟩) (Kd.V_far (p := ⟨gb312, 0, none⟩) (Kd.V_mono HL319_2.out (fun k_ hk => (⟨hk, hk.1.1.2.2⟩ : _ ∧ k_ ≠ gb312))) (fun _ hk => hk.2) (.int .i64 ((rd_T58 t316 0).f0))) (fun _ hk => hk.2) (.string ((rd_T58 t316 0).f1))) (fun _ hk => hk.2) (.slice A319_2 ((rd_T58 t316 0).f2).length c319_2)) (fun _ h_ => h_.1)))).2.2) hb); have n8_ := Aside0.mk (below_step (by repeat (first | (with_reducible first | exact HB.out | apply below_alloc | apply pw_below_drewN | apply below_drew1 | refine below_set ?_ GE312.out) | exact HB.out)) hb); clear HO0_2; clear HO315; clear HO318; clear HL319_2; clear HO322; clear BK312; clear HR319_2; clear HB; have HO0_2 := n0_; have HO315 := n1_; have HO318 := n2_; have HL319_2 := n3_; have HO322 := n4_; have HO327 := n5_; have BK312 := n6_; have HR319_2 := n7_; have HB := n8_; clear n0_ n1_ n2_ n3_ n4_ n5_ n6_ n7_ n8_; (try clear hb); (try clear hb2); (try clear hk); (try clear hi); (try clear ho0)) | ((with_reducible refine gate_dst (N := 5) rfl ?_); (try (refine gate_guard (by rfl) ?_; dsimp only)); refine box_event ?hg (N := 5) ?hd (cs := #[.int .i64 0, .string (⟨#[]⟩ : ByteArray), .slice none 0 0]) (t := 58) ?hr ?_; (case hd => rfl); (case hg => rfl); (case hr => first | (go_simp; done) | (go_simp; rfl)); intro gb329 hg w51 hbox hb; have n0_ := Aside0.mk (Kd.V_below (Kd.V_elderB (by (with_reducible repeat (first | apply Kd.V_alloc | apply Kd.V_drewN | apply Kd.V_drew)); exact HO0_2.out) gb329 (Nat.le_of_eq hg.symm)) hb); have n1_ := Aside0.mk (Kd.N_below (Kd.N_elderB (by (with_reducible repeat (first | apply Kd.N_alloc | apply Kd.N_drewN | apply Kd.N_drew)); exact HO315.out) gb329 (Nat.le_of_eq hg.symm)) hb); have n2_ := Aside0.mk (Kd.N_below (Kd.N_elderB (by (with_reducible repeat (first | apply Kd.N_alloc | apply Kd.N_drewN | apply Kd.N_drew)); exact HO318.out) gb329 (Nat.le_of_eq hg.symm)) hb); have n3_ := Aside0.mk (Kd.V_below (Kd.V_elderB (by (with_reducible repeat (first | apply Kd.V_alloc | apply Kd.V_drewN | apply Kd.V_drew)); exact HL319_2.out) gb329 (Nat.le_of_eq hg.symm)) hb); have n4_ := Aside0.mk (Kd.R_below (by (with_reducible repeat (first | apply Kd.R_alloc | apply Kd.R_drewN | apply Kd.R_drew)); exact HO322.out) hb); have n5_ := Aside0.mk (Kd.R_below (by (with_reducible repeat (first | apply Kd.R_alloc | apply Kd.R_drewN | apply Kd.R_drew)); exact HO327.out) hb); have n6_ := Aside0.mk (blk_below (g := gb312) (o := .cells #[.int .i64 ((rd_T58 t316 0).f0), .string ((rd_T58 t316 0).f1), .slice A319_2 ((rd_T58 t316 0).f2).length c319_2] 58 (0, 0)) (by (with_reducible repeat (first | refine blk_drewN ?_ _ | refine blk_drew ?_ | refine blk_alloc ?_ _)); exact BK312.out) hb); have n7_ := Aside0.mk (Kd.C_below (by repeat (first | (with_reducible exact HR319_2.out) | (with_reducible refine Kd.C_alloc ?_ _) | (with_reducible refine Kd.C_drewN ?_ _) | (with_reducible refine Kd.C_drew ?_) | exact HR319_2.out | exact (Kd.V_reads' HL319_2.out).2.2)) hb); have n8_ := Aside0.mk (below_step (by repeat (first | (with_reducible first | exact HB.out | apply below_alloc | apply pw_below_drewN | apply below_drew1 | refine below_set ?_ GE312.out) | exact HB.out)) hb); have n9_ := Aside0.mk (hbox); have n10_ := Aside0.mk ((by rw [hg]; exact (below_size (by repeat (first | (with_reducible first | exact HB.out | apply below_alloc | apply pw_below_drewN | apply below_drew1 | refine below_set ?_ GE312.out) | exact HB.out))) : w.heap.size ≤ gb329)); have n11_ := Aside0.mk ((by rw [hg]; exact (below_size (by repeat (first | (with_reducible first | exact HB.out | apply below_alloc | apply pw_below_drewN | apply below_drew1 | refine below_set ?_ GE312.out) | exact HB.out))) : w.heap.size ≤ gb329)); have n12_ := Aside0.mk ((by rw [hg]; exact Nat.ne_of_lt (blk_lt (g := gb312) (o := .cells #[.int .i64 ((rd_T58 t316 0).f0), .string ((rd_T58 t316 0).f1), .slice A319_2 ((rd_T58 t316 0).f2).length c319_2] 58 (0, 0)) (by (with_reducible repeat (first | refine blk_drewN ?_ _ | refine blk_drew ?_ | refine blk_alloc ?_ _)); exact BK312.out)) : gb312 ≠ gb329)); have n13_ := Aside0.mk ((by rw [hg]; exact Nat.ne_of_gt (blk_lt (g := gb312) (o := .cells #[.int .i64 ((rd_T58 t316 0).f0), .string ((rd_T58 t316 0).f1), .slice A319_2 ((rd_T58 t316 0).f2).length c319_2] 58 (0, 0)) (by (with_reducible repeat (first | refine blk_drewN ?_ _ | refine blk_drew ?_ | refine blk_alloc ?_ _)); exact BK312.out)) : gb329 ≠ gb312)); clear HO0_2; clear HO315; clear HO318; clear HL319_2; clear HO322; clear HO327; clear BK312; clear HR319_2; clear HB; have HO0_2 := n0_; have HO315 := n1_; have HO318 := n2_; have HL319_2 := n3_; have HO322 := n4_; have HO327 := n5_; have BK312 := n6_; have HR319_2 := n7_; have HB := n8_; have BK329 := n9_; have GW329 := n10_; have GE329 := n11_; have NB312_329 := n12_; have NB329_312 := n13_; clear n0_ n1_ n2_ n3_ n4_ n5_ n6_ n7_ n8_ n9_ n10_ n11_ n12_ n13_; clear hb hbox hg; have hnb52 := NB329_312.out; have hnc52 := NB312_329.out; have hcz53_0 : w51.cell? ⟨gb329, 0, none⟩ = some (.int .i64 0) := (blk_cell BK329.out 0).trans rfl; have hcz53_1 : w51.cell? ⟨gb329, 1, none⟩ = some (.string (⟨#[]⟩ : ByteArray)) := (blk_cell BK329.out 1).trans rfl; have hcz53_2 : w51.cell? ⟨gb329, 2, none⟩ = some (.slice none 0 0) := (blk_cell BK329.out 2).trans rfl; have hfz53_0 := blk_frozen BK329.out 0; have hfz53_1 := blk_frozen BK329.out 1; have hfz53_2 := blk_frozen BK329.out 2; obtain ⟨Ao54, co54, eo54⟩ := Kd.R_slice HO327.out; subst eo54))
          have n0_ : Aside0 (Kd.V Kd.string 9 (((w51.setCell ⟨gb329, 0, none⟩ (.int .i64 t323)).setCell ⟨gb329, 1, none⟩ (.string t324)).setCell ⟨gb329, 2, none⟩ (.slice Ao54 t325.length co54)) w.heap.size (fun k_ => (P0_2_ k_ ∨ w.heap.size ≤ k_) ∧ some k_ ≠ (.slice Ao42 y313.length co42 : Value).ownBlock ∧ some k_ ≠ (.slice (some ad319) t316.length co44 : Value).ownBlock ∧ some k_ ≠ (v321 : Value).ownBlock ∧ some k_ ≠ (.slice Ao54 t325.length co54 : Value).ownBlock ∧ k_ ≠ gb312 ∧ k_ ≠ gb329) (.slice A0_2 l0_2.length c0_2) l0_2) := ⟨by (with_reducible repeat (first | apply Kd.V_alloc | apply Kd.V_drewN | apply Kd.V_drew)); exact Kd.V_mono (Kd.V_far (p := ⟨gb329, 2, none⟩) (Kd.V_far (p := ⟨gb329, 1, none⟩) (Kd.V_far (p := ⟨gb329, 0, none⟩) (Kd.V_mono HO0_2.out (fun k_ hk => (⟨hk, hk.2⟩ : _ ∧ k_ ≠ gb329))) (fun _ hk => hk.2) (.int .i64 t323)) (fun _ hk => hk.2) (.string t324)) (fun _ hk => hk.2) (.slice Ao54 t325.length co54)) (fun _ hk => ⟨hk.1.1.1.1.1.1.1, ⟨hk.1.1.1.1.1.2, ⟨hk.1.1.1.1.2, ⟨hk.1.1.1.2, ⟨hk.1.1.2, ⟨hk.1.1.1.1.1.1.2, hk.1.2⟩⟩⟩⟩⟩⟩)⟩
          have n1_ : Aside0 (Kd.N k58 58 (((w51.setCell ⟨gb329, 0, none⟩ (.int .i64 t323)).setCell ⟨gb329, 1, none⟩ (.string t324)).setCell ⟨gb329, 2, none⟩ (.slice Ao54 t325.length co54)) w.heap.size (fun k_ => (P0_2_ k_ ∨ w.heap.size ≤ k_) ∧ some k_ ≠ (.slice (some ad319) t316.length co44 : Value).ownBlock ∧ some k_ ≠ (v321 : Value).ownBlock ∧ some k_ ≠ (.slice Ao54 t325.length co54 : Value).ownBlock ∧ k_ ≠ gb312 ∧ k_ ≠ gb329) (.slice Ao42 y313.length co42) y313) := ⟨by (with_reducible repeat (first | apply Kd.N_alloc | apply Kd.N_drewN | apply Kd.N_drew)); exact Kd.N_mono (Kd.N_far (p := ⟨gb329, 2, none⟩) (Kd.N_far (p := ⟨gb329, 1, none⟩) (Kd.N_far (p := ⟨gb329, 0, none⟩) (Kd.N_mono HO315.out (fun k_ hk => (⟨hk, hk.2⟩ : _ ∧ k_ ≠ gb329))) (fun _ hk => hk.2) (.int .i64 t323)) (fun _ hk => hk.2) (.string t324)) (fun _ hk => hk.2) (.slice Ao54 t325.length co54)) (fun _ hk => ⟨hk.1.1.1.1.1.1, ⟨hk.1.1.1.1.2, ⟨hk.1.1.1.2, ⟨hk.1.1.2, ⟨hk.1.1.1.1.1.2, hk.1.2⟩⟩⟩⟩⟩)⟩
          have n2_ : Aside0 (Kd.N k58 58 (((w51.setCell ⟨gb329, 0, none⟩ (.int .i64 t323)).setCell ⟨gb329, 1, none⟩ (.string t324)).setCell ⟨gb329, 2, none⟩ (.slice Ao54 t325.length co54)) w.heap.size (fun k_ => (P0_2_ k_ ∨ w.heap.size ≤ k_) ∧ some k_ ≠ (.slice Ao42 y313.length co42 : Value).ownBlock ∧ some k_ ≠ (v321 : Value).ownBlock ∧ some k_ ≠ (.slice Ao54 t325.length co54 : Value).ownBlock ∧ k_ ≠ gb312 ∧ k_ ≠ gb329) (.slice (some ad319) t316.length co44) t316) := ⟨by (with_reducible repeat (first | apply Kd.N_alloc | apply Kd.N_drewN | apply Kd.N_drew)); exact Kd.N_mono (Kd.N_far (p := ⟨gb329, 2, none⟩) (Kd.N_far (p := ⟨gb329, 1, none⟩) (Kd.N_far (p := ⟨gb329, 0, none⟩) (Kd.N_mono HO318.out (fun k_ hk => (⟨hk, hk.2⟩ : _ ∧ k_ ≠ gb329))) (fun _ hk => hk.2) (.int .i64 t323)) (fun _ hk => hk.2) (.string t324)) (fun _ hk => hk.2) (.slice Ao54 t325.length co54)) (fun _ hk => ⟨hk.1.1.1.1.1, ⟨hk.1.1.1.1.2.1, ⟨hk.1.1.1.2, ⟨hk.1.1.2, ⟨hk.1.1.1.1.2.2, hk.1.2⟩⟩⟩⟩⟩)⟩
          have n3_ : Aside0 (Kd.V Kd.string 9 (((w51.setCell ⟨gb329, 0, none⟩ (.int .i64 t323)).setCell ⟨gb329, 1, none⟩ (.string t324)).setCell ⟨gb329, 2, none⟩ (.slice Ao54 t325.length co54)) w.heap.size (fun k_ => (P0_2_ k_ ∨ w.heap.size ≤ k_) ∧ some k_ ≠ (.slice Ao42 y313.length co42 : Value).ownBlock ∧ some k_ ≠ (.slice (some ad319) t316.length co44 : Value).ownBlock ∧ some k_ ≠ (v321 : Value).ownBlock ∧ some k_ ≠ (.slice Ao54 t325.length co54 : Value).ownBlock ∧ k_ ≠ gb312 ∧ k_ ≠ gb329) (.slice A319_2 ((rd_T58 t316 0).f2).length c319_2) ((rd_T58 t316 0).f2)) := ⟨by (with_reducible repeat (first | apply Kd.V_alloc | apply Kd.V_drewN | apply Kd.V_drew)); exact Kd.V_mono (Kd.V_far (p := ⟨gb329, 2, none⟩) (Kd.V_far (p := ⟨gb329, 1, none⟩) (Kd.V_far (p := ⟨gb329, 0, none⟩) (Kd.V_mono HL319_2.out (fun k_ hk => (⟨hk, hk.2⟩ : _ ∧ k_ ≠ gb329))) (fun _ hk => hk.2) (.int .i64 t323)) (fun _ hk => hk.2) (.string t324)) (fun _ hk => hk.2) (.slice Ao54 t325.length co54)) (fun _ hk => ⟨hk.1.1.1.1.1.1, ⟨hk.1.1.1.1.1.2.1, ⟨hk.1.1.1.1.2, ⟨hk.1.1.1.2, ⟨hk.1.1.2, ⟨hk.1.1.1.1.1.2.2, hk.1.2⟩⟩⟩⟩⟩⟩)⟩
          have n4_ : Aside0 (Kd.R k55 55 (((w51.setCell ⟨gb329, 0, none⟩ (.int .i64 t323)).setCell ⟨gb329, 1, none⟩ (.string t324)).setCell ⟨gb329, 2, none⟩ (.slice Ao54 t325.length co54)) w.heap.size (fun k_ => (w.heap.size ≤ k_)) v321 t320) := ⟨by (with_reducible repeat (first | apply Kd.R_alloc | apply Kd.R_drewN | apply Kd.R_drew)); exact Kd.R_mono (Kd.R_far (p := ⟨gb329, 2, none⟩) (Kd.R_far (p := ⟨gb329, 1, none⟩) (Kd.R_far (p := ⟨gb329, 0, none⟩) (Kd.R_types HO322.out BK329.out (by decide)) (fun _ hk => hk.2) (.int .i64 t323)) (fun _ hk => hk.2) (.string t324)) (fun _ hk => hk.2) (.slice Ao54 t325.length co54)) (fun _ hk => hk.1.1)⟩
          have n5_ : Aside0 (Kd.R Kd.string 9 (((w51.setCell ⟨gb329, 0, none⟩ (.int .i64 t323)).setCell ⟨gb329, 1, none⟩ (.string t324)).setCell ⟨gb329, 2, none⟩ (.slice Ao54 t325.length co54)) w.heap.size (fun k_ => (w.heap.size ≤ k_)) (.slice Ao54 t325.length co54) t325) := ⟨by (with_reducible repeat (first | apply Kd.R_alloc | apply Kd.R_drewN | apply Kd.R_drew)); exact Kd.R_mono (Kd.R_far (p := ⟨gb329, 2, none⟩) (Kd.R_far (p := ⟨gb329, 1, none⟩) (Kd.R_far (p := ⟨gb329, 0, none⟩) (Kd.R_types HO327.out BK329.out (by decide)) (fun _ hk => hk.2) (.int .i64 t323)) (fun _ hk => hk.2) (.string t324)) (fun _ hk => hk.2) (.slice Ao54 t325.length co54)) (fun _ hk => hk.1.1)⟩
          have n6_ : Aside0 ((((w51.setCell ⟨gb329, 0, none⟩ (.int .i64 t323)).setCell ⟨gb329, 1, none⟩ (.string t324)).setCell ⟨gb329, 2, none⟩ (.slice Ao54 t325.length co54)).heap[gb312]? = some (.cells #[.int .i64 ((rd_T58 t316 0).f0), .string ((rd_T58 t316 0).f1), .slice A319_2 ((rd_T58 t316 0).f2).length c319_2] 58 (0, 0))) := ⟨by (with_reducible repeat (first | refine blk_drewN ?_ _ | refine blk_drew ?_ | refine blk_alloc ?_ _)); refine blk_far ?_ NB312_329.out _; (with_reducible repeat (first | refine blk_drewN ?_ _ | refine blk_drew ?_ | refine blk_alloc ?_ _)); refine blk_far ?_ NB312_329.out _; (with_reducible repeat (first | refine blk_drewN ?_ _ | refine blk_drew ?_ | refine blk_alloc ?_ _)); refine blk_far ?_ NB312_329.out _; (with_reducible repeat (first | refine blk_drewN ?_ _ | refine blk_drew ?_ | refine blk_alloc ?_ _)); exact BK312.out⟩
          have n7_ : Aside0 ((((w51.setCell ⟨gb329, 0, none⟩ (.int .i64 t323)).setCell ⟨gb329, 1, none⟩ (.string t324)).setCell ⟨gb329, 2, none⟩ (.slice Ao54 t325.length co54)).heap[gb329]? = some (.cells #[.int .i64 t323, .string t324, .slice Ao54 t325.length co54] 58 (0, 0))) := ⟨by (with_reducible repeat (first | refine blk_drewN ?_ _ | refine blk_drew ?_ | refine blk_alloc ?_ _)); refine blk_put (cs := #[.int .i64 t323, .string t324, .slice none 0 0]) ?_ 2 _ rfl; (with_reducible repeat (first | refine blk_drewN ?_ _ | refine blk_drew ?_ | refine blk_alloc ?_ _)); refine blk_put (cs := #[.int .i64 t323, .string (⟨#[]⟩ : ByteArray), .slice none 0 0]) ?_ 1 _ rfl; (with_reducible repeat (first | refine blk_drewN ?_ _ | refine blk_drew ?_ | refine blk_alloc ?_ _)); refine blk_put (cs := #[.int .i64 0, .string (⟨#[]⟩ : ByteArray), .slice none 0 0]) ?_ 0 _ rfl; (with_reducible repeat (first | refine blk_drewN ?_ _ | refine blk_drew ?_ | refine blk_alloc ?_ _)); exact BK329.out⟩
          have n8_ : Aside0 (Below w.heap.size w (((w51.setCell ⟨gb329, 0, none⟩ (.int .i64 t323)).setCell ⟨gb329, 1, none⟩ (.string t324)).setCell ⟨gb329, 2, none⟩ (.slice Ao54 t325.length co54))) := ⟨by repeat (first | (with_reducible first | exact HB.out | apply below_alloc | apply pw_below_drewN | apply below_drew1 | refine below_set ?_ GE312.out | refine below_set ?_ GE329.out) | exact HB.out)⟩
          (try clear HO0_2)
          (try clear HO315)
          (try clear HO318)
          (try clear HL319_2)
          (try clear HO322)
          (try clear HO327)
          (try clear BK312)
          (try clear BK329)
          (try clear HB)
          generalize (((w51.setCell ⟨gb329, 0, none⟩ (.int .i64 t323)).setCell ⟨gb329, 1, none⟩ (.string t324)).setCell ⟨gb329, 2, none⟩ (.slice Ao54 t325.length co54)) = w55 at n0_ n1_ n2_ n3_ n4_ n5_ n6_ n7_ n8_ ⊢
          have HO0_2 := n0_
          have HO315 := n1_
          have HO318 := n2_
          have HL319_2 := n3_
          have HO322 := n4_
          have HO327 := n5_
          have BK312 := n6_
          have BK329 := n7_
          have HB := n8_
          clear n0_ n1_ n2_ n3_ n4_ n5_ n6_ n7_ n8_
          have n0_ := Aside0.mk (Kd.V_drew HO0_2.out)
          have n1_ := Aside0.mk (Kd.N_drew HO315.out)
          have n2_ := Aside0.mk (Kd.N_drew HO318.out)
          have n3_ := Aside0.mk (Kd.V_drew HL319_2.out)
          have n4_ := Aside0.mk (Kd.R_drew HO322.out)
          have n5_ := Aside0.mk (Kd.R_drew HO327.out)
          have n6_ := Aside0.mk (blk_drew BK312.out)
          have n7_ := Aside0.mk (blk_drew BK329.out)
          have n8_ := Aside0.mk (below_drew1 HB.out)
          clear HO0_2
          clear HO315
          clear HO318
          clear HL319_2
          clear HO322
          clear HO327
          clear BK312
          clear BK329
          clear HB
          have HO0_2 := n0_
          have HO315 := n1_
          have HO318 := n2_
          have HL319_2 := n3_
          have HO322 := n4_
          have HO327 := n5_
          have BK312 := n6_
          have BK329 := n7_
          have HB := n8_
          clear n0_ n1_ n2_ n3_ n4_ n5_ n6_ n7_ n8_
          refine start_ (n := 21) (S := fun w' => w'.cell? ⟨gb312, 0, none⟩ = some (.int .i64 ((rd_T58 t316 0).f0)) ∧ w'.cell? ⟨gb312, 1, none⟩ = some (.string ((rd_T58 t316 0).f1)) ∧ w'.cell? ⟨gb312, 2, none⟩ = some (.slice A319_2 ((rd_T58 t316 0).f2).length c319_2) ∧ w'.cell? ⟨gb329, 0, none⟩ = some (.int .i64 t323) ∧ w'.cell? ⟨gb329, 1, none⟩ = some (.string t324) ∧ w'.cell? ⟨gb329, 2, none⟩ = some (.slice Ao54 t325.length co54)) (ds := []) #[false, false, false, false, false, false, false, false, false, false, false, false, false, false, false, false, false, false, false, false, false] (by kernel_rfl) rfl rfl ⟨(blk_cell BK312.out 0).trans rfl, (blk_cell BK312.out 1).trans rfl, (blk_cell BK312.out 2).trans rfl, (blk_cell BK329.out 0).trans rfl, (blk_cell BK329.out 1).trans rfl, (blk_cell BK329.out 2).trans rfl⟩ (fun hHeld => ?_); refine with_tabW tolllaw08_LabelNone.tab5 tolllaw08_LabelNone.bits5 (fun HT_ HW_ => ?_)
          generalize w55.drew = w56 at HO0_2 HO315 HO318 HL319_2 HO322 HO327 BK312 BK329 HB hHeld ⊢
          refine pure_ (i := 3) (N := some 32) (v := ?_) (a' := ?_) #[false, false, false, true, false, false, false, false, false, false, false, false, false, false, false, false, false, false, false, false, false] rfl rfl (any_of HT_.out (by kernel_rfl)) (fun _ _ _ h => h) (Or.inl ⟨by rfl, ?_⟩) ?_ ?_
          rotate_left
          · intro w'
            go_simp
            with_reducible rfl
          rotate_left
          · simp only [Act.put, List.setIfInBounds_toArray, List.set_cons_zero, List.set_cons_succ, i64_w, i32_w]
            rfl
          refine take_ (i := 0) (N := some 29) (v := ?_) (a' := ?_) #[true, false, false, true, false, false, false, false, false, false, false, false, false, false, false, false, false, false, false, false, false] rfl rfl (take_ofW HT_.out HW_.out (by kernel_rfl)) (fun _ _ _ h => h) (Or.inl ⟨by rfl, ?_⟩) hHeld ?_ ?_
          rotate_left
          · rintro w' ⟨s0, s1, s2, s3, s4, s5⟩
            go_simp
            with_reducible rfl
          rotate_left
          · simp only [Act.put, List.setIfInBounds_toArray, List.set_cons_zero, List.set_cons_succ, i64_w, i32_w]
            rfl
          refine take_ (i := 1) (N := some 30) (v := ?_) (a' := ?_) #[true, true, false, true, false, false, false, false, false, false, false, false, false, false, false, false, false, false, false, false, false] rfl rfl (take_ofW HT_.out HW_.out (by kernel_rfl)) (fun _ _ _ h => h) (Or.inl ⟨by rfl, ?_⟩) hHeld ?_ ?_
          rotate_left
          · rintro w' ⟨s0, s1, s2, s3, s4, s5⟩
            go_simp
            with_reducible rfl
          rotate_left
          · simp only [Act.put, List.setIfInBounds_toArray, List.set_cons_zero, List.set_cons_succ, i64_w, i32_w]
            rfl
          refine one_ (i := 2) (N := some 31) #[true, true, true, true, false, false, false, false, false, false, false, false, false, false, false, false, false, false, false, false, false] rfl rfl (one_of HT_.out (by kernel_rfl)) (by decide) (fun K hK => ?_)
          refine Kd.N_lit_step k58 _ 58 ?hg (N' := 31) ?hd (xs := ([(⟨(rd_T58 t316 0).f0, (rd_T58 t316 0).f1, (rd_T58 t316 0).f2⟩ : S58), (⟨t323, t324, t325⟩ : S58)] : List (S58))) (inner := [.int .i64 ((rd_T58 t316 0).f0), .string ((rd_T58 t316 0).f1), .slice A319_2 ((rd_T58 t316 0).f2).length c319_2, .int .i64 t323, .string t324, .slice Ao54 t325.length co54]) (ok := (fun k_ => (P0_2_ k_ ∨ w.heap.size ≤ k_) ∧ some k_ ≠ (.slice Ao42 y313.length co42 : Value).ownBlock ∧ some k_ ≠ (.slice (some ad319) t316.length co44 : Value).ownBlock ∧ some k_ ≠ (v321 : Value).ownBlock ∧ k_ ≠ gb312 ∧ k_ ≠ gb329)) (okp := (fun k_ => (P0_2_ k_ ∨ w.heap.size ≤ k_) ∧ some k_ ≠ (.slice Ao42 y313.length co42 : Value).ownBlock ∧ some k_ ≠ (.slice (some ad319) t316.length co44 : Value).ownBlock ∧ some k_ ≠ (v321 : Value).ownBlock ∧ k_ ≠ gb312 ∧ k_ ≠ gb329)) ?hr ?hp (fun _ hk => hk) ((show ∀ k_, w56.heap.size ≤ k_ → (fun k_ => (P0_2_ k_ ∨ w.heap.size ≤ k_) ∧ some k_ ≠ (.slice Ao42 y313.length co42 : Value).ownBlock ∧ some k_ ≠ (.slice (some ad319) t316.length co44 : Value).ownBlock ∧ some k_ ≠ (v321 : Value).ownBlock ∧ k_ ≠ gb312 ∧ k_ ≠ gb329) k_ from fun k_ hk => ⟨(.inr (Nat.le_trans (below_size (by repeat (first | (with_reducible first | exact HB.out | apply below_alloc | apply pw_below_drewN | apply below_drew1 | refine below_set ?_ GE312.out | refine below_set ?_ GE329.out) | exact HB.out))) hk)), Kd.fresh' (Kd.N_lt (by (with_reducible repeat (first | apply Kd.N_alloc | apply Kd.N_drewN | apply Kd.N_drew)); exact HO315.out)) k_ hk, Kd.fresh' (Kd.N_lt (by (with_reducible repeat (first | apply Kd.N_alloc | apply Kd.N_drewN | apply Kd.N_drew)); exact HO318.out)) k_ hk, Kd.fresh' (Kd.R_lt (by (with_reducible repeat (first | apply Kd.R_alloc | apply Kd.R_drewN | apply Kd.R_drew)); exact HO322.out)) k_ hk, Kd.freshB (g := gb312) (o := .cells #[.int .i64 ((rd_T58 t316 0).f0), .string ((rd_T58 t316 0).f1), .slice A319_2 ((rd_T58 t316 0).f2).length c319_2] 58 (0, 0)) (by (with_reducible repeat (first | refine blk_drewN ?_ _ | refine blk_drew ?_ | refine blk_alloc ?_ _)); exact BK312.out) k_ hk, Kd.freshB (g := gb329) (o := .cells #[.int .i64 t323, .string t324, .slice Ao54 t325.length co54] 58 (0, 0)) (by (with_reducible repeat (first | refine blk_drewN ?_ _ | refine blk_drew ?_ | refine blk_alloc ?_ _)); exact BK329.out) k_ hk⟩) _ (Nat.le_refl _)) (Below.refl _ _) (Nat.le_refl _) (by simp) ?_; (case hd => rfl); (case hg => rfl); (case hr => first | (go_simp; done) | (go_simp; rfl)); (case hp => exact (Reps.c3 (show Kd.FK k58 _ _ (⟨(rd_T58 t316 0).f0, (rd_T58 t316 0).f1, (rd_T58 t316 0).f2⟩ : S58) [.int .i64 ((rd_T58 t316 0).f0), .string ((rd_T58 t316 0).f1), .slice A319_2 ((rd_T58 t316 0).f2).length c319_2] from (k58_mkF _ _ (⟨(rd_T58 t316 0).f0, (rd_T58 t316 0).f1, (rd_T58 t316 0).f2⟩ : S58) (Kd.V_reads' (Kd.V_mono (ok' := (fun k_ => (P0_2_ k_ ∨ w.heap.size ≤ k_) ∧ some k_ ≠ (.slice Ao42 y313.length co42 : Value).ownBlock ∧ some k_ ≠ (.slice (some ad319) t316.length co44 : Value).ownBlock ∧ some k_ ≠ (v321 : Value).ownBlock ∧ k_ ≠ gb312 ∧ k_ ≠ gb329)) (HL319_2.out) (fun k_ hk => ⟨hk.1, ⟨hk.2.1, ⟨hk.2.2.1, ⟨hk.2.2.2.1, ⟨hk.2.2.2.2.2.1, hk.2.2.2.2.2.2⟩⟩⟩⟩⟩))).2.1 (Kd.V_F (Kd.V_mono (ok' := (fun k_ => (P0_2_ k_ ∨ w.heap.size ≤ k_) ∧ some k_ ≠ (.slice Ao42 y313.length co42 : Value).ownBlock ∧ some k_ ≠ (.slice (some ad319) t316.length co44 : Value).ownBlock ∧ some k_ ≠ (v321 : Value).ownBlock ∧ k_ ≠ gb312 ∧ k_ ≠ gb329)) (HL319_2.out) (fun k_ hk => ⟨hk.1, ⟨hk.2.1, ⟨hk.2.2.1, ⟨hk.2.2.2.1, ⟨hk.2.2.2.2.2.1, hk.2.2.2.2.2.2⟩⟩⟩⟩⟩))))) (Reps.c3 (show Kd.FK k58 _ _ (⟨t323, t324, t325⟩ : S58) [.int .i64 t323, .string t324, .slice Ao54 t325.length co54] from (k58_mkF _ _ (⟨t323, t324, t325⟩ : S58) (Kd.R_reads' (Kd.R_mono (ok' := (fun k_ => (P0_2_ k_ ∨ w.heap.size ≤ k_) ∧ some k_ ≠ (.slice Ao42 y313.length co42 : Value).ownBlock ∧ some k_ ≠ (.slice (some ad319) t316.length co44 : Value).ownBlock ∧ some k_ ≠ (v321 : Value).ownBlock ∧ k_ ≠ gb312 ∧ k_ ≠ gb329)) (Kd.R_types (Kd.R_types (Kd.R_apart' (Kd.R_apart' (Kd.R_apart' (HO327.out) (Kd.N_typed HO315.out) (by decide)) (Kd.N_typed HO318.out) (by decide)) (Kd.R_typed HO322.out) (by decide)) BK312.out (by decide)) BK329.out (by decide)) (fun k_ hk => ⟨(.inr (hk.1.1.1.1.1)), ⟨hk.1.1.1.1.2, ⟨hk.1.1.1.2, ⟨hk.1.1.2, ⟨hk.1.2, hk.2⟩⟩⟩⟩⟩))).2.1 (Kd.R_F (Kd.R_mono (ok' := (fun k_ => (P0_2_ k_ ∨ w.heap.size ≤ k_) ∧ some k_ ≠ (.slice Ao42 y313.length co42 : Value).ownBlock ∧ some k_ ≠ (.slice (some ad319) t316.length co44 : Value).ownBlock ∧ some k_ ≠ (v321 : Value).ownBlock ∧ k_ ≠ gb312 ∧ k_ ≠ gb329)) (Kd.R_types (Kd.R_types (Kd.R_apart' (Kd.R_apart' (Kd.R_apart' (HO327.out) (Kd.N_typed HO315.out) (by decide)) (Kd.N_typed HO318.out) (by decide)) (Kd.R_typed HO322.out) (by decide)) BK312.out (by decide)) BK329.out (by decide)) (fun k_ hk => ⟨(.inr (hk.1.1.1.1.1)), ⟨hk.1.1.1.1.2, ⟨hk.1.1.1.2, ⟨hk.1.1.2, ⟨hk.1.2, hk.2⟩⟩⟩⟩⟩))))) (Reps.none _ _))))
          intro v336 w57 ho58 hb hg_ hnew_
          clear hg_ hnew_
          (first | rw [← Ny335.out] at ho58 | (simp only [Int.reduceToNat] at ho58; rw [← Ny335.out] at ho58))
          have n0_ := Aside0.mk (Kd.V_elder' (by (with_reducible repeat (first | apply Kd.V_alloc | apply Kd.V_drewN | apply Kd.V_drew)); exact HO0_2.out) (Kd.N_base ho58) hb)
          have n1_ := Aside0.mk (Kd.N_elder' (by (with_reducible repeat (first | apply Kd.N_alloc | apply Kd.N_drewN | apply Kd.N_drew)); exact HO315.out) (Kd.N_base ho58) hb)
          have n2_ := Aside0.mk (Kd.N_elder' (by (with_reducible repeat (first | apply Kd.N_alloc | apply Kd.N_drewN | apply Kd.N_drew)); exact HO318.out) (Kd.N_base ho58) hb)
          have n3_ := Aside0.mk (Kd.V_elder' (by (with_reducible repeat (first | apply Kd.V_alloc | apply Kd.V_drewN | apply Kd.V_drew)); exact HL319_2.out) (Kd.N_base ho58) hb)
          have n4_ := Aside0.mk (Kd.R_below (by (with_reducible repeat (first | apply Kd.R_alloc | apply Kd.R_drewN | apply Kd.R_drew)); exact HO322.out) hb)
          have n5_ := Aside0.mk (Kd.N_lower ho58 (below_size (by repeat (first | (with_reducible first | exact HB.out | apply below_alloc | apply pw_below_drewN | apply below_drew1 | refine below_set ?_ GE312.out | refine below_set ?_ GE329.out) | exact HB.out))))
          have n6_ := Aside0.mk (blk_below (g := gb312) (o := .cells #[.int .i64 ((rd_T58 t316 0).f0), .string ((rd_T58 t316 0).f1), .slice A319_2 ((rd_T58 t316 0).f2).length c319_2] 58 (0, 0)) (by (with_reducible repeat (first | refine blk_drewN ?_ _ | refine blk_drew ?_ | refine blk_alloc ?_ _)); exact BK312.out) hb)
          have n7_ := Aside0.mk (blk_below (g := gb329) (o := .cells #[.int .i64 t323, .string t324, .slice Ao54 t325.length co54] 58 (0, 0)) (by (with_reducible repeat (first | refine blk_drewN ?_ _ | refine blk_drew ?_ | refine blk_alloc ?_ _)); exact BK329.out) hb)
          have n8_ := Aside0.mk (below_step (by repeat (first | (with_reducible first | exact HB.out | apply below_alloc | apply pw_below_drewN | apply below_drew1 | refine below_set ?_ GE312.out | refine below_set ?_ GE329.out) | exact HB.out)) hb)
          clear HO0_2
          clear HO315
          clear HO318
          clear HL319_2
          clear HO322
          clear BK312
          clear BK329
          clear HB
          clear HO327
          have HO0_2 := n0_
          have HO315 := n1_
          have HO318 := n2_
          have HL319_2 := n3_
          have HO322 := n4_
          have HO337 := n5_
          have BK312 := n6_
          have BK329 := n7_
          have HB := n8_
          clear n0_ n1_ n2_ n3_ n4_ n5_ n6_ n7_ n8_
          clear hb ho58
          obtain ⟨Ao59, co59, eo59⟩ := Kd.N_slice HO337.out
          (first | subst eo59 | (injection eo59 with f1_ f2_ f3_; have f4_ := f1_.symm; have f5_ := f3_.symm; clear f1_ f2_ f3_; subst f4_; subst f5_))
          obtain ⟨Ao60, co60, eo60⟩ := Kd.R_slice HO322.out
          (first | subst eo60 | (injection eo60 with f1_ f2_ f3_; have f4_ := f1_.symm; have f5_ := f3_.symm; clear f1_ f2_ f3_; subst f4_; subst f5_))
          refine hK.out _ _ ⟨(blk_cell BK312.out 0).trans rfl, (blk_cell BK312.out 1).trans rfl, (blk_cell BK312.out 2).trans rfl, (blk_cell BK329.out 0).trans rfl, (blk_cell BK329.out 1).trans rfl, (blk_cell BK329.out 2).trans rfl⟩ (fun hHeld => ?_)
          clear hK K
          refine norm_ (a' := ?_) ?_ ?_
          rotate_left
          · show Act.put _ (some 31) _ = _
            simp only [Act.put, List.setIfInBounds_toArray, List.set_cons_zero, List.set_cons_succ, i64_w, i32_w]
            rfl
          refine one_ (i := 4) (N := some 33) #[true, true, true, true, true, false, false, false, false, false, false, false, false, false, false, false, false, false, false, false, false] rfl rfl (one_of HT_.out (by kernel_rfl)) (by decide) (fun K hK => ?_)
          refine goes_ Tryd.func61 (by kernel_rfl) rfl #[.slice Ao59 y335.length co59, .slice Ao60 t320.length co60] (by rfl) rfl rfl (by (try simp only [List.map_toArray, List.map_cons, List.map_nil]); first | done | rfl | (simp only [List.length_drop, List.length_take]; rfl)) ?_
          with_reducible refine (label_All.calls _ _ y335 _ _ t320 false _ ?side1 ?side2 ?side3 ?side4 A8.out).mono ?_
          (case side1 => repeat (first | exact (Kd.N_reads' HO337.out).2.2 | (with_reducible refine Kd.C_alloc ?_ _) | (with_reducible refine Kd.C_drewN ?_ _) | (with_reducible refine Kd.C_drew ?_)))
          (case side2 => exact (Kd.N_reads' HO337.out).2.1)
          (case side3 => repeat (first | exact (Kd.R_reads' HO322.out).2.2 | (with_reducible refine Kd.C_alloc ?_ _) | (with_reducible refine Kd.C_drewN ?_ _) | (with_reducible refine Kd.C_drew ?_)))
          (case side4 => exact (Kd.R_reads' HO322.out).2.1)
          rintro e w61 ⟨rfl, hb⟩
          refine ⟨_, rfl, ?_⟩
          have n0_ := Aside0.mk (Kd.V_below (by (with_reducible repeat (first | apply Kd.V_alloc | apply Kd.V_drewN | apply Kd.V_drew)); exact HO0_2.out) hb)
          have n1_ := Aside0.mk (Kd.N_below (by (with_reducible repeat (first | apply Kd.N_alloc | apply Kd.N_drewN | apply Kd.N_drew)); exact HO315.out) hb)
          have n2_ := Aside0.mk (Kd.N_below (by (with_reducible repeat (first | apply Kd.N_alloc | apply Kd.N_drewN | apply Kd.N_drew)); exact HO318.out) hb)
          have n3_ := Aside0.mk (Kd.V_below (by (with_reducible repeat (first | apply Kd.V_alloc | apply Kd.V_drewN | apply Kd.V_drew)); exact HL319_2.out) hb)
          have n4_ := Aside0.mk (Kd.R_below (by (with_reducible repeat (first | apply Kd.R_alloc | apply Kd.R_drewN | apply Kd.R_drew)); exact HO322.out) hb)
          have n5_ := Aside0.mk (Kd.N_below (by (with_reducible repeat (first | apply Kd.N_alloc | apply Kd.N_drewN | apply Kd.N_drew)); exact HO337.out) hb)
          have n6_ := Aside0.mk (blk_below (g := gb312) (o := .cells #[.int .i64 ((rd_T58 t316 0).f0), .string ((rd_T58 t316 0).f1), .slice A319_2 ((rd_T58 t316 0).f2).length c319_2] 58 (0, 0)) (by (with_reducible repeat (first | refine blk_drewN ?_ _ | refine blk_drew ?_ | refine blk_alloc ?_ _)); exact BK312.out) hb)
          have n7_ := Aside0.mk (blk_below (g := gb329) (o := .cells #[.int .i64 t323, .string t324, .slice Ao54 t325.length co54] 58 (0, 0)) (by (with_reducible repeat (first | refine blk_drewN ?_ _ | refine blk_drew ?_ | refine blk_alloc ?_ _)); exact BK329.out) hb)
          have n8_ := Aside0.mk (below_step (by repeat (first | (with_reducible first | exact HB.out | apply below_alloc | apply pw_below_drewN | apply below_drew1 | refine below_set ?_ GE312.out | refine below_set ?_ GE329.out) | exact HB.out)) hb)
          clear HO0_2
          clear HO315
          clear HO318
          clear HL319_2
          clear HO322
          clear HO337
          clear BK312
          clear BK329
          clear HB
          have HO0_2 := n0_
          have HO315 := n1_
          have HO318 := n2_
          have HL319_2 := n3_
          have HO322 := n4_
          have HO337 := n5_
          have BK312 := n6_
          have BK329 := n7_
          have HB := n8_
          clear n0_ n1_ n2_ n3_ n4_ n5_ n6_ n7_ n8_
          (try clear hb)
          (try clear hb2)
          (try clear hk)
          (try clear hi)
          refine hK.out _ _ ⟨(blk_cell BK312.out 0).trans rfl, (blk_cell BK312.out 1).trans rfl, (blk_cell BK312.out 2).trans rfl, (blk_cell BK329.out 0).trans rfl, (blk_cell BK329.out 1).trans rfl, (blk_cell BK329.out 2).trans rfl⟩ (fun hHeld => ?_)
          clear hK K
          refine norm_ (a' := ?_) ?_ ?_
          rotate_left
          · show Act.put _ (some 33) _ = _
            simp only [Act.put, List.setIfInBounds_toArray, List.set_cons_zero, List.set_cons_succ, i64_w, i32_w]
            rfl
          refine pure_ (i := 5) (N := some 34) (v := ?_) (a' := ?_) #[true, true, true, true, true, true, false, false, false, false, false, false, false, false, false, false, false, false, false, false, false] rfl rfl (any_of HT_.out (by kernel_rfl)) (fun _ _ _ h => h) (Or.inl ⟨by rfl, ?_⟩) ?_ ?_
          rotate_left
          · intro w'
            go_simp
            with_reducible rfl
          rotate_left
          · simp only [Act.put, List.setIfInBounds_toArray, List.set_cons_zero, List.set_cons_succ, i64_w, i32_w]
            rfl
          refine pure_ (i := 6) (N := some 35) (v := ?_) (a' := ?_) #[true, true, true, true, true, true, true, false, false, false, false, false, false, false, false, false, false, false, false, false, false] rfl rfl (any_of HT_.out (by kernel_rfl)) (fun _ _ _ h => h) (Or.inl ⟨by rfl, ?_⟩) ?_ ?_
          rotate_left
          · intro w'
            go_simp
            with_reducible rfl
          rotate_left
          · simp only [Act.put, List.setIfInBounds_toArray, List.set_cons_zero, List.set_cons_succ, i64_w, i32_w]
            rfl
          refine pure_ (i := 10) (N := some 39) (v := ?_) (a' := ?_) #[true, true, true, true, true, true, true, false, false, false, true, false, false, false, false, false, false, false, false, false, false] rfl rfl (any_of HT_.out (by kernel_rfl)) (fun _ _ _ h => h) (Or.inl ⟨by rfl, ?_⟩) ?_ ?_
          rotate_left
          · intro w'
            go_simp
            with_reducible rfl
          rotate_left
          · simp only [Act.put, List.setIfInBounds_toArray, List.set_cons_zero, List.set_cons_succ, i64_w, i32_w]
            rfl
          refine pure_ (i := 13) (N := some 42) (v := ?_) (a' := ?_) #[true, true, true, true, true, true, true, false, false, false, true, false, false, true, false, false, false, false, false, false, false] rfl rfl (any_of HT_.out (by kernel_rfl)) (fun _ _ _ h => h) (Or.inl ⟨by rfl, ?_⟩) ?_ ?_
          rotate_left
          · intro w'
            go_simp
            with_reducible rfl
          rotate_left
          · simp only [Act.put, List.setIfInBounds_toArray, List.set_cons_zero, List.set_cons_succ, i64_w, i32_w]
            rfl
          refine take_ (i := 7) (N := some 36) (v := ?_) (a' := ?_) #[true, true, true, true, true, true, true, true, false, false, true, false, false, true, false, false, false, false, false, false, false] rfl rfl (take_ofW HT_.out HW_.out (by kernel_rfl)) (fun _ _ _ h => h) (Or.inl ⟨by rfl, ?_⟩) hHeld ?_ ?_
          rotate_left
          · rintro w' ⟨s0, s1, s2, s3, s4, s5⟩
            go_simp
            with_reducible rfl
          rotate_left
          · simp only [Act.put, List.setIfInBounds_toArray, List.set_cons_zero, List.set_cons_succ, i64_w, i32_w]
            rfl
          refine take_ (i := 8) (N := some 37) (v := ?_) (a' := ?_) #[true, true, true, true, true, true, true, true, true, false, true, false, false, true, false, false, false, false, false, false, false] rfl rfl (take_ofW HT_.out HW_.out (by kernel_rfl)) (fun _ _ _ h => h) (Or.inl ⟨by rfl, ?_⟩) hHeld ?_ ?_
          rotate_left
          · rintro w' ⟨s0, s1, s2, s3, s4, s5⟩
            go_simp
            with_reducible rfl
          rotate_left
          · simp only [Act.put, List.setIfInBounds_toArray, List.set_cons_zero, List.set_cons_succ, i64_w, i32_w]
            rfl
          refine take_ (i := 12) (N := some 41) (v := ?_) (a' := ?_) #[true, true, true, true, true, true, true, true, true, false, true, false, true, true, false, false, false, false, false, false, false] rfl rfl (take_ofW HT_.out HW_.out (by kernel_rfl)) (fun _ _ _ h => h) (Or.inl ⟨by rfl, ?_⟩) hHeld ?_ ?_
          rotate_left
          · rintro w' ⟨s0, s1, s2, s3, s4, s5⟩
            go_simp
            with_reducible rfl
          rotate_left
          · simp only [Act.put, List.setIfInBounds_toArray, List.set_cons_zero, List.set_cons_succ, i64_w, i32_w]
            rfl
          refine one_ (i := 9) (N := some 38) #[true, true, true, true, true, true, true, true, true, true, true, false, true, true, false, false, false, false, false, false, false] rfl rfl (one_of HT_.out (by kernel_rfl)) (by decide) (fun K hK => ?_)
          refine Kd.N_lit_step k58 _ 58 ?hg (N' := 38) ?hd (xs := ([(⟨(rd_T58 t316 0).f0, (rd_T58 t316 0).f1, (rd_T58 t316 0).f2⟩ : S58), (⟨(rd_T58 t316 0).f0, (rd_T58 t316 0).f1, (rd_T58 t316 0).f2⟩ : S58)] : List (S58))) (inner := [.int .i64 ((rd_T58 t316 0).f0), .string ((rd_T58 t316 0).f1), .slice A319_2 ((rd_T58 t316 0).f2).length c319_2, .int .i64 ((rd_T58 t316 0).f0), .string ((rd_T58 t316 0).f1), .slice A319_2 ((rd_T58 t316 0).f2).length c319_2]) (ok := (fun k_ => (P0_2_ k_ ∨ w.heap.size ≤ k_) ∧ some k_ ≠ (.slice Ao42 y313.length co42 : Value).ownBlock ∧ some k_ ≠ (.slice (some ad319) t316.length co44 : Value).ownBlock ∧ some k_ ≠ (.slice Ao60 t320.length co60 : Value).ownBlock ∧ some k_ ≠ (.slice Ao59 y335.length co59 : Value).ownBlock ∧ k_ ≠ gb312 ∧ k_ ≠ gb329)) (okp := (fun k_ => (P0_2_ k_ ∨ w.heap.size ≤ k_) ∧ some k_ ≠ (.slice Ao42 y313.length co42 : Value).ownBlock ∧ some k_ ≠ (.slice (some ad319) t316.length co44 : Value).ownBlock ∧ some k_ ≠ (.slice Ao60 t320.length co60 : Value).ownBlock ∧ some k_ ≠ (.slice Ao59 y335.length co59 : Value).ownBlock ∧ k_ ≠ gb312 ∧ k_ ≠ gb329)) ?hr ?hp (fun _ hk => hk) ((show ∀ k_, w61.heap.size ≤ k_ → (fun k_ => (P0_2_ k_ ∨ w.heap.size ≤ k_) ∧ some k_ ≠ (.slice Ao42 y313.length co42 : Value).ownBlock ∧ some k_ ≠ (.slice (some ad319) t316.length co44 : Value).ownBlock ∧ some k_ ≠ (.slice Ao60 t320.length co60 : Value).ownBlock ∧ some k_ ≠ (.slice Ao59 y335.length co59 : Value).ownBlock ∧ k_ ≠ gb312 ∧ k_ ≠ gb329) k_ from fun k_ hk => ⟨(.inr (Nat.le_trans (below_size (by repeat (first | (with_reducible first | exact HB.out | apply below_alloc | apply pw_below_drewN | apply below_drew1 | refine below_set ?_ GE312.out | refine below_set ?_ GE329.out) | exact HB.out))) hk)), Kd.fresh' (Kd.N_lt (by (with_reducible repeat (first | apply Kd.N_alloc | apply Kd.N_drewN | apply Kd.N_drew)); exact HO315.out)) k_ hk, Kd.fresh' (Kd.N_lt (by (with_reducible repeat (first | apply Kd.N_alloc | apply Kd.N_drewN | apply Kd.N_drew)); exact HO318.out)) k_ hk, Kd.fresh' (Kd.R_lt (by (with_reducible repeat (first | apply Kd.R_alloc | apply Kd.R_drewN | apply Kd.R_drew)); exact HO322.out)) k_ hk, Kd.fresh' (Kd.N_lt (by (with_reducible repeat (first | apply Kd.N_alloc | apply Kd.N_drewN | apply Kd.N_drew)); exact HO337.out)) k_ hk, Kd.freshB (g := gb312) (o := .cells #[.int .i64 ((rd_T58 t316 0).f0), .string ((rd_T58 t316 0).f1), .slice A319_2 ((rd_T58 t316 0).f2).length c319_2] 58 (0, 0)) (by (with_reducible repeat (first | refine blk_drewN ?_ _ | refine blk_drew ?_ | refine blk_alloc ?_ _)); exact BK312.out) k_ hk, Kd.freshB (g := gb329) (o := .cells #[.int .i64 t323, .string t324, .slice Ao54 t325.length co54] 58 (0, 0)) (by (with_reducible repeat (first | refine blk_drewN ?_ _ | refine blk_drew ?_ | refine blk_alloc ?_ _)); exact BK329.out) k_ hk⟩) _ (Nat.le_refl _)) (Below.refl _ _) (Nat.le_refl _) (by simp) ?_; (case hd => rfl); (case hg => rfl); (case hr => first | (go_simp; done) | (go_simp; rfl)); (case hp => exact (Reps.c3 (show Kd.FK k58 _ _ (⟨(rd_T58 t316 0).f0, (rd_T58 t316 0).f1, (rd_T58 t316 0).f2⟩ : S58) [.int .i64 ((rd_T58 t316 0).f0), .string ((rd_T58 t316 0).f1), .slice A319_2 ((rd_T58 t316 0).f2).length c319_2] from (k58_mkF _ _ (⟨(rd_T58 t316 0).f0, (rd_T58 t316 0).f1, (rd_T58 t316 0).f2⟩ : S58) (Kd.V_reads' (Kd.V_mono (ok' := (fun k_ => (P0_2_ k_ ∨ w.heap.size ≤ k_) ∧ some k_ ≠ (.slice Ao42 y313.length co42 : Value).ownBlock ∧ some k_ ≠ (.slice (some ad319) t316.length co44 : Value).ownBlock ∧ some k_ ≠ (.slice Ao60 t320.length co60 : Value).ownBlock ∧ some k_ ≠ (.slice Ao59 y335.length co59 : Value).ownBlock ∧ k_ ≠ gb312 ∧ k_ ≠ gb329)) (HL319_2.out) (fun k_ hk => ⟨hk.1.1, ⟨hk.1.2.1, ⟨hk.1.2.2.1, ⟨hk.1.2.2.2.1, ⟨hk.2, ⟨hk.1.2.2.2.2.2.1, hk.1.2.2.2.2.2.2⟩⟩⟩⟩⟩⟩))).2.1 (Kd.V_F (Kd.V_mono (ok' := (fun k_ => (P0_2_ k_ ∨ w.heap.size ≤ k_) ∧ some k_ ≠ (.slice Ao42 y313.length co42 : Value).ownBlock ∧ some k_ ≠ (.slice (some ad319) t316.length co44 : Value).ownBlock ∧ some k_ ≠ (.slice Ao60 t320.length co60 : Value).ownBlock ∧ some k_ ≠ (.slice Ao59 y335.length co59 : Value).ownBlock ∧ k_ ≠ gb312 ∧ k_ ≠ gb329)) (HL319_2.out) (fun k_ hk => ⟨hk.1.1, ⟨hk.1.2.1, ⟨hk.1.2.2.1, ⟨hk.1.2.2.2.1, ⟨hk.2, ⟨hk.1.2.2.2.2.2.1, hk.1.2.2.2.2.2.2⟩⟩⟩⟩⟩⟩))))) (Reps.c3 (show Kd.FK k58 _ _ (⟨(rd_T58 t316 0).f0, (rd_T58 t316 0).f1, (rd_T58 t316 0).f2⟩ : S58) [.int .i64 ((rd_T58 t316 0).f0), .string ((rd_T58 t316 0).f1), .slice A319_2 ((rd_T58 t316 0).f2).length c319_2] from (k58_mkF _ _ (⟨(rd_T58 t316 0).f0, (rd_T58 t316 0).f1, (rd_T58 t316 0).f2⟩ : S58) (Kd.V_reads' (Kd.V_mono (ok' := (fun k_ => (P0_2_ k_ ∨ w.heap.size ≤ k_) ∧ some k_ ≠ (.slice Ao42 y313.length co42 : Value).ownBlock ∧ some k_ ≠ (.slice (some ad319) t316.length co44 : Value).ownBlock ∧ some k_ ≠ (.slice Ao60 t320.length co60 : Value).ownBlock ∧ some k_ ≠ (.slice Ao59 y335.length co59 : Value).ownBlock ∧ k_ ≠ gb312 ∧ k_ ≠ gb329)) (HL319_2.out) (fun k_ hk => ⟨hk.1.1, ⟨hk.1.2.1, ⟨hk.1.2.2.1, ⟨hk.1.2.2.2.1, ⟨hk.2, ⟨hk.1.2.2.2.2.2.1, hk.1.2.2.2.2.2.2⟩⟩⟩⟩⟩⟩))).2.1 (Kd.V_F (Kd.V_mono (ok' := (fun k_ => (P0_2_ k_ ∨ w.heap.size ≤ k_) ∧ some k_ ≠ (.slice Ao42 y313.length co42 : Value).ownBlock ∧ some k_ ≠ (.slice (some ad319) t316.length co44 : Value).ownBlock ∧ some k_ ≠ (.slice Ao60 t320.length co60 : Value).ownBlock ∧ some k_ ≠ (.slice Ao59 y335.length co59 : Value).ownBlock ∧ k_ ≠ gb312 ∧ k_ ≠ gb329)) (HL319_2.out) (fun k_ hk => ⟨hk.1.1, ⟨hk.1.2.1, ⟨hk.1.2.2.1, ⟨hk.1.2.2.2.1, ⟨hk.2, ⟨hk.1.2.2.2.2.2.1, hk.1.2.2.2.2.2.2⟩⟩⟩⟩⟩⟩))))) (Reps.none _ _))))
          intro v340 w62 ho63 hb hg_ hnew_
          clear hg_ hnew_
          (first | rw [← Ny339.out] at ho63 | (simp only [Int.reduceToNat] at ho63; rw [← Ny339.out] at ho63))
          have n0_ := Aside0.mk (Kd.V_elder' (by (with_reducible repeat (first | apply Kd.V_alloc | apply Kd.V_drewN | apply Kd.V_drew)); exact HO0_2.out) (Kd.N_base ho63) hb)
          have n1_ := Aside0.mk (Kd.N_elder' (by (with_reducible repeat (first | apply Kd.N_alloc | apply Kd.N_drewN | apply Kd.N_drew)); exact HO315.out) (Kd.N_base ho63) hb)
          have n2_ := Aside0.mk (Kd.N_elder' (by (with_reducible repeat (first | apply Kd.N_alloc | apply Kd.N_drewN | apply Kd.N_drew)); exact HO318.out) (Kd.N_base ho63) hb)
          have n3_ := Aside0.mk (Kd.V_elder' (by (with_reducible repeat (first | apply Kd.V_alloc | apply Kd.V_drewN | apply Kd.V_drew)); exact HL319_2.out) (Kd.N_base ho63) hb)
          have n4_ := Aside0.mk (Kd.R_below (by (with_reducible repeat (first | apply Kd.R_alloc | apply Kd.R_drewN | apply Kd.R_drew)); exact HO322.out) hb)
          have n5_ := Aside0.mk (Kd.N_elder' (by (with_reducible repeat (first | apply Kd.N_alloc | apply Kd.N_drewN | apply Kd.N_drew)); exact HO337.out) (Kd.N_base ho63) hb)
          have n6_ := Aside0.mk (Kd.N_lower ho63 (below_size (by repeat (first | (with_reducible first | exact HB.out | apply below_alloc | apply pw_below_drewN | apply below_drew1 | refine below_set ?_ GE312.out | refine below_set ?_ GE329.out) | exact HB.out))))
          have n7_ := Aside0.mk (blk_below (g := gb312) (o := .cells #[.int .i64 ((rd_T58 t316 0).f0), .string ((rd_T58 t316 0).f1), .slice A319_2 ((rd_T58 t316 0).f2).length c319_2] 58 (0, 0)) (by (with_reducible repeat (first | refine blk_drewN ?_ _ | refine blk_drew ?_ | refine blk_alloc ?_ _)); exact BK312.out) hb)
          have n8_ := Aside0.mk (blk_below (g := gb329) (o := .cells #[.int .i64 t323, .string t324, .slice Ao54 t325.length co54] 58 (0, 0)) (by (with_reducible repeat (first | refine blk_drewN ?_ _ | refine blk_drew ?_ | refine blk_alloc ?_ _)); exact BK329.out) hb)
          have n9_ := Aside0.mk (below_step (by repeat (first | (with_reducible first | exact HB.out | apply below_alloc | apply pw_below_drewN | apply below_drew1 | refine below_set ?_ GE312.out | refine below_set ?_ GE329.out) | exact HB.out)) hb)
          clear HO0_2
          clear HO315
          clear HO318
          clear HL319_2
          clear HO322
          clear HO337
          clear BK312
          clear BK329
          clear HB
          have HO0_2 := n0_
          have HO315 := n1_
          have HO318 := n2_
          have HL319_2 := n3_
          have HO322 := n4_
          have HO337 := n5_
          have HO341 := n6_
          have BK312 := n7_
          have BK329 := n8_
          have HB := n9_
          clear n0_ n1_ n2_ n3_ n4_ n5_ n6_ n7_ n8_ n9_
          clear hb ho63
          obtain ⟨Ao64, co64, eo64⟩ := Kd.N_slice HO341.out
          (first | subst eo64 | (injection eo64 with f1_ f2_ f3_; have f4_ := f1_.symm; have f5_ := f3_.symm; clear f1_ f2_ f3_; subst f4_; subst f5_))
          refine hK.out _ _ ⟨(blk_cell BK312.out 0).trans rfl, (blk_cell BK312.out 1).trans rfl, (blk_cell BK312.out 2).trans rfl, (blk_cell BK329.out 0).trans rfl, (blk_cell BK329.out 1).trans rfl, (blk_cell BK329.out 2).trans rfl⟩ (fun hHeld => ?_)
          clear hK K
          refine norm_ (a' := ?_) ?_ ?_
          rotate_left
          · show Act.put _ (some 38) _ = _
            simp only [Act.put, List.setIfInBounds_toArray, List.set_cons_zero, List.set_cons_succ, i64_w, i32_w]
            rfl
          refine one_ (i := 11) (N := some 40) #[true, true, true, true, true, true, true, true, true, true, true, true, true, true, false, false, false, false, false, false, false] rfl rfl (one_of HT_.out (by kernel_rfl)) (by decide) (fun K hK => ?_)
          refine goes_ Tryd.func61 (by kernel_rfl) rfl #[.slice Ao64 y339.length co64, .slice Ao60 t320.length co60] (by rfl) rfl rfl (by (try simp only [List.map_toArray, List.map_cons, List.map_nil]); first | done | rfl | (simp only [List.length_drop, List.length_take]; rfl)) ?_
          with_reducible refine (label_All.calls _ _ y339 _ _ t320 t342 _ ?side1 ?side2 ?side3 ?side4 A34.out).mono ?_
          (case side1 => repeat (first | exact (Kd.N_reads' HO341.out).2.2 | (with_reducible refine Kd.C_alloc ?_ _) | (with_reducible refine Kd.C_drewN ?_ _) | (with_reducible refine Kd.C_drew ?_)))
          (case side2 => exact (Kd.N_reads' HO341.out).2.1)
          (case side3 => repeat (first | exact (Kd.R_reads' HO322.out).2.2 | (with_reducible refine Kd.C_alloc ?_ _) | (with_reducible refine Kd.C_drewN ?_ _) | (with_reducible refine Kd.C_drew ?_)))
          (case side4 => exact (Kd.R_reads' HO322.out).2.1)
          rintro e w65 ⟨rfl, hb⟩
          refine ⟨_, rfl, ?_⟩
          have n0_ := Aside0.mk (Kd.V_below (by (with_reducible repeat (first | apply Kd.V_alloc | apply Kd.V_drewN | apply Kd.V_drew)); exact HO0_2.out) hb)
          have n1_ := Aside0.mk (Kd.N_below (by (with_reducible repeat (first | apply Kd.N_alloc | apply Kd.N_drewN | apply Kd.N_drew)); exact HO315.out) hb)
          have n2_ := Aside0.mk (Kd.N_below (by (with_reducible repeat (first | apply Kd.N_alloc | apply Kd.N_drewN | apply Kd.N_drew)); exact HO318.out) hb)
          have n3_ := Aside0.mk (Kd.V_below (by (with_reducible repeat (first | apply Kd.V_alloc | apply Kd.V_drewN | apply Kd.V_drew)); exact HL319_2.out) hb)
          have n4_ := Aside0.mk (Kd.R_below (by (with_reducible repeat (first | apply Kd.R_alloc | apply Kd.R_drewN | apply Kd.R_drew)); exact HO322.out) hb)
          have n5_ := Aside0.mk (Kd.N_below (by (with_reducible repeat (first | apply Kd.N_alloc | apply Kd.N_drewN | apply Kd.N_drew)); exact HO337.out) hb)
          have n6_ := Aside0.mk (Kd.N_below (by (with_reducible repeat (first | apply Kd.N_alloc | apply Kd.N_drewN | apply Kd.N_drew)); exact HO341.out) hb)
          have n7_ := Aside0.mk (blk_below (g := gb312) (o := .cells #[.int .i64 ((rd_T58 t316 0).f0), .string ((rd_T58 t316 0).f1), .slice A319_2 ((rd_T58 t316 0).f2).length c319_2] 58 (0, 0)) (by (with_reducible repeat (first | refine blk_drewN ?_ _ | refine blk_drew ?_ | refine blk_alloc ?_ _)); exact BK312.out) hb)
          have n8_ := Aside0.mk (blk_below (g := gb329) (o := .cells #[.int .i64 t323, .string t324, .slice Ao54 t325.length co54] 58 (0, 0)) (by (with_reducible repeat (first | refine blk_drewN ?_ _ | refine blk_drew ?_ | refine blk_alloc ?_ _)); exact BK329.out) hb)
          have n9_ := Aside0.mk (below_step (by repeat (first | (with_reducible first | exact HB.out | apply below_alloc | apply pw_below_drewN | apply below_drew1 | refine below_set ?_ GE312.out | refine below_set ?_ GE329.out) | exact HB.out)) hb)
          clear HO0_2
          clear HO315
          clear HO318
          clear HL319_2
          clear HO322
          clear HO337
          clear HO341
          clear BK312
          clear BK329
          clear HB
          have HO0_2 := n0_
          have HO315 := n1_
          have HO318 := n2_
          have HL319_2 := n3_
          have HO322 := n4_
          have HO337 := n5_
          have HO341 := n6_
          have BK312 := n7_
          have BK329 := n8_
          have HB := n9_
          clear n0_ n1_ n2_ n3_ n4_ n5_ n6_ n7_ n8_ n9_
          (try clear hb)
          (try clear hb2)
          (try clear hk)
          (try clear hi)
          refine hK.out _ _ ⟨(blk_cell BK312.out 0).trans rfl, (blk_cell BK312.out 1).trans rfl, (blk_cell BK312.out 2).trans rfl, (blk_cell BK329.out 0).trans rfl, (blk_cell BK329.out 1).trans rfl, (blk_cell BK329.out 2).trans rfl⟩ (fun hHeld => ?_)
          clear hK K
          refine norm_ (a' := ?_) ?_ ?_
          rotate_left
          · show Act.put _ (some 40) _ = _
            simp only [Act.put, List.setIfInBounds_toArray, List.set_cons_zero, List.set_cons_succ, i64_w, i32_w]
            rfl
          refine one_ (i := 14) (N := some 43) #[true, true, true, true, true, true, true, true, true, true, true, true, true, true, true, false, false, false, false, false, false] rfl rfl (one_of HT_.out (by kernel_rfl)) (by decide) (fun K hK => ?_)
          refine goes_ Tryd.func54 (by kernel_rfl) rfl #[.agg #[.int .i64 ((rd_T58 t316 0).f0), .string ((rd_T58 t316 0).f1), .slice A319_2 ((rd_T58 t316 0).f2).length c319_2], .slice Ao60 t320.length co60] (by rfl) rfl rfl (by (try simp only [List.map_toArray, List.map_cons, List.map_nil]); first | done | rfl | (simp only [List.length_drop, List.length_take]; rfl)) ?_
          with_reducible refine (label_Met.calls ((rd_T58 t316 0).f0) ((rd_T58 t316 0).f1) _ _ ((rd_T58 t316 0).f2) _ _ t320 t343 _ ?side1 ?side2 ?side3 ?side4 A35.out).mono ?_
          (case side1 => repeat (first | exact ((Kd.V_reads' (by (with_reducible repeat (first | apply Kd.V_alloc | apply Kd.V_drewN | apply Kd.V_drew)); exact HL319_2.out)).2.2) | (with_reducible refine Kd.C_alloc ?_ _) | (with_reducible refine Kd.C_drewN ?_ _) | (with_reducible refine Kd.C_drew ?_)))
          (case side2 => exact HC319_2.out)
          (case side3 => repeat (first | exact (Kd.R_reads' HO322.out).2.2 | (with_reducible refine Kd.C_alloc ?_ _) | (with_reducible refine Kd.C_drewN ?_ _) | (with_reducible refine Kd.C_drew ?_)))
          (case side4 => exact (Kd.R_reads' HO322.out).2.1)
          rintro e w66 ⟨rfl, hb⟩
          refine ⟨_, rfl, ?_⟩
          have n0_ := Aside0.mk (Kd.V_below (by (with_reducible repeat (first | apply Kd.V_alloc | apply Kd.V_drewN | apply Kd.V_drew)); exact HO0_2.out) hb)
          have n1_ := Aside0.mk (Kd.N_below (by (with_reducible repeat (first | apply Kd.N_alloc | apply Kd.N_drewN | apply Kd.N_drew)); exact HO315.out) hb)
          have n2_ := Aside0.mk (Kd.N_below (by (with_reducible repeat (first | apply Kd.N_alloc | apply Kd.N_drewN | apply Kd.N_drew)); exact HO318.out) hb)
          have n3_ := Aside0.mk (Kd.V_below (by (with_reducible repeat (first | apply Kd.V_alloc | apply Kd.V_drewN | apply Kd.V_drew)); exact HL319_2.out) hb)
          have n4_ := Aside0.mk (Kd.R_below (by (with_reducible repeat (first | apply Kd.R_alloc | apply Kd.R_drewN | apply Kd.R_drew)); exact HO322.out) hb)
          have n5_ := Aside0.mk (Kd.N_below (by (with_reducible repeat (first | apply Kd.N_alloc | apply Kd.N_drewN | apply Kd.N_drew)); exact HO337.out) hb)
          have n6_ := Aside0.mk (Kd.N_below (by (with_reducible repeat (first | apply Kd.N_alloc | apply Kd.N_drewN | apply Kd.N_drew)); exact HO341.out) hb)
          have n7_ := Aside0.mk (blk_below (g := gb312) (o := .cells #[.int .i64 ((rd_T58 t316 0).f0), .string ((rd_T58 t316 0).f1), .slice A319_2 ((rd_T58 t316 0).f2).length c319_2] 58 (0, 0)) (by (with_reducible repeat (first | refine blk_drewN ?_ _ | refine blk_drew ?_ | refine blk_alloc ?_ _)); exact BK312.out) hb)
          have n8_ := Aside0.mk (blk_below (g := gb329) (o := .cells #[.int .i64 t323, .string t324, .slice Ao54 t325.length co54] 58 (0, 0)) (by (with_reducible repeat (first | refine blk_drewN ?_ _ | refine blk_drew ?_ | refine blk_alloc ?_ _)); exact BK329.out) hb)
          have n9_ := Aside0.mk (below_step (by repeat (first | (with_reducible first | exact HB.out | apply below_alloc | apply pw_below_drewN | apply below_drew1 | refine below_set ?_ GE312.out | refine below_set ?_ GE329.out) | exact HB.out)) hb)
          clear HO0_2
          clear HO315
          clear HO318
          clear HL319_2
          clear HO322
          clear HO337
          clear HO341
          clear BK312
          clear BK329
          clear HB
          have HO0_2 := n0_
          have HO315 := n1_
          have HO318 := n2_
          have HL319_2 := n3_
          have HO322 := n4_
          have HO337 := n5_
          have HO341 := n6_
          have BK312 := n7_
          have BK329 := n8_
          have HB := n9_
          clear n0_ n1_ n2_ n3_ n4_ n5_ n6_ n7_ n8_ n9_
          (try clear hb)
          (try clear hb2)
          (try clear hk)
          (try clear hi)
          refine hK.out _ _ ⟨(blk_cell BK312.out 0).trans rfl, (blk_cell BK312.out 1).trans rfl, (blk_cell BK312.out 2).trans rfl, (blk_cell BK329.out 0).trans rfl, (blk_cell BK329.out 1).trans rfl, (blk_cell BK329.out 2).trans rfl⟩ (fun hHeld => ?_)
          clear hK K
          refine norm_ (a' := ?_) ?_ ?_
          rotate_left
          · show Act.put _ (some 43) _ = _
            simp only [Act.put, List.setIfInBounds_toArray, List.set_cons_zero, List.set_cons_succ, i64_w, i32_w]
            rfl
          refine pure_ (i := 15) (N := some 44) (v := ?_) (a' := ?_) #[true, true, true, true, true, true, true, true, true, true, true, true, true, true, true, true, false, false, false, false, false] rfl rfl (any_of HT_.out (by kernel_rfl)) (fun _ _ _ h => h) (Or.inl ⟨by rfl, ?_⟩) ?_ ?_
          rotate_left
          · intro w'
            go_simp
            with_reducible rfl
          rotate_left
          · simp only [Act.put, List.setIfInBounds_toArray, List.set_cons_zero, List.set_cons_succ, i64_w, i32_w]
            rfl
          refine pure_ (i := 16) (N := some 45) (v := ?_) (a' := ?_) #[true, true, true, true, true, true, true, true, true, true, true, true, true, true, true, true, true, false, false, false, false] rfl rfl (any_of HT_.out (by kernel_rfl)) (fun _ _ _ h => h) (Or.inl ⟨by rfl, ?_⟩) ?_ ?_
          rotate_left
          · intro w'
            go_simp
            with_reducible rfl
          rotate_left
          · simp only [Act.put, List.setIfInBounds_toArray, List.set_cons_zero, List.set_cons_succ, i64_w, i32_w]
            rfl
          refine pure_ (i := 17) (N := some 46) (v := ?_) (a' := ?_) #[true, true, true, true, true, true, true, true, true, true, true, true, true, true, true, true, true, true, false, false, false] rfl rfl (any_of HT_.out (by kernel_rfl)) (fun _ _ _ h => h) (Or.inl ⟨by rfl, ?_⟩) ?_ ?_
          rotate_left
          · intro w'
            go_simp
            with_reducible rfl
          rotate_left
          · simp only [Act.put, List.setIfInBounds_toArray, List.set_cons_zero, List.set_cons_succ, i64_w, i32_w]
            rfl
          refine one_ (i := 18) (N := some 47) #[true, true, true, true, true, true, true, true, true, true, true, true, true, true, true, true, true, true, true, false, false] rfl rfl (one_of HT_.out (by kernel_rfl)) (by decide) (fun K hK => ?_)
          refine goes_ Tryd.func53 (by kernel_rfl) rfl #[] (by rfl) rfl rfl (by (try simp only [List.map_toArray, List.map_cons, List.map_nil]); first | done | rfl | (simp only [List.length_drop, List.length_take]; rfl)) ?_
          with_reducible refine (tolllaw08_awake.calls  true _ A37.out).mono ?_
          rintro e w67 ⟨rfl, hb⟩
          refine ⟨_, rfl, ?_⟩
          have n0_ := Aside0.mk (Kd.V_below (by (with_reducible repeat (first | apply Kd.V_alloc | apply Kd.V_drewN | apply Kd.V_drew)); exact HO0_2.out) hb)
          have n1_ := Aside0.mk (Kd.N_below (by (with_reducible repeat (first | apply Kd.N_alloc | apply Kd.N_drewN | apply Kd.N_drew)); exact HO315.out) hb)
          have n2_ := Aside0.mk (Kd.N_below (by (with_reducible repeat (first | apply Kd.N_alloc | apply Kd.N_drewN | apply Kd.N_drew)); exact HO318.out) hb)
          have n3_ := Aside0.mk (Kd.V_below (by (with_reducible repeat (first | apply Kd.V_alloc | apply Kd.V_drewN | apply Kd.V_drew)); exact HL319_2.out) hb)
          have n4_ := Aside0.mk (Kd.R_below (by (with_reducible repeat (first | apply Kd.R_alloc | apply Kd.R_drewN | apply Kd.R_drew)); exact HO322.out) hb)
          have n5_ := Aside0.mk (Kd.N_below (by (with_reducible repeat (first | apply Kd.N_alloc | apply Kd.N_drewN | apply Kd.N_drew)); exact HO337.out) hb)
          have n6_ := Aside0.mk (Kd.N_below (by (with_reducible repeat (first | apply Kd.N_alloc | apply Kd.N_drewN | apply Kd.N_drew)); exact HO341.out) hb)
          have n7_ := Aside0.mk (blk_below (g := gb312) (o := .cells #[.int .i64 ((rd_T58 t316 0).f0), .string ((rd_T58 t316 0).f1), .slice A319_2 ((rd_T58 t316 0).f2).length c319_2] 58 (0, 0)) (by (with_reducible repeat (first | refine blk_drewN ?_ _ | refine blk_drew ?_ | refine blk_alloc ?_ _)); exact BK312.out) hb)
          have n8_ := Aside0.mk (blk_below (g := gb329) (o := .cells #[.int .i64 t323, .string t324, .slice Ao54 t325.length co54] 58 (0, 0)) (by (with_reducible repeat (first | refine blk_drewN ?_ _ | refine blk_drew ?_ | refine blk_alloc ?_ _)); exact BK329.out) hb)
          have n9_ := Aside0.mk (below_step (by repeat (first | (with_reducible first | exact HB.out | apply below_alloc | apply pw_below_drewN | apply below_drew1 | refine below_set ?_ GE312.out | refine below_set ?_ GE329.out) | exact HB.out)) hb)
          clear HO0_2
          clear HO315
          clear HO318
          clear HL319_2
          clear HO322
          clear HO337
          clear HO341
          clear BK312
          clear BK329
          clear HB
          have HO0_2 := n0_
          have HO315 := n1_
          have HO318 := n2_
          have HL319_2 := n3_
          have HO322 := n4_
          have HO337 := n5_
          have HO341 := n6_
          have BK312 := n7_
          have BK329 := n8_
          have HB := n9_
          clear n0_ n1_ n2_ n3_ n4_ n5_ n6_ n7_ n8_ n9_
          (try clear hb)
          (try clear hb2)
          (try clear hk)
          (try clear hi)
          refine hK.out _ _ ⟨(blk_cell BK312.out 0).trans rfl, (blk_cell BK312.out 1).trans rfl, (blk_cell BK312.out 2).trans rfl, (blk_cell BK329.out 0).trans rfl, (blk_cell BK329.out 1).trans rfl, (blk_cell BK329.out 2).trans rfl⟩ (fun hHeld => ?_)
          clear hK K
          refine norm_ (a' := ?_) ?_ ?_
          rotate_left
          · show Act.put _ (some 47) _ = _
            simp only [Act.put, List.setIfInBounds_toArray, List.set_cons_zero, List.set_cons_succ, i64_w, i32_w]
            rfl
          refine pure_ (i := 19) (N := some 48) (v := ?_) (a' := ?_) #[true, true, true, true, true, true, true, true, true, true, true, true, true, true, true, true, true, true, true, true, false] rfl rfl (any_of HT_.out (by kernel_rfl)) (fun _ _ _ h => h) (Or.inl ⟨by rfl, ?_⟩) ?_ ?_
          rotate_left
          · intro w'
            go_simp
            with_reducible rfl
          rotate_left
          · simp only [Act.put, List.setIfInBounds_toArray, List.set_cons_zero, List.set_cons_succ, i64_w, i32_w]
            rfl
          refine pure_ (i := 20) (N := some 4) (v := ?_) (a' := ?_) #[true, true, true, true, true, true, true, true, true, true, true, true, true, true, true, true, true, true, true, true, true] rfl rfl (any_of HT_.out (by kernel_rfl)) (fun _ _ _ h => h) (Or.inl ⟨by rfl, ?_⟩) ?_ ?_
          rotate_left
          · intro w'
            go_simp
            with_reducible rfl
          rotate_left
          · simp only [Act.put, List.setIfInBounds_toArray, List.set_cons_zero, List.set_cons_succ, i64_w, i32_w]
            rfl
          refine done_ (done_of HT_.out (by kernel_rfl)) ?_
          try go_wp2
          go_ret
          exact ⟨by first | rfl | (simp [errW_none, errW_some] <;> rfl) | (simp [*, errW_none, errW_some] <;> rfl), by repeat (first | (with_reducible first | exact HB.out | apply below_alloc | apply pw_below_drewN | apply below_drew1 | refine below_set ?_ GE312.out | refine below_set ?_ GE329.out) | exact HB.out)⟩
        · rw [if_neg c36] at H
          exact absurd H (by simp)
    · replace c7 := Bool.eq_false_iff.mpr c7
      subst c7
      have H1 : ((label_All.f (([(⟨(rd_T58 t316 0).f0, (rd_T58 t316 0).f1, (rd_T58 t316 0).f2⟩ : S58)] : List (S58))) t320).bind fun t333 => (if t333 = true then (some false) else ((tolllaw08_awake.f).bind fun t334 => (some t334)))) = some true := by rw [if_neg (show ¬ (false = true) by decide)] at H; exact H
      clear H
      have H := H1
      clear H1
      obtain ⟨y330, hy330⟩ : ∃ y_ : List (S58), y_ = (([(⟨(rd_T58 t316 0).f0, (rd_T58 t316 0).f1, (rd_T58 t316 0).f2⟩ : S58)] : List (S58))) := ⟨_, rfl⟩
      replace H : ((label_All.f y330 t320).bind fun t333 => (if t333 = true then (some false) else ((tolllaw08_awake.f).bind fun t334 => (some t334)))) = some true := by first | (rw [hy330]; with_reducible exact H) | (have H2_ := (Option.bind_some _ _).symm.trans H; rw [hy330]; with_reducible exact H2_) | (have H2_ := (Option.bind_some _ _).symm.trans H; with_reducible exact H2_) | with_reducible exact H | (rw [hy330]; exact H) | exact H
      have Ny330 := Aside0.mk hy330
      clear hy330
      replace H := Option.bind_eq_some_iff.mp H
      obtain ⟨t333, A970, H⟩ := H
      replace H : (if t333 = true then (some false) else ((tolllaw08_awake.f).bind fun t334 => (some t334))) = some true := H
      have A97 := Aside0.mk A970
      clear A970
      by_cases c98 : t333 = true
      · subst c98
        have H1 : (some false) = some true := by rw [if_pos rfl] at H; exact H
        exact absurd H1 (by simp)
      · replace c98 := Bool.eq_false_iff.mpr c98
        subst c98
        have H1 : ((tolllaw08_awake.f).bind fun t334 => (some t334)) = some true := by rw [if_neg (show ¬ (false = true) by decide)] at H; exact H
        clear H
        have H := H1
        clear H1
        replace H := Option.bind_eq_some_iff.mp H
        obtain ⟨t334, A1230, H⟩ := H
        replace H : (some t334) = some true := H
        have A123 := Aside0.mk A1230
        clear A1230
        obtain rfl := Option.some.inj H
        go_enter Tryd.func16, Tryd.ntmps16
        try go_wp2_with (first | ((with_reducible refine gate_dst (N := 2) rfl ?_); (try (refine gate_guard (by rfl) ?_; dsimp only)); refine box_event ?hg (N := 2) ?hd (cs := #[.int .i64 a0_0, .string a0_1, .slice A0_2 l0_2.length c0_2]) (t := 58) ?hr ?_; (case hd => rfl); (case hg => rfl); (case hr => first | (go_simp; done) | (go_simp; rfl)); intro gb312 hg w124 hbox hb; have n0_ := Aside0.mk (Kd.V_below (Kd.V_elderB (by (with_reducible repeat (first | apply Kd.V_alloc | apply Kd.V_drewN | apply Kd.V_drew)); exact HO0_2.out) gb312 (Nat.le_of_eq hg.symm)) hb); have n1_ := Aside0.mk (below_step (by repeat (first | (with_reducible first | exact HB.out | apply below_alloc | apply pw_below_drewN | apply below_drew1) | exact HB.out)) hb); have n2_ := Aside0.mk (hbox); have n3_ := Aside0.mk ((by rw [hg]; exact (below_size (by repeat (first | (with_reducible first | exact HB.out | apply below_alloc | apply pw_below_drewN | apply below_drew1) | exact HB.out))) : w.heap.size ≤ gb312)); have n4_ := Aside0.mk ((by rw [hg]; exact (below_size (by repeat (first | (with_reducible first | exact HB.out | apply below_alloc | apply pw_below_drewN | apply below_drew1) | exact HB.out))) : w.heap.size ≤ gb312)); clear HO0_2; clear HB; have HO0_2 := n0_; have HB := n1_; have BK312 := n2_; have GW312 := n3_; have GE312 := n4_; clear n0_ n1_ n2_ n3_ n4_; clear hb hbox hg))
        have n0_ := Aside0.mk (Kd.V_drew HO0_2.out)
        have n1_ := Aside0.mk (blk_drew BK312.out)
        have n2_ := Aside0.mk (below_drew1 HB.out)
        clear HO0_2
        clear BK312
        clear HB
        have HO0_2 := n0_
        have BK312 := n1_
        have HB := n2_
        clear n0_ n1_ n2_
        refine start_ (n := 9) (S := fun w' => w'.cell? ⟨gb312, 0, none⟩ = some (.int .i64 a0_0) ∧ w'.cell? ⟨gb312, 1, none⟩ = some (.string a0_1) ∧ w'.cell? ⟨gb312, 2, none⟩ = some (.slice A0_2 l0_2.length c0_2)) (ds := [3, 4, 6, 7, 8]) #[false, false, false, false, false, false, false, false, false] (by kernel_rfl) rfl rfl ⟨(blk_cell BK312.out 0).trans rfl, (blk_cell BK312.out 1).trans rfl, (blk_cell BK312.out 2).trans rfl⟩ (fun hHeld => ?_); refine with_tabW tolllaw08_LabelNone.tab1 tolllaw08_LabelNone.bits1 (fun HT_ HW_ => ?_)
        generalize w124.drew = w125 at HO0_2 BK312 HB hHeld ⊢
        refine pure_ (i := 5) (N := some 12) (v := ?_) (a' := ?_) #[false, false, false, false, false, true, false, false, false] rfl rfl (any_of HT_.out (by kernel_rfl)) (fun _ _ _ h => h) (Or.inl ⟨by rfl, ?_⟩) ?_ ?_
        rotate_left
        · intro w'
          go_simp
          with_reducible rfl
        rotate_left
        · simp only [Act.put, List.setIfInBounds_toArray, List.set_cons_zero, List.set_cons_succ, i64_w, i32_w]
          rfl
        refine take_ (i := 0) (N := some 7) (v := ?_) (a' := ?_) #[true, false, false, false, false, true, false, false, false] rfl rfl (take_ofW HT_.out HW_.out (by kernel_rfl)) (fun _ _ _ h => h) (Or.inl ⟨by rfl, ?_⟩) hHeld ?_ ?_
        rotate_left
        · rintro w' ⟨s0, s1, s2⟩
          go_simp
          with_reducible rfl
        rotate_left
        · simp only [Act.put, List.setIfInBounds_toArray, List.set_cons_zero, List.set_cons_succ, i64_w, i32_w]
          rfl
        refine one_ (i := 1) (N := some 8) #[true, true, false, false, false, true, false, false, false] rfl rfl (one_of HT_.out (by kernel_rfl)) (by decide) (fun K hK => ?_)
        refine Kd.N_lit_step k58 _ 58 ?hg (N' := 8) ?hd (xs := ([(⟨a0_0, a0_1, l0_2⟩ : S58)] : List (S58))) (inner := [.int .i64 a0_0, .string a0_1, .slice A0_2 l0_2.length c0_2]) (ok := (fun k_ => (P0_2_ k_ ∨ w.heap.size ≤ k_) ∧ k_ ≠ gb312)) (okp := (fun k_ => (P0_2_ k_ ∨ w.heap.size ≤ k_) ∧ k_ ≠ gb312)) ?hr ?hp (fun _ hk => hk) ((show ∀ k_, w125.heap.size ≤ k_ → (fun k_ => (P0_2_ k_ ∨ w.heap.size ≤ k_) ∧ k_ ≠ gb312) k_ from fun k_ hk => ⟨(.inr (Nat.le_trans (below_size (by repeat (first | (with_reducible first | exact HB.out | apply below_alloc | apply pw_below_drewN | apply below_drew1 | refine below_set ?_ GE312.out) | exact HB.out))) hk)), Kd.freshB (g := gb312) (o := .cells #[.int .i64 a0_0, .string a0_1, .slice A0_2 l0_2.length c0_2] 58 (0, 0)) (by (with_reducible repeat (first | refine blk_drewN ?_ _ | refine blk_drew ?_ | refine blk_alloc ?_ _)); exact BK312.out) k_ hk⟩) _ (Nat.le_refl _)) (Below.refl _ _) (Nat.le_refl _) (by simp) ?_; (case hd => rfl); (case hg => rfl); (case hr => first | (go_simp; done) | (go_simp; rfl)); (case hp => exact (Reps.c3 (show Kd.FK k58 _ _ (⟨a0_0, a0_1, l0_2⟩ : S58) [.int .i64 a0_0, .string a0_1, .slice A0_2 l0_2.length c0_2] from (k58_mkF _ _ (⟨a0_0, a0_1, l0_2⟩ : S58) (Kd.V_reads' (Kd.V_mono (ok' := (fun k_ => (P0_2_ k_ ∨ w.heap.size ≤ k_) ∧ k_ ≠ gb312)) (HO0_2.out) (fun k_ hk => ⟨hk.1, hk.2⟩))).2.1 (Kd.V_F (Kd.V_mono (ok' := (fun k_ => (P0_2_ k_ ∨ w.heap.size ≤ k_) ∧ k_ ≠ gb312)) (HO0_2.out) (fun k_ hk => ⟨hk.1, hk.2⟩))))) (Reps.none _ _)))
        intro v314 w126 ho127 hb hg_ hnew_
        clear hg_ hnew_
        (first | rw [← Ny313.out] at ho127 | (simp only [Int.reduceToNat] at ho127; rw [← Ny313.out] at ho127))
        have n0_ := Aside0.mk (Kd.V_elder' (by (with_reducible repeat (first | apply Kd.V_alloc | apply Kd.V_drewN | apply Kd.V_drew)); exact HO0_2.out) (Kd.N_base ho127) hb)
        have n1_ := Aside0.mk (Kd.N_lower ho127 (below_size (by repeat (first | (with_reducible first | exact HB.out | apply below_alloc | apply pw_below_drewN | apply below_drew1 | refine below_set ?_ GE312.out) | exact HB.out))))
        have n2_ := Aside0.mk (blk_below (g := gb312) (o := .cells #[.int .i64 a0_0, .string a0_1, .slice A0_2 l0_2.length c0_2] 58 (0, 0)) (by (with_reducible repeat (first | refine blk_drewN ?_ _ | refine blk_drew ?_ | refine blk_alloc ?_ _)); exact BK312.out) hb)
        have n3_ := Aside0.mk (below_step (by repeat (first | (with_reducible first | exact HB.out | apply below_alloc | apply pw_below_drewN | apply below_drew1 | refine below_set ?_ GE312.out) | exact HB.out)) hb)
        clear HO0_2
        clear BK312
        clear HB
        have HO0_2 := n0_
        have HO315 := n1_
        have BK312 := n2_
        have HB := n3_
        clear n0_ n1_ n2_ n3_
        clear hb ho127
        obtain ⟨Ao128, co128, eo128⟩ := Kd.N_slice HO315.out
        (first | subst eo128 | (injection eo128 with f1_ f2_ f3_; have f4_ := f1_.symm; have f5_ := f3_.symm; clear f1_ f2_ f3_; subst f4_; subst f5_))
        refine hK.out _ _ ⟨(blk_cell BK312.out 0).trans rfl, (blk_cell BK312.out 1).trans rfl, (blk_cell BK312.out 2).trans rfl⟩ (fun hHeld => ?_)
        clear hK K
        refine norm_ (a' := ?_) ?_ ?_
        rotate_left
        · show Act.put _ (some 8) _ = _
          simp only [Act.put, List.setIfInBounds_toArray, List.set_cons_zero, List.set_cons_succ, i64_w, i32_w]
          rfl
        refine one_ (i := 2) (N := some 9) #[true, true, true, false, false, true, false, false, false] rfl rfl (one_of HT_.out (by kernel_rfl)) (by decide) (fun K hK => ?_)
        refine goes_ Tryd.func55 (by kernel_rfl) rfl #[.slice Ao128 y313.length co128] (by rfl) rfl rfl (by (try simp only [List.map_toArray, List.map_cons, List.map_nil]); first | done | rfl | (simp only [List.length_drop, List.length_take]; rfl)) ?_
        with_reducible refine (tolllaw08_Few.calls k _ _ y313 t316 _ ?side1 ?side2 A3.out).mono ?_
        (case side1 => repeat (first | exact (Kd.N_reads' HO315.out).2.2 | (with_reducible refine Kd.C_alloc ?_ _) | (with_reducible refine Kd.C_drewN ?_ _) | (with_reducible refine Kd.C_drew ?_)))
        (case side2 => exact (Kd.N_reads' HO315.out).2.1)
        rintro e w129 ⟨v317, rfl, ho0, hb⟩
        refine ⟨_, rfl, ?_⟩
        have n0_ := Aside0.mk (Kd.V_elder' (by (with_reducible repeat (first | apply Kd.V_alloc | apply Kd.V_drewN | apply Kd.V_drew)); exact HO0_2.out) (by first | exact Kd.N_base ho0 | exact Kd.N_base (Kd.S_N ho0)) hb)
        have n1_ := Aside0.mk (Kd.N_elder' (by (with_reducible repeat (first | apply Kd.N_alloc | apply Kd.N_drewN | apply Kd.N_drew)); exact HO315.out) (by first | exact Kd.N_base ho0 | exact Kd.N_base (Kd.S_N ho0)) hb)
        have n2_ := Aside0.mk (Kd.N_lower (Kd.N_mono (ok' := fun k_ => (P0_2_ k_ ∨ w.heap.size ≤ k_) ∧ some k_ ≠ (.slice Ao128 y313.length co128 : Value).ownBlock ∧ k_ ≠ gb312) (Kd.S_N (Kd.S_bound ho0)) (fun k_ hk_ => ⟨(.inr (Nat.le_trans (below_size (by repeat (first | (with_reducible first | exact HB.out | apply below_alloc | apply pw_below_drewN | apply below_drew1 | refine below_set ?_ GE312.out) | exact HB.out))) hk_.2.1)), (Kd.fresh' (Kd.N_lt (by (with_reducible repeat (first | apply Kd.N_alloc | apply Kd.N_drewN | apply Kd.N_drew)); exact HO315.out)) k_ hk_.2.1), (Kd.freshB (g := gb312) (o := .cells #[.int .i64 a0_0, .string a0_1, .slice A0_2 l0_2.length c0_2] 58 (0, 0)) (by (with_reducible repeat (first | refine blk_drewN ?_ _ | refine blk_drew ?_ | refine blk_alloc ?_ _)); exact BK312.out) k_ hk_.2.1)⟩)) (below_size (by repeat (first | (with_reducible first | exact HB.out | apply below_alloc | apply pw_below_drewN | apply below_drew1 | refine below_set ?_ GE312.out) | exact HB.out))))
        have n3_ := Aside0.mk (blk_below (g := gb312) (o := .cells #[.int .i64 a0_0, .string a0_1, .slice A0_2 l0_2.length c0_2] 58 (0, 0)) (by (with_reducible repeat (first | refine blk_drewN ?_ _ | refine blk_drew ?_ | refine blk_alloc ?_ _)); exact BK312.out) hb)
        have n4_ := Aside0.mk (below_step (by repeat (first | (with_reducible first | exact HB.out | apply below_alloc | apply pw_below_drewN | apply below_drew1 | refine below_set ?_ GE312.out) | exact HB.out)) hb)
        clear HO0_2
        clear HO315
        clear BK312
        clear HB
        have HO0_2 := n0_
        have HO315 := n1_
        have HO318 := n2_
        have BK312 := n3_
        have HB := n4_
        clear n0_ n1_ n2_ n3_ n4_
        (try clear hb)
        (try clear hb2)
        (try clear hk)
        (try clear hi)
        (try clear ho0)
        obtain ⟨Ao130, co130, eo130⟩ := Kd.N_slice HO318.out
        (first | subst eo130 | (injection eo130 with f1_ f2_ f3_; have f4_ := f1_.symm; have f5_ := f3_.symm; clear f1_ f2_ f3_; subst f4_; subst f5_))
        have p319 : 0 ≤ (0 : Int) := (by omega)
        have q319 : 0 < (t316.length : Int) := of_decide_eq_true (by first | (with_reducible assumption) | assumption)
        obtain ⟨ad319, A319_2, c319_2, e319, hx319_0, hx319_1, hx319_2, hl319_2, hi319_2⟩ := at_T58 (Kd.N_reads' HO318.out).2.2 0 p319 q319
        cases e319
        obtain ⟨ce319, hce319, hMe319, hcc319⟩ := Kd.N_get HO318.out z58 0 p319 (by first | exact q319 | exact of_decide_eq_true (by first | (with_reducible assumption) | assumption) | (have e_ := (Kd.N_reads' HO318.out).1; omega))
        obtain ⟨ua319_2, uc319_2, rfl, ul319_2, ge319_2⟩ := k58_openF hMe319
        have hv319_2 := hcc319 2 _ rfl
        rw [add_field _ _ 2 (by omega)] at hv319_2
        replace hv319_2 := Option.some.inj (hv319_2.symm.trans hx319_2)
        injection hv319_2 with hva_ hvn_ hvc_
        rw [hva_] at ge319_2
        rw [hvc_] at ul319_2
        have HL319_2 := Aside0.mk (show Kd.V Kd.string 9 _ w.heap.size _ _ ((rd_T58 t316 0).f2) from Kd.V_mk ul319_2 ge319_2)
        clear hva_ hvn_ hvc_ ge319_2 ul319_2
        clear hcc319 hce319
        have qi319 : (0 < t316.length) = True := eq_true (by omega)
        (try rw [show ((0 : Int)).toNat = 0 from rfl] at hx319_0)
        (try rw [show 0 * 3 = 0 from rfl] at hx319_0)
        (try rw [Addr.add_zero'] at hx319_0)
        (try rw [show ((0 : Int)).toNat = 0 from rfl] at hx319_1)
        (try rw [show 0 * 3 = 0 from rfl] at hx319_1)
        (try rw [Addr.add_zero'] at hx319_1)
        (try rw [show ((0 : Int)).toNat = 0 from rfl] at hx319_2)
        (try rw [show 0 * 3 = 0 from rfl] at hx319_2)
        (try rw [Addr.add_zero'] at hx319_2)
        have HR319_2 := Aside0.mk hi319_2
        have HC319_2 := Aside0.mk hl319_2
        clear hi319_2 hl319_2
        replace p319 := eq_true p319
        replace q319 := eq_true q319
        refine hK.out _ _ ⟨(blk_cell BK312.out 0).trans rfl, (blk_cell BK312.out 1).trans rfl, (blk_cell BK312.out 2).trans rfl⟩ (fun _ => ?_)
        clear hK K
        refine switch_ (S2 := fun w' => w'.cell? ⟨gb312, 0, none⟩ = some (.int .i64 a0_0) ∧ w'.cell? ⟨gb312, 1, none⟩ = some (.string a0_1) ∧ w'.cell? ⟨gb312, 2, none⟩ = some (.slice A0_2 l0_2.length c0_2) ∧ w'.cell? ad319 = some (.int .i64 ((rd_T58 t316 0).f0)) ∧ w'.cell? ⟨ad319.block, ad319.off + 1, none⟩ = some (.string ((rd_T58 t316 0).f1)) ∧ w'.cell? ⟨ad319.block, ad319.off + 2, none⟩ = some (.slice A319_2 ((rd_T58 t316 0).f2).length c319_2)) (ds2 := [7]) (by kernel_rfl) ⟨(blk_cell BK312.out 0).trans rfl, (blk_cell BK312.out 1).trans rfl, (blk_cell BK312.out 2).trans rfl, hx319_0, hx319_1, hx319_2⟩ (fun hHeld => ?_)
        refine norm_ (a' := ?_) ?_ ?_
        rotate_left
        · show Act.put _ (some 9) _ = _
          simp only [Act.put, List.setIfInBounds_toArray, List.set_cons_zero, List.set_cons_succ, i64_w, i32_w]
          rfl
        refine pure_ (i := 3) (N := some 10) (v := ?_) (a' := ?_) #[true, true, true, true, false, true, false, false, false] rfl rfl (any_of HT_.out (by kernel_rfl)) (fun _ _ _ h => h) (Or.inl ⟨by rfl, ?_⟩) ?_ ?_
        rotate_left
        · intro w'
          go_simp
          with_reducible rfl
        rotate_left
        · simp only [Act.put, List.setIfInBounds_toArray, List.set_cons_zero, List.set_cons_succ, i64_w, i32_w]
          rfl
        refine take_ (i := 4) (N := some 11) (v := ?_) (a' := ?_) #[true, true, true, true, true, true, false, false, false] rfl rfl (take_ofW HT_.out HW_.out (by kernel_rfl)) (fun _ _ _ h => h) (Or.inl ⟨by rfl, ?_⟩) hHeld ?_ ?_
        rotate_left
        · rintro w' ⟨s0, s1, s2, s3, s4, s5⟩
          go_simp
          with_reducible rfl
        rotate_left
        · simp only [Act.put, List.setIfInBounds_toArray, List.set_cons_zero, List.set_cons_succ, i64_w, i32_w]
          rfl
        refine one_ (i := 6) (N := some 13) #[true, true, true, true, true, true, true, false, false] rfl rfl (one_of HT_.out (by kernel_rfl)) (by decide) (fun K hK => ?_)
        refine goes_ Tryd.func51 (by kernel_rfl) rfl #[.slice A1 l1.length c1] (by rfl) rfl rfl (by (try simp only [List.map_toArray, List.map_cons, List.map_nil]); first | done | rfl | (simp only [List.length_drop, List.length_take]; rfl)) ?_
        with_reducible refine (tolllaw05_Few.calls k _ _ l1 t320 _ ?side1 ?side2 A5.out).mono ?_
        (case side1 => repeat (first | exact (Kd.C_below HR1.out HB.out) | (with_reducible refine Kd.C_alloc ?_ _) | (with_reducible refine Kd.C_drewN ?_ _) | (with_reducible refine Kd.C_drew ?_)))
        (case side2 => exact HC1.out)
        rintro e w131 ⟨v321, rfl, ho0, hb⟩
        have HS3_ := (hb.cell (World.block_lt_of_cell? _ _ (hHeld.2.2.2.1))).trans (hHeld.2.2.2.1)
        have HS4_ := (hb.cell (World.block_lt_of_cell? _ _ (hHeld.2.2.2.2.1))).trans (hHeld.2.2.2.2.1)
        have HS5_ := (hb.cell (World.block_lt_of_cell? _ _ (hHeld.2.2.2.2.2))).trans (hHeld.2.2.2.2.2)
        refine ⟨_, rfl, ?_⟩
        have n0_ := Aside0.mk (Kd.V_elder' (by (with_reducible repeat (first | apply Kd.V_alloc | apply Kd.V_drewN | apply Kd.V_drew)); exact HO0_2.out) (Kd.R_base ho0) hb)
        have n1_ := Aside0.mk (Kd.N_elder' (by (with_reducible repeat (first | apply Kd.N_alloc | apply Kd.N_drewN | apply Kd.N_drew)); exact HO315.out) (Kd.R_base ho0) hb)
        have n2_ := Aside0.mk (Kd.N_elder' (by (with_reducible repeat (first | apply Kd.N_alloc | apply Kd.N_drewN | apply Kd.N_drew)); exact HO318.out) (Kd.R_base ho0) hb)
        have n3_ := Aside0.mk (Kd.V_elder' (by (with_reducible repeat (first | apply Kd.V_alloc | apply Kd.V_drewN | apply Kd.V_drew)); exact HL319_2.out) (Kd.R_base ho0) hb)
        have n4_ := Aside0.mk (Kd.R_lower (Kd.R_newM (M := fun k_ => (w.heap.size ≤ k_)) ho0 (below_size (by repeat (first | (with_reducible first | exact HB.out | apply below_alloc | apply pw_below_drewN | apply below_drew1 | refine below_set ?_ GE312.out) | exact HB.out))) (fun k_ h_ => h_)) (below_size (by repeat (first | (with_reducible first | exact HB.out | apply below_alloc | apply pw_below_drewN | apply below_drew1 | refine below_set ?_ GE312.out) | exact HB.out))))
        have n5_ := Aside0.mk (blk_below (g := gb312) (o := .cells #[.int .i64 a0_0, .string a0_1, .slice A0_2 l0_2.length c0_2] 58 (0, 0)) (by (with_reducible repeat (first | refine blk_drewN ?_ _ | refine blk_drew ?_ | refine blk_alloc ?_ _)); exact BK312.out) hb)
        have n6_ := Aside0.mk (Kd.C_below (by repeat (first | (with_reducible exact HR319_2.out) | (with_reducible refine Kd.C_alloc ?_ _) | (with_reducible refine Kd.C_drewN ?_ _) | (with_reducible refine Kd.C_drew ?_) | exact HR319_2.out | exact (Kd.V_reads' HL319_2.out).2.2)) hb)
        have n7_ := Aside0.mk (below_step (by repeat (first | (with_reducible first | exact HB.out | apply below_alloc | apply pw_below_drewN | apply below_drew1 | refine below_set ?_ GE312.out) | exact HB.out)) hb)
        clear HO0_2
        clear HO315
        clear HO318
        clear HL319_2
        clear BK312
        clear HR319_2
        clear HB
        have HO0_2 := n0_
        have HO315 := n1_
        have HO318 := n2_
        have HL319_2 := n3_
        have HO322 := n4_
        have BK312 := n5_
        have HR319_2 := n6_
        have HB := n7_
        clear n0_ n1_ n2_ n3_ n4_ n5_ n6_ n7_
        (try clear hb)
        (try clear hb2)
        (try clear hk)
        (try clear hi)
        (try clear ho0)
        refine hK.out _ _ ⟨(blk_cell BK312.out 0).trans rfl, (blk_cell BK312.out 1).trans rfl, (blk_cell BK312.out 2).trans rfl, HS3_, HS4_, HS5_⟩ (fun hHeld => ?_)
        clear hK K
        refine norm_ (a' := ?_) ?_ ?_
        rotate_left
        · show Act.put _ (some 13) _ = _
          simp only [Act.put, List.setIfInBounds_toArray, List.set_cons_zero, List.set_cons_succ, i64_w, i32_w]
          rfl
        refine last_ (i := 7) (N := none) #[true, true, true, true, true, true, true, true, false] rfl rfl (one_of HT_.out (by kernel_rfl)) (by decide) (fun K hK => ?_)
        have hs132 : w131.cell? ⟨gb312, 0, none⟩ = some (.int .i64 a0_0) := (blk_cell BK312.out 0).trans rfl
        have hfs132 := blk_frozen BK312.out 0
        have hs133 : w131.cell? ⟨gb312, 1, none⟩ = some (.string a0_1) := (blk_cell BK312.out 1).trans rfl
        have hfs133 := blk_frozen BK312.out 1
        have hs134 : w131.cell? ⟨gb312, 2, none⟩ = some (.slice A0_2 l0_2.length c0_2) := (blk_cell BK312.out 2).trans rfl
        have hfs134 := blk_frozen BK312.out 2
        refine skip_ (w1 := ?_) (by rfl) rfl ?_ ?_
        rotate_left
        · go_simp
          rfl
        refine hK.out _ _ ?_
        clear hK K
        refine pure_ (i := 8) (N := some 1) (v := ?_) (a' := ?_) #[true, true, true, true, true, true, true, true, true] rfl rfl (any_of HT_.out (by kernel_rfl)) (fun _ _ _ h => h) (Or.inl ⟨by rfl, ?_⟩) ?_ ?_
        rotate_left
        · intro w'
          go_simp
          with_reducible rfl
        rotate_left
        · simp only [Act.put, List.setIfInBounds_toArray, List.set_cons_zero, List.set_cons_succ, i64_w, i32_w]
          rfl
        refine done_ (done_of HT_.out (by kernel_rfl)) ?_
        have hcz135_0 : w131.cell? ⟨gb312, 0, none⟩ = some (.int .i64 a0_0) := (blk_cell BK312.out 0).trans rfl
        have hcz135_1 : w131.cell? ⟨gb312, 1, none⟩ = some (.string a0_1) := (blk_cell BK312.out 1).trans rfl
        have hcz135_2 : w131.cell? ⟨gb312, 2, none⟩ = some (.slice A0_2 l0_2.length c0_2) := (blk_cell BK312.out 2).trans rfl
        have hfz135_0 := blk_frozen BK312.out 0
        have hfz135_1 := blk_frozen BK312.out 1
        have hfz135_2 := blk_frozen BK312.out 2
        try go_wp2_with (first | ((with_reducible refine _root_.Go.Proofs.YtcakednecmngdaaDoorW.PrintMore.gate_callee (f := 58) rfl ?_); refine goesL_ (some 16) rfl rfl Tryd.func58 (by kernel_rfl) rfl #[.agg #[.int .i64 ((rd_T58 t316 0).f0), .string ((rd_T58 t316 0).f1), .slice A319_2 ((rd_T58 t316 0).f2).length c319_2]] rfl (by (try simp only [List.map_toArray, List.map_cons, List.map_nil]); first | done | rfl | (simp only [List.length_drop, List.length_take]; rfl)) ?_; (with_reducible refine (label_Not.calls ((rd_T58 t316 0).f0) ((rd_T58 t316 0).f1) _ _ ((rd_T58 t316 0).f2) t323 t324 t325 false _ ?side1 ?side2 A6.out).mono ?_); (case side1 => repeat (first | exact ((Kd.V_reads' (by (with_reducible repeat (first | apply Kd.V_alloc | apply Kd.V_drewN | apply Kd.V_drew)); exact (Kd.V_mono (Kd.V_far (p := ⟨gb312, 2, none⟩) (Kd.V_far (p := ⟨gb312, 1, none⟩) (Kd.V_far (p := ⟨gb312, 0, none⟩) (Kd.V_mono HL319_2.out (fun k_ hk => (⟨hk, hk.1.1.2.2⟩ : _ ∧ k_ ≠ gb312))) (fun _ hk => hk.2) (.int .i64 ((rd_T58 t316 0).f0))) (fun _ hk => hk.2) (.string ((rd_T58 t316 0).f1))) (fun _ hk => hk.2) (.slice A319_2 ((rd_T58 t316 0).f2).length c319_2)) (fun _ h_ => h_.1)))).2.2) | (with_reducible refine Kd.C_alloc ?_ _) | (with_reducible refine Kd.C_drewN ?_ _) | (with_reducible refine Kd.C_drew ?_))); (case side2 => exact HC319_2.out); rintro e w136 ⟨v326, rfl, ho0, hb⟩; refine ⟨_, rfl, ?_⟩; have n0_ := Aside0.mk (Kd.V_elder' (by (with_reducible repeat (first | apply Kd.V_alloc | apply Kd.V_drewN | apply Kd.V_drew)); exact (Kd.V_mono (Kd.V_far (p := ⟨gb312, 2, none⟩) (Kd.V_far (p := ⟨gb312, 1, none⟩) (Kd.V_far (p := ⟨gb312, 0, none⟩) (Kd.V_mono HO0_2.out (fun k_ hk => (⟨hk, hk.1.1.1.2⟩ : _ ∧ k_ ≠ gb312))) (fun _ hk => hk.2) (.int .i64 ((rd_T58 t316 0).f0))) (fun _ hk => hk.2) (.string ((rd_T58 t316 0).f1))) (fun _ hk => hk.2) (.slice A319_2 ((rd_T58 t316 0).f2).length c319_2)) (fun _ h_ => h_.1))) (Kd.R_base ho0) hb); have n1_ := Aside0.mk (Kd.N_elder' (by (with_reducible repeat (first | apply Kd.N_alloc | apply Kd.N_drewN | apply Kd.N_drew)); exact (Kd.N_mono (Kd.N_far (p := ⟨gb312, 2, none⟩) (Kd.N_far (p := ⟨gb312, 1, none⟩) (Kd.N_far (p := ⟨gb312, 0, none⟩) (Kd.N_mono HO315.out (fun k_ hk => (⟨hk, hk.1.1.2⟩ : _ ∧ k_ ≠ gb312))) (fun _ hk => hk.2) (.int .i64 ((rd_T58 t316 0).f0))) (fun _ hk => hk.2) (.string ((rd_T58 t316 0).f1))) (fun _ hk => hk.2) (.slice A319_2 ((rd_T58 t316 0).f2).length c319_2)) (fun _ h_ => h_.1))) (Kd.R_base ho0) hb); have n2_ := Aside0.mk (Kd.N_elder' (by (with_reducible repeat (first | apply Kd.N_alloc | apply Kd.N_drewN | apply Kd.N_drew)); exact (Kd.N_mono (Kd.N_far (p := ⟨gb312, 2, none⟩) (Kd.N_far (p := ⟨gb312, 1, none⟩) (Kd.N_far (p := ⟨gb312, 0, none⟩) (Kd.N_mono HO318.out (fun k_ hk => (⟨hk, hk.1.2.2⟩ : _ ∧ k_ ≠ gb312))) (fun _ hk => hk.2) (.int .i64 ((rd_T58 t316 0).f0))) (fun _ hk => hk.2) (.string ((rd_T58 t316 0).f1))) (fun _ hk => hk.2) (.slice A319_2 ((rd_T58 t316 0).f2).length c319_2)) (fun _ h_ => h_.1))) (Kd.R_base ho0) hb); have n3_ := Aside0.mk (Kd.V_elder' (by (with_reducible repeat (first | apply Kd.V_alloc | apply Kd.V_drewN | apply Kd.V_drew)); exact (Kd.V_mono (Kd.V_far (p := ⟨gb312, 2, none⟩) (Kd.V_far (p := ⟨gb312, 1, none⟩) (Kd.V_far (p := ⟨gb312, 0, none⟩) (Kd.V_mono HL319_2.out (fun k_ hk => (⟨hk, hk.1.1.2.2⟩ : _ ∧ k_ ≠ gb312))) (fun _ hk => hk.2) (.int .i64 ((rd_T58 t316 0).f0))) (fun _ hk => hk.2) (.string ((rd_T58 t316 0).f1))) (fun _ hk => hk.2) (.slice A319_2 ((rd_T58 t316 0).f2).length c319_2)) (fun _ h_ => h_.1))) (Kd.R_base ho0) hb); have n4_ := Aside0.mk (Kd.R_below (by (with_reducible repeat (first | apply Kd.R_alloc | apply Kd.R_drewN | apply Kd.R_drew)); exact (Kd.R_mono (Kd.R_far (p := ⟨gb312, 2, none⟩) (Kd.R_far (p := ⟨gb312, 1, none⟩) (Kd.R_far (p := ⟨gb312, 0, none⟩) (Kd.R_types HO322.out BK312.out (by decide)) (fun _ hk => hk.2) (.int .i64 ((rd_T58 t316 0).f0))) (fun _ hk => hk.2) (.string ((rd_T58 t316 0).f1))) (fun _ hk => hk.2) (.slice A319_2 ((rd_T58 t316 0).f2).length c319_2)) (fun _ h_ => h_.1))) hb); have n5_ := Aside0.mk (Kd.R_lower (Kd.R_newM (M := fun k_ => (w.heap.size ≤ k_)) ho0 (below_size (by repeat (first | (with_reducible first | exact HB.out | apply below_alloc | apply pw_below_drewN | apply below_drew1 | refine below_set ?_ GE312.out) | exact HB.out))) (fun k_ h_ => h_)) (below_size (by repeat (first | (with_reducible first | exact HB.out | apply below_alloc | apply pw_below_drewN | apply below_drew1 | refine below_set ?_ GE312.out) | exact HB.out)))); have n6_ := Aside0.mk (blk_below (g := gb312) (o := .cells #[.int .i64 ((rd_T58 t316 0).f0), .string ((rd_T58 t316 0).f1), .slice A319_2 ((rd_T58 t316 0).f2).length c319_2] 58 (0, 0)) (by (with_reducible repeat (first | refine blk_drewN ?_ _ | refine blk_drew ?_ | refine blk_alloc ?_ _)); refine blk_put (cs := #[.int .i64 ((rd_T58 t316 0).f0), .string ((rd_T58 t316 0).f1), .slice A0_2 l0_2.length c0_2]) ?_ 2 _ rfl; (with_reducible repeat (first | refine blk_drewN ?_ _ | refine blk_drew ?_ | refine blk_alloc ?_ _)); refine blk_put (cs := #[.int .i64 ((rd_T58 t316 0).f0), .string a0_1, .slice A0_2 l0_2.length c0_2]) ?_ 1 _ rfl; (with_reducible repeat (first | refine blk_drewN ?_ _ | refine blk_drew ?_ | refine blk_alloc ?_ _)); refine blk_put (cs := #[.int .i64 a0_0, .string a0_1, .slice A0_2 l0_2.length c0_2]) ?_ 0 _ rfl; (with_reducible repeat (first | refine blk_drewN ?_ _ | refine blk_drew ?_ | refine blk_alloc ?_ _)); exact BK312.out) hb); have n7_ := Aside0.mk (Kd.C_below ((Kd.V_reads' (by (with_reducible repeat (first | apply Kd.V_alloc | apply Kd.V_drewN | apply Kd.V_drew)); exact (Kd.V_mono (Kd.V_far (p := ⟨gb312, 2, none⟩) (Kd.V_far (p := ⟨gb312, 1, none⟩) (Kd.V_far (p := ⟨gb312, 0, none⟩) (Kd.V_mono HL319_2.out (fun k_ hk => (⟨hk, hk.1.1.2.2⟩ : _ ∧ k_ ≠ gb312))) (fun _ hk => hk.2) (.int .i64 ((rd_T58 t316 0).f0))) (fun _ hk => hk.2) (.string ((rd_T58 t316 0).f1))) (fun _ hk => hk.2) (.slice A319_2 ((rd_T58 t316 0).f2).length c319_2)) (fun _ h_ => h_.1)))).2.2) hb); have n8_ := Aside0.mk (below_step (by repeat (first | (with_reducible first | exact HB.out | apply below_alloc | apply pw_below_drewN | apply below_drew1 | refine below_set ?_ GE312.out) | exact HB.out)) hb); clear HO0_2; clear HO315; clear HO318; clear HL319_2; clear HO322; clear BK312; clear HR319_2; clear HB; have HO0_2 := n0_; have HO315 := n1_; have HO318 := n2_; have HL319_2 := n3_; have HO322 := n4_; have HO327 := n5_; have BK312 := n6_; have HR319_2 := n7_; have HB := n8_; clear n0_ n1_ n2_ n3_ n4_ n5_ n6_ n7_ n8_; (try clear hb); (try clear hb2); (try clear hk); (try clear hi); (try clear ho0)) | ((with_reducible refine gate_dst (N := 5) rfl ?_); (try (refine gate_guard (by rfl) ?_; dsimp only)); refine box_event ?hg (N := 5) ?hd (cs := #[.int .i64 0, .string (⟨#[]⟩ : ByteArray), .slice none 0 0]) (t := 58) ?hr ?_; (case hd => rfl); (case hg => rfl); (case hr => first | (go_simp; done) | (go_simp; rfl)); intro gb329 hg w137 hbox hb; have n0_ := Aside0.mk (Kd.V_below (Kd.V_elderB (by (with_reducible repeat (first | apply Kd.V_alloc | apply Kd.V_drewN | apply Kd.V_drew)); exact HO0_2.out) gb329 (Nat.le_of_eq hg.symm)) hb); have n1_ := Aside0.mk (Kd.N_below (Kd.N_elderB (by (with_reducible repeat (first | apply Kd.N_alloc | apply Kd.N_drewN | apply Kd.N_drew)); exact HO315.out) gb329 (Nat.le_of_eq hg.symm)) hb); have n2_ := Aside0.mk (Kd.N_below (Kd.N_elderB (by (with_reducible repeat (first | apply Kd.N_alloc | apply Kd.N_drewN | apply Kd.N_drew)); exact HO318.out) gb329 (Nat.le_of_eq hg.symm)) hb); have n3_ := Aside0.mk (Kd.V_below (Kd.V_elderB (by (with_reducible repeat (first | apply Kd.V_alloc | apply Kd.V_drewN | apply Kd.V_drew)); exact HL319_2.out) gb329 (Nat.le_of_eq hg.symm)) hb); have n4_ := Aside0.mk (Kd.R_below (by (with_reducible repeat (first | apply Kd.R_alloc | apply Kd.R_drewN | apply Kd.R_drew)); exact HO322.out) hb); have n5_ := Aside0.mk (Kd.R_below (by (with_reducible repeat (first | apply Kd.R_alloc | apply Kd.R_drewN | apply Kd.R_drew)); exact HO327.out) hb); have n6_ := Aside0.mk (blk_below (g := gb312) (o := .cells #[.int .i64 ((rd_T58 t316 0).f0), .string ((rd_T58 t316 0).f1), .slice A319_2 ((rd_T58 t316 0).f2).length c319_2] 58 (0, 0)) (by (with_reducible repeat (first | refine blk_drewN ?_ _ | refine blk_drew ?_ | refine blk_alloc ?_ _)); exact BK312.out) hb); have n7_ := Aside0.mk (Kd.C_below (by repeat (first | (with_reducible exact HR319_2.out) | (with_reducible refine Kd.C_alloc ?_ _) | (with_reducible refine Kd.C_drewN ?_ _) | (with_reducible refine Kd.C_drew ?_) | exact HR319_2.out | exact (Kd.V_reads' HL319_2.out).2.2)) hb); have n8_ := Aside0.mk (below_step (by repeat (first | (with_reducible first | exact HB.out | apply below_alloc | apply pw_below_drewN | apply below_drew1 | refine below_set ?_ GE312.out) | exact HB.out)) hb); have n9_ := Aside0.mk (hbox); have n10_ := Aside0.mk ((by rw [hg]; exact (below_size (by repeat (first | (with_reducible first | exact HB.out | apply below_alloc | apply pw_below_drewN | apply below_drew1 | refine below_set ?_ GE312.out) | exact HB.out))) : w.heap.size ≤ gb329)); have n11_ := Aside0.mk ((by rw [hg]; exact (below_size (by repeat (first | (with_reducible first | exact HB.out | apply below_alloc | apply pw_below_drewN | apply below_drew1 | refine below_set ?_ GE312.out) | exact HB.out))) : w.heap.size ≤ gb329)); have n12_ := Aside0.mk ((by rw [hg]; exact Nat.ne_of_lt (blk_lt (g := gb312) (o := .cells #[.int .i64 ((rd_T58 t316 0).f0), .string ((rd_T58 t316 0).f1), .slice A319_2 ((rd_T58 t316 0).f2).length c319_2] 58 (0, 0)) (by (with_reducible repeat (first | refine blk_drewN ?_ _ | refine blk_drew ?_ | refine blk_alloc ?_ _)); exact BK312.out)) : gb312 ≠ gb329)); have n13_ := Aside0.mk ((by rw [hg]; exact Nat.ne_of_gt (blk_lt (g := gb312) (o := .cells #[.int .i64 ((rd_T58 t316 0).f0), .string ((rd_T58 t316 0).f1), .slice A319_2 ((rd_T58 t316 0).f2).length c319_2] 58 (0, 0)) (by (with_reducible repeat (first | refine blk_drewN ?_ _ | refine blk_drew ?_ | refine blk_alloc ?_ _)); exact BK312.out)) : gb329 ≠ gb312)); clear HO0_2; clear HO315; clear HO318; clear HL319_2; clear HO322; clear HO327; clear BK312; clear HR319_2; clear HB; have HO0_2 := n0_; have HO315 := n1_; have HO318 := n2_; have HL319_2 := n3_; have HO322 := n4_; have HO327 := n5_; have BK312 := n6_; have HR319_2 := n7_; have HB := n8_; have BK329 := n9_; have GW329 := n10_; have GE329 := n11_; have NB312_329 := n12_; have NB329_312 := n13_; clear n0_ n1_ n2_ n3_ n4_ n5_ n6_ n7_ n8_ n9_ n10_ n11_ n12_ n13_; clear hb hbox hg; have hnb138 := NB329_312.out; have hnc138 := NB312_329.out; have hcz139_0 : w137.cell? ⟨gb329, 0, none⟩ = some (.int .i64 0) := (blk_cell BK329.out 0).trans rfl; have hcz139_1 : w137.cell? ⟨gb329, 1, none⟩ = some (.string (⟨#[]⟩ : ByteArray)) := (blk_cell BK329.out 1).trans rfl; have hcz139_2 : w137.cell? ⟨gb329, 2, none⟩ = some (.slice none 0 0) := (blk_cell BK329.out 2).trans rfl; have hfz139_0 := blk_frozen BK329.out 0; have hfz139_1 := blk_frozen BK329.out 1; have hfz139_2 := blk_frozen BK329.out 2; obtain ⟨Ao140, co140, eo140⟩ := Kd.R_slice HO327.out; subst eo140) | ((with_reducible refine gate_store (t := 58) (p := 5) rfl ?_); refine store_event (t := 58) (p := 5) (v := ?vo_w141) (w1 := (((w137.setCell ⟨gb329, 0, none⟩ (.int .i64 t323)).setCell ⟨gb329, 1, none⟩ (.string t324)).setCell ⟨gb329, 2, none⟩ (.slice Ao140 t325.length co140))) ?hg ?ho ?hn ?hr ?_; (case ho => rfl); (case hg => rfl); (case hn => rfl); (case hr => first | (go_simp; done) | (go_simp; rfl)); intro w141 hw; have n0_ : Aside0 (Kd.V Kd.string 9 w141 w.heap.size (fun k_ => (P0_2_ k_ ∨ w.heap.size ≤ k_) ∧ some k_ ≠ (.slice Ao128 y313.length co128 : Value).ownBlock ∧ some k_ ≠ (.slice (some ad319) t316.length co130 : Value).ownBlock ∧ some k_ ≠ (v321 : Value).ownBlock ∧ some k_ ≠ (.slice Ao140 t325.length co140 : Value).ownBlock ∧ k_ ≠ gb312 ∧ k_ ≠ gb329) (.slice A0_2 l0_2.length c0_2) l0_2) := ⟨(by rw [hw]; exact (by (with_reducible repeat (first | apply Kd.V_alloc | apply Kd.V_drewN | apply Kd.V_drew)); exact Kd.V_mono (Kd.V_far (p := ⟨gb329, 2, none⟩) (Kd.V_far (p := ⟨gb329, 1, none⟩) (Kd.V_far (p := ⟨gb329, 0, none⟩) (Kd.V_mono HO0_2.out (fun k_ hk => (⟨hk, hk.2⟩ : _ ∧ k_ ≠ gb329))) (fun _ hk => hk.2) (.int .i64 t323)) (fun _ hk => hk.2) (.string t324)) (fun _ hk => hk.2) (.slice Ao140 t325.length co140)) (fun _ hk => ⟨hk.1.1.1.1.1.1.1, ⟨hk.1.1.1.1.1.2, ⟨hk.1.1.1.1.2, ⟨hk.1.1.1.2, ⟨hk.1.1.2, ⟨hk.1.1.1.1.1.1.2, hk.1.2⟩⟩⟩⟩⟩⟩)))⟩; have n1_ : Aside0 (Kd.N k58 58 w141 w.heap.size (fun k_ => (P0_2_ k_ ∨ w.heap.size ≤ k_) ∧ some k_ ≠ (.slice (some ad319) t316.length co130 : Value).ownBlock ∧ some k_ ≠ (v321 : Value).ownBlock ∧ some k_ ≠ (.slice Ao140 t325.length co140 : Value).ownBlock ∧ k_ ≠ gb312 ∧ k_ ≠ gb329) (.slice Ao128 y313.length co128) y313) := ⟨(by rw [hw]; exact (by (with_reducible repeat (first | apply Kd.N_alloc | apply Kd.N_drewN | apply Kd.N_drew)); exact Kd.N_mono (Kd.N_far (p := ⟨gb329, 2, none⟩) (Kd.N_far (p := ⟨gb329, 1, none⟩) (Kd.N_far (p := ⟨gb329, 0, none⟩) (Kd.N_mono HO315.out (fun k_ hk => (⟨hk, hk.2⟩ : _ ∧ k_ ≠ gb329))) (fun _ hk => hk.2) (.int .i64 t323)) (fun _ hk => hk.2) (.string t324)) (fun _ hk => hk.2) (.slice Ao140 t325.length co140)) (fun _ hk => ⟨hk.1.1.1.1.1.1, ⟨hk.1.1.1.1.2, ⟨hk.1.1.1.2, ⟨hk.1.1.2, ⟨hk.1.1.1.1.1.2, hk.1.2⟩⟩⟩⟩⟩)))⟩; have n2_ : Aside0 (Kd.N k58 58 w141 w.heap.size (fun k_ => (P0_2_ k_ ∨ w.heap.size ≤ k_) ∧ some k_ ≠ (.slice Ao128 y313.length co128 : Value).ownBlock ∧ some k_ ≠ (v321 : Value).ownBlock ∧ some k_ ≠ (.slice Ao140 t325.length co140 : Value).ownBlock ∧ k_ ≠ gb312 ∧ k_ ≠ gb329) (.slice (some ad319) t316.length co130) t316) := ⟨(by rw [hw]; exact (by (with_reducible repeat (first | apply Kd.N_alloc | apply Kd.N_drewN | apply Kd.N_drew)); exact Kd.N_mono (Kd.N_far (p := ⟨gb329, 2, none⟩) (Kd.N_far (p := ⟨gb329, 1, none⟩) (Kd.N_far (p := ⟨gb329, 0, none⟩) (Kd.N_mono HO318.out (fun k_ hk => (⟨hk, hk.2⟩ : _ ∧ k_ ≠ gb329))) (fun _ hk => hk.2) (.int .i64 t323)) (fun _ hk => hk.2) (.string t324)) (fun _ hk => hk.2) (.slice Ao140 t325.length co140)) (fun _ hk => ⟨hk.1.1.1.1.1, ⟨hk.1.1.1.1.2.1, ⟨hk.1.1.1.2, ⟨hk.1.1.2, ⟨hk.1.1.1.1.2.2, hk.1.2⟩⟩⟩⟩⟩)))⟩; have n3_ : Aside0 (Kd.V Kd.string 9 w141 w.heap.size (fun k_ => (P0_2_ k_ ∨ w.heap.size ≤ k_) ∧ some k_ ≠ (.slice Ao128 y313.length co128 : Value).ownBlock ∧ some k_ ≠ (.slice (some ad319) t316.length co130 : Value).ownBlock ∧ some k_ ≠ (v321 : Value).ownBlock ∧ some k_ ≠ (.slice Ao140 t325.length co140 : Value).ownBlock ∧ k_ ≠ gb312 ∧ k_ ≠ gb329) (.slice A319_2 ((rd_T58 t316 0).f2).length c319_2) ((rd_T58 t316 0).f2)) := ⟨(by rw [hw]; exact (by (with_reducible repeat (first | apply Kd.V_alloc | apply Kd.V_drewN | apply Kd.V_drew)); exact Kd.V_mono (Kd.V_far (p := ⟨gb329, 2, none⟩) (Kd.V_far (p := ⟨gb329, 1, none⟩) (Kd.V_far (p := ⟨gb329, 0, none⟩) (Kd.V_mono HL319_2.out (fun k_ hk => (⟨hk, hk.2⟩ : _ ∧ k_ ≠ gb329))) (fun _ hk => hk.2) (.int .i64 t323)) (fun _ hk => hk.2) (.string t324)) (fun _ hk => hk.2) (.slice Ao140 t325.length co140)) (fun _ hk => ⟨hk.1.1.1.1.1.1, ⟨hk.1.1.1.1.1.2.1, ⟨hk.1.1.1.1.2, ⟨hk.1.1.1.2, ⟨hk.1.1.2, ⟨hk.1.1.1.1.1.2.2, hk.1.2⟩⟩⟩⟩⟩⟩)))⟩; have n4_ : Aside0 (Kd.R k55 55 w141 w.heap.size (fun k_ => (w.heap.size ≤ k_)) v321 t320) := ⟨(by rw [hw]; exact (by (with_reducible repeat (first | apply Kd.R_alloc | apply Kd.R_drewN | apply Kd.R_drew)); exact Kd.R_mono (Kd.R_far (p := ⟨gb329, 2, none⟩) (Kd.R_far (p := ⟨gb329, 1, none⟩) (Kd.R_far (p := ⟨gb329, 0, none⟩) (Kd.R_types HO322.out BK329.out (by decide)) (fun _ hk => hk.2) (.int .i64 t323)) (fun _ hk => hk.2) (.string t324)) (fun _ hk => hk.2) (.slice Ao140 t325.length co140)) (fun _ hk => hk.1.1)))⟩; have n5_ : Aside0 (Kd.R Kd.string 9 w141 w.heap.size (fun k_ => (w.heap.size ≤ k_)) (.slice Ao140 t325.length co140) t325) := ⟨(by rw [hw]; exact (by (with_reducible repeat (first | apply Kd.R_alloc | apply Kd.R_drewN | apply Kd.R_drew)); exact Kd.R_mono (Kd.R_far (p := ⟨gb329, 2, none⟩) (Kd.R_far (p := ⟨gb329, 1, none⟩) (Kd.R_far (p := ⟨gb329, 0, none⟩) (Kd.R_types HO327.out BK329.out (by decide)) (fun _ hk => hk.2) (.int .i64 t323)) (fun _ hk => hk.2) (.string t324)) (fun _ hk => hk.2) (.slice Ao140 t325.length co140)) (fun _ hk => hk.1.1)))⟩; have n6_ : Aside0 (w141.heap[gb312]? = some (.cells #[.int .i64 ((rd_T58 t316 0).f0), .string ((rd_T58 t316 0).f1), .slice A319_2 ((rd_T58 t316 0).f2).length c319_2] 58 (0, 0))) := ⟨(by rw [hw]; exact (by (with_reducible repeat (first | refine blk_drewN ?_ _ | refine blk_drew ?_ | refine blk_alloc ?_ _)); refine blk_far ?_ NB312_329.out _; (with_reducible repeat (first | refine blk_drewN ?_ _ | refine blk_drew ?_ | refine blk_alloc ?_ _)); refine blk_far ?_ NB312_329.out _; (with_reducible repeat (first | refine blk_drewN ?_ _ | refine blk_drew ?_ | refine blk_alloc ?_ _)); refine blk_far ?_ NB312_329.out _; (with_reducible repeat (first | refine blk_drewN ?_ _ | refine blk_drew ?_ | refine blk_alloc ?_ _)); exact BK312.out))⟩; have n7_ : Aside0 (w141.heap[gb329]? = some (.cells #[.int .i64 t323, .string t324, .slice Ao140 t325.length co140] 58 (0, 0))) := ⟨(by rw [hw]; exact (by (with_reducible repeat (first | refine blk_drewN ?_ _ | refine blk_drew ?_ | refine blk_alloc ?_ _)); refine blk_put (cs := #[.int .i64 t323, .string t324, .slice none 0 0]) ?_ 2 _ rfl; (with_reducible repeat (first | refine blk_drewN ?_ _ | refine blk_drew ?_ | refine blk_alloc ?_ _)); refine blk_put (cs := #[.int .i64 t323, .string (⟨#[]⟩ : ByteArray), .slice none 0 0]) ?_ 1 _ rfl; (with_reducible repeat (first | refine blk_drewN ?_ _ | refine blk_drew ?_ | refine blk_alloc ?_ _)); refine blk_put (cs := #[.int .i64 0, .string (⟨#[]⟩ : ByteArray), .slice none 0 0]) ?_ 0 _ rfl; (with_reducible repeat (first | refine blk_drewN ?_ _ | refine blk_drew ?_ | refine blk_alloc ?_ _)); exact BK329.out))⟩; have n8_ : Aside0 (Below w.heap.size w w141) := ⟨(by rw [hw]; exact (by repeat (first | (with_reducible first | exact HB.out | apply below_alloc | apply pw_below_drewN | apply below_drew1 | refine below_set ?_ GE312.out | refine below_set ?_ GE329.out) | exact HB.out)))⟩; clear hw; clear HO0_2; clear HO315; clear HO318; clear HL319_2; clear HO322; clear HO327; clear BK312; clear BK329; clear HB; have HO0_2 := n0_; have HO315 := n1_; have HO318 := n2_; have HL319_2 := n3_; have HO322 := n4_; have HO327 := n5_; have BK312 := n6_; have BK329 := n7_; have HB := n8_; clear n0_ n1_ n2_ n3_ n4_ n5_ n6_ n7_ n8_; have hcz142_0 : w141.cell? ⟨gb312, 0, none⟩ = some (.int .i64 ((rd_T58 t316 0).f0)) := (blk_cell BK312.out 0).trans rfl; have hcz142_1 : w141.cell? ⟨gb312, 1, none⟩ = some (.string ((rd_T58 t316 0).f1)) := (blk_cell BK312.out 1).trans rfl; have hcz142_2 : w141.cell? ⟨gb312, 2, none⟩ = some (.slice A319_2 ((rd_T58 t316 0).f2).length c319_2) := (blk_cell BK312.out 2).trans rfl; have hfz142_0 := blk_frozen BK312.out 0; have hfz142_1 := blk_frozen BK312.out 1; have hfz142_2 := blk_frozen BK312.out 2) | ((with_reducible refine gate_dst (N := 22) rfl ?_); (try (refine gate_guard (by rfl) ?_; dsimp only)); refine Kd.N_lit k58 _ 58 ?hg (N' := 22) ?hd (xs := ([(⟨(rd_T58 t316 0).f0, (rd_T58 t316 0).f1, (rd_T58 t316 0).f2⟩ : S58)] : List (S58))) (inner := [.int .i64 ((rd_T58 t316 0).f0), .string ((rd_T58 t316 0).f1), .slice A319_2 ((rd_T58 t316 0).f2).length c319_2]) (ok := (fun k_ => (P0_2_ k_ ∨ w.heap.size ≤ k_) ∧ some k_ ≠ (.slice Ao128 y313.length co128 : Value).ownBlock ∧ some k_ ≠ (.slice (some ad319) t316.length co130 : Value).ownBlock ∧ some k_ ≠ (v321 : Value).ownBlock ∧ some k_ ≠ (.slice Ao140 t325.length co140 : Value).ownBlock ∧ k_ ≠ gb312 ∧ k_ ≠ gb329)) (okp := (fun k_ => (P0_2_ k_ ∨ w.heap.size ≤ k_) ∧ some k_ ≠ (.slice Ao128 y313.length co128 : Value).ownBlock ∧ some k_ ≠ (.slice (some ad319) t316.length co130 : Value).ownBlock ∧ some k_ ≠ (v321 : Value).ownBlock ∧ some k_ ≠ (.slice Ao140 t325.length co140 : Value).ownBlock ∧ k_ ≠ gb312 ∧ k_ ≠ gb329)) ?hr ?hp (fun _ hk => hk) ((show ∀ k_, w141.heap.size ≤ k_ → (fun k_ => (P0_2_ k_ ∨ w.heap.size ≤ k_) ∧ some k_ ≠ (.slice Ao128 y313.length co128 : Value).ownBlock ∧ some k_ ≠ (.slice (some ad319) t316.length co130 : Value).ownBlock ∧ some k_ ≠ (v321 : Value).ownBlock ∧ some k_ ≠ (.slice Ao140 t325.length co140 : Value).ownBlock ∧ k_ ≠ gb312 ∧ k_ ≠ gb329) k_ from fun k_ hk => ⟨(.inr (Nat.le_trans (below_size (by repeat (first | (with_reducible first | exact HB.out | apply below_alloc | apply pw_below_drewN | apply below_drew1 | refine below_set ?_ GE312.out | refine below_set ?_ GE329.out) | exact HB.out))) hk)), Kd.fresh' (Kd.N_lt (by (with_reducible repeat (first | apply Kd.N_alloc | apply Kd.N_drewN | apply Kd.N_drew)); exact HO315.out)) k_ hk, Kd.fresh' (Kd.N_lt (by (with_reducible repeat (first | apply Kd.N_alloc | apply Kd.N_drewN | apply Kd.N_drew)); exact HO318.out)) k_ hk, Kd.fresh' (Kd.R_lt (by (with_reducible repeat (first | apply Kd.R_alloc | apply Kd.R_drewN | apply Kd.R_drew)); exact HO322.out)) k_ hk, Kd.fresh' (Kd.R_lt (by (with_reducible repeat (first | apply Kd.R_alloc | apply Kd.R_drewN | apply Kd.R_drew)); exact HO327.out)) k_ hk, Kd.freshB (g := gb312) (o := .cells #[.int .i64 ((rd_T58 t316 0).f0), .string ((rd_T58 t316 0).f1), .slice A319_2 ((rd_T58 t316 0).f2).length c319_2] 58 (0, 0)) (by (with_reducible repeat (first | refine blk_drewN ?_ _ | refine blk_drew ?_ | refine blk_alloc ?_ _)); exact BK312.out) k_ hk, Kd.freshB (g := gb329) (o := .cells #[.int .i64 t323, .string t324, .slice Ao140 t325.length co140] 58 (0, 0)) (by (with_reducible repeat (first | refine blk_drewN ?_ _ | refine blk_drew ?_ | refine blk_alloc ?_ _)); exact BK329.out) k_ hk⟩) _ (Nat.le_refl _)) (Below.refl _ _) (Nat.le_refl _) (by simp) ?_; (case hd => rfl); (case hg => rfl); (case hr => first | (go_simp; done) | (go_simp; rfl)); (case hp => exact (Reps.c3 (show Kd.FK k58 _ _ (⟨(rd_T58 t316 0).f0, (rd_T58 t316 0).f1, (rd_T58 t316 0).f2⟩ : S58) [.int .i64 ((rd_T58 t316 0).f0), .string ((rd_T58 t316 0).f1), .slice A319_2 ((rd_T58 t316 0).f2).length c319_2] from (k58_mkF _ _ (⟨(rd_T58 t316 0).f0, (rd_T58 t316 0).f1, (rd_T58 t316 0).f2⟩ : S58) (Kd.V_reads' (Kd.V_mono (ok' := (fun k_ => (P0_2_ k_ ∨ w.heap.size ≤ k_) ∧ some k_ ≠ (.slice Ao128 y313.length co128 : Value).ownBlock ∧ some k_ ≠ (.slice (some ad319) t316.length co130 : Value).ownBlock ∧ some k_ ≠ (v321 : Value).ownBlock ∧ some k_ ≠ (.slice Ao140 t325.length co140 : Value).ownBlock ∧ k_ ≠ gb312 ∧ k_ ≠ gb329)) (HL319_2.out) (fun k_ hk => ⟨hk.1, ⟨hk.2.1, ⟨hk.2.2.1, ⟨hk.2.2.2.1, ⟨hk.2.2.2.2.1, ⟨hk.2.2.2.2.2.1, hk.2.2.2.2.2.2⟩⟩⟩⟩⟩⟩))).2.1 (Kd.V_F (Kd.V_mono (ok' := (fun k_ => (P0_2_ k_ ∨ w.heap.size ≤ k_) ∧ some k_ ≠ (.slice Ao128 y313.length co128 : Value).ownBlock ∧ some k_ ≠ (.slice (some ad319) t316.length co130 : Value).ownBlock ∧ some k_ ≠ (v321 : Value).ownBlock ∧ some k_ ≠ (.slice Ao140 t325.length co140 : Value).ownBlock ∧ k_ ≠ gb312 ∧ k_ ≠ gb329)) (HL319_2.out) (fun k_ hk => ⟨hk.1, ⟨hk.2.1, ⟨hk.2.2.1, ⟨hk.2.2.2.1, ⟨hk.2.2.2.2.1, ⟨hk.2.2.2.2.2.1, hk.2.2.2.2.2.2⟩⟩⟩⟩⟩⟩))))) (Reps.none _ _))); intro v331 w143 ho144 hb hg_ hnew_; clear hg_ hnew_; (first | rw [← Ny330.out] at ho144 | (simp only [Int.reduceToNat] at ho144; rw [← Ny330.out] at ho144)); have n0_ := Aside0.mk (Kd.V_elder' (by (with_reducible repeat (first | apply Kd.V_alloc | apply Kd.V_drewN | apply Kd.V_drew)); exact HO0_2.out) (Kd.N_base ho144) hb); have n1_ := Aside0.mk (Kd.N_elder' (by (with_reducible repeat (first | apply Kd.N_alloc | apply Kd.N_drewN | apply Kd.N_drew)); exact HO315.out) (Kd.N_base ho144) hb); have n2_ := Aside0.mk (Kd.N_elder' (by (with_reducible repeat (first | apply Kd.N_alloc | apply Kd.N_drewN | apply Kd.N_drew)); exact HO318.out) (Kd.N_base ho144) hb); have n3_ := Aside0.mk (Kd.V_elder' (by (with_reducible repeat (first | apply Kd.V_alloc | apply Kd.V_drewN | apply Kd.V_drew)); exact HL319_2.out) (Kd.N_base ho144) hb); have n4_ := Aside0.mk (Kd.R_below (by (with_reducible repeat (first | apply Kd.R_alloc | apply Kd.R_drewN | apply Kd.R_drew)); exact HO322.out) hb); have n5_ := Aside0.mk (Kd.R_below (by (with_reducible repeat (first | apply Kd.R_alloc | apply Kd.R_drewN | apply Kd.R_drew)); exact HO327.out) hb); have n6_ := Aside0.mk (Kd.N_lower ho144 (below_size (by repeat (first | (with_reducible first | exact HB.out | apply below_alloc | apply pw_below_drewN | apply below_drew1 | refine below_set ?_ GE312.out | refine below_set ?_ GE329.out) | exact HB.out)))); have n7_ := Aside0.mk (blk_below (g := gb312) (o := .cells #[.int .i64 ((rd_T58 t316 0).f0), .string ((rd_T58 t316 0).f1), .slice A319_2 ((rd_T58 t316 0).f2).length c319_2] 58 (0, 0)) (by (with_reducible repeat (first | refine blk_drewN ?_ _ | refine blk_drew ?_ | refine blk_alloc ?_ _)); exact BK312.out) hb); have n8_ := Aside0.mk (Kd.C_below (by repeat (first | (with_reducible exact HR319_2.out) | (with_reducible refine Kd.C_alloc ?_ _) | (with_reducible refine Kd.C_drewN ?_ _) | (with_reducible refine Kd.C_drew ?_) | exact HR319_2.out | exact (Kd.V_reads' HL319_2.out).2.2)) hb); have n9_ := Aside0.mk (blk_below (g := gb329) (o := .cells #[.int .i64 t323, .string t324, .slice Ao140 t325.length co140] 58 (0, 0)) (by (with_reducible repeat (first | refine blk_drewN ?_ _ | refine blk_drew ?_ | refine blk_alloc ?_ _)); exact BK329.out) hb); have n10_ := Aside0.mk (below_step (by repeat (first | (with_reducible first | exact HB.out | apply below_alloc | apply pw_below_drewN | apply below_drew1 | refine below_set ?_ GE312.out | refine below_set ?_ GE329.out) | exact HB.out)) hb); clear HO0_2; clear HO315; clear HO318; clear HL319_2; clear HO322; clear HO327; clear BK312; clear HR319_2; clear BK329; clear HB; have HO0_2 := n0_; have HO315 := n1_; have HO318 := n2_; have HL319_2 := n3_; have HO322 := n4_; have HO327 := n5_; have HO332 := n6_; have BK312 := n7_; have HR319_2 := n8_; have BK329 := n9_; have HB := n10_; clear n0_ n1_ n2_ n3_ n4_ n5_ n6_ n7_ n8_ n9_ n10_; clear hb ho144; obtain ⟨Ao145, co145, eo145⟩ := Kd.N_slice HO332.out; subst eo145; obtain ⟨Ao146, co146, eo146⟩ := Kd.R_slice HO322.out; subst eo146) | ((with_reducible refine _root_.Go.Proofs.YtcakednecmngdaaDoorW.PrintMore.gate_callee (f := 61) rfl ?_); refine goesL_ (some 24) rfl rfl Tryd.func61 (by kernel_rfl) rfl #[.slice Ao145 y330.length co145, .slice Ao146 t320.length co146] rfl (by (try simp only [List.map_toArray, List.map_cons, List.map_nil]); first | done | rfl | (simp only [List.length_drop, List.length_take]; rfl)) ?_; (with_reducible refine (label_All.calls _ _ y330 _ _ t320 false _ ?side1 ?side2 ?side3 ?side4 A97.out).mono ?_); (case side1 => repeat (first | exact (Kd.N_reads' HO332.out).2.2 | (with_reducible refine Kd.C_alloc ?_ _) | (with_reducible refine Kd.C_drewN ?_ _) | (with_reducible refine Kd.C_drew ?_))); (case side2 => exact (Kd.N_reads' HO332.out).2.1); (case side3 => repeat (first | exact (Kd.R_reads' HO322.out).2.2 | (with_reducible refine Kd.C_alloc ?_ _) | (with_reducible refine Kd.C_drewN ?_ _) | (with_reducible refine Kd.C_drew ?_))); (case side4 => exact (Kd.R_reads' HO322.out).2.1); rintro e w147 ⟨rfl, hb⟩; refine ⟨_, rfl, ?_⟩; have n0_ := Aside0.mk (Kd.V_below (by (with_reducible repeat (first | apply Kd.V_alloc | apply Kd.V_drewN | apply Kd.V_drew)); exact HO0_2.out) hb); have n1_ := Aside0.mk (Kd.N_below (by (with_reducible repeat (first | apply Kd.N_alloc | apply Kd.N_drewN | apply Kd.N_drew)); exact HO315.out) hb); have n2_ := Aside0.mk (Kd.N_below (by (with_reducible repeat (first | apply Kd.N_alloc | apply Kd.N_drewN | apply Kd.N_drew)); exact HO318.out) hb); have n3_ := Aside0.mk (Kd.V_below (by (with_reducible repeat (first | apply Kd.V_alloc | apply Kd.V_drewN | apply Kd.V_drew)); exact HL319_2.out) hb); have n4_ := Aside0.mk (Kd.R_below (by (with_reducible repeat (first | apply Kd.R_alloc | apply Kd.R_drewN | apply Kd.R_drew)); exact HO322.out) hb); have n5_ := Aside0.mk (Kd.R_below (by (with_reducible repeat (first | apply Kd.R_alloc | apply Kd.R_drewN | apply Kd.R_drew)); exact HO327.out) hb); have n6_ := Aside0.mk (Kd.N_below (by (with_reducible repeat (first | apply Kd.N_alloc | apply Kd.N_drewN | apply Kd.N_drew)); exact HO332.out) hb); have n7_ := Aside0.mk (blk_below (g := gb312) (o := .cells #[.int .i64 ((rd_T58 t316 0).f0), .string ((rd_T58 t316 0).f1), .slice A319_2 ((rd_T58 t316 0).f2).length c319_2] 58 (0, 0)) (by (with_reducible repeat (first | refine blk_drewN ?_ _ | refine blk_drew ?_ | refine blk_alloc ?_ _)); exact BK312.out) hb); have n8_ := Aside0.mk (Kd.C_below (by repeat (first | (with_reducible exact HR319_2.out) | (with_reducible refine Kd.C_alloc ?_ _) | (with_reducible refine Kd.C_drewN ?_ _) | (with_reducible refine Kd.C_drew ?_) | exact HR319_2.out | exact (Kd.V_reads' HL319_2.out).2.2)) hb); have n9_ := Aside0.mk (blk_below (g := gb329) (o := .cells #[.int .i64 t323, .string t324, .slice Ao140 t325.length co140] 58 (0, 0)) (by (with_reducible repeat (first | refine blk_drewN ?_ _ | refine blk_drew ?_ | refine blk_alloc ?_ _)); exact BK329.out) hb); have n10_ := Aside0.mk (below_step (by repeat (first | (with_reducible first | exact HB.out | apply below_alloc | apply pw_below_drewN | apply below_drew1 | refine below_set ?_ GE312.out | refine below_set ?_ GE329.out) | exact HB.out)) hb); clear HO0_2; clear HO315; clear HO318; clear HL319_2; clear HO322; clear HO327; clear HO332; clear BK312; clear HR319_2; clear BK329; clear HB; have HO0_2 := n0_; have HO315 := n1_; have HO318 := n2_; have HL319_2 := n3_; have HO322 := n4_; have HO327 := n5_; have HO332 := n6_; have BK312 := n7_; have HR319_2 := n8_; have BK329 := n9_; have HB := n10_; clear n0_ n1_ n2_ n3_ n4_ n5_ n6_ n7_ n8_ n9_ n10_; (try clear hb); (try clear hb2); (try clear hk); (try clear hi)) | (go_at_call 53; (with_reducible refine (tolllaw08_awake.calls  true _ A123.out).mono ?_); rintro e w148 ⟨rfl, hb⟩; have n0_ := Aside0.mk (Kd.V_below (by (with_reducible repeat (first | apply Kd.V_alloc | apply Kd.V_drewN | apply Kd.V_drew)); exact HO0_2.out) hb); have n1_ := Aside0.mk (Kd.N_below (by (with_reducible repeat (first | apply Kd.N_alloc | apply Kd.N_drewN | apply Kd.N_drew)); exact HO315.out) hb); have n2_ := Aside0.mk (Kd.N_below (by (with_reducible repeat (first | apply Kd.N_alloc | apply Kd.N_drewN | apply Kd.N_drew)); exact HO318.out) hb); have n3_ := Aside0.mk (Kd.V_below (by (with_reducible repeat (first | apply Kd.V_alloc | apply Kd.V_drewN | apply Kd.V_drew)); exact HL319_2.out) hb); have n4_ := Aside0.mk (Kd.R_below (by (with_reducible repeat (first | apply Kd.R_alloc | apply Kd.R_drewN | apply Kd.R_drew)); exact HO322.out) hb); have n5_ := Aside0.mk (Kd.R_below (by (with_reducible repeat (first | apply Kd.R_alloc | apply Kd.R_drewN | apply Kd.R_drew)); exact HO327.out) hb); have n6_ := Aside0.mk (Kd.N_below (by (with_reducible repeat (first | apply Kd.N_alloc | apply Kd.N_drewN | apply Kd.N_drew)); exact HO332.out) hb); have n7_ := Aside0.mk (blk_below (g := gb312) (o := .cells #[.int .i64 ((rd_T58 t316 0).f0), .string ((rd_T58 t316 0).f1), .slice A319_2 ((rd_T58 t316 0).f2).length c319_2] 58 (0, 0)) (by (with_reducible repeat (first | refine blk_drewN ?_ _ | refine blk_drew ?_ | refine blk_alloc ?_ _)); exact BK312.out) hb); have n8_ := Aside0.mk (Kd.C_below (by repeat (first | (with_reducible exact HR319_2.out) | (with_reducible refine Kd.C_alloc ?_ _) | (with_reducible refine Kd.C_drewN ?_ _) | (with_reducible refine Kd.C_drew ?_) | exact HR319_2.out | exact (Kd.V_reads' HL319_2.out).2.2)) hb); have n9_ := Aside0.mk (blk_below (g := gb329) (o := .cells #[.int .i64 t323, .string t324, .slice Ao140 t325.length co140] 58 (0, 0)) (by (with_reducible repeat (first | refine blk_drewN ?_ _ | refine blk_drew ?_ | refine blk_alloc ?_ _)); exact BK329.out) hb); have n10_ := Aside0.mk (below_step (by repeat (first | (with_reducible first | exact HB.out | apply below_alloc | apply pw_below_drewN | apply below_drew1 | refine below_set ?_ GE312.out | refine below_set ?_ GE329.out) | exact HB.out)) hb); clear HO0_2; clear HO315; clear HO318; clear HL319_2; clear HO322; clear HO327; clear HO332; clear BK312; clear HR319_2; clear BK329; clear HB; have HO0_2 := n0_; have HO315 := n1_; have HO318 := n2_; have HL319_2 := n3_; have HO322 := n4_; have HO327 := n5_; have HO332 := n6_; have BK312 := n7_; have HR319_2 := n8_; have BK329 := n9_; have HB := n10_; clear n0_ n1_ n2_ n3_ n4_ n5_ n6_ n7_ n8_ n9_ n10_; (try clear hb); (try clear hb2); (try clear hk); (try clear hi)))
        go_ret
        exact ⟨by first | rfl | (simp [errW_none, errW_some] <;> rfl) | (simp [*, errW_none, errW_some] <;> rfl), by repeat (first | (with_reducible first | exact HB.out | apply below_alloc | apply pw_below_drewN | apply below_drew1 | refine below_set ?_ GE312.out | refine below_set ?_ GE329.out) | exact HB.out)⟩
  · rw [if_neg c4] at H
    exact absurd H (by simp)

end Go.Proofs.YtcakednecmngdaaDoor.L
