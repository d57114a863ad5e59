/- Functions of the program as plain functions, with proofs that the code comes to their answers; written by a program of this session. Conditions: as each theorem states them. -/
import Derived.Test.YtcakednecmngdaaDoorL0
import Derived.Test.YtcakednecmngdaaDoorLf52
import Derived.Test.YtcakednecmngdaaDoorLf51
import Derived.Test.YtcakednecmngdaaDoorLf53
import Derived.Test.YtcakednecmngdaaDoorLabelM
import Derived.Test.YtcakednecmngdaaDoorPf30
import Derived.Test.YtcakednecmngdaaDoorPf47
namespace Go.Proofs.YtcakednecmngdaaDoor.P
end Go.Proofs.YtcakednecmngdaaDoor.P
namespace Go.Proofs.YtcakednecmngdaaDoorW.PrintMore
end Go.Proofs.YtcakednecmngdaaDoorW.PrintMore
namespace Go.Proofs.YtcakednecmngdaaDoor.L
open Go.Proofs.YtcakednecmngdaaDoor.P
open Go.RowKit Go.Proofs.YtcakednecmngdaaDoorW.PrintWords Go.Proofs.YtcakednecmngdaaDoorW.PrintLast Go.Proofs.YtcakednecmngdaaDoorW.PrintMore
set_option linter.unusedVariables false
set_option linter.unusedSimpArgs false

/-! ### tolllaw08_LabelOne: function 11 -/
mutual
def tolllaw08_LabelOne.j0 : Nat → List (S55) → Int → ByteArray → Bool → Option (Bool)
  | 0, _, _, _, _ => none
  | k + 1, x0, x1, x2, x21 => if x21 = true then ((tolllaw08_awake.f).bind fun t350 => (some t350)) else (if (x0.length : Int) = 0 then (none) else (if 0 ≤ (Int.tmod (wrap64 (x1)) (x0.length : Int)) then (if (Int.tmod (wrap64 (x1)) (x0.length : Int)) < (x0.length : Int) then ((some (([] : List (S55)) : List (S55))).bind fun y353 => (if (Int.tmod (wrap64 (x1)) (x0.length : Int)) ≤ (x0.length : Int) then ((some (x0.take ((Int.tmod (wrap64 (x1)) (x0.length : Int)) : Int).toNat : List (S55))).bind fun y356 => (if y353.length + y356.length < 4398046511104 then ((some (y353 ++ y356 : List (S55))).bind fun y360 => (if 0 ≤ (wrap64 ((Int.tmod (wrap64 (x1)) (x0.length : Int)) + 1)) then (if (wrap64 ((Int.tmod (wrap64 (x1)) (x0.length : Int)) + 1)) ≤ (x0.length : Int) then ((some (x0.drop ((wrap64 ((Int.tmod (wrap64 (x1)) (x0.length : Int)) + 1)) : Int).toNat : List (S55))).bind fun y363 => (if y360.length + y363.length < 4398046511104 then ((some (y360 ++ y363 : List (S55))).bind fun y367 => (if x2.toList = ([] : List UInt8) then (tolllaw08_LabelOne.j1 k x0 x2 y367 false ((rd_T55 x0 (Int.tmod (wrap64 (x1)) (x0.length : Int))).f0) ((rd_T55 x0 (Int.tmod (wrap64 (x1)) (x0.length : Int))).f1)) else ((tollref01_Label.f k x2).bind fun t370 => (tolllaw08_LabelOne.j1 k x0 x2 y367 (!t370) ((rd_T55 x0 (Int.tmod (wrap64 (x1)) (x0.length : Int))).f0) ((rd_T55 x0 (Int.tmod (wrap64 (x1)) (x0.length : Int))).f1))))) else (none))) else (none)) else (none))) else (none))) else (none))) else (none)) else (none)))
def tolllaw08_LabelOne.j1 : Nat → List (S55) → ByteArray → List (S55) → Bool → ByteArray → ByteArray → Option (Bool)
  | 0, _, _, _, _, _, _ => none
  | k + 1, x0, x2, x9, x48, x353000, x353001 => if x48 = true then (tolllaw08_LabelOne.j2 k x0 (⟨#[]⟩ : ByteArray) x9 x353000 x353001) else (tolllaw08_LabelOne.j2 k x0 x2 x9 x353000 x353001)
def tolllaw08_LabelOne.j2 : Nat → List (S55) → ByteArray → List (S55) → ByteArray → ByteArray → Option (Bool)
  | 0, _, _, _, _, _ => none
  | k + 1, x0, x2, x9, x353000, x353001 => (label_Met.f 3 x353000 ([] : List ByteArray) x0).bind fun t371 => (if t371 = true then ((label_Met.f 1 x353000 (([x2, x353001] : List ByteArray)) x0).bind fun t375 => (if t375 = true then ((label_Met.f 4 x353000 ([] : List ByteArray) x9).bind fun t376 => (if t376 = true then ((label_Met.f 2 x353000 (([x353001] : List ByteArray)) x9).bind fun t380 => (if t380 = true then ((label_May.f k x9).bind fun t381 => (if t381 = true then ((tolllaw08_awake.f).bind fun t382 => (some t382)) else (some false))) else (some false))) else (some false))) else (some false))) else (some false))
end
def tolllaw08_LabelOne.f (k : Nat) (l0 : List (S55)) (a1 : Int) (a2 : ByteArray) : Option (Bool) := (tolllaw05_Few.f k l0).bind fun t345 => ((tolllaw01_Few.f a2).bind fun t348 => ((label_May.f k t345).bind fun t349 => (if t349 = true then (tolllaw08_LabelOne.j0 k t345 a1 t348 ((t345.length : Int) == 0)) else (tolllaw08_LabelOne.j0 k t345 a1 t348 true))))
theorem tolllaw08_LabelOne.mono_l : ∀ k, (∀ y0 y1 y2 y3, LeO (tolllaw08_LabelOne.j0 k y0 y1 y2 y3) (tolllaw08_LabelOne.j0 (k + 1) y0 y1 y2 y3)) ∧ (∀ y0 y1 y2 y3 y4 y5, LeO (tolllaw08_LabelOne.j1 k y0 y1 y2 y3 y4 y5) (tolllaw08_LabelOne.j1 (k + 1) y0 y1 y2 y3 y4 y5)) ∧ (∀ y0 y1 y2 y3 y4, LeO (tolllaw08_LabelOne.j2 k y0 y1 y2 y3 y4) (tolllaw08_LabelOne.j2 (k + 1) y0 y1 y2 y3 y4))
  | 0 => ⟨fun _ _ _ _ r h => by simp [tolllaw08_LabelOne.j0] at h, fun _ _ _ _ _ _ r h => by simp [tolllaw08_LabelOne.j1] at h, fun _ _ _ _ _ r h => by simp [tolllaw08_LabelOne.j2] at h⟩
  | k + 1 => by
    obtain ⟨ih0, ih1, ih2⟩ := tolllaw08_LabelOne.mono_l k
    refine ⟨?_, ?_, ?_⟩
    · intro y0 y1 y2 y3
      unfold tolllaw08_LabelOne.j0
      repeat' first
      | (with_reducible exact ih0 _ _ _ _)
      | (with_reducible exact ih1 _ _ _ _ _ _)
      | (with_reducible exact ih2 _ _ _ _ _)
      | (with_reducible exact label_May.mono _ _)
      | (with_reducible exact tolllaw05_Few.mono _ _)
      | (with_reducible exact tollref01_Label.mono _ _)
      | (with_reducible exact LeO.refl _)
      | (with_reducible exact LeO.none _)
      | (with_reducible refine LeO.ite ?_ ?_)
      | (with_reducible refine LeO.bind ?_ (fun _ => ?_))
      | exact ih0 _ _ _ _
      | exact ih1 _ _ _ _ _ _
      | exact ih2 _ _ _ _ _
      | exact label_May.mono _ _
      | exact tolllaw05_Few.mono _ _
      | exact tollref01_Label.mono _ _
      | exact LeO.none _
      | refine LeO.ite ?_ ?_
      | refine LeO.bind ?_ (fun _ => ?_)
    · intro y0 y1 y2 y3 y4 y5
      unfold tolllaw08_LabelOne.j1
      repeat' first
      | (with_reducible exact ih0 _ _ _ _)
      | (with_reducible exact ih1 _ _ _ _ _ _)
      | (with_reducible exact ih2 _ _ _ _ _)
      | (with_reducible exact label_May.mono _ _)
      | (with_reducible exact tolllaw05_Few.mono _ _)
      | (with_reducible exact tollref01_Label.mono _ _)
      | (with_reducible exact LeO.refl _)
      | (with_reducible exact LeO.none _)
      | (with_reducible refine LeO.ite ?_ ?_)
      | (with_reducible refine LeO.bind ?_ (fun _ => ?_))
      | exact ih0 _ _ _ _
      | exact ih1 _ _ _ _ _ _
      | exact ih2 _ _ _ _ _
      | exact label_May.mono _ _
      | exact tolllaw05_Few.mono _ _
      | exact tollref01_Label.mono _ _
      | exact LeO.none _
      | refine LeO.ite ?_ ?_
      | refine LeO.bind ?_ (fun _ => ?_)
    · intro y0 y1 y2 y3 y4
      unfold tolllaw08_LabelOne.j2
      repeat' first
      | (with_reducible exact ih0 _ _ _ _)
      | (with_reducible exact ih1 _ _ _ _ _ _)
      | (with_reducible exact ih2 _ _ _ _ _)
      | (with_reducible exact label_May.mono _ _)
      | (with_reducible exact tolllaw05_Few.mono _ _)
      | (with_reducible exact tollref01_Label.mono _ _)
      | (with_reducible exact LeO.refl _)
      | (with_reducible exact LeO.none _)
      | (with_reducible refine LeO.ite ?_ ?_)
      | (with_reducible refine LeO.bind ?_ (fun _ => ?_))
      | exact ih0 _ _ _ _
      | exact ih1 _ _ _ _ _ _
      | exact ih2 _ _ _ _ _
      | exact label_May.mono _ _
      | exact tolllaw05_Few.mono _ _
      | exact tollref01_Label.mono _ _
      | exact LeO.none _
      | refine LeO.ite ?_ ?_
      | refine LeO.bind ?_ (fun _ => ?_)
theorem tolllaw08_LabelOne.mono : ∀ a0 a1 a2 k, LeO (tolllaw08_LabelOne.f k a0 a1 a2) (tolllaw08_LabelOne.f (k + 1) a0 a1 a2) := by
  intro a0 a1 a2 k
  obtain ⟨ih0, ih1, ih2⟩ := tolllaw08_LabelOne.mono_l k
  unfold tolllaw08_LabelOne.f
  repeat' first
      | (with_reducible exact ih0 _ _ _ _)
      | (with_reducible exact ih1 _ _ _ _ _ _)
      | (with_reducible exact ih2 _ _ _ _ _)
      | (with_reducible exact label_May.mono _ _)
      | (with_reducible exact tolllaw05_Few.mono _ _)
      | (with_reducible exact tollref01_Label.mono _ _)
      | (with_reducible exact LeO.refl _)
      | (with_reducible exact LeO.none _)
      | (with_reducible refine LeO.ite ?_ ?_)
      | (with_reducible refine LeO.bind ?_ (fun _ => ?_))
      | exact ih0 _ _ _ _
      | exact ih1 _ _ _ _ _ _
      | exact ih2 _ _ _ _ _
      | exact label_May.mono _ _
      | exact tolllaw05_Few.mono _ _
      | exact tollref01_Label.mono _ _
      | exact LeO.none _
      | refine LeO.ite ?_ ?_
      | refine LeO.bind ?_ (fun _ => ?_)
def tolllaw08_LabelOne.T6 : Bool × List (List Nat × List Nat) := (true, [([], []), ([], []), ([], []), ([1, 2], [1, 2]), ([0, 3], [0, 3]), ([], []), ([], []), ([6], [6]), ([5, 7], [5, 7]), ([4, 8, 4], [4, 8]), ([9, 9, 0, 1, 2, 3, 4, 5, 6, 7, 8, 9], [9])])
def tolllaw08_LabelOne.B6 : List Nat := [0, 0, 0, 6, 15, 0, 0, 64, 224, 511, 1023]
theorem tolllaw08_LabelOne.tab6 : rtab .any (opsOf Tryd.f11 6) = tolllaw08_LabelOne.T6 := by kernel_rfl
theorem tolllaw08_LabelOne.bits6 : waitsOk tolllaw08_LabelOne.T6.2 tolllaw08_LabelOne.B6 = true := by kernel_rfl
set_option maxHeartbeats 8000000 in
set_option maxRecDepth 100000 in
theorem tolllaw08_LabelOne.calls (k : Nat) (A0 : Option Addr) (c0 : Nat) (l0 : List (S55)) (a1 : Int) (a2 : ByteArray) (w : World) (hr0 : Kd.C k55 w A0 l0.length l0) (hc0 : l0.length ≤ c0) (h : tolllaw08_LabelOne.f k l0 a1 a2 = some true) :
    Calls Tryd.prog 11 #[.slice A0 l0.length c0, .int .u8 a1, .string a2] w fun e w' => e = .returned (.bool true) ∧ Below w.heap.size w w' := by
  have hu55 := Tryd.underlying55
  have hu58 := Tryd.underlying58
  have HR0 := Aside0.mk hr0
  have HC0 := Aside0.mk hc0
  clear hr0 hc0
  have HB := Aside0.mk (Below.refl w.heap.size w)
  have H : ((tolllaw05_Few.f k l0).bind fun t345 => ((tolllaw01_Few.f a2).bind fun t348 => ((label_May.f k t345).bind fun t349 => (if t349 = true then (tolllaw08_LabelOne.j0 k t345 a1 t348 ((t345.length : Int) == 0)) else (tolllaw08_LabelOne.j0 k t345 a1 t348 true))))) = some true := h
  clear h
  replace H := Option.bind_eq_some_iff.mp H
  obtain ⟨t345, A40, H⟩ := H
  replace H : ((tolllaw01_Few.f a2).bind fun t348 => ((label_May.f k t345).bind fun t349 => (if t349 = true then (tolllaw08_LabelOne.j0 k t345 a1 t348 ((t345.length : Int) == 0)) else (tolllaw08_LabelOne.j0 k t345 a1 t348 true)))) = some true := H
  have A4 := Aside0.mk A40
  clear A40
  replace H := Option.bind_eq_some_iff.mp H
  obtain ⟨t348, A50, H⟩ := H
  replace H : ((label_May.f k t345).bind fun t349 => (if t349 = true then (tolllaw08_LabelOne.j0 k t345 a1 t348 ((t345.length : Int) == 0)) else (tolllaw08_LabelOne.j0 k t345 a1 t348 true))) = some true := H
  have A5 := Aside0.mk A50
  clear A50
  have HC6 := Aside0.mk H
  clear H
  go_enter Tryd.func11, Tryd.ntmps11
  go_upto_region 2 with (first | ((with_reducible refine gate_callee (f := 51) rfl ?_); refine goesL_ (some 11) rfl rfl Tryd.func51 (by kernel_rfl) rfl #[.slice A0 l0.length c0] rfl (by (try simp only [List.map_toArray, List.map_cons, List.map_nil]); first | done | rfl | (simp only [List.length_drop, List.length_take]; rfl)) ?_; (with_reducible refine (tolllaw05_Few.calls k _ _ l0 t345 _ ?side1 ?side2 A4.out).mono ?_); (case side1 => repeat (first | exact HR0.out | (with_reducible refine Kd.C_alloc ?_ _) | (with_reducible refine Kd.C_drewN ?_ _) | (with_reducible refine Kd.C_drew ?_))); (case side2 => exact HC0.out); rintro e w7 ⟨v346, rfl, ho0, hb⟩; refine ⟨_, rfl, ?_⟩; have n0_ := Aside0.mk (Kd.R_lower ho0 (below_size (by repeat (first | (with_reducible first | exact HB.out | apply below_alloc | apply pw_below_drewN | apply below_drew1) | exact HB.out)))); have n1_ := Aside0.mk (below_step (by repeat (first | (with_reducible first | exact HB.out | apply below_alloc | apply pw_below_drewN | apply below_drew1) | exact HB.out)) hb); clear HB; have HO347 := n0_; have HB := n1_; clear n0_ n1_; (try clear hb); (try clear hb2); (try clear hk); (try clear hi); (try clear ho0)) | ((with_reducible refine gate_callee (f := 30) rfl ?_); refine goesL_ (some 13) rfl rfl Tryd.func30 (by kernel_rfl) rfl #[.string a2] rfl (by (try simp only [List.map_toArray, List.map_cons, List.map_nil]); first | done | rfl | (simp only [List.length_drop, List.length_take]; rfl)) ?_; (with_reducible refine (tolllaw01_Few.calls a2 t348 _ A5.out).mono ?_); rintro e w' ⟨rfl, ⟨nd, rfl⟩⟩; refine ⟨_, rfl, ?_⟩))
  (try simp only [Act.put, List.setIfInBounds_toArray, List.set_cons_zero, List.set_cons_succ])
  go_cut [21] (fun v21 wc => ∃ (kq : Nat) (x21_5 : Bool), v21 = .bool x21_5 ∧ Aside0 (tolllaw08_LabelOne.j0 kq t345 a1 t348 x21_5 = some true) ∧ Aside0 (kq ≤ k) ∧ Aside0 (Kd.R k55 55 wc w.heap.size (fun _ => True) v346 t345) ∧ Aside0 (Below w.heap.size w wc))
  case first =>
    have H := HC6.out
    clear HC6
    replace H := Option.bind_eq_some_iff.mp H
    obtain ⟨t349, A80, H⟩ := H
    replace H : (if t349 = true then (tolllaw08_LabelOne.j0 k t345 a1 t348 ((t345.length : Int) == 0)) else (tolllaw08_LabelOne.j0 k t345 a1 t348 true)) = some true := H
    have A8 := Aside0.mk A80
    clear A80
    by_cases c9 : t349 = true
    · subst c9
      have H1 : (tolllaw08_LabelOne.j0 k t345 a1 t348 ((t345.length : Int) == 0)) = some true := by rw [if_pos rfl] at H; exact H
      clear H
      have H := H1
      clear H1
      have H' := Aside0.mk H
      clear H
      obtain ⟨Ao10, co10, eo10⟩ := Kd.R_slice HO347.out
      subst eo10
      go_wp2_with (first | ((with_reducible refine gate_callee (f := 52) rfl ?_); refine goesL_ (some 15) rfl rfl Tryd.func52 (by kernel_rfl) rfl #[.slice Ao10 t345.length co10] rfl (by (try simp only [List.map_toArray, List.map_cons, List.map_nil]); first | done | rfl | (simp only [List.length_drop, List.length_take]; rfl)) ?_; (with_reducible refine (label_May.calls k _ _ t345 true _ ?side1 ?side2 A8.out).mono ?_); (case side1 => repeat (first | exact (Kd.R_reads' HO347.out).2.2 | (with_reducible refine Kd.C_alloc ?_ _) | (with_reducible refine Kd.C_drewN ?_ _) | (with_reducible refine Kd.C_drew ?_))); (case side2 => exact (Kd.R_reads' HO347.out).2.1); rintro e w11 ⟨rfl, hb⟩; refine ⟨_, rfl, ?_⟩; have n0_ := Aside0.mk (Kd.R_below (by (with_reducible repeat (first | apply Kd.R_alloc | apply Kd.R_drewN | apply Kd.R_drew)); exact HO347.out) hb); have n1_ := Aside0.mk (below_step (by repeat (first | (with_reducible first | exact HB.out | apply below_alloc | apply pw_below_drewN | apply below_drew1) | exact HB.out)) hb); clear HO347; clear HB; have HO347 := n0_; have HB := n1_; clear n0_ n1_; (try clear hb); (try clear hb2); (try clear hk); (try clear hi)))
      go_meet
      case rel => exact ⟨_, (((t345.length : Int) == 0)), (by first | rfl | (simp; done) | (simp [*]; done)), H', ⟨by first | omega | exact Nat.le_refl _⟩, ⟨by (with_reducible repeat (first | apply Kd.R_alloc | apply Kd.R_drewN | apply Kd.R_drew)); exact HO347.out⟩, ⟨by repeat (first | (with_reducible first | exact HB.out | apply below_alloc | apply pw_below_drewN | apply below_drew1) | exact HB.out)⟩⟩
    · replace c9 := Bool.eq_false_iff.mpr c9
      subst c9
      have H1 : (tolllaw08_LabelOne.j0 k t345 a1 t348 true) = some true := by rw [if_neg (show ¬ (false = true) by decide)] at H; exact H
      clear H
      have H := H1
      clear H1
      have H' := Aside0.mk H
      clear H
      obtain ⟨Ao12, co12, eo12⟩ := Kd.R_slice HO347.out
      subst eo12
      go_wp2_with (first | ((with_reducible refine gate_callee (f := 52) rfl ?_); refine goesL_ (some 15) rfl rfl Tryd.func52 (by kernel_rfl) rfl #[.slice Ao12 t345.length co12] rfl (by (try simp only [List.map_toArray, List.map_cons, List.map_nil]); first | done | rfl | (simp only [List.length_drop, List.length_take]; rfl)) ?_; (with_reducible refine (label_May.calls k _ _ t345 false _ ?side1 ?side2 A8.out).mono ?_); (case side1 => repeat (first | exact (Kd.R_reads' HO347.out).2.2 | (with_reducible refine Kd.C_alloc ?_ _) | (with_reducible refine Kd.C_drewN ?_ _) | (with_reducible refine Kd.C_drew ?_))); (case side2 => exact (Kd.R_reads' HO347.out).2.1); rintro e w13 ⟨rfl, hb⟩; refine ⟨_, rfl, ?_⟩; have n0_ := Aside0.mk (Kd.R_below (by (with_reducible repeat (first | apply Kd.R_alloc | apply Kd.R_drewN | apply Kd.R_drew)); exact HO347.out) hb); have n1_ := Aside0.mk (below_step (by repeat (first | (with_reducible first | exact HB.out | apply below_alloc | apply pw_below_drewN | apply below_drew1) | exact HB.out)) hb); clear HO347; clear HB; have HO347 := n0_; have HB := n1_; clear n0_ n1_; (try clear hb); (try clear hb2); (try clear hk); (try clear hi)))
      go_meet
      case rel => exact ⟨_, (true), (by first | rfl | (simp; done) | (simp [*]; done)), H', ⟨by first | omega | exact Nat.le_refl _⟩, ⟨by (with_reducible repeat (first | apply Kd.R_alloc | apply Kd.R_drewN | apply Kd.R_drew)); exact HO347.out⟩, ⟨by repeat (first | (with_reducible first | exact HB.out | apply below_alloc | apply pw_below_drewN | apply below_drew1) | exact HB.out)⟩⟩
  case rest =>
    clear HC6
    try clear c1
    try clear p2
    try clear c3
    try clear c5
    try clear c9
    try clear c11
    obtain ⟨kq, x21_5, rfl, HA, HJ5, HO_0, HB⟩ := hcut
    cases kq with
    | zero => exact absurd HA.out (by simp [tolllaw08_LabelOne.j0])
    | succ kj5 =>
      have H := HA.out
      clear HA
      simp only [tolllaw08_LabelOne.j0] at H
      by_cases c14 : x21_5 = true
      · subst c14
        have H1 : ((tolllaw08_awake.f).bind fun t350 => (some t350)) = some true := by rw [if_pos rfl] at H; exact H
        clear H
        have H := H1
        clear H1
        replace H := Option.bind_eq_some_iff.mp H
        obtain ⟨t350, A150, H⟩ := H
        replace H : (some t350) = some true := H
        have A15 := Aside0.mk A150
        clear A150
        obtain rfl := Option.some.inj H
        go_wp2_with (first | ((with_reducible refine gate_callee (f := 53) rfl ?_); refine goesL_ (some 22) rfl rfl Tryd.func53 (by kernel_rfl) rfl #[] rfl (by (try simp only [List.map_toArray, List.map_cons, List.map_nil]); first | done | rfl | (simp only [List.length_drop, List.length_take]; rfl)) ?_; (with_reducible refine (tolllaw08_awake.calls  true _ A15.out).mono ?_); rintro e w16 ⟨rfl, hb⟩; refine ⟨_, rfl, ?_⟩; have n0_ := Aside0.mk (Kd.R_below (by (with_reducible repeat (first | apply Kd.R_alloc | apply Kd.R_drewN | apply Kd.R_drew)); exact HO_0.out) hb); have n1_ := Aside0.mk (below_step (by repeat (first | (with_reducible first | exact HB.out | apply below_alloc | apply pw_below_drewN | apply below_drew1) | exact HB.out)) hb); clear HO_0; clear HB; have HO_0 := n0_; have HB := n1_; clear n0_ n1_; (try clear hb); (try clear hb2); (try clear hk); (try clear hi)))
        go_ret
        exact ⟨by first | rfl | (simp [errW_none, errW_some] <;> rfl) | (simp [*, errW_none, errW_some] <;> rfl), by repeat (first | (with_reducible first | exact HB.out | apply below_alloc | apply pw_below_drewN | apply below_drew1) | exact HB.out)⟩
      · replace c14 := Bool.eq_false_iff.mpr c14
        subst c14
        have H1 : (if (t345.length : Int) = 0 then (none) else (if 0 ≤ (Int.tmod (wrap64 (a1)) (t345.length : Int)) then (if (Int.tmod (wrap64 (a1)) (t345.length : Int)) < (t345.length : Int) then ((some (([] : List (S55)) : List (S55))).bind fun y353 => (if (Int.tmod (wrap64 (a1)) (t345.length : Int)) ≤ (t345.length : Int) then ((some (t345.take ((Int.tmod (wrap64 (a1)) (t345.length : Int)) : Int).toNat : List (S55))).bind fun y356 => (if y353.length + y356.length < 4398046511104 then ((some (y353 ++ y356 : List (S55))).bind fun y360 => (if 0 ≤ (wrap64 ((Int.tmod (wrap64 (a1)) (t345.length : Int)) + 1)) then (if (wrap64 ((Int.tmod (wrap64 (a1)) (t345.length : Int)) + 1)) ≤ (t345.length : Int) then ((some (t345.drop ((wrap64 ((Int.tmod (wrap64 (a1)) (t345.length : Int)) + 1)) : Int).toNat : List (S55))).bind fun y363 => (if y360.length + y363.length < 4398046511104 then ((some (y360 ++ y363 : List (S55))).bind fun y367 => (if t348.toList = ([] : List UInt8) then (tolllaw08_LabelOne.j1 kj5 t345 t348 y367 false ((rd_T55 t345 (Int.tmod (wrap64 (a1)) (t345.length : Int))).f0) ((rd_T55 t345 (Int.tmod (wrap64 (a1)) (t345.length : Int))).f1)) else ((tollref01_Label.f kj5 t348).bind fun t370 => (tolllaw08_LabelOne.j1 kj5 t345 t348 y367 (!t370) ((rd_T55 t345 (Int.tmod (wrap64 (a1)) (t345.length : Int))).f0) ((rd_T55 t345 (Int.tmod (wrap64 (a1)) (t345.length : Int))).f1))))) else (none))) else (none)) else (none))) else (none))) else (none))) else (none)) else (none))) = some true := by rw [if_neg (show ¬ (false = true) by decide)] at H; exact H
        clear H
        have H := H1
        clear H1
        by_cases c17 : (t345.length : Int) = 0
        · rw [if_pos c17] at H
          exact absurd H (by simp)
        · rw [if_neg c17] at H
          have c17b0 : ((t345.length : Int) == 0) = false := beq_eq_false_iff_ne.mpr c17
          have c17b1 : ((t345.length : Int) != 0) = true := bne_iff_ne.mpr c17
          have c17b2 : ¬ (t345 = []) := fun h_ => c17 (by rw [h_]; rfl)
          obtain ⟨ji18, hji18⟩ : ∃ j_ : Int, (Int.tmod (wrap64 (a1)) (t345.length : Int)) = j_ := ⟨_, rfl⟩
          replace H : (if 0 ≤ (ji18) then (if (ji18) < (t345.length : Int) then ((some (([] : List (S55)) : List (S55))).bind fun y353 => (if (ji18) ≤ (t345.length : Int) then ((some (t345.take ((ji18) : Int).toNat : List (S55))).bind fun y356 => (if y353.length + y356.length < 4398046511104 then ((some (y353 ++ y356 : List (S55))).bind fun y360 => (if 0 ≤ (wrap64 ((ji18) + 1)) then (if (wrap64 ((ji18) + 1)) ≤ (t345.length : Int) then ((some (t345.drop ((wrap64 ((ji18) + 1)) : Int).toNat : List (S55))).bind fun y363 => (if y360.length + y363.length < 4398046511104 then ((some (y360 ++ y363 : List (S55))).bind fun y367 => (if t348.toList = ([] : List UInt8) then (tolllaw08_LabelOne.j1 kj5 t345 t348 y367 false ((rd_T55 t345 (ji18)).f0) ((rd_T55 t345 (ji18)).f1)) else ((tollref01_Label.f kj5 t348).bind fun t370 => (tolllaw08_LabelOne.j1 kj5 t345 t348 y367 (!t370) ((rd_T55 t345 (ji18)).f0) ((rd_T55 t345 (ji18)).f1))))) else (none))) else (none)) else (none))) else (none))) else (none))) else (none)) else (none)) = some true := by first | (rw [hji18] at H; exact H) | (simp only [hji18] at H ⊢; exact H)
          by_cases c19 : 0 ≤ (ji18)
          · rw [if_pos c19] at H
            have c19b0 : decide (0 ≤ (ji18)) = true := decide_eq_true c19
            clear c19
            by_cases c20 : (ji18) < (t345.length : Int)
            · rw [if_pos c20] at H
              have c20b0 : decide ((ji18) < (t345.length : Int)) = true := decide_eq_true c20
              clear c20
              obtain ⟨y353, hy353⟩ : ∃ y_ : List (S55), y_ = (([] : List (S55))) := ⟨_, rfl⟩
              replace H : (if (ji18) ≤ (t345.length : Int) then ((some (t345.take ((ji18) : Int).toNat : List (S55))).bind fun y356 => (if y353.length + y356.length < 4398046511104 then ((some (y353 ++ y356 : List (S55))).bind fun y360 => (if 0 ≤ (wrap64 ((ji18) + 1)) then (if (wrap64 ((ji18) + 1)) ≤ (t345.length : Int) then ((some (t345.drop ((wrap64 ((ji18) + 1)) : Int).toNat : List (S55))).bind fun y363 => (if y360.length + y363.length < 4398046511104 then ((some (y360 ++ y363 : List (S55))).bind fun y367 => (if t348.toList = ([] : List UInt8) then (tolllaw08_LabelOne.j1 kj5 t345 t348 y367 false ((rd_T55 t345 (ji18)).f0) ((rd_T55 t345 (ji18)).f1)) else ((tollref01_Label.f kj5 t348).bind fun t370 => (tolllaw08_LabelOne.j1 kj5 t345 t348 y367 (!t370) ((rd_T55 t345 (ji18)).f0) ((rd_T55 t345 (ji18)).f1))))) else (none))) else (none)) else (none))) else (none))) else (none)) = some true := by first | (rw [hy353]; with_reducible exact H) | (have H2_ := (Option.bind_some _ _).symm.trans H; rw [hy353]; with_reducible exact H2_) | (have H2_ := (Option.bind_some _ _).symm.trans H; with_reducible exact H2_) | with_reducible exact H | (rw [hy353]; exact H) | exact H
              have Ny353 := Aside0.mk hy353
              clear hy353
              have c21b0 := eq_true (of_decide_eq_true (by first | (with_reducible assumption) | assumption) : 0 ≤ (ji18))
              by_cases c22 : (ji18) ≤ (t345.length : Int)
              · rw [if_pos c22] at H
                have c22b0 := eq_true c22
                have c22b1 : decide ((ji18) ≤ (t345.length : Int)) = true := decide_eq_true c22
                clear c22
                obtain ⟨y356, hy356⟩ : ∃ y_ : List (S55), y_ = (t345.take ((ji18) : Int).toNat) := ⟨_, rfl⟩
                replace H : (if y353.length + y356.length < 4398046511104 then ((some (y353 ++ y356 : List (S55))).bind fun y360 => (if 0 ≤ (wrap64 ((ji18) + 1)) then (if (wrap64 ((ji18) + 1)) ≤ (t345.length : Int) then ((some (t345.drop ((wrap64 ((ji18) + 1)) : Int).toNat : List (S55))).bind fun y363 => (if y360.length + y363.length < 4398046511104 then ((some (y360 ++ y363 : List (S55))).bind fun y367 => (if t348.toList = ([] : List UInt8) then (tolllaw08_LabelOne.j1 kj5 t345 t348 y367 false ((rd_T55 t345 (ji18)).f0) ((rd_T55 t345 (ji18)).f1)) else ((tollref01_Label.f kj5 t348).bind fun t370 => (tolllaw08_LabelOne.j1 kj5 t345 t348 y367 (!t370) ((rd_T55 t345 (ji18)).f0) ((rd_T55 t345 (ji18)).f1))))) else (none))) else (none)) else (none))) else (none)) = some true := by first | (rw [hy356]; with_reducible exact H) | (have H2_ := (Option.bind_some _ _).symm.trans H; rw [hy356]; with_reducible exact H2_) | (have H2_ := (Option.bind_some _ _).symm.trans H; with_reducible exact H2_) | with_reducible exact H | (rw [hy356]; exact H) | exact H
                have Ny356 := Aside0.mk hy356
                clear hy356
                by_cases c23 : y353.length + y356.length < 4398046511104
                · rw [if_pos c23] at H
                  have LMc23 := Aside0.mk c23
                  clear c23
                  obtain ⟨y360, hy360⟩ : ∃ y_ : List (S55), y_ = (y353 ++ y356) := ⟨_, rfl⟩
                  replace H : (if 0 ≤ (wrap64 ((ji18) + 1)) then (if (wrap64 ((ji18) + 1)) ≤ (t345.length : Int) then ((some (t345.drop ((wrap64 ((ji18) + 1)) : Int).toNat : List (S55))).bind fun y363 => (if y360.length + y363.length < 4398046511104 then ((some (y360 ++ y363 : List (S55))).bind fun y367 => (if t348.toList = ([] : List UInt8) then (tolllaw08_LabelOne.j1 kj5 t345 t348 y367 false ((rd_T55 t345 (ji18)).f0) ((rd_T55 t345 (ji18)).f1)) else ((tollref01_Label.f kj5 t348).bind fun t370 => (tolllaw08_LabelOne.j1 kj5 t345 t348 y367 (!t370) ((rd_T55 t345 (ji18)).f0) ((rd_T55 t345 (ji18)).f1))))) else (none))) else (none)) else (none)) = some true := by first | (rw [hy360]; with_reducible exact H) | (have H2_ := (Option.bind_some _ _).symm.trans H; rw [hy360]; with_reducible exact H2_) | (have H2_ := (Option.bind_some _ _).symm.trans H; with_reducible exact H2_) | with_reducible exact H | (rw [hy360]; exact H) | exact H
                  have Ny360 := Aside0.mk hy360
                  clear hy360
                  obtain ⟨ji24, hji24⟩ : ∃ j_ : Int, (wrap64 ((ji18) + 1)) = j_ := ⟨_, rfl⟩
                  replace H : (if 0 ≤ (ji24) then (if (ji24) ≤ (t345.length : Int) then ((some (t345.drop ((ji24) : Int).toNat : List (S55))).bind fun y363 => (if y360.length + y363.length < 4398046511104 then ((some (y360 ++ y363 : List (S55))).bind fun y367 => (if t348.toList = ([] : List UInt8) then (tolllaw08_LabelOne.j1 kj5 t345 t348 y367 false ((rd_T55 t345 (ji18)).f0) ((rd_T55 t345 (ji18)).f1)) else ((tollref01_Label.f kj5 t348).bind fun t370 => (tolllaw08_LabelOne.j1 kj5 t345 t348 y367 (!t370) ((rd_T55 t345 (ji18)).f0) ((rd_T55 t345 (ji18)).f1))))) else (none))) else (none)) else (none)) = some true := by first | (rw [hji24] at H; exact H) | (simp only [hji24] at H ⊢; exact H)
                  have hji24w : (IntKind.i64.wrap ((ji18) + 1)) = ji24 := (i64_w _).trans hji24
                  by_cases c25 : 0 ≤ (ji24)
                  · rw [if_pos c25] at H
                    have c25b0 := eq_true c25
                    have c25b1 : decide (0 ≤ (ji24)) = true := decide_eq_true c25
                    clear c25
                    by_cases c26 : (ji24) ≤ (t345.length : Int)
                    · rw [if_pos c26] at H
                      have c26b0 := eq_true c26
                      have c26b1 : decide ((ji24) ≤ (t345.length : Int)) = true := decide_eq_true c26
                      clear c26
                      obtain ⟨y363, hy363⟩ : ∃ y_ : List (S55), y_ = (t345.drop ((ji24) : Int).toNat) := ⟨_, rfl⟩
                      replace H : (if y360.length + y363.length < 4398046511104 then ((some (y360 ++ y363 : List (S55))).bind fun y367 => (if t348.toList = ([] : List UInt8) then (tolllaw08_LabelOne.j1 kj5 t345 t348 y367 false ((rd_T55 t345 (ji18)).f0) ((rd_T55 t345 (ji18)).f1)) else ((tollref01_Label.f kj5 t348).bind fun t370 => (tolllaw08_LabelOne.j1 kj5 t345 t348 y367 (!t370) ((rd_T55 t345 (ji18)).f0) ((rd_T55 t345 (ji18)).f1))))) else (none)) = some true := by first | (rw [hy363]; with_reducible exact H) | (have H2_ := (Option.bind_some _ _).symm.trans H; rw [hy363]; with_reducible exact H2_) | (have H2_ := (Option.bind_some _ _).symm.trans H; with_reducible exact H2_) | with_reducible exact H | (rw [hy363]; exact H) | exact H
                      have Ny363 := Aside0.mk hy363
                      clear hy363
                      by_cases c27 : y360.length + y363.length < 4398046511104
                      · rw [if_pos c27] at H
                        have LMc27 := Aside0.mk c27
                        clear c27
                        obtain ⟨y367, hy367⟩ : ∃ y_ : List (S55), y_ = (y360 ++ y363) := ⟨_, rfl⟩
                        replace H : (if t348.toList = ([] : List UInt8) then (tolllaw08_LabelOne.j1 kj5 t345 t348 y367 false ((rd_T55 t345 (ji18)).f0) ((rd_T55 t345 (ji18)).f1)) else ((tollref01_Label.f kj5 t348).bind fun t370 => (tolllaw08_LabelOne.j1 kj5 t345 t348 y367 (!t370) ((rd_T55 t345 (ji18)).f0) ((rd_T55 t345 (ji18)).f1)))) = some true := by first | (rw [hy367]; with_reducible exact H) | (have H2_ := (Option.bind_some _ _).symm.trans H; rw [hy367]; with_reducible exact H2_) | (have H2_ := (Option.bind_some _ _).symm.trans H; with_reducible exact H2_) | with_reducible exact H | (rw [hy367]; exact H) | exact H
                        have Ny367 := Aside0.mk hy367
                        clear hy367
                        have HC28 := Aside0.mk H
                        clear H
                        obtain ⟨Ao29, co29, eo29⟩ := Kd.R_slice HO_0.out
                        subst eo29
                        have p351 : 0 ≤ ((ji18) : Int) := of_decide_eq_true (by first | (with_reducible assumption) | assumption)
                        have q351 : (ji18) < (t345.length : Int) := of_decide_eq_true (by first | (with_reducible assumption) | assumption)
                        obtain ⟨ad351, e351, hx351_0, hx351_1⟩ := at_T55 (Kd.R_reads' HO_0.out).2.2 (ji18) p351 q351
                        cases e351
                        replace p351 := eq_true p351
                        replace q351 := eq_true q351
                        try go_wp2_with (first | ((with_reducible refine gate_dst (N := 8) rfl ?_); (try (refine gate_guard (by rfl) ?_; dsimp only)); refine box_event ?hg (N := 8) ?hd (cs := #[.string (⟨#[]⟩ : ByteArray), .string (⟨#[]⟩ : ByteArray)]) (t := 55) ?hr ?_; (case hd => rfl); (case hg => rfl); (case hr => first | (go_simp; done) | (go_simp; rfl)); intro gb352 hg w30 hbox hb; have n0_ := Aside0.mk (Kd.R_below (Kd.R_elderB (by (with_reducible repeat (first | apply Kd.R_alloc | apply Kd.R_drewN | apply Kd.R_drew)); exact HO_0.out) gb352 (Nat.le_of_eq hg.symm)) hb); have n1_ := Aside0.mk (below_step (by repeat (first | (with_reducible first | exact HB.out | apply below_alloc | apply pw_below_drewN | apply below_drew1) | exact HB.out)) hb); have n2_ := Aside0.mk (hbox); have n3_ := Aside0.mk ((by rw [hg]; exact (below_size (by repeat (first | (with_reducible first | exact HB.out | apply below_alloc | apply pw_below_drewN | apply below_drew1) | exact HB.out))) : w.heap.size ≤ gb352)); have n4_ := Aside0.mk ((by rw [hg]; exact (below_size (by repeat (first | (with_reducible first | exact HB.out | apply below_alloc | apply pw_below_drewN | apply below_drew1) | exact HB.out))) : w.heap.size ≤ gb352)); clear HO_0; clear HB; have HO_0 := n0_; have HB := n1_; have BK352 := n2_; have GW352 := n3_; have GE352 := n4_; clear n0_ n1_ n2_ n3_ n4_; clear hb hbox hg; have hcz31_0 : w30.cell? ⟨gb352, 0, none⟩ = some (.string (⟨#[]⟩ : ByteArray)) := (blk_cell BK352.out 0).trans rfl; have hcz31_1 : w30.cell? ⟨gb352, 1, none⟩ = some (.string (⟨#[]⟩ : ByteArray)) := (blk_cell BK352.out 1).trans rfl; have hfz31_0 := blk_frozen BK352.out 0; have hfz31_1 := blk_frozen BK352.out 1))
                        have n0_ : Aside0 (Kd.R k55 55 ((w30.setCell ⟨gb352, 0, none⟩ (.string ((rd_T55 t345 (ji18)).f0))).setCell ⟨gb352, 1, none⟩ (.string ((rd_T55 t345 (ji18)).f1))) w.heap.size (fun k_ => k_ ≠ gb352) (.slice (some ad351) t345.length co29) t345) := ⟨by (with_reducible repeat (first | apply Kd.R_alloc | apply Kd.R_drewN | apply Kd.R_drew)); exact Kd.R_mono (Kd.R_far (p := ⟨gb352, 1, none⟩) (Kd.R_far (p := ⟨gb352, 0, none⟩) (Kd.R_mono HO_0.out (fun k_ hk => (⟨hk, hk.2⟩ : _ ∧ k_ ≠ gb352))) (fun _ hk => hk.2) (.string ((rd_T55 t345 (ji18)).f0))) (fun _ hk => hk.2) (.string ((rd_T55 t345 (ji18)).f1))) (fun _ hk => hk.1.2)⟩
                        have n1_ : Aside0 (((w30.setCell ⟨gb352, 0, none⟩ (.string ((rd_T55 t345 (ji18)).f0))).setCell ⟨gb352, 1, none⟩ (.string ((rd_T55 t345 (ji18)).f1))).heap[gb352]? = some (.cells #[.string ((rd_T55 t345 (ji18)).f0), .string ((rd_T55 t345 (ji18)).f1)] 55 (0, 0))) := ⟨by (with_reducible repeat (first | refine blk_drewN ?_ _ | refine blk_drew ?_ | refine blk_alloc ?_ _)); refine blk_put (cs := #[.string ((rd_T55 t345 (ji18)).f0), .string (⟨#[]⟩ : ByteArray)]) ?_ 1 _ rfl; (with_reducible repeat (first | refine blk_drewN ?_ _ | refine blk_drew ?_ | refine blk_alloc ?_ _)); refine blk_put (cs := #[.string (⟨#[]⟩ : ByteArray), .string (⟨#[]⟩ : ByteArray)]) ?_ 0 _ rfl; (with_reducible repeat (first | refine blk_drewN ?_ _ | refine blk_drew ?_ | refine blk_alloc ?_ _)); exact BK352.out⟩
                        have n2_ : Aside0 (Below w.heap.size w ((w30.setCell ⟨gb352, 0, none⟩ (.string ((rd_T55 t345 (ji18)).f0))).setCell ⟨gb352, 1, none⟩ (.string ((rd_T55 t345 (ji18)).f1)))) := ⟨by repeat (first | (with_reducible first | exact HB.out | apply below_alloc | apply pw_below_drewN | apply below_drew1 | refine below_set ?_ GE352.out) | exact HB.out)⟩
                        (try clear HO_0)
                        (try clear BK352)
                        (try clear HB)
                        generalize ((w30.setCell ⟨gb352, 0, none⟩ (.string ((rd_T55 t345 (ji18)).f0))).setCell ⟨gb352, 1, none⟩ (.string ((rd_T55 t345 (ji18)).f1))) = w32 at n0_ n1_ n2_ ⊢
                        have HO_0 := n0_
                        have BK352 := n1_
                        have HB := n2_
                        clear n0_ n1_ n2_
                        have n0_ := Aside0.mk (Kd.R_drew HO_0.out)
                        have n1_ := Aside0.mk (blk_drew BK352.out)
                        have n2_ := Aside0.mk (below_drew1 HB.out)
                        clear HO_0
                        clear BK352
                        clear HB
                        have HO_0 := n0_
                        have BK352 := n1_
                        have HB := n2_
                        clear n0_ n1_ n2_
                        have q34 : ((ji18) : Int) ≤ ((t345.length : Int) : Int) := of_decide_eq_true (by first | (with_reducible assumption) | assumption)
                        obtain ⟨i034, hi034, _, hsz34, _⟩ := info_parts info55
                        have hroom34 : t345.length ≤ co29 := (Kd.R_reads' HO_0.out).2.1
                        have hC34 : Kd.C k55 _ (some ad351) t345.length t345 := (Kd.R_reads' HO_0.out).2.2
                        have hcut34 := cut_to (P := Tryd.prog) 51 55 .i64 Tryd.underlying51 hi034 (some ad351) t345.length co29 (ji18) (of_decide_eq_true (by first | (with_reducible assumption) | assumption)) q34 hroom34
                        have hr34 := Kd.C_take (m := ((ji18) : Int).toNat) hC34 (by omega)
                        have hy34 : y356.length = ((ji18) : Int).toNat := (by rw [Ny356.out, List.length_take]; omega)
                        rw [← Ny356.out] at hr34
                        rw [← hy34] at hcut34
                        have HR359 := Aside0.mk hr34
                        have HC359 := Aside0.mk (show y356.length ≤ co29 from by omega)
                        clear hr34 hC34 hroom34 hi034 hsz34
                        have KY34 := Aside0.mk hy34
                        clear hy34
                        have KL34 := Aside0.mk (show ((ji18) : Int).toNat ≤ t345.length from by omega)
                        replace q34 := eq_true q34
                        have q35 : ((ji24) : Int) ≤ ((t345.length : Int) : Int) := of_decide_eq_true (by first | (with_reducible assumption) | assumption)
                        obtain ⟨i035, hi035, _, hsz35, _⟩ := info_parts info55
                        have hroom35 : t345.length ≤ co29 := (Kd.R_reads' HO_0.out).2.1
                        have hC35 : Kd.C k55 _ (some ad351) t345.length t345 := (Kd.R_reads' HO_0.out).2.2
                        have q035 : (0 : Int) ≤ ((ji24) : Int) := of_decide_eq_true (by first | (with_reducible assumption) | assumption)
                        have hcut35 := cut_from (P := Tryd.prog) 51 55 .i64 Tryd.underlying51 hi035 2 hsz35 (some ad351) t345.length co29 (ji24) q035 q35
                        have hr35 := Kd.C_drop (m := ((ji24) : Int).toNat) (c := co29) hC35 (by omega) hroom35
                        obtain ⟨A35, hA35⟩ : ∃ A1, A1 = (if co29 = ((ji24) : Int).toNat then (some ad351) else ((some ad351) : Option Addr).map (·.add (((ji24) : Int).toNat * 2))) := ⟨_, rfl⟩
                        obtain ⟨c35, hc35⟩ : ∃ c1, c1 = co29 - ((ji24) : Int).toNat := ⟨_, rfl⟩
                        have hy35 : y363.length = t345.length - ((ji24) : Int).toNat := (by rw [Ny363.out, List.length_drop] <;> omega)
                        rw [show (t345).drop ((ji24) : Int).toNat = y363 from Ny363.out.symm] at hr35
                        replace hr35 : Kd.C k55 _ A35 y363.length y363 := (by rw [hA35]; exact hr35)
                        rw [← hy35, ← hA35, ← hc35] at hcut35
                        have HR366 := Aside0.mk hr35
                        have HC366 := Aside0.mk (show y363.length ≤ c35 from by rw [hy35, hc35]; exact Nat.sub_le_sub_right hroom35 _)
                        clear hr35 hC35 hroom35 hi035 hsz35 hc35
                        have KY35 := Aside0.mk hy35
                        have KA35 := Aside0.mk hA35
                        clear hy35 hA35
                        have KL35 := Aside0.mk (show ((ji24) : Int).toNat ≤ t345.length from by omega)
                        replace q35 := eq_true q35
                        refine start_ (n := 11) (S := fun w' => True) (ds := []) #[false, false, false, false, false, false, false, false, false, false, false] (by kernel_rfl) rfl rfl trivial (fun hHeld => ?_); refine with_tabW tolllaw08_LabelOne.tab6 tolllaw08_LabelOne.bits6 (fun HT_ HW_ => ?_)
                        generalize w32.drew = w33 at HO_0 BK352 HB HR359 HR366 hHeld ⊢
                        refine pure_ (i := 1) (N := some 33) (v := ?_) (a' := ?_) #[false, true, false, false, false, false, false, false, false, false, false] rfl rfl (any_of HT_.out (by kernel_rfl)) (fun _ _ _ h => h) (Or.inl ⟨by rfl, ?_⟩) ?_ ?_
                        rotate_left
                        · intro w'
                          go_simp
                          with_reducible rfl
                        rotate_left
                        · simp only [Act.put, List.setIfInBounds_toArray, List.set_cons_zero, List.set_cons_succ, i64_w, i32_w]
                          rfl
                        refine pure_ (i := 2) (N := some 34) (v := ?_) (a' := ?_) #[false, true, true, false, false, false, false, false, false, false, false] rfl rfl (any_of HT_.out (by kernel_rfl)) (fun _ _ _ h => h) (Or.inl ⟨by rfl, ?_⟩) ?_ ?_
                        rotate_left
                        · intro w'
                          go_simp
                          with_reducible rfl
                        rotate_left
                        · simp only [Act.put, List.setIfInBounds_toArray, List.set_cons_zero, List.set_cons_succ, i64_w, i32_w]
                          rfl
                        refine pure_ (i := 3) (N := some 35) (v := ?_) (a' := ?_) #[false, true, true, true, false, false, false, false, false, false, false] rfl rfl (any_of HT_.out (by kernel_rfl)) (fun _ _ _ h => h) (Or.inl ⟨by rfl, ?_⟩) ?_ ?_
                        rotate_left
                        · intro w'
                          go_simp
                          with_reducible rfl
                        rotate_left
                        · simp only [Act.put, List.setIfInBounds_toArray, List.set_cons_zero, List.set_cons_succ, i64_w, i32_w]
                          rfl
                        refine pure_ (i := 5) (N := some 37) (v := ?_) (a' := ?_) #[false, true, true, true, false, true, false, false, false, false, false] rfl rfl (any_of HT_.out (by kernel_rfl)) (fun _ _ _ h => h) (Or.inl ⟨by rfl, ?_⟩) ?_ ?_
                        rotate_left
                        · intro w'
                          go_simp
                          with_reducible rfl
                        rotate_left
                        · simp only [Act.put, List.setIfInBounds_toArray, List.set_cons_zero, List.set_cons_succ, i64_w, i32_w]
                          rfl
                        refine pure_ (i := 6) (N := some 38) (v := ?_) (a' := ?_) #[false, true, true, true, false, true, true, false, false, false, false] rfl rfl (any_of HT_.out (by kernel_rfl)) (fun _ _ _ h => h) (Or.inl ⟨by rfl, ?_⟩) ?_ ?_
                        rotate_left
                        · intro w'
                          go_simp
                          with_reducible rfl
                        rotate_left
                        · simp only [Act.put, List.setIfInBounds_toArray, List.set_cons_zero, List.set_cons_succ, i64_w, i32_w]
                          rfl
                        refine pure_ (i := 7) (N := some 39) (v := ?_) (a' := ?_) #[false, true, true, true, false, true, true, true, false, false, false] rfl rfl (any_of HT_.out (by kernel_rfl)) (fun _ _ _ h => h) (Or.inl ⟨by rfl, ?_⟩) ?_ ?_
                        rotate_left
                        · intro w'
                          go_simp
                          with_reducible rfl
                        rotate_left
                        · simp only [Act.put, List.setIfInBounds_toArray, List.set_cons_zero, List.set_cons_succ, i64_w, i32_w]
                          rfl
                        refine pure_ (i := 8) (N := some 40) (v := ?_) (a' := ?_) #[false, true, true, true, false, true, true, true, true, false, false] rfl rfl (any_of HT_.out (by kernel_rfl)) (fun _ _ _ h => h) (Or.inl ⟨by rfl, ?_⟩) ?_ ?_
                        rotate_left
                        · intro w'
                          go_simp
                          with_reducible rfl
                        rotate_left
                        · simp only [Act.put, List.setIfInBounds_toArray, List.set_cons_zero, List.set_cons_succ, i64_w, i32_w]
                          rfl
                        refine one_ (i := 0) (N := some 32) #[true, true, true, true, false, true, true, true, true, false, false] rfl rfl (one_of HT_.out (by kernel_rfl)) (by decide) (fun K hK => ?_)
                        refine Kd.R_lit_step k55 _ 55 ?hg (N := 32) ?hd (xs := ([] : List (S55))) (inner := []) (ok := fun _ => True) (okp := fun _ => True) ?hr ?hp (fun _ hk => hk) trivial (Below.refl _ _) (Nat.le_refl _) (by simp) ?_; (case hd => rfl); (case hg => rfl); (case hr => first | (go_simp; done) | (go_simp; rfl)); (case hp => exact (Reps.none _ _))
                        intro v354 w36 ho37 hb hg_ hnew_
                        clear hg_ hnew_
                        (first | rw [← Ny353.out] at ho37 | (simp only [Int.reduceToNat] at ho37; rw [← Ny353.out] at ho37))
                        have n0_ := Aside0.mk (Kd.R_elder' (by (with_reducible repeat (first | apply Kd.R_alloc | apply Kd.R_drewN | apply Kd.R_drew)); exact HO_0.out) (Kd.R_base ho37) hb)
                        have n1_ := Aside0.mk (Kd.R_lower (Kd.R_newB (Kd.R_new' ho37 (Kd.R_lt (by (with_reducible repeat (first | apply Kd.R_alloc | apply Kd.R_drewN | apply Kd.R_drew)); exact HO_0.out))) (g := gb352) (o := .cells #[.string ((rd_T55 t345 (ji18)).f0), .string ((rd_T55 t345 (ji18)).f1)] 55 (0, 0)) (by (with_reducible repeat (first | refine blk_drewN ?_ _ | refine blk_drew ?_ | refine blk_alloc ?_ _)); exact BK352.out)) (below_size (by repeat (first | (with_reducible first | exact HB.out | apply below_alloc | apply pw_below_drewN | apply below_drew1 | refine below_set ?_ GE352.out) | exact HB.out))))
                        have n2_ := Aside0.mk (blk_below (g := gb352) (o := .cells #[.string ((rd_T55 t345 (ji18)).f0), .string ((rd_T55 t345 (ji18)).f1)] 55 (0, 0)) (by (with_reducible repeat (first | refine blk_drewN ?_ _ | refine blk_drew ?_ | refine blk_alloc ?_ _)); exact BK352.out) hb)
                        have n3_ := Aside0.mk (Kd.C_below (by repeat (first | (with_reducible exact HR359.out) | (with_reducible refine Kd.C_alloc ?_ _) | (with_reducible refine Kd.C_drewN ?_ _) | (with_reducible refine Kd.C_drew ?_) | exact HR359.out)) hb)
                        have n4_ := Aside0.mk (Kd.C_below (by repeat (first | (with_reducible exact HR366.out) | (with_reducible refine Kd.C_alloc ?_ _) | (with_reducible refine Kd.C_drewN ?_ _) | (with_reducible refine Kd.C_drew ?_) | exact HR366.out)) hb)
                        have n5_ := Aside0.mk (below_step (by repeat (first | (with_reducible first | exact HB.out | apply below_alloc | apply pw_below_drewN | apply below_drew1 | refine below_set ?_ GE352.out) | exact HB.out)) hb)
                        clear HO_0
                        clear BK352
                        clear HR359
                        clear HR366
                        clear HB
                        have HO_0 := n0_
                        have HO355 := n1_
                        have BK352 := n2_
                        have HR359 := n3_
                        have HR366 := n4_
                        have HB := n5_
                        clear n0_ n1_ n2_ n3_ n4_ n5_
                        clear hb ho37
                        refine hK.out _ _ trivial (fun hHeld => ?_)
                        clear hK K
                        refine norm_ (a' := ?_) ?_ ?_
                        rotate_left
                        · show Act.put _ (some 32) _ = _
                          simp only [Act.put, List.setIfInBounds_toArray, List.set_cons_zero, List.set_cons_succ, i64_w, i32_w]
                          rfl
                        refine one_ (i := 4) (N := some 36) #[true, true, true, true, true, true, true, true, true, false, false] rfl rfl (one_of HT_.out (by kernel_rfl)) (by decide) (fun K hK => ?_)
                        refine Kd.R_append_rows_step k55 (w0 := w) w.heap.size (by rfl) (.tmp 32) (.tmp 35) 51 55 (.agg #[(.string ⟨#[]⟩), (.string ⟨#[]⟩)]) 32 rfl Tryd.underlying51 info55 rfl (by decide) (by omega) v354 y353 y356 _ _ _ (fun k_ => some k_ ≠ (.slice (some ad351) t345.length co29 : Value).ownBlock ∧ k_ ≠ gb352) (fun _ => False) rfl rfl ?aO ?aR (fun _ _ h => h) (fun _ h => h.elim) ?aF ?aB ?aS ?aL ?_
                        (case aR => repeat (first | exact (by repeat (first | (with_reducible exact HR359.out) | (with_reducible refine Kd.C_alloc ?_ _) | (with_reducible refine Kd.C_drewN ?_ _) | (with_reducible refine Kd.C_drew ?_) | exact HR359.out)) | (with_reducible refine Kd.C_alloc ?_ _) | (with_reducible refine Kd.C_drewN ?_ _) | (with_reducible refine Kd.C_drew ?_)))
                        (case aB => exact (by repeat (first | (with_reducible first | exact HB.out | apply below_alloc | apply pw_below_drewN | apply below_drew1 | refine below_set ?_ GE352.out) | exact HB.out)))
                        (case aF => exact (fun k_ hk => ⟨Kd.fresh' (Kd.R_lt (by (with_reducible repeat (first | apply Kd.R_alloc | apply Kd.R_drewN | apply Kd.R_drew)); exact HO_0.out)) k_ hk, Kd.freshB (g := gb352) (o := .cells #[.string ((rd_T55 t345 (ji18)).f0), .string ((rd_T55 t345 (ji18)).f1)] 55 (0, 0)) (by (with_reducible repeat (first | refine blk_drewN ?_ _ | refine blk_drew ?_ | refine blk_alloc ?_ _)); exact BK352.out) k_ hk⟩))
                        (case aO => exact (by (with_reducible repeat (first | apply Kd.R_alloc | apply Kd.R_drewN | apply Kd.R_drew)); exact Kd.R_mono HO355.out (fun _ hk => ⟨hk.1.2, hk.2⟩)))
                        (case aS => exact (below_size (by repeat (first | (with_reducible first | exact HB.out | apply below_alloc | apply pw_below_drewN | apply below_drew1 | refine below_set ?_ GE352.out) | exact HB.out))))
                        (case aL => have := LMc23.out; omega)
                        intro v361 w38 ho hb hg hat
                        rw [← Ny360.out] at ho
                        have n0_ := Aside0.mk (Kd.R_after (ok := (fun k_ => k_ ≠ gb352)) (by (with_reducible repeat (first | apply Kd.R_alloc | apply Kd.R_drewN | apply Kd.R_drew)); exact HO_0.out) hg hat)
                        have n1_ := Aside0.mk (blk_grown (g := gb352) (o := .cells #[.string ((rd_T55 t345 (ji18)).f0), .string ((rd_T55 t345 (ji18)).f1)] 55 (0, 0)) (by (with_reducible repeat (first | refine blk_drewN ?_ _ | refine blk_drew ?_ | refine blk_alloc ?_ _)); exact BK352.out) hg (Kd.R_away HO355.out (fun _ hk => hk.2)))
                        have n2_ := Aside0.mk (hb)
                        have n3_ := Aside0.mk ((show Kd.C k55 w38 (some ad351) y356.length y356 from by rw [Ny356.out]; exact Kd.C_take (m := ((ji18) : Int).toNat) ((Kd.R_reads' (Kd.R_after (ok := (fun k_ => k_ ≠ gb352)) (by (with_reducible repeat (first | apply Kd.R_alloc | apply Kd.R_drewN | apply Kd.R_drew)); exact HO_0.out) hg hat)).2.2) KL34.out))
                        have n4_ := Aside0.mk ((show Kd.C k55 w38 A35 y363.length y363 from by rw [Ny363.out, KA35.out]; exact Kd.C_drop (m := ((ji24) : Int).toNat) (c := co29) ((Kd.R_reads' (Kd.R_after (ok := (fun k_ => k_ ≠ gb352)) (by (with_reducible repeat (first | apply Kd.R_alloc | apply Kd.R_drewN | apply Kd.R_drew)); exact HO_0.out) hg hat)).2.2) KL35.out ((Kd.R_reads' (Kd.R_after (ok := (fun k_ => k_ ≠ gb352)) (by (with_reducible repeat (first | apply Kd.R_alloc | apply Kd.R_drewN | apply Kd.R_drew)); exact HO_0.out) hg hat)).2.1)))
                        have n5_ := Aside0.mk (ho)
                        clear HO_0
                        clear BK352
                        clear HB
                        clear HR359
                        clear HR366
                        clear HO355
                        have HO_0 := n0_
                        have BK352 := n1_
                        have HB := n2_
                        have HR359 := n3_
                        have HR366 := n4_
                        have HO362 := n5_
                        clear n0_ n1_ n2_ n3_ n4_ n5_
                        clear ho hb hg hat
                        refine hK.out _ _ trivial (fun hHeld => ?_)
                        clear hK K
                        refine norm_ (a' := ?_) ?_ ?_
                        rotate_left
                        · show Act.put _ (some 36) _ = _
                          simp only [Act.put, List.setIfInBounds_toArray, List.set_cons_zero, List.set_cons_succ, i64_w, i32_w]
                          rfl
                        refine one_ (i := 9) (N := some 41) #[true, true, true, true, true, true, true, true, true, true, false] rfl rfl (one_of HT_.out (by kernel_rfl)) (by decide) (fun K hK => ?_)
                        refine Kd.R_append_rows_step k55 (w0 := w) w.heap.size (by rfl) (.tmp 36) (.tmp 40) 51 55 (.agg #[(.string ⟨#[]⟩), (.string ⟨#[]⟩)]) 32 rfl Tryd.underlying51 info55 rfl (by decide) (by omega) v361 y360 y363 _ _ _ (fun k_ => some k_ ≠ (.slice (some ad351) t345.length co29 : Value).ownBlock ∧ k_ ≠ gb352) (fun _ => False) rfl rfl ?aO ?aR (fun _ _ h => h) (fun _ h => h.elim) ?aF ?aB ?aS ?aL ?_
                        (case aR => repeat (first | exact (by repeat (first | (with_reducible exact HR366.out) | (with_reducible refine Kd.C_alloc ?_ _) | (with_reducible refine Kd.C_drewN ?_ _) | (with_reducible refine Kd.C_drew ?_) | exact HR366.out)) | (with_reducible refine Kd.C_alloc ?_ _) | (with_reducible refine Kd.C_drewN ?_ _) | (with_reducible refine Kd.C_drew ?_)))
                        (case aB => exact (by repeat (first | (with_reducible first | exact HB.out | apply below_alloc | apply pw_below_drewN | apply below_drew1 | refine below_set ?_ GE352.out) | exact HB.out)))
                        (case aF => exact (fun k_ hk => ⟨Kd.fresh' (Kd.R_lt (by (with_reducible repeat (first | apply Kd.R_alloc | apply Kd.R_drewN | apply Kd.R_drew)); exact HO_0.out)) k_ hk, Kd.freshB (g := gb352) (o := .cells #[.string ((rd_T55 t345 (ji18)).f0), .string ((rd_T55 t345 (ji18)).f1)] 55 (0, 0)) (by (with_reducible repeat (first | refine blk_drewN ?_ _ | refine blk_drew ?_ | refine blk_alloc ?_ _)); exact BK352.out) k_ hk⟩))
                        (case aO => exact (by (with_reducible repeat (first | apply Kd.R_alloc | apply Kd.R_drewN | apply Kd.R_drew)); exact HO362.out))
                        (case aS => exact (below_size (by repeat (first | (with_reducible first | exact HB.out | apply below_alloc | apply pw_below_drewN | apply below_drew1 | refine below_set ?_ GE352.out) | exact HB.out))))
                        (case aL => have := LMc27.out; omega)
                        intro v368 w39 ho hb hg hat
                        rw [← Ny367.out] at ho
                        have n0_ := Aside0.mk (Kd.R_after (ok := (fun k_ => k_ ≠ gb352)) (by (with_reducible repeat (first | apply Kd.R_alloc | apply Kd.R_drewN | apply Kd.R_drew)); exact HO_0.out) hg hat)
                        have n1_ := Aside0.mk (blk_grown (g := gb352) (o := .cells #[.string ((rd_T55 t345 (ji18)).f0), .string ((rd_T55 t345 (ji18)).f1)] 55 (0, 0)) (by (with_reducible repeat (first | refine blk_drewN ?_ _ | refine blk_drew ?_ | refine blk_alloc ?_ _)); exact BK352.out) hg (Kd.R_away HO362.out (fun _ hk => hk.2)))
                        have n2_ := Aside0.mk (hb)
                        have n3_ := Aside0.mk ((show Kd.C k55 w39 (some ad351) y356.length y356 from by rw [Ny356.out]; exact Kd.C_take (m := ((ji18) : Int).toNat) ((Kd.R_reads' (Kd.R_after (ok := (fun k_ => k_ ≠ gb352)) (by (with_reducible repeat (first | apply Kd.R_alloc | apply Kd.R_drewN | apply Kd.R_drew)); exact HO_0.out) hg hat)).2.2) KL34.out))
                        have n4_ := Aside0.mk ((show Kd.C k55 w39 A35 y363.length y363 from by rw [Ny363.out, KA35.out]; exact Kd.C_drop (m := ((ji24) : Int).toNat) (c := co29) ((Kd.R_reads' (Kd.R_after (ok := (fun k_ => k_ ≠ gb352)) (by (with_reducible repeat (first | apply Kd.R_alloc | apply Kd.R_drewN | apply Kd.R_drew)); exact HO_0.out) hg hat)).2.2) KL35.out ((Kd.R_reads' (Kd.R_after (ok := (fun k_ => k_ ≠ gb352)) (by (with_reducible repeat (first | apply Kd.R_alloc | apply Kd.R_drewN | apply Kd.R_drew)); exact HO_0.out) hg hat)).2.1)))
                        have n5_ := Aside0.mk (ho)
                        clear HO_0
                        clear BK352
                        clear HB
                        clear HR359
                        clear HR366
                        clear HO362
                        have HO_0 := n0_
                        have BK352 := n1_
                        have HB := n2_
                        have HR359 := n3_
                        have HR366 := n4_
                        have HO369 := n5_
                        clear n0_ n1_ n2_ n3_ n4_ n5_
                        clear ho hb hg hat
                        refine hK.out _ _ trivial (fun hHeld => ?_)
                        clear hK K
                        refine norm_ (a' := ?_) ?_ ?_
                        rotate_left
                        · show Act.put _ (some 41) _ = _
                          simp only [Act.put, List.setIfInBounds_toArray, List.set_cons_zero, List.set_cons_succ, i64_w, i32_w]
                          rfl
                        refine pure_ (i := 10) (N := some 9) (v := ?_) (a' := ?_) #[true, true, true, true, true, true, true, true, true, true, true] rfl rfl (any_of HT_.out (by kernel_rfl)) (fun _ _ _ h => h) (Or.inl ⟨by rfl, ?_⟩) ?_ ?_
                        rotate_left
                        · intro w'
                          go_simp
                          with_reducible rfl
                        rotate_left
                        · simp only [Act.put, List.setIfInBounds_toArray, List.set_cons_zero, List.set_cons_succ, i64_w, i32_w]
                          rfl
                        refine done_ (done_of HT_.out (by kernel_rfl)) ?_
                        go_upto_region 7 with (fail)
                        go_cut [48] (fun v48 wc => ∃ (kq : Nat) (x48_27 : Bool), v48 = .bool x48_27 ∧ Aside0 (tolllaw08_LabelOne.j1 kq t345 t348 y367 x48_27 ((rd_T55 t345 (ji18)).f0) ((rd_T55 t345 (ji18)).f1) = some true) ∧ Aside0 (kq ≤ kj5) ∧ Aside0 (Kd.R k55 55 wc w.heap.size (fun k_ => some k_ ≠ (v368 : Value).ownBlock ∧ k_ ≠ gb352) (.slice (some ad351) t345.length co29) t345) ∧ Aside0 (Kd.R k55 55 wc w.heap.size (fun k_ => some k_ ≠ ((.slice (some ad351) t345.length co29) : Value).ownBlock ∧ k_ ≠ gb352) v368 y367) ∧ Aside0 (wc.heap[gb352]? = some (.cells #[.string ((rd_T55 t345 (ji18)).f0), .string ((rd_T55 t345 (ji18)).f1)] 55 (0, 0))) ∧ Aside0 (Kd.C k55 wc (some ad351) y356.length y356) ∧ Aside0 (Kd.C k55 wc A35 y363.length y363) ∧ Aside0 (Below w.heap.size w wc))
                        case first =>
                          have H := HC28.out
                          clear HC28
                          by_cases c40 : t348.toList = ([] : List UInt8)
                          · rw [if_pos c40] at H
                            have c40b0 : (t348.toList == ([] : List UInt8)) = true := beq_iff_eq.mpr c40
                            have c40b1 : (t348.toList != ([] : List UInt8)) = false := bne_eq_false_iff_eq.mpr c40
                            clear c40
                            (first | rw [c40b0] | (simp only [i64_w, i32_w]; rw [c40b0]) | skip)
                            have H' := Aside0.mk H
                            clear H
                            go_wp2
                            go_meet
                            case rel => exact ⟨_, (false), (by first | rfl | (simp; done) | (simp [*]; done)), H', ⟨by have := HJ5.out; first | omega | exact Nat.le_refl _⟩, ⟨by (with_reducible repeat (first | apply Kd.R_alloc | apply Kd.R_drewN | apply Kd.R_drew)); exact Kd.R_mono HO_0.out (fun _ hk => ⟨hk.2, hk.1⟩)⟩, ⟨by (with_reducible repeat (first | apply Kd.R_alloc | apply Kd.R_drewN | apply Kd.R_drew)); exact HO369.out⟩, ⟨by (with_reducible repeat (first | refine blk_drewN ?_ _ | refine blk_drew ?_ | refine blk_alloc ?_ _)); exact BK352.out⟩, ⟨by repeat (first | (with_reducible exact HR359.out) | (with_reducible refine Kd.C_alloc ?_ _) | (with_reducible refine Kd.C_drewN ?_ _) | (with_reducible refine Kd.C_drew ?_) | exact HR359.out)⟩, ⟨by repeat (first | (with_reducible exact HR366.out) | (with_reducible refine Kd.C_alloc ?_ _) | (with_reducible refine Kd.C_drewN ?_ _) | (with_reducible refine Kd.C_drew ?_) | exact HR366.out)⟩, ⟨by repeat (first | (with_reducible first | exact HB.out | apply below_alloc | apply pw_below_drewN | apply below_drew1 | refine below_set ?_ GE352.out) | exact HB.out)⟩⟩
                          · rw [if_neg c40] at H
                            have c40b0 : (t348.toList == ([] : List UInt8)) = false := beq_eq_false_iff_ne.mpr c40
                            have c40b1 : (t348.toList != ([] : List UInt8)) = true := bne_iff_ne.mpr c40
                            (first | rw [c40b0] | (simp only [i64_w, i32_w]; rw [c40b0]) | skip)
                            replace H := Option.bind_eq_some_iff.mp H
                            obtain ⟨t370, A410, H⟩ := H
                            replace H : (tolllaw08_LabelOne.j1 kj5 t345 t348 y367 (!t370) ((rd_T55 t345 (ji18)).f0) ((rd_T55 t345 (ji18)).f1)) = some true := H
                            have A41 := Aside0.mk A410
                            clear A410
                            have H' := Aside0.mk H
                            clear H
                            go_wp2_with (first | (go_at_call 47; (with_reducible refine (tollref01_Label.calls kj5 t348 t370 _ A41.out).mono ?_); rintro e w' ⟨rfl, ⟨nd, rfl⟩⟩))
                            go_meet
                            case rel => exact ⟨_, (!t370), (by first | rfl | (simp; done) | (simp [*]; done)), H', ⟨by have := HJ5.out; first | omega | exact Nat.le_refl _⟩, ⟨by (with_reducible repeat (first | apply Kd.R_alloc | apply Kd.R_drewN | apply Kd.R_drew)); exact Kd.R_mono HO_0.out (fun _ hk => ⟨hk.2, hk.1⟩)⟩, ⟨by (with_reducible repeat (first | apply Kd.R_alloc | apply Kd.R_drewN | apply Kd.R_drew)); exact HO369.out⟩, ⟨by (with_reducible repeat (first | refine blk_drewN ?_ _ | refine blk_drew ?_ | refine blk_alloc ?_ _)); exact BK352.out⟩, ⟨by repeat (first | (with_reducible exact HR359.out) | (with_reducible refine Kd.C_alloc ?_ _) | (with_reducible refine Kd.C_drewN ?_ _) | (with_reducible refine Kd.C_drew ?_) | exact HR359.out)⟩, ⟨by repeat (first | (with_reducible exact HR366.out) | (with_reducible refine Kd.C_alloc ?_ _) | (with_reducible refine Kd.C_drewN ?_ _) | (with_reducible refine Kd.C_drew ?_) | exact HR366.out)⟩, ⟨by repeat (first | (with_reducible first | exact HB.out | apply below_alloc | apply pw_below_drewN | apply below_drew1 | refine below_set ?_ GE352.out) | exact HB.out)⟩⟩
                        case rest =>
                          clear HC28
                          try clear c1
                          try clear c2
                          try clear p2
                          try clear c3
                          try clear p3
                          try clear q3
                          try clear hx3
                          try clear c4
                          try clear c5
                          try clear p6
                          try clear c9
                          try clear c11
                          try clear c14
                          try clear c17
                          try clear c17b0
                          try clear c17b1
                          try clear c17b2
                          try clear c19
                          try clear c19b0
                          try clear c20
                          try clear c20b0
                          try clear c21
                          try clear c21b0
                          try clear c22
                          try clear c22b0
                          try clear c22b1
                          try clear c23
                          try clear c25
                          try clear c25b0
                          try clear c25b1
                          try clear c26
                          try clear c26b0
                          try clear c26b1
                          try clear c27
                          try clear c30
                          try clear q34
                          try clear c35
                          try clear p35
                          try clear q35
                          try clear hx35
                          try clear c40
                          try clear c40b0
                          try clear c40b1
                          try clear hcz31_0
                          try clear hcz31_1
                          try clear hfz31_0
                          try clear hfz31_1
                          try clear hx351_0
                          try clear hx351_1
                          try clear p2
                          try clear p351
                          try clear q035
                          try clear q34
                          try clear q35
                          try clear q351
                          obtain ⟨kq, x48_27, rfl, HA, HJ27, HO_0, HO_9, BK352, HR359, HR366, HB⟩ := hcut
                          cases kq with
                          | zero => exact absurd HA.out (by simp [tolllaw08_LabelOne.j1])
                          | succ kj27 =>
                            have H := HA.out
                            clear HA
                            simp only [tolllaw08_LabelOne.j1] at H
                            have HC42 := Aside0.mk H
                            clear H
                            go_upto_if 48 with (fail)
                            go_cut [2] (fun v2 wc => ∃ (kq : Nat) (x2_41 : ByteArray), v2 = .string x2_41 ∧ Aside0 (tolllaw08_LabelOne.j2 kq t345 x2_41 y367 ((rd_T55 t345 (ji18)).f0) ((rd_T55 t345 (ji18)).f1) = some true) ∧ Aside0 (kq ≤ kj27) ∧ Aside0 (Kd.R k55 55 wc w.heap.size (fun k_ => some k_ ≠ (v368 : Value).ownBlock ∧ k_ ≠ gb352) (.slice (some ad351) t345.length co29) t345) ∧ Aside0 (Kd.R k55 55 wc w.heap.size (fun k_ => some k_ ≠ ((.slice (some ad351) t345.length co29) : Value).ownBlock ∧ k_ ≠ gb352) v368 y367) ∧ Aside0 (wc.heap[gb352]? = some (.cells #[.string ((rd_T55 t345 (ji18)).f0), .string ((rd_T55 t345 (ji18)).f1)] 55 (0, 0))) ∧ Aside0 (Kd.C k55 wc (some ad351) y356.length y356) ∧ Aside0 (Kd.C k55 wc A35 y363.length y363) ∧ Aside0 (Below w.heap.size w wc))
                            case first =>
                              have H := HC42.out
                              clear HC42
                              by_cases c43 : x48_27 = true
                              · subst c43
                                have H1 : (tolllaw08_LabelOne.j2 kj27 t345 (⟨#[]⟩ : ByteArray) y367 ((rd_T55 t345 (ji18)).f0) ((rd_T55 t345 (ji18)).f1)) = some true := by rw [if_pos rfl] at H; exact H
                                clear H
                                have H := H1
                                clear H1
                                have H' := Aside0.mk H
                                clear H
                                go_wp2
                                go_meet
                                case rel => exact ⟨_, ((⟨#[]⟩ : ByteArray)), (by first | rfl | (simp; done) | (simp [*]; done)), H', ⟨by have := HJ5.out; have := HJ27.out; first | omega | exact Nat.le_refl _⟩, ⟨by (with_reducible repeat (first | apply Kd.R_alloc | apply Kd.R_drewN | apply Kd.R_drew)); exact HO_0.out⟩, ⟨by (with_reducible repeat (first | apply Kd.R_alloc | apply Kd.R_drewN | apply Kd.R_drew)); exact HO_9.out⟩, ⟨by (with_reducible repeat (first | refine blk_drewN ?_ _ | refine blk_drew ?_ | refine blk_alloc ?_ _)); exact BK352.out⟩, ⟨by repeat (first | (with_reducible exact HR359.out) | (with_reducible refine Kd.C_alloc ?_ _) | (with_reducible refine Kd.C_drewN ?_ _) | (with_reducible refine Kd.C_drew ?_) | exact HR359.out)⟩, ⟨by repeat (first | (with_reducible exact HR366.out) | (with_reducible refine Kd.C_alloc ?_ _) | (with_reducible refine Kd.C_drewN ?_ _) | (with_reducible refine Kd.C_drew ?_) | exact HR366.out)⟩, ⟨by repeat (first | (with_reducible first | exact HB.out | apply below_alloc | apply pw_below_drewN | apply below_drew1 | refine below_set ?_ GE352.out) | exact HB.out)⟩⟩
                              · replace c43 := Bool.eq_false_iff.mpr c43
                                subst c43
                                have H1 : (tolllaw08_LabelOne.j2 kj27 t345 t348 y367 ((rd_T55 t345 (ji18)).f0) ((rd_T55 t345 (ji18)).f1)) = some true := by rw [if_neg (show ¬ (false = true) by decide)] at H; exact H
                                clear H
                                have H := H1
                                clear H1
                                have H' := Aside0.mk H
                                clear H
                                go_wp2
                                go_meet
                                case rel => exact ⟨_, (t348), (by first | rfl | (simp; done) | (simp [*]; done)), H', ⟨by have := HJ5.out; have := HJ27.out; first | omega | exact Nat.le_refl _⟩, ⟨by (with_reducible repeat (first | apply Kd.R_alloc | apply Kd.R_drewN | apply Kd.R_drew)); exact HO_0.out⟩, ⟨by (with_reducible repeat (first | apply Kd.R_alloc | apply Kd.R_drewN | apply Kd.R_drew)); exact HO_9.out⟩, ⟨by (with_reducible repeat (first | refine blk_drewN ?_ _ | refine blk_drew ?_ | refine blk_alloc ?_ _)); exact BK352.out⟩, ⟨by repeat (first | (with_reducible exact HR359.out) | (with_reducible refine Kd.C_alloc ?_ _) | (with_reducible refine Kd.C_drewN ?_ _) | (with_reducible refine Kd.C_drew ?_) | exact HR359.out)⟩, ⟨by repeat (first | (with_reducible exact HR366.out) | (with_reducible refine Kd.C_alloc ?_ _) | (with_reducible refine Kd.C_drewN ?_ _) | (with_reducible refine Kd.C_drew ?_) | exact HR366.out)⟩, ⟨by repeat (first | (with_reducible first | exact HB.out | apply below_alloc | apply pw_below_drewN | apply below_drew1 | refine below_set ?_ GE352.out) | exact HB.out)⟩⟩
                            case rest =>
                              clear HC42
                              try clear c1
                              try clear c2
                              try clear p2
                              try clear c3
                              try clear p3
                              try clear q3
                              try clear hx3
                              try clear c4
                              try clear c5
                              try clear p6
                              try clear c9
                              try clear c11
                              try clear c14
                              try clear c17
                              try clear c17b0
                              try clear c17b1
                              try clear c17b2
                              try clear c19
                              try clear c19b0
                              try clear c20
                              try clear c20b0
                              try clear c21
                              try clear c21b0
                              try clear c22
                              try clear c22b0
                              try clear c22b1
                              try clear c23
                              try clear c25
                              try clear c25b0
                              try clear c25b1
                              try clear c26
                              try clear c26b0
                              try clear c26b1
                              try clear c27
                              try clear c30
                              try clear q34
                              try clear c35
                              try clear p35
                              try clear q35
                              try clear hx35
                              try clear c40
                              try clear c40b0
                              try clear c40b1
                              try clear c43
                              try clear hcz31_0
                              try clear hcz31_1
                              try clear hfz31_0
                              try clear hfz31_1
                              try clear hx351_0
                              try clear hx351_1
                              try clear p2
                              try clear p3
                              try clear p35
                              try clear p351
                              try clear p6
                              try clear q035
                              try clear q3
                              try clear q34
                              try clear q35
                              try clear q351
                              obtain ⟨kq, x2_41, rfl, HA, HJ41, HO_0, HO_9, BK352, HR359, HR366, HB⟩ := hcut
                              cases kq with
                              | zero => exact absurd HA.out (by simp [tolllaw08_LabelOne.j2])
                              | succ kj41 =>
                                have H := HA.out
                                clear HA
                                simp only [tolllaw08_LabelOne.j2] at H
                                replace H := Option.bind_eq_some_iff.mp H
                                obtain ⟨t371, A440, H⟩ := H
                                replace H : (if t371 = true then ((label_Met.f 1 ((rd_T55 t345 (ji18)).f0) (([x2_41, ((rd_T55 t345 (ji18)).f1)] : List ByteArray)) t345).bind fun t375 => (if t375 = true then ((label_Met.f 4 ((rd_T55 t345 (ji18)).f0) ([] : List ByteArray) y367).bind fun t376 => (if t376 = true then ((label_Met.f 2 ((rd_T55 t345 (ji18)).f0) (([((rd_T55 t345 (ji18)).f1)] : List ByteArray)) y367).bind fun t380 => (if t380 = true then ((label_May.f kj41 y367).bind fun t381 => (if t381 = true then ((tolllaw08_awake.f).bind fun t382 => (some t382)) else (some false))) else (some false))) else (some false))) else (some false))) else (some false)) = some true := H
                                have A44 := Aside0.mk A440
                                clear A440
                                by_cases c45 : t371 = true
                                · subst c45
                                  have H1 : ((label_Met.f 1 ((rd_T55 t345 (ji18)).f0) (([x2_41, ((rd_T55 t345 (ji18)).f1)] : List ByteArray)) t345).bind fun t375 => (if t375 = true then ((label_Met.f 4 ((rd_T55 t345 (ji18)).f0) ([] : List ByteArray) y367).bind fun t376 => (if t376 = true then ((label_Met.f 2 ((rd_T55 t345 (ji18)).f0) (([((rd_T55 t345 (ji18)).f1)] : List ByteArray)) y367).bind fun t380 => (if t380 = true then ((label_May.f kj41 y367).bind fun t381 => (if t381 = true then ((tolllaw08_awake.f).bind fun t382 => (some t382)) else (some false))) else (some false))) else (some false))) else (some false))) = some true := by rw [if_pos rfl] at H; exact H
                                  clear H
                                  have H := H1
                                  clear H1
                                  obtain ⟨y372, hy372⟩ : ∃ y_ : List ByteArray, y_ = (([x2_41, ((rd_T55 t345 (ji18)).f1)] : List ByteArray)) := ⟨_, rfl⟩
                                  replace H : ((label_Met.f 1 ((rd_T55 t345 (ji18)).f0) y372 t345).bind fun t375 => (if t375 = true then ((label_Met.f 4 ((rd_T55 t345 (ji18)).f0) ([] : List ByteArray) y367).bind fun t376 => (if t376 = true then ((label_Met.f 2 ((rd_T55 t345 (ji18)).f0) (([((rd_T55 t345 (ji18)).f1)] : List ByteArray)) y367).bind fun t380 => (if t380 = true then ((label_May.f kj41 y367).bind fun t381 => (if t381 = true then ((tolllaw08_awake.f).bind fun t382 => (some t382)) else (some false))) else (some false))) else (some false))) else (some false))) = some true := by first | (rw [hy372]; with_reducible exact H) | (have H2_ := (Option.bind_some _ _).symm.trans H; rw [hy372]; with_reducible exact H2_) | (have H2_ := (Option.bind_some _ _).symm.trans H; with_reducible exact H2_) | with_reducible exact H | (rw [hy372]; exact H) | exact H
                                  have Ny372 := Aside0.mk hy372
                                  clear hy372
                                  replace H := Option.bind_eq_some_iff.mp H
                                  obtain ⟨t375, A460, H⟩ := H
                                  replace H : (if t375 = true then ((label_Met.f 4 ((rd_T55 t345 (ji18)).f0) ([] : List ByteArray) y367).bind fun t376 => (if t376 = true then ((label_Met.f 2 ((rd_T55 t345 (ji18)).f0) (([((rd_T55 t345 (ji18)).f1)] : List ByteArray)) y367).bind fun t380 => (if t380 = true then ((label_May.f kj41 y367).bind fun t381 => (if t381 = true then ((tolllaw08_awake.f).bind fun t382 => (some t382)) else (some false))) else (some false))) else (some false))) else (some false)) = some true := H
                                  have A46 := Aside0.mk A460
                                  clear A460
                                  by_cases c47 : t375 = true
                                  · subst c47
                                    have H1 : ((label_Met.f 4 ((rd_T55 t345 (ji18)).f0) ([] : List ByteArray) y367).bind fun t376 => (if t376 = true then ((label_Met.f 2 ((rd_T55 t345 (ji18)).f0) (([((rd_T55 t345 (ji18)).f1)] : List ByteArray)) y367).bind fun t380 => (if t380 = true then ((label_May.f kj41 y367).bind fun t381 => (if t381 = true then ((tolllaw08_awake.f).bind fun t382 => (some t382)) else (some false))) else (some false))) else (some false))) = some true := by rw [if_pos rfl] at H; exact H
                                    clear H
                                    have H := H1
                                    clear H1
                                    replace H := Option.bind_eq_some_iff.mp H
                                    obtain ⟨t376, A480, H⟩ := H
                                    replace H : (if t376 = true then ((label_Met.f 2 ((rd_T55 t345 (ji18)).f0) (([((rd_T55 t345 (ji18)).f1)] : List ByteArray)) y367).bind fun t380 => (if t380 = true then ((label_May.f kj41 y367).bind fun t381 => (if t381 = true then ((tolllaw08_awake.f).bind fun t382 => (some t382)) else (some false))) else (some false))) else (some false)) = some true := H
                                    have A48 := Aside0.mk A480
                                    clear A480
                                    by_cases c49 : t376 = true
                                    · subst c49
                                      have H1 : ((label_Met.f 2 ((rd_T55 t345 (ji18)).f0) (([((rd_T55 t345 (ji18)).f1)] : List ByteArray)) y367).bind fun t380 => (if t380 = true then ((label_May.f kj41 y367).bind fun t381 => (if t381 = true then ((tolllaw08_awake.f).bind fun t382 => (some t382)) else (some false))) else (some false))) = some true := by rw [if_pos rfl] at H; exact H
                                      clear H
                                      have H := H1
                                      clear H1
                                      obtain ⟨y377, hy377⟩ : ∃ y_ : List ByteArray, y_ = (([((rd_T55 t345 (ji18)).f1)] : List ByteArray)) := ⟨_, rfl⟩
                                      replace H : ((label_Met.f 2 ((rd_T55 t345 (ji18)).f0) y377 y367).bind fun t380 => (if t380 = true then ((label_May.f kj41 y367).bind fun t381 => (if t381 = true then ((tolllaw08_awake.f).bind fun t382 => (some t382)) else (some false))) else (some false))) = some true := by first | (rw [hy377]; with_reducible exact H) | (have H2_ := (Option.bind_some _ _).symm.trans H; rw [hy377]; with_reducible exact H2_) | (have H2_ := (Option.bind_some _ _).symm.trans H; with_reducible exact H2_) | with_reducible exact H | (rw [hy377]; exact H) | exact H
                                      have Ny377 := Aside0.mk hy377
                                      clear hy377
                                      replace H := Option.bind_eq_some_iff.mp H
                                      obtain ⟨t380, A500, H⟩ := H
                                      replace H : (if t380 = true then ((label_May.f kj41 y367).bind fun t381 => (if t381 = true then ((tolllaw08_awake.f).bind fun t382 => (some t382)) else (some false))) else (some false)) = some true := H
                                      have A50 := Aside0.mk A500
                                      clear A500
                                      by_cases c51 : t380 = true
                                      · subst c51
                                        have H1 : ((label_May.f kj41 y367).bind fun t381 => (if t381 = true then ((tolllaw08_awake.f).bind fun t382 => (some t382)) else (some false))) = some true := by rw [if_pos rfl] at H; exact H
                                        clear H
                                        have H := H1
                                        clear H1
                                        replace H := Option.bind_eq_some_iff.mp H
                                        obtain ⟨t381, A520, H⟩ := H
                                        replace H : (if t381 = true then ((tolllaw08_awake.f).bind fun t382 => (some t382)) else (some false)) = some true := H
                                        have A52 := Aside0.mk A520
                                        clear A520
                                        by_cases c53 : t381 = true
                                        · subst c53
                                          have H1 : ((tolllaw08_awake.f).bind fun t382 => (some t382)) = some true := by rw [if_pos rfl] at H; exact H
                                          clear H
                                          have H := H1
                                          clear H1
                                          replace H := Option.bind_eq_some_iff.mp H
                                          obtain ⟨t382, A540, H⟩ := H
                                          replace H : (some t382) = some true := H
                                          have A54 := Aside0.mk A540
                                          clear A540
                                          obtain rfl := Option.some.inj H
                                          have hcz55_0 : wc.cell? ⟨gb352, 0, none⟩ = some (.string ((rd_T55 t345 (ji18)).f0)) := (blk_cell BK352.out 0).trans rfl
                                          have hcz55_1 : wc.cell? ⟨gb352, 1, none⟩ = some (.string ((rd_T55 t345 (ji18)).f1)) := (blk_cell BK352.out 1).trans rfl
                                          have hfz55_0 := blk_frozen BK352.out 0
                                          have hfz55_1 := blk_frozen BK352.out 1
                                          go_wp2_with (first | ((with_reducible refine gate_callee (f := 54) rfl ?_); refine goesL_ (some 53) rfl rfl Tryd.func54 (by kernel_rfl) rfl #[.agg #[.int .i64 3, .string ((rd_T55 t345 (ji18)).f0), .slice none 0 0], .slice (some ad351) t345.length co29] rfl (by (try simp only [List.map_toArray, List.map_cons, List.map_nil]); first | done | (simp only [hji18]; rfl) | rfl | (simp only [List.length_drop, List.length_take]; rfl)) ?_; (refine (label_Met.calls 3 ((rd_T55 t345 (ji18)).f0) _ _ ([] : List ByteArray) _ _ t345 true _ ?side1 ?side2 ?side3 ?side4 A44.out).mono ?_); (case side1 => exact Kd.C_nil _ _); (case side2 => exact Nat.le_refl _); (case side3 => repeat (first | exact (Kd.R_reads' HO_0.out).2.2 | (with_reducible refine Kd.C_alloc ?_ _) | (with_reducible refine Kd.C_drewN ?_ _) | (with_reducible refine Kd.C_drew ?_))); (case side4 => exact (Kd.R_reads' HO_0.out).2.1); rintro e w56 ⟨rfl, hb⟩; refine ⟨_, rfl, ?_⟩; have n0_ := Aside0.mk (Kd.R_below (by (with_reducible repeat (first | apply Kd.R_alloc | apply Kd.R_drewN | apply Kd.R_drew)); exact HO_0.out) hb); have n1_ := Aside0.mk (Kd.R_below (by (with_reducible repeat (first | apply Kd.R_alloc | apply Kd.R_drewN | apply Kd.R_drew)); exact HO_9.out) hb); have n2_ := Aside0.mk (blk_below (g := gb352) (o := .cells #[.string ((rd_T55 t345 (ji18)).f0), .string ((rd_T55 t345 (ji18)).f1)] 55 (0, 0)) (by (with_reducible repeat (first | refine blk_drewN ?_ _ | refine blk_drew ?_ | refine blk_alloc ?_ _)); exact BK352.out) hb); have n3_ := Aside0.mk (Kd.C_below (by repeat (first | (with_reducible exact HR359.out) | (with_reducible refine Kd.C_alloc ?_ _) | (with_reducible refine Kd.C_drewN ?_ _) | (with_reducible refine Kd.C_drew ?_) | exact HR359.out)) hb); have n4_ := Aside0.mk (Kd.C_below (by repeat (first | (with_reducible exact HR366.out) | (with_reducible refine Kd.C_alloc ?_ _) | (with_reducible refine Kd.C_drewN ?_ _) | (with_reducible refine Kd.C_drew ?_) | exact HR366.out)) hb); have n5_ := Aside0.mk (below_step (by repeat (first | (with_reducible first | exact HB.out | apply below_alloc | apply pw_below_drewN | apply below_drew1 | refine below_set ?_ GE352.out) | exact HB.out)) hb); clear HO_0; clear HO_9; clear BK352; clear HR359; clear HR366; clear HB; have HO_0 := n0_; have HO_9 := n1_; have BK352 := n2_; have HR359 := n3_; have HR366 := n4_; have HB := n5_; clear n0_ n1_ n2_ n3_ n4_ n5_; (try clear hb); (try clear hb2); (try clear hk); (try clear hi); have hcz57_0 : w56.cell? ⟨gb352, 0, none⟩ = some (.string ((rd_T55 t345 (ji18)).f0)) := (blk_cell BK352.out 0).trans rfl; have hcz57_1 : w56.cell? ⟨gb352, 1, none⟩ = some (.string ((rd_T55 t345 (ji18)).f1)) := (blk_cell BK352.out 1).trans rfl; have hfz57_0 := blk_frozen BK352.out 0; have hfz57_1 := blk_frozen BK352.out 1) | ((with_reducible refine gate_dst (N := 60) rfl ?_); (try (refine gate_guard (by rfl) ?_; dsimp only)); refine Kd.R_lit Kd.string _ 9 ?hg (N := 60) ?hd (xs := ([x2_41, ((rd_T55 t345 (ji18)).f1)] : List ByteArray)) (inner := [.string x2_41, .string ((rd_T55 t345 (ji18)).f1)]) (ok := fun _ => True) (okp := fun _ => True) ?hr ?hp (fun _ hk => hk) trivial (Below.refl _ _) (Nat.le_refl _) (by simp) ?_; (case hd => rfl); (case hg => rfl); (case hr => first | (go_simp; done) | (go_simp; rfl)); (case hp => exact (Reps.one (show Kd.M Kd.string _ _ _ x2_41 [.string x2_41] from rfl) (Reps.one (show Kd.M Kd.string _ _ _ ((rd_T55 t345 (ji18)).f1) [.string ((rd_T55 t345 (ji18)).f1)] from rfl) (Reps.none _ _)))); intro v373 w58 ho59 hb hg_ hnew_; clear hg_ hnew_; (first | rw [← Ny372.out] at ho59 | (simp only [Int.reduceToNat] at ho59; rw [← Ny372.out] at ho59)); have n0_ := Aside0.mk (Kd.R_below (by (with_reducible repeat (first | apply Kd.R_alloc | apply Kd.R_drewN | apply Kd.R_drew)); exact HO_0.out) hb); have n1_ := Aside0.mk (Kd.R_below (by (with_reducible repeat (first | apply Kd.R_alloc | apply Kd.R_drewN | apply Kd.R_drew)); exact HO_9.out) hb); have n2_ := Aside0.mk (Kd.R_lower ho59 (below_size (by repeat (first | (with_reducible first | exact HB.out | apply below_alloc | apply pw_below_drewN | apply below_drew1 | refine below_set ?_ GE352.out) | exact HB.out)))); have n3_ := Aside0.mk (blk_below (g := gb352) (o := .cells #[.string ((rd_T55 t345 (ji18)).f0), .string ((rd_T55 t345 (ji18)).f1)] 55 (0, 0)) (by (with_reducible repeat (first | refine blk_drewN ?_ _ | refine blk_drew ?_ | refine blk_alloc ?_ _)); exact BK352.out) hb); have n4_ := Aside0.mk (Kd.C_below (by repeat (first | (with_reducible exact HR359.out) | (with_reducible refine Kd.C_alloc ?_ _) | (with_reducible refine Kd.C_drewN ?_ _) | (with_reducible refine Kd.C_drew ?_) | exact HR359.out)) hb); have n5_ := Aside0.mk (Kd.C_below (by repeat (first | (with_reducible exact HR366.out) | (with_reducible refine Kd.C_alloc ?_ _) | (with_reducible refine Kd.C_drewN ?_ _) | (with_reducible refine Kd.C_drew ?_) | exact HR366.out)) hb); have n6_ := Aside0.mk (below_step (by repeat (first | (with_reducible first | exact HB.out | apply below_alloc | apply pw_below_drewN | apply below_drew1 | refine below_set ?_ GE352.out) | exact HB.out)) hb); clear HO_0; clear HO_9; clear BK352; clear HR359; clear HR366; clear HB; have HO_0 := n0_; have HO_9 := n1_; have HO374 := n2_; have BK352 := n3_; have HR359 := n4_; have HR366 := n5_; have HB := n6_; clear n0_ n1_ n2_ n3_ n4_ n5_ n6_; clear hb ho59; obtain ⟨Ao60, co60, eo60⟩ := Kd.R_slice HO374.out; subst eo60) | (go_at_call 54; (with_reducible refine (label_Met.calls 1 ((rd_T55 t345 (ji18)).f0) _ _ y372 _ _ t345 true _ ?side1 ?side2 ?side3 ?side4 A46.out).mono ?_); (case side1 => repeat (first | exact (Kd.R_reads' HO374.out).2.2 | (with_reducible refine Kd.C_alloc ?_ _) | (with_reducible refine Kd.C_drewN ?_ _) | (with_reducible refine Kd.C_drew ?_))); (case side2 => exact (Kd.R_reads' HO374.out).2.1); (case side3 => repeat (first | exact (Kd.R_reads' HO_0.out).2.2 | (with_reducible refine Kd.C_alloc ?_ _) | (with_reducible refine Kd.C_drewN ?_ _) | (with_reducible refine Kd.C_drew ?_))); (case side4 => exact (Kd.R_reads' HO_0.out).2.1); rintro e w61 ⟨rfl, hb⟩; have n0_ := Aside0.mk (Kd.R_below (by (with_reducible repeat (first | apply Kd.R_alloc | apply Kd.R_drewN | apply Kd.R_drew)); exact HO_0.out) hb); have n1_ := Aside0.mk (Kd.R_below (by (with_reducible repeat (first | apply Kd.R_alloc | apply Kd.R_drewN | apply Kd.R_drew)); exact HO_9.out) hb); have n2_ := Aside0.mk (Kd.R_below (by (with_reducible repeat (first | apply Kd.R_alloc | apply Kd.R_drewN | apply Kd.R_drew)); exact HO374.out) hb); have n3_ := Aside0.mk (blk_below (g := gb352) (o := .cells #[.string ((rd_T55 t345 (ji18)).f0), .string ((rd_T55 t345 (ji18)).f1)] 55 (0, 0)) (by (with_reducible repeat (first | refine blk_drewN ?_ _ | refine blk_drew ?_ | refine blk_alloc ?_ _)); exact BK352.out) hb); have n4_ := Aside0.mk (Kd.C_below (by repeat (first | (with_reducible exact HR359.out) | (with_reducible refine Kd.C_alloc ?_ _) | (with_reducible refine Kd.C_drewN ?_ _) | (with_reducible refine Kd.C_drew ?_) | exact HR359.out)) hb); have n5_ := Aside0.mk (Kd.C_below (by repeat (first | (with_reducible exact HR366.out) | (with_reducible refine Kd.C_alloc ?_ _) | (with_reducible refine Kd.C_drewN ?_ _) | (with_reducible refine Kd.C_drew ?_) | exact HR366.out)) hb); have n6_ := Aside0.mk (below_step (by repeat (first | (with_reducible first | exact HB.out | apply below_alloc | apply pw_below_drewN | apply below_drew1 | refine below_set ?_ GE352.out) | exact HB.out)) hb); clear HO_0; clear HO_9; clear HO374; clear BK352; clear HR359; clear HR366; clear HB; have HO_0 := n0_; have HO_9 := n1_; have HO374 := n2_; have BK352 := n3_; have HR359 := n4_; have HR366 := n5_; have HB := n6_; clear n0_ n1_ n2_ n3_ n4_ n5_ n6_; (try clear hb); (try clear hb2); (try clear hk); (try clear hi); have hcz62_0 : w61.cell? ⟨gb352, 0, none⟩ = some (.string ((rd_T55 t345 (ji18)).f0)) := (blk_cell BK352.out 0).trans rfl; have hcz62_1 : w61.cell? ⟨gb352, 1, none⟩ = some (.string ((rd_T55 t345 (ji18)).f1)) := (blk_cell BK352.out 1).trans rfl; have hfz62_0 := blk_frozen BK352.out 0; have hfz62_1 := blk_frozen BK352.out 1; obtain ⟨Ao63, co63, eo63⟩ := Kd.R_slice HO_9.out; subst eo63) | (go_at_call 54; (with_reducible change Calls _ _ #[Value.agg #[Value.int .i64 4, _, _], _] _ _); (refine (label_Met.calls 4 ((rd_T55 t345 (ji18)).f0) _ _ ([] : List ByteArray) _ _ y367 true _ ?side1 ?side2 ?side3 ?side4 A48.out).mono ?_); (case side1 => exact Kd.C_nil _ _); (case side2 => exact Nat.le_refl _); (case side3 => repeat (first | exact (Kd.R_reads' HO_9.out).2.2 | (with_reducible refine Kd.C_alloc ?_ _) | (with_reducible refine Kd.C_drewN ?_ _) | (with_reducible refine Kd.C_drew ?_))); (case side4 => exact (Kd.R_reads' HO_9.out).2.1); rintro e w64 ⟨rfl, hb⟩; have n0_ := Aside0.mk (Kd.R_below (by (with_reducible repeat (first | apply Kd.R_alloc | apply Kd.R_drewN | apply Kd.R_drew)); exact HO_0.out) hb); have n1_ := Aside0.mk (Kd.R_below (by (with_reducible repeat (first | apply Kd.R_alloc | apply Kd.R_drewN | apply Kd.R_drew)); exact HO_9.out) hb); have n2_ := Aside0.mk (Kd.R_below (by (with_reducible repeat (first | apply Kd.R_alloc | apply Kd.R_drewN | apply Kd.R_drew)); exact HO374.out) hb); have n3_ := Aside0.mk (blk_below (g := gb352) (o := .cells #[.string ((rd_T55 t345 (ji18)).f0), .string ((rd_T55 t345 (ji18)).f1)] 55 (0, 0)) (by (with_reducible repeat (first | refine blk_drewN ?_ _ | refine blk_drew ?_ | refine blk_alloc ?_ _)); exact BK352.out) hb); have n4_ := Aside0.mk (Kd.C_below (by repeat (first | (with_reducible exact HR359.out) | (with_reducible refine Kd.C_alloc ?_ _) | (with_reducible refine Kd.C_drewN ?_ _) | (with_reducible refine Kd.C_drew ?_) | exact HR359.out)) hb); have n5_ := Aside0.mk (Kd.C_below (by repeat (first | (with_reducible exact HR366.out) | (with_reducible refine Kd.C_alloc ?_ _) | (with_reducible refine Kd.C_drewN ?_ _) | (with_reducible refine Kd.C_drew ?_) | exact HR366.out)) hb); have n6_ := Aside0.mk (below_step (by repeat (first | (with_reducible first | exact HB.out | apply below_alloc | apply pw_below_drewN | apply below_drew1 | refine below_set ?_ GE352.out) | exact HB.out)) hb); clear HO_0; clear HO_9; clear HO374; clear BK352; clear HR359; clear HR366; clear HB; have HO_0 := n0_; have HO_9 := n1_; have HO374 := n2_; have BK352 := n3_; have HR359 := n4_; have HR366 := n5_; have HB := n6_; clear n0_ n1_ n2_ n3_ n4_ n5_ n6_; (try clear hb); (try clear hb2); (try clear hk); (try clear hi); have hcz65_0 : w64.cell? ⟨gb352, 0, none⟩ = some (.string ((rd_T55 t345 (ji18)).f0)) := (blk_cell BK352.out 0).trans rfl; have hcz65_1 : w64.cell? ⟨gb352, 1, none⟩ = some (.string ((rd_T55 t345 (ji18)).f1)) := (blk_cell BK352.out 1).trans rfl; have hfz65_0 := blk_frozen BK352.out 0; have hfz65_1 := blk_frozen BK352.out 1) | ((with_reducible refine gate_dst (N := 77) rfl ?_); (try (refine gate_guard (by rfl) ?_; dsimp only)); refine Kd.R_lit Kd.string _ 9 ?hg (N := 77) ?hd (xs := ([((rd_T55 t345 (ji18)).f1)] : List ByteArray)) (inner := [.string ((rd_T55 t345 (ji18)).f1)]) (ok := fun _ => True) (okp := fun _ => True) ?hr ?hp (fun _ hk => hk) trivial (Below.refl _ _) (Nat.le_refl _) (by simp) ?_; (case hd => rfl); (case hg => rfl); (case hr => first | (go_simp; done) | (go_simp; rfl)); (case hp => exact (Reps.one (show Kd.M Kd.string _ _ _ ((rd_T55 t345 (ji18)).f1) [.string ((rd_T55 t345 (ji18)).f1)] from rfl) (Reps.none _ _))); intro v378 w66 ho67 hb hg_ hnew_; clear hg_ hnew_; (first | rw [← Ny377.out] at ho67 | (simp only [Int.reduceToNat] at ho67; rw [← Ny377.out] at ho67)); have n0_ := Aside0.mk (Kd.R_below (by (with_reducible repeat (first | apply Kd.R_alloc | apply Kd.R_drewN | apply Kd.R_drew)); exact HO_0.out) hb); have n1_ := Aside0.mk (Kd.R_below (by (with_reducible repeat (first | apply Kd.R_alloc | apply Kd.R_drewN | apply Kd.R_drew)); exact HO_9.out) hb); have n2_ := Aside0.mk (Kd.R_elder' (by (with_reducible repeat (first | apply Kd.R_alloc | apply Kd.R_drewN | apply Kd.R_drew)); exact HO374.out) (Kd.R_base ho67) hb); have n3_ := Aside0.mk (Kd.R_lower (Kd.R_new' ho67 (Kd.R_lt (by (with_reducible repeat (first | apply Kd.R_alloc | apply Kd.R_drewN | apply Kd.R_drew)); exact HO374.out))) (below_size (by repeat (first | (with_reducible first | exact HB.out | apply below_alloc | apply pw_below_drewN | apply below_drew1 | refine below_set ?_ GE352.out) | exact HB.out)))); have n4_ := Aside0.mk (blk_below (g := gb352) (o := .cells #[.string ((rd_T55 t345 (ji18)).f0), .string ((rd_T55 t345 (ji18)).f1)] 55 (0, 0)) (by (with_reducible repeat (first | refine blk_drewN ?_ _ | refine blk_drew ?_ | refine blk_alloc ?_ _)); exact BK352.out) hb); have n5_ := Aside0.mk (Kd.C_below (by repeat (first | (with_reducible exact HR359.out) | (with_reducible refine Kd.C_alloc ?_ _) | (with_reducible refine Kd.C_drewN ?_ _) | (with_reducible refine Kd.C_drew ?_) | exact HR359.out)) hb); have n6_ := Aside0.mk (Kd.C_below (by repeat (first | (with_reducible exact HR366.out) | (with_reducible refine Kd.C_alloc ?_ _) | (with_reducible refine Kd.C_drewN ?_ _) | (with_reducible refine Kd.C_drew ?_) | exact HR366.out)) hb); have n7_ := Aside0.mk (below_step (by repeat (first | (with_reducible first | exact HB.out | apply below_alloc | apply pw_below_drewN | apply below_drew1 | refine below_set ?_ GE352.out) | exact HB.out)) hb); clear HO_0; clear HO_9; clear HO374; clear BK352; clear HR359; clear HR366; clear HB; have HO_0 := n0_; have HO_9 := n1_; have HO374 := n2_; have HO379 := n3_; have BK352 := n4_; have HR359 := n5_; have HR366 := n6_; have HB := n7_; clear n0_ n1_ n2_ n3_ n4_ n5_ n6_ n7_; clear hb ho67; obtain ⟨Ao68, co68, eo68⟩ := Kd.R_slice HO379.out; subst eo68) | (go_at_call 54; (with_reducible refine (label_Met.calls 2 ((rd_T55 t345 (ji18)).f0) _ _ y377 _ _ y367 true _ ?side1 ?side2 ?side3 ?side4 A50.out).mono ?_); (case side1 => repeat (first | exact (Kd.R_reads' HO379.out).2.2 | (with_reducible refine Kd.C_alloc ?_ _) | (with_reducible refine Kd.C_drewN ?_ _) | (with_reducible refine Kd.C_drew ?_))); (case side2 => exact (Kd.R_reads' HO379.out).2.1); (case side3 => repeat (first | exact (Kd.R_reads' HO_9.out).2.2 | (with_reducible refine Kd.C_alloc ?_ _) | (with_reducible refine Kd.C_drewN ?_ _) | (with_reducible refine Kd.C_drew ?_))); (case side4 => exact (Kd.R_reads' HO_9.out).2.1); rintro e w69 ⟨rfl, hb⟩; have n0_ := Aside0.mk (Kd.R_below (by (with_reducible repeat (first | apply Kd.R_alloc | apply Kd.R_drewN | apply Kd.R_drew)); exact HO_0.out) hb); have n1_ := Aside0.mk (Kd.R_below (by (with_reducible repeat (first | apply Kd.R_alloc | apply Kd.R_drewN | apply Kd.R_drew)); exact HO_9.out) hb); have n2_ := Aside0.mk (Kd.R_below (by (with_reducible repeat (first | apply Kd.R_alloc | apply Kd.R_drewN | apply Kd.R_drew)); exact HO374.out) hb); have n3_ := Aside0.mk (Kd.R_below (by (with_reducible repeat (first | apply Kd.R_alloc | apply Kd.R_drewN | apply Kd.R_drew)); exact HO379.out) hb); have n4_ := Aside0.mk (blk_below (g := gb352) (o := .cells #[.string ((rd_T55 t345 (ji18)).f0), .string ((rd_T55 t345 (ji18)).f1)] 55 (0, 0)) (by (with_reducible repeat (first | refine blk_drewN ?_ _ | refine blk_drew ?_ | refine blk_alloc ?_ _)); exact BK352.out) hb); have n5_ := Aside0.mk (Kd.C_below (by repeat (first | (with_reducible exact HR359.out) | (with_reducible refine Kd.C_alloc ?_ _) | (with_reducible refine Kd.C_drewN ?_ _) | (with_reducible refine Kd.C_drew ?_) | exact HR359.out)) hb); have n6_ := Aside0.mk (Kd.C_below (by repeat (first | (with_reducible exact HR366.out) | (with_reducible refine Kd.C_alloc ?_ _) | (with_reducible refine Kd.C_drewN ?_ _) | (with_reducible refine Kd.C_drew ?_) | exact HR366.out)) hb); have n7_ := Aside0.mk (below_step (by repeat (first | (with_reducible first | exact HB.out | apply below_alloc | apply pw_below_drewN | apply below_drew1 | refine below_set ?_ GE352.out) | exact HB.out)) hb); clear HO_0; clear HO_9; clear HO374; clear HO379; clear BK352; clear HR359; clear HR366; clear HB; have HO_0 := n0_; have HO_9 := n1_; have HO374 := n2_; have HO379 := n3_; have BK352 := n4_; have HR359 := n5_; have HR366 := n6_; have HB := n7_; clear n0_ n1_ n2_ n3_ n4_ n5_ n6_ n7_; (try clear hb); (try clear hb2); (try clear hk); (try clear hi)) | (go_at_call 52; (with_reducible refine (label_May.calls kj41 _ _ y367 true _ ?side1 ?side2 A52.out).mono ?_); (case side1 => repeat (first | exact (Kd.R_reads' HO_9.out).2.2 | (with_reducible refine Kd.C_alloc ?_ _) | (with_reducible refine Kd.C_drewN ?_ _) | (with_reducible refine Kd.C_drew ?_))); (case side2 => exact (Kd.R_reads' HO_9.out).2.1); rintro e w70 ⟨rfl, hb⟩; have n0_ := Aside0.mk (Kd.R_below (by (with_reducible repeat (first | apply Kd.R_alloc | apply Kd.R_drewN | apply Kd.R_drew)); exact HO_0.out) hb); have n1_ := Aside0.mk (Kd.R_below (by (with_reducible repeat (first | apply Kd.R_alloc | apply Kd.R_drewN | apply Kd.R_drew)); exact HO_9.out) hb); have n2_ := Aside0.mk (Kd.R_below (by (with_reducible repeat (first | apply Kd.R_alloc | apply Kd.R_drewN | apply Kd.R_drew)); exact HO374.out) hb); have n3_ := Aside0.mk (Kd.R_below (by (with_reducible repeat (first | apply Kd.R_alloc | apply Kd.R_drewN | apply Kd.R_drew)); exact HO379.out) hb); have n4_ := Aside0.mk (blk_below (g := gb352) (o := .cells #[.string ((rd_T55 t345 (ji18)).f0), .string ((rd_T55 t345 (ji18)).f1)] 55 (0, 0)) (by (with_reducible repeat (first | refine blk_drewN ?_ _ | refine blk_drew ?_ | refine blk_alloc ?_ _)); exact BK352.out) hb); have n5_ := Aside0.mk (Kd.C_below (by repeat (first | (with_reducible exact HR359.out) | (with_reducible refine Kd.C_alloc ?_ _) | (with_reducible refine Kd.C_drewN ?_ _) | (with_reducible refine Kd.C_drew ?_) | exact HR359.out)) hb); have n6_ := Aside0.mk (Kd.C_below (by repeat (first | (with_reducible exact HR366.out) | (with_reducible refine Kd.C_alloc ?_ _) | (with_reducible refine Kd.C_drewN ?_ _) | (with_reducible refine Kd.C_drew ?_) | exact HR366.out)) hb); have n7_ := Aside0.mk (below_step (by repeat (first | (with_reducible first | exact HB.out | apply below_alloc | apply pw_below_drewN | apply below_drew1 | refine below_set ?_ GE352.out) | exact HB.out)) hb); clear HO_0; clear HO_9; clear HO374; clear HO379; clear BK352; clear HR359; clear HR366; clear HB; have HO_0 := n0_; have HO_9 := n1_; have HO374 := n2_; have HO379 := n3_; have BK352 := n4_; have HR359 := n5_; have HR366 := n6_; have HB := n7_; clear n0_ n1_ n2_ n3_ n4_ n5_ n6_ n7_; (try clear hb); (try clear hb2); (try clear hk); (try clear hi)) | (go_at_call 53; (with_reducible refine (tolllaw08_awake.calls  true _ A54.out).mono ?_); rintro e w71 ⟨rfl, hb⟩; have n0_ := Aside0.mk (Kd.R_below (by (with_reducible repeat (first | apply Kd.R_alloc | apply Kd.R_drewN | apply Kd.R_drew)); exact HO_0.out) hb); have n1_ := Aside0.mk (Kd.R_below (by (with_reducible repeat (first | apply Kd.R_alloc | apply Kd.R_drewN | apply Kd.R_drew)); exact HO_9.out) hb); have n2_ := Aside0.mk (Kd.R_below (by (with_reducible repeat (first | apply Kd.R_alloc | apply Kd.R_drewN | apply Kd.R_drew)); exact HO374.out) hb); have n3_ := Aside0.mk (Kd.R_below (by (with_reducible repeat (first | apply Kd.R_alloc | apply Kd.R_drewN | apply Kd.R_drew)); exact HO379.out) hb); have n4_ := Aside0.mk (blk_below (g := gb352) (o := .cells #[.string ((rd_T55 t345 (ji18)).f0), .string ((rd_T55 t345 (ji18)).f1)] 55 (0, 0)) (by (with_reducible repeat (first | refine blk_drewN ?_ _ | refine blk_drew ?_ | refine blk_alloc ?_ _)); exact BK352.out) hb); have n5_ := Aside0.mk (Kd.C_below (by repeat (first | (with_reducible exact HR359.out) | (with_reducible refine Kd.C_alloc ?_ _) | (with_reducible refine Kd.C_drewN ?_ _) | (with_reducible refine Kd.C_drew ?_) | exact HR359.out)) hb); have n6_ := Aside0.mk (Kd.C_below (by repeat (first | (with_reducible exact HR366.out) | (with_reducible refine Kd.C_alloc ?_ _) | (with_reducible refine Kd.C_drewN ?_ _) | (with_reducible refine Kd.C_drew ?_) | exact HR366.out)) hb); have n7_ := Aside0.mk (below_step (by repeat (first | (with_reducible first | exact HB.out | apply below_alloc | apply pw_below_drewN | apply below_drew1 | refine below_set ?_ GE352.out) | exact HB.out)) hb); clear HO_0; clear HO_9; clear HO374; clear HO379; clear BK352; clear HR359; clear HR366; clear HB; have HO_0 := n0_; have HO_9 := n1_; have HO374 := n2_; have HO379 := n3_; have BK352 := n4_; have HR359 := n5_; have HR366 := n6_; have HB := n7_; clear n0_ n1_ n2_ n3_ n4_ n5_ n6_ n7_; (try clear hb); (try clear hb2); (try clear hk); (try clear hi)))
                                          go_ret
                                          exact ⟨by first | rfl | (simp [errW_none, errW_some] <;> rfl) | (simp only [← hji18, ← hji24]; first | rfl | (simp [errW_none, errW_some] <;> rfl)) | (simp [*, errW_none, errW_some] <;> rfl), by repeat (first | (with_reducible first | exact HB.out | apply below_alloc | apply pw_below_drewN | apply below_drew1 | refine below_set ?_ GE352.out) | exact HB.out)⟩
                                        · replace c53 := Bool.eq_false_iff.mpr c53
                                          subst c53
                                          have H1 : (some false) = some true := by rw [if_neg (show ¬ (false = true) by decide)] at H; exact H
                                          exact absurd H1 (by simp)
                                      · replace c51 := Bool.eq_false_iff.mpr c51
                                        subst c51
                                        have H1 : (some false) = some true := by rw [if_neg (show ¬ (false = true) by decide)] at H; exact H
                                        exact absurd H1 (by simp)
                                    · replace c49 := Bool.eq_false_iff.mpr c49
                                      subst c49
                                      have H1 : (some false) = some true := by rw [if_neg (show ¬ (false = true) by decide)] at H; exact H
                                      exact absurd H1 (by simp)
                                  · replace c47 := Bool.eq_false_iff.mpr c47
                                    subst c47
                                    have H1 : (some false) = some true := by rw [if_neg (show ¬ (false = true) by decide)] at H; exact H
                                    exact absurd H1 (by simp)
                                · replace c45 := Bool.eq_false_iff.mpr c45
                                  subst c45
                                  have H1 : (some false) = some true := by rw [if_neg (show ¬ (false = true) by decide)] at H; exact H
                                  exact absurd H1 (by simp)
                      · rw [if_neg c27] at H
                        exact absurd H (by simp)
                    · rw [if_neg c26] at H
                      exact absurd H (by simp)
                  · rw [if_neg c25] at H
                    exact absurd H (by simp)
                · rw [if_neg c23] at H
                  exact absurd H (by simp)
              · rw [if_neg c22] at H
                exact absurd H (by simp)
            · rw [if_neg c20] at H
              exact absurd H (by simp)
          · rw [if_neg c19] at H
            exact absurd H (by simp)

end Go.Proofs.YtcakednecmngdaaDoor.L
