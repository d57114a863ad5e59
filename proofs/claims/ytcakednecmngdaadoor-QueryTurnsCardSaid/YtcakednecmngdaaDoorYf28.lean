/- Functions of the program as plain functions, with proofs that the code comes to their answers; written by a program of this session. Conditions: as each theorem states them. -/
import Derived.Test.YtcakednecmngdaaDoorY0
import Derived.Test.YtcakednecmngdaaDoorYf77
import Derived.Test.YtcakednecmngdaaDoorYf85
import Derived.Test.YtcakednecmngdaaDoorYf82
import Derived.Test.YtcakednecmngdaaDoorQueryA
namespace Go.Proofs.YtcakednecmngdaaDoor.P
end Go.Proofs.YtcakednecmngdaaDoor.P
namespace Go.Proofs.YtcakednecmngdaaDoorW.PrintMore
end Go.Proofs.YtcakednecmngdaaDoorW.PrintMore
namespace Go.Proofs.YtcakednecmngdaaDoor.Y
open Go.Proofs.YtcakednecmngdaaDoor.P
open Go.RowKit Go.Proofs.YtcakednecmngdaaDoorW.PrintWords Go.Proofs.YtcakednecmngdaaDoorW.PrintLast Go.Proofs.YtcakednecmngdaaDoorW.PrintMore
set_option linter.unusedVariables false
set_option linter.unusedSimpArgs false

/-! ### tolllaw04_QueryTurns: function 28 -/
mutual
def tolllaw04_QueryTurns.j0 : Nat → List (S55) → Int → ByteArray → Bool → Option (Bool)
  | 0, _, _, _, _ => none
  | k + 1, x0, x1, x5, x29 => if x29 = true then ((tolllaw04_awake.f k).bind fun t319 => (some t319)) else (if (x0.length : Int) = 0 then (none) else ((some (([] : List (S55)) : List (S55))).bind fun y320 => (if 0 ≤ (Int.tmod (wrap64 (x1)) (x0.length : Int)) then (if (Int.tmod (wrap64 (x1)) (x0.length : Int)) ≤ (x0.length : Int) then ((some (x0.drop ((Int.tmod (wrap64 (x1)) (x0.length : Int)) : Int).toNat : List (S55))).bind fun y323 => (if y320.length + y323.length < 4398046511104 then ((some (y320 ++ y323 : List (S55))).bind fun y327 => ((some (x0.take ((Int.tmod (wrap64 (x1)) (x0.length : Int)) : Int).toNat : List (S55))).bind fun y330 => (if y327.length + y330.length < 4398046511104 then ((some (y327 ++ y330 : List (S55))).bind fun y334 => ((query_Text.f k y334).bind fun bt337 => ((query_Parse.f bt337.1).bind fun bt339 => (if (Int.tmod (wrap64 (x1)) (x0.length : Int)) ≤ (wrap64 ((Int.tmod (wrap64 (x1)) (x0.length : Int)) + 1)) then (if (wrap64 ((Int.tmod (wrap64 (x1)) (x0.length : Int)) + 1)) ≤ (x0.length : Int) then ((query_Text.f k ((x0.take ((wrap64 ((Int.tmod (wrap64 (x1)) (x0.length : Int)) + 1)) : Int).toNat).drop ((Int.tmod (wrap64 (x1)) (x0.length : Int)) : Int).toNat)).bind fun bt347 => (if bt337.2 = 0 then (if bt339.2 = 0 then (if bt347.2 = 0 then ((tollref04_Same.f k bt339.1 y334).bind fun t349 => (if t349 = true then (tolllaw04_QueryTurns.j1 k x5 bt347.1 ((bt337.1.size : Int) != (x5.size : Int))) else (tolllaw04_QueryTurns.j1 k x5 bt347.1 true))) else (tolllaw04_QueryTurns.j1 k x5 bt347.1 true)) else (tolllaw04_QueryTurns.j1 k x5 bt347.1 true)) else (tolllaw04_QueryTurns.j1 k x5 bt347.1 true))) else (none)) else (none))))) else (none)))) else (none))) else (none)) else (none))))
def tolllaw04_QueryTurns.j1 : Nat → ByteArray → ByteArray → Bool → Option (Bool)
  | 0, _, _, _ => none
  | k + 1, x5, x13, x86 => if x86 = true then (some false) else (tolllaw04_QueryTurns.l0 k x5 x13 0)
def tolllaw04_QueryTurns.l0 : Nat → ByteArray → ByteArray → Int → Option (Bool)
  | 0, _, _, _ => none
  | k + 1, x5, x13, x15 => if (wrap64 (x15 + (x13.size : Int))) ≤ (x5.size : Int) then (if 0 ≤ x15 then (if x15 ≤ (wrap64 (x15 + (x13.size : Int))) then (if (x5.extract (x15 : Int).toNat ((wrap64 (x15 + (x13.size : Int))) : Int).toNat).toList = x13.toList then ((tolllaw04_awake.f k).bind fun t350 => (some t350)) else (tolllaw04_QueryTurns.l0 k x5 x13 (wrap64 (x15 + 1)))) else (none)) else (none)) else (some false)
end
def tolllaw04_QueryTurns.f (k : Nat) (l0 : List (S55)) (a1 : Int) : Option (Bool) := (tolllaw04_Few.f l0).bind fun t314 => ((query_Text.f k t314).bind fun bt317 => (if bt317.2 = 0 then (tolllaw04_QueryTurns.j0 k t314 a1 bt317.1 ((t314.length : Int) == 0)) else (tolllaw04_QueryTurns.j0 k t314 a1 bt317.1 true)))
theorem tolllaw04_QueryTurns.mono_l : ∀ k, (∀ y0 y1 y2 y3, LeO (tolllaw04_QueryTurns.j0 k y0 y1 y2 y3) (tolllaw04_QueryTurns.j0 (k + 1) y0 y1 y2 y3)) ∧ (∀ y0 y1 y2, LeO (tolllaw04_QueryTurns.j1 k y0 y1 y2) (tolllaw04_QueryTurns.j1 (k + 1) y0 y1 y2)) ∧ (∀ y0 y1 y2, LeO (tolllaw04_QueryTurns.l0 k y0 y1 y2) (tolllaw04_QueryTurns.l0 (k + 1) y0 y1 y2))
  | 0 => ⟨fun _ _ _ _ r h => by simp [tolllaw04_QueryTurns.j0] at h, fun _ _ _ r h => by simp [tolllaw04_QueryTurns.j1] at h, fun _ _ _ r h => by simp [tolllaw04_QueryTurns.l0] at h⟩
  | k + 1 => by
    obtain ⟨ih0, ih1, ih2⟩ := tolllaw04_QueryTurns.mono_l k
    refine ⟨?_, ?_, ?_⟩
    · intro y0 y1 y2 y3
      unfold tolllaw04_QueryTurns.j0
      repeat' first
      | (with_reducible exact ih0 _ _ _ _)
      | (with_reducible exact ih1 _ _ _)
      | (with_reducible exact ih2 _ _ _)
      | (with_reducible exact query_Text.mono _ _)
      | (with_reducible exact tolllaw04_awake.mono _)
      | (with_reducible exact tollref04_Same.mono _ _ _)
      | (with_reducible exact LeO.refl _)
      | (with_reducible exact LeO.none _)
      | (with_reducible refine LeO.ite ?_ ?_)
      | (with_reducible refine LeO.bind ?_ (fun _ => ?_))
      | exact ih0 _ _ _ _
      | exact ih1 _ _ _
      | exact ih2 _ _ _
      | exact query_Text.mono _ _
      | exact tolllaw04_awake.mono _
      | exact tollref04_Same.mono _ _ _
      | exact LeO.none _
      | refine LeO.ite ?_ ?_
      | refine LeO.bind ?_ (fun _ => ?_)
    · intro y0 y1 y2
      unfold tolllaw04_QueryTurns.j1
      repeat' first
      | (with_reducible exact ih0 _ _ _ _)
      | (with_reducible exact ih1 _ _ _)
      | (with_reducible exact ih2 _ _ _)
      | (with_reducible exact query_Text.mono _ _)
      | (with_reducible exact tolllaw04_awake.mono _)
      | (with_reducible exact tollref04_Same.mono _ _ _)
      | (with_reducible exact LeO.refl _)
      | (with_reducible exact LeO.none _)
      | (with_reducible refine LeO.ite ?_ ?_)
      | (with_reducible refine LeO.bind ?_ (fun _ => ?_))
      | exact ih0 _ _ _ _
      | exact ih1 _ _ _
      | exact ih2 _ _ _
      | exact query_Text.mono _ _
      | exact tolllaw04_awake.mono _
      | exact tollref04_Same.mono _ _ _
      | exact LeO.none _
      | refine LeO.ite ?_ ?_
      | refine LeO.bind ?_ (fun _ => ?_)
    · intro y0 y1 y2
      unfold tolllaw04_QueryTurns.l0
      repeat' first
      | (with_reducible exact ih0 _ _ _ _)
      | (with_reducible exact ih1 _ _ _)
      | (with_reducible exact ih2 _ _ _)
      | (with_reducible exact query_Text.mono _ _)
      | (with_reducible exact tolllaw04_awake.mono _)
      | (with_reducible exact tollref04_Same.mono _ _ _)
      | (with_reducible exact LeO.refl _)
      | (with_reducible exact LeO.none _)
      | (with_reducible refine LeO.ite ?_ ?_)
      | (with_reducible refine LeO.bind ?_ (fun _ => ?_))
      | exact ih0 _ _ _ _
      | exact ih1 _ _ _
      | exact ih2 _ _ _
      | exact query_Text.mono _ _
      | exact tolllaw04_awake.mono _
      | exact tollref04_Same.mono _ _ _
      | exact LeO.none _
      | refine LeO.ite ?_ ?_
      | refine LeO.bind ?_ (fun _ => ?_)
theorem tolllaw04_QueryTurns.mono : ∀ a0 a1 k, LeO (tolllaw04_QueryTurns.f k a0 a1) (tolllaw04_QueryTurns.f (k + 1) a0 a1) := by
  intro a0 a1 k
  obtain ⟨ih0, ih1, ih2⟩ := tolllaw04_QueryTurns.mono_l k
  unfold tolllaw04_QueryTurns.f
  repeat' first
      | (with_reducible exact ih0 _ _ _ _)
      | (with_reducible exact ih1 _ _ _)
      | (with_reducible exact ih2 _ _ _)
      | (with_reducible exact query_Text.mono _ _)
      | (with_reducible exact tolllaw04_awake.mono _)
      | (with_reducible exact tollref04_Same.mono _ _ _)
      | (with_reducible exact LeO.refl _)
      | (with_reducible exact LeO.none _)
      | (with_reducible refine LeO.ite ?_ ?_)
      | (with_reducible refine LeO.bind ?_ (fun _ => ?_))
      | exact ih0 _ _ _ _
      | exact ih1 _ _ _
      | exact ih2 _ _ _
      | exact query_Text.mono _ _
      | exact tolllaw04_awake.mono _
      | exact tollref04_Same.mono _ _ _
      | exact LeO.none _
      | refine LeO.ite ?_ ?_
      | refine LeO.bind ?_ (fun _ => ?_)
def tolllaw04_QueryTurns.T6 : Bool × List (List Nat × List Nat) := (true, [([], []), ([], []), ([], []), ([1, 2], [1, 2]), ([0, 3], [0, 3]), ([], []), ([], []), ([5, 6], [5, 6]), ([4, 7, 4], [4, 7]), ([8, 8, 0, 1, 2, 3, 4, 5, 6, 7, 8], [8])])
def tolllaw04_QueryTurns.B6 : List Nat := [0, 0, 0, 6, 15, 0, 0, 96, 255, 511]
theorem tolllaw04_QueryTurns.tab6 : rtab .any (opsOf Tryd.f28 6) = tolllaw04_QueryTurns.T6 := by kernel_rfl
theorem tolllaw04_QueryTurns.bits6 : waitsOk tolllaw04_QueryTurns.T6.2 tolllaw04_QueryTurns.B6 = true := by kernel_rfl
set_option maxHeartbeats 8000000 in
set_option maxRecDepth 100000 in
theorem tolllaw04_QueryTurns.calls (k : Nat) (A0 : Option Addr) (c0 : Nat) (l0 : List (S55)) (a1 : Int) (r : Bool) (w : World) (hr0 : Kd.C k55 w A0 l0.length l0) (hc0 : l0.length ≤ c0) (h : tolllaw04_QueryTurns.f k l0 a1 = some r) :
    Calls Tryd.prog 28 #[.slice A0 l0.length c0, .int .u8 a1] w fun e w' => e = .returned (.bool r) ∧ Below w.heap.size w w' := by
  have HR0 := Aside0.mk hr0
  have HC0 := Aside0.mk hc0
  clear hr0 hc0
  have HB := Aside0.mk (Below.refl w.heap.size w)
  have H : ((tolllaw04_Few.f l0).bind fun t314 => ((query_Text.f k t314).bind fun bt317 => (if bt317.2 = 0 then (tolllaw04_QueryTurns.j0 k t314 a1 bt317.1 ((t314.length : Int) == 0)) else (tolllaw04_QueryTurns.j0 k t314 a1 bt317.1 true)))) = some r := h
  clear h
  replace H := Option.bind_eq_some_iff.mp H
  obtain ⟨t314, A30, H⟩ := H
  replace H : ((query_Text.f k t314).bind fun bt317 => (if bt317.2 = 0 then (tolllaw04_QueryTurns.j0 k t314 a1 bt317.1 ((t314.length : Int) == 0)) else (tolllaw04_QueryTurns.j0 k t314 a1 bt317.1 true))) = some r := H
  have A3 := Aside0.mk A30
  clear A30
  replace H := Option.bind_eq_some_iff.mp H
  obtain ⟨⟨t317, t318⟩, A40, H⟩ := H
  replace H : (if t318 = 0 then (tolllaw04_QueryTurns.j0 k t314 a1 t317 ((t314.length : Int) == 0)) else (tolllaw04_QueryTurns.j0 k t314 a1 t317 true)) = some r := H
  have A4 := Aside0.mk A40
  clear A40
  have HC5 := Aside0.mk H
  clear H
  go_enter Tryd.func28, Tryd.ntmps28
  go_upto_region 3 with (first | ((with_reducible refine gate_callee (f := 76) rfl ?_); refine goesL_ (some 17) rfl rfl Tryd.func76 (by kernel_rfl) rfl #[.slice A0 l0.length c0] rfl (by (try simp only [List.map_toArray, List.map_cons, List.map_nil]); first | done | rfl | (simp only [List.length_drop, List.length_take]; rfl)) ?_; (with_reducible refine (tolllaw04_Few.calls _ _ l0 t314 _ ?side1 ?side2 A3.out).mono ?_); (case side1 => repeat (first | exact HR0.out | (with_reducible refine Kd.C_alloc ?_ _) | (with_reducible refine Kd.C_drewN ?_ _) | (with_reducible refine Kd.C_drew ?_))); (case side2 => exact HC0.out); rintro e w6 ⟨v315, rfl, ho0, hb⟩; refine ⟨_, rfl, ?_⟩; have n0_ := Aside0.mk (Kd.R_lower ho0 (below_size (by repeat (first | (with_reducible first | exact HB.out | apply below_alloc | apply pw_below_drewN | apply below_drew1) | exact HB.out)))); have n1_ := Aside0.mk (below_step (by repeat (first | (with_reducible first | exact HB.out | apply below_alloc | apply pw_below_drewN | apply below_drew1) | exact HB.out)) hb); clear HB; have HO316 := n0_; have HB := n1_; clear n0_ n1_; (try clear hb); (try clear hb2); (try clear hk); (try clear hi); (try clear ho0); obtain ⟨Ao7, co7, eo7⟩ := Kd.R_slice HO316.out; subst eo7) | ((with_reducible refine gate_callee (f := 77) rfl ?_); refine goesL_ (some 20) rfl rfl Tryd.func77 (by kernel_rfl) rfl #[.slice Ao7 t314.length co7] rfl (by (try simp only [List.map_toArray, List.map_cons, List.map_nil]); first | done | rfl | (simp only [List.length_drop, List.length_take]; rfl)) ?_; (with_reducible refine (query_Text.calls k _ _ t314 t317 t318 _ ?side1 ?side2 A4.out).mono ?_); (case side1 => repeat (first | exact (Kd.R_reads' HO316.out).2.2 | (with_reducible refine Kd.C_alloc ?_ _) | (with_reducible refine Kd.C_drewN ?_ _) | (with_reducible refine Kd.C_drew ?_))); (case side2 => exact (Kd.R_reads' HO316.out).2.1); rintro e w8 ⟨rfl, hb⟩; refine ⟨_, rfl, ?_⟩; have n0_ := Aside0.mk (Kd.R_below (by (with_reducible repeat (first | apply Kd.R_alloc | apply Kd.R_drewN | apply Kd.R_drew)); exact HO316.out) hb); have n1_ := Aside0.mk (below_step (by repeat (first | (with_reducible first | exact HB.out | apply below_alloc | apply pw_below_drewN | apply below_drew1) | exact HB.out)) hb); clear HO316; clear HB; have HO316 := n0_; have HB := n1_; clear n0_ n1_; (try clear hb); (try clear hb2); (try clear hk); (try clear hi)))
  (try simp only [Act.put, List.setIfInBounds_toArray, List.set_cons_zero, List.set_cons_succ])
  go_cut [29] (fun v29 wc => ∃ (kq : Nat) (x29_4 : Bool), v29 = .bool x29_4 ∧ Aside0 (tolllaw04_QueryTurns.j0 kq t314 a1 t317 x29_4 = some r) ∧ Aside0 (kq ≤ k) ∧ Aside0 (Kd.R k55 55 wc w.heap.size (fun _ => True) (.slice Ao7 t314.length co7) t314) ∧ Aside0 (Below w.heap.size w wc))
  case first =>
    have H := HC5.out
    clear HC5
    by_cases c9 : t318 = 0
    · rw [if_pos c9] at H
      have c9b0 : (t318 == 0) = true := beq_iff_eq.mpr c9
      have c9b1 : (t318 != 0) = false := bne_eq_false_iff_eq.mpr c9
      clear c9
      (first | rw [c9b0] | (simp only [i64_w, i32_w]; rw [c9b0]) | skip)
      have H' := Aside0.mk H
      clear H
      go_wp2
      go_meet
      case rel => exact ⟨_, (((t314.length : Int) == 0)), (by first | rfl | (simp; done) | (simp [*]; done)), H', ⟨by first | omega | exact Nat.le_refl _⟩, ⟨by (with_reducible repeat (first | apply Kd.R_alloc | apply Kd.R_drewN | apply Kd.R_drew)); exact HO316.out⟩, ⟨by repeat (first | (with_reducible first | exact HB.out | apply below_alloc | apply pw_below_drewN | apply below_drew1) | exact HB.out)⟩⟩
    · rw [if_neg c9] at H
      have c9b0 : (t318 == 0) = false := beq_eq_false_iff_ne.mpr c9
      have c9b1 : (t318 != 0) = true := bne_iff_ne.mpr c9
      (first | rw [c9b0] | (simp only [i64_w, i32_w]; rw [c9b0]) | skip)
      have H' := Aside0.mk H
      clear H
      go_wp2
      go_meet
      case rel => exact ⟨_, (true), (by first | rfl | (simp; done) | (simp [*]; done)), H', ⟨by first | omega | exact Nat.le_refl _⟩, ⟨by (with_reducible repeat (first | apply Kd.R_alloc | apply Kd.R_drewN | apply Kd.R_drew)); exact HO316.out⟩, ⟨by repeat (first | (with_reducible first | exact HB.out | apply below_alloc | apply pw_below_drewN | apply below_drew1) | exact HB.out)⟩⟩
  case rest =>
    clear HC5
    try clear c2
    try clear p2
    try clear c7
    try clear c9
    try clear c9b0
    try clear c9b1
    obtain ⟨kq, x29_4, rfl, HA, HJ4, HO_0, HB⟩ := hcut
    cases kq with
    | zero => exact absurd HA.out (by simp [tolllaw04_QueryTurns.j0])
    | succ kj4 =>
      have H := HA.out
      clear HA
      simp only [tolllaw04_QueryTurns.j0] at H
      by_cases c10 : x29_4 = true
      · subst c10
        have H1 : ((tolllaw04_awake.f kj4).bind fun t319 => (some t319)) = some r := by rw [if_pos rfl] at H; exact H
        clear H
        have H := H1
        clear H1
        replace H := Option.bind_eq_some_iff.mp H
        obtain ⟨t319, A110, H⟩ := H
        replace H : (some t319) = some r := H
        have A11 := Aside0.mk A110
        clear A110
        obtain rfl := Option.some.inj H
        go_wp2_with (first | ((with_reducible refine gate_callee (f := 82) rfl ?_); refine goesL_ (some 30) rfl rfl Tryd.func82 (by kernel_rfl) rfl #[] rfl (by (try simp only [List.map_toArray, List.map_cons, List.map_nil]); first | done | rfl | (simp only [List.length_drop, List.length_take]; rfl)) ?_; (with_reducible refine (tolllaw04_awake.calls kj4  t319 _ A11.out).mono ?_); rintro e w12 ⟨rfl, hb⟩; refine ⟨_, rfl, ?_⟩; have n0_ := Aside0.mk (Kd.R_below (by (with_reducible repeat (first | apply Kd.R_alloc | apply Kd.R_drewN | apply Kd.R_drew)); exact HO_0.out) hb); have n1_ := Aside0.mk (below_step (by repeat (first | (with_reducible first | exact HB.out | apply below_alloc | apply pw_below_drewN | apply below_drew1) | exact HB.out)) hb); clear HO_0; clear HB; have HO_0 := n0_; have HB := n1_; clear n0_ n1_; (try clear hb); (try clear hb2); (try clear hk); (try clear hi)))
        go_ret
        exact ⟨by first | rfl | (simp [errW_none, errW_some] <;> rfl) | (simp [*, errW_none, errW_some] <;> rfl), by repeat (first | (with_reducible first | exact HB.out | apply below_alloc | apply pw_below_drewN | apply below_drew1) | exact HB.out)⟩
      · replace c10 := Bool.eq_false_iff.mpr c10
        subst c10
        have H1 : (if (t314.length : Int) = 0 then (none) else ((some (([] : List (S55)) : List (S55))).bind fun y320 => (if 0 ≤ (Int.tmod (wrap64 (a1)) (t314.length : Int)) then (if (Int.tmod (wrap64 (a1)) (t314.length : Int)) ≤ (t314.length : Int) then ((some (t314.drop ((Int.tmod (wrap64 (a1)) (t314.length : Int)) : Int).toNat : List (S55))).bind fun y323 => (if y320.length + y323.length < 4398046511104 then ((some (y320 ++ y323 : List (S55))).bind fun y327 => ((some (t314.take ((Int.tmod (wrap64 (a1)) (t314.length : Int)) : Int).toNat : List (S55))).bind fun y330 => (if y327.length + y330.length < 4398046511104 then ((some (y327 ++ y330 : List (S55))).bind fun y334 => ((query_Text.f kj4 y334).bind fun bt337 => ((query_Parse.f bt337.1).bind fun bt339 => (if (Int.tmod (wrap64 (a1)) (t314.length : Int)) ≤ (wrap64 ((Int.tmod (wrap64 (a1)) (t314.length : Int)) + 1)) then (if (wrap64 ((Int.tmod (wrap64 (a1)) (t314.length : Int)) + 1)) ≤ (t314.length : Int) then ((query_Text.f kj4 ((t314.take ((wrap64 ((Int.tmod (wrap64 (a1)) (t314.length : Int)) + 1)) : Int).toNat).drop ((Int.tmod (wrap64 (a1)) (t314.length : Int)) : Int).toNat)).bind fun bt347 => (if bt337.2 = 0 then (if bt339.2 = 0 then (if bt347.2 = 0 then ((tollref04_Same.f kj4 bt339.1 y334).bind fun t349 => (if t349 = true then (tolllaw04_QueryTurns.j1 kj4 t317 bt347.1 ((bt337.1.size : Int) != (t317.size : Int))) else (tolllaw04_QueryTurns.j1 kj4 t317 bt347.1 true))) else (tolllaw04_QueryTurns.j1 kj4 t317 bt347.1 true)) else (tolllaw04_QueryTurns.j1 kj4 t317 bt347.1 true)) else (tolllaw04_QueryTurns.j1 kj4 t317 bt347.1 true))) else (none)) else (none))))) else (none)))) else (none))) else (none)) else (none)))) = some r := by rw [if_neg (show ¬ (false = true) by decide)] at H; exact H
        clear H
        have H := H1
        clear H1
        by_cases c13 : (t314.length : Int) = 0
        · rw [if_pos c13] at H
          exact absurd H (by simp)
        · rw [if_neg c13] at H
          have c13b0 : ((t314.length : Int) == 0) = false := beq_eq_false_iff_ne.mpr c13
          have c13b1 : ((t314.length : Int) != 0) = true := bne_iff_ne.mpr c13
          have c13b2 : ¬ (t314 = []) := fun h_ => c13 (by rw [h_]; rfl)
          obtain ⟨y320, hy320⟩ : ∃ y_ : List (S55), y_ = (([] : List (S55))) := ⟨_, rfl⟩
          replace H : (if 0 ≤ (Int.tmod (wrap64 (a1)) (t314.length : Int)) then (if (Int.tmod (wrap64 (a1)) (t314.length : Int)) ≤ (t314.length : Int) then ((some (t314.drop ((Int.tmod (wrap64 (a1)) (t314.length : Int)) : Int).toNat : List (S55))).bind fun y323 => (if y320.length + y323.length < 4398046511104 then ((some (y320 ++ y323 : List (S55))).bind fun y327 => ((some (t314.take ((Int.tmod (wrap64 (a1)) (t314.length : Int)) : Int).toNat : List (S55))).bind fun y330 => (if y327.length + y330.length < 4398046511104 then ((some (y327 ++ y330 : List (S55))).bind fun y334 => ((query_Text.f kj4 y334).bind fun bt337 => ((query_Parse.f bt337.1).bind fun bt339 => (if (Int.tmod (wrap64 (a1)) (t314.length : Int)) ≤ (wrap64 ((Int.tmod (wrap64 (a1)) (t314.length : Int)) + 1)) then (if (wrap64 ((Int.tmod (wrap64 (a1)) (t314.length : Int)) + 1)) ≤ (t314.length : Int) then ((query_Text.f kj4 ((t314.take ((wrap64 ((Int.tmod (wrap64 (a1)) (t314.length : Int)) + 1)) : Int).toNat).drop ((Int.tmod (wrap64 (a1)) (t314.length : Int)) : Int).toNat)).bind fun bt347 => (if bt337.2 = 0 then (if bt339.2 = 0 then (if bt347.2 = 0 then ((tollref04_Same.f kj4 bt339.1 y334).bind fun t349 => (if t349 = true then (tolllaw04_QueryTurns.j1 kj4 t317 bt347.1 ((bt337.1.size : Int) != (t317.size : Int))) else (tolllaw04_QueryTurns.j1 kj4 t317 bt347.1 true))) else (tolllaw04_QueryTurns.j1 kj4 t317 bt347.1 true)) else (tolllaw04_QueryTurns.j1 kj4 t317 bt347.1 true)) else (tolllaw04_QueryTurns.j1 kj4 t317 bt347.1 true))) else (none)) else (none))))) else (none)))) else (none))) else (none)) else (none)) = some r := by first | (rw [hy320]; with_reducible exact H) | (have H2_ := (Option.bind_some _ _).symm.trans H; rw [hy320]; with_reducible exact H2_) | (have H2_ := (Option.bind_some _ _).symm.trans H; with_reducible exact H2_) | with_reducible exact H | (rw [hy320]; exact H) | exact H
          have Ny320 := Aside0.mk hy320
          clear hy320
          obtain ⟨ji14, hji14⟩ : ∃ j_ : Int, (Int.tmod (wrap64 (a1)) (t314.length : Int)) = j_ := ⟨_, rfl⟩
          replace H : (if 0 ≤ (ji14) then (if (ji14) ≤ (t314.length : Int) then ((some (t314.drop ((ji14) : Int).toNat : List (S55))).bind fun y323 => (if y320.length + y323.length < 4398046511104 then ((some (y320 ++ y323 : List (S55))).bind fun y327 => ((some (t314.take ((ji14) : Int).toNat : List (S55))).bind fun y330 => (if y327.length + y330.length < 4398046511104 then ((some (y327 ++ y330 : List (S55))).bind fun y334 => ((query_Text.f kj4 y334).bind fun bt337 => ((query_Parse.f bt337.1).bind fun bt339 => (if (ji14) ≤ (wrap64 ((ji14) + 1)) then (if (wrap64 ((ji14) + 1)) ≤ (t314.length : Int) then ((query_Text.f kj4 ((t314.take ((wrap64 ((ji14) + 1)) : Int).toNat).drop ((ji14) : Int).toNat)).bind fun bt347 => (if bt337.2 = 0 then (if bt339.2 = 0 then (if bt347.2 = 0 then ((tollref04_Same.f kj4 bt339.1 y334).bind fun t349 => (if t349 = true then (tolllaw04_QueryTurns.j1 kj4 t317 bt347.1 ((bt337.1.size : Int) != (t317.size : Int))) else (tolllaw04_QueryTurns.j1 kj4 t317 bt347.1 true))) else (tolllaw04_QueryTurns.j1 kj4 t317 bt347.1 true)) else (tolllaw04_QueryTurns.j1 kj4 t317 bt347.1 true)) else (tolllaw04_QueryTurns.j1 kj4 t317 bt347.1 true))) else (none)) else (none))))) else (none)))) else (none))) else (none)) else (none)) = some r := by first | (rw [hji14] at H; exact H) | (simp only [hji14] at H ⊢; exact H)
          by_cases c15 : 0 ≤ (ji14)
          · rw [if_pos c15] at H
            have c15b0 := eq_true c15
            have c15b1 : decide (0 ≤ (ji14)) = true := decide_eq_true c15
            clear c15
            by_cases c16 : (ji14) ≤ (t314.length : Int)
            · rw [if_pos c16] at H
              have c16b0 := eq_true c16
              have c16b1 : decide ((ji14) ≤ (t314.length : Int)) = true := decide_eq_true c16
              clear c16
              obtain ⟨y323, hy323⟩ : ∃ y_ : List (S55), y_ = (t314.drop ((ji14) : Int).toNat) := ⟨_, rfl⟩
              replace H : (if y320.length + y323.length < 4398046511104 then ((some (y320 ++ y323 : List (S55))).bind fun y327 => ((some (t314.take ((ji14) : Int).toNat : List (S55))).bind fun y330 => (if y327.length + y330.length < 4398046511104 then ((some (y327 ++ y330 : List (S55))).bind fun y334 => ((query_Text.f kj4 y334).bind fun bt337 => ((query_Parse.f bt337.1).bind fun bt339 => (if (ji14) ≤ (wrap64 ((ji14) + 1)) then (if (wrap64 ((ji14) + 1)) ≤ (t314.length : Int) then ((query_Text.f kj4 ((t314.take ((wrap64 ((ji14) + 1)) : Int).toNat).drop ((ji14) : Int).toNat)).bind fun bt347 => (if bt337.2 = 0 then (if bt339.2 = 0 then (if bt347.2 = 0 then ((tollref04_Same.f kj4 bt339.1 y334).bind fun t349 => (if t349 = true then (tolllaw04_QueryTurns.j1 kj4 t317 bt347.1 ((bt337.1.size : Int) != (t317.size : Int))) else (tolllaw04_QueryTurns.j1 kj4 t317 bt347.1 true))) else (tolllaw04_QueryTurns.j1 kj4 t317 bt347.1 true)) else (tolllaw04_QueryTurns.j1 kj4 t317 bt347.1 true)) else (tolllaw04_QueryTurns.j1 kj4 t317 bt347.1 true))) else (none)) else (none))))) else (none)))) else (none)) = some r := by first | (rw [hy323]; with_reducible exact H) | (have H2_ := (Option.bind_some _ _).symm.trans H; rw [hy323]; with_reducible exact H2_) | (have H2_ := (Option.bind_some _ _).symm.trans H; with_reducible exact H2_) | with_reducible exact H | (rw [hy323]; exact H) | exact H
              have Ny323 := Aside0.mk hy323
              clear hy323
              by_cases c17 : y320.length + y323.length < 4398046511104
              · rw [if_pos c17] at H
                have LMc17 := Aside0.mk c17
                clear c17
                obtain ⟨y327, hy327⟩ : ∃ y_ : List (S55), y_ = (y320 ++ y323) := ⟨_, rfl⟩
                replace H : ((some (t314.take ((ji14) : Int).toNat : List (S55))).bind fun y330 => (if y327.length + y330.length < 4398046511104 then ((some (y327 ++ y330 : List (S55))).bind fun y334 => ((query_Text.f kj4 y334).bind fun bt337 => ((query_Parse.f bt337.1).bind fun bt339 => (if (ji14) ≤ (wrap64 ((ji14) + 1)) then (if (wrap64 ((ji14) + 1)) ≤ (t314.length : Int) then ((query_Text.f kj4 ((t314.take ((wrap64 ((ji14) + 1)) : Int).toNat).drop ((ji14) : Int).toNat)).bind fun bt347 => (if bt337.2 = 0 then (if bt339.2 = 0 then (if bt347.2 = 0 then ((tollref04_Same.f kj4 bt339.1 y334).bind fun t349 => (if t349 = true then (tolllaw04_QueryTurns.j1 kj4 t317 bt347.1 ((bt337.1.size : Int) != (t317.size : Int))) else (tolllaw04_QueryTurns.j1 kj4 t317 bt347.1 true))) else (tolllaw04_QueryTurns.j1 kj4 t317 bt347.1 true)) else (tolllaw04_QueryTurns.j1 kj4 t317 bt347.1 true)) else (tolllaw04_QueryTurns.j1 kj4 t317 bt347.1 true))) else (none)) else (none))))) else (none))) = some r := by first | (rw [hy327]; with_reducible exact H) | (have H2_ := (Option.bind_some _ _).symm.trans H; rw [hy327]; with_reducible exact H2_) | (have H2_ := (Option.bind_some _ _).symm.trans H; with_reducible exact H2_) | with_reducible exact H | (rw [hy327]; exact H) | exact H
                have Ny327 := Aside0.mk hy327
                clear hy327
                have c18b0 := eq_true (of_decide_eq_true (by first | (with_reducible assumption) | assumption) : 0 ≤ (ji14))
                have c19b0 := eq_true (of_decide_eq_true (by first | (with_reducible assumption) | assumption) : (ji14) ≤ (t314.length : Int))
                obtain ⟨y330, hy330⟩ : ∃ y_ : List (S55), y_ = (t314.take ((ji14) : Int).toNat) := ⟨_, rfl⟩
                replace H : (if y327.length + y330.length < 4398046511104 then ((some (y327 ++ y330 : List (S55))).bind fun y334 => ((query_Text.f kj4 y334).bind fun bt337 => ((query_Parse.f bt337.1).bind fun bt339 => (if (ji14) ≤ (wrap64 ((ji14) + 1)) then (if (wrap64 ((ji14) + 1)) ≤ (t314.length : Int) then ((query_Text.f kj4 ((t314.take ((wrap64 ((ji14) + 1)) : Int).toNat).drop ((ji14) : Int).toNat)).bind fun bt347 => (if bt337.2 = 0 then (if bt339.2 = 0 then (if bt347.2 = 0 then ((tollref04_Same.f kj4 bt339.1 y334).bind fun t349 => (if t349 = true then (tolllaw04_QueryTurns.j1 kj4 t317 bt347.1 ((bt337.1.size : Int) != (t317.size : Int))) else (tolllaw04_QueryTurns.j1 kj4 t317 bt347.1 true))) else (tolllaw04_QueryTurns.j1 kj4 t317 bt347.1 true)) else (tolllaw04_QueryTurns.j1 kj4 t317 bt347.1 true)) else (tolllaw04_QueryTurns.j1 kj4 t317 bt347.1 true))) else (none)) else (none))))) else (none)) = some r := by first | (rw [hy330]; with_reducible exact H) | (have H2_ := (Option.bind_some _ _).symm.trans H; rw [hy330]; with_reducible exact H2_) | (have H2_ := (Option.bind_some _ _).symm.trans H; with_reducible exact H2_) | with_reducible exact H | (rw [hy330]; exact H) | exact H
                have Ny330 := Aside0.mk hy330
                clear hy330
                by_cases c20 : y327.length + y330.length < 4398046511104
                · rw [if_pos c20] at H
                  have LMc20 := Aside0.mk c20
                  clear c20
                  obtain ⟨y334, hy334⟩ : ∃ y_ : List (S55), y_ = (y327 ++ y330) := ⟨_, rfl⟩
                  replace H : ((query_Text.f kj4 y334).bind fun bt337 => ((query_Parse.f bt337.1).bind fun bt339 => (if (ji14) ≤ (wrap64 ((ji14) + 1)) then (if (wrap64 ((ji14) + 1)) ≤ (t314.length : Int) then ((query_Text.f kj4 ((t314.take ((wrap64 ((ji14) + 1)) : Int).toNat).drop ((ji14) : Int).toNat)).bind fun bt347 => (if bt337.2 = 0 then (if bt339.2 = 0 then (if bt347.2 = 0 then ((tollref04_Same.f kj4 bt339.1 y334).bind fun t349 => (if t349 = true then (tolllaw04_QueryTurns.j1 kj4 t317 bt347.1 ((bt337.1.size : Int) != (t317.size : Int))) else (tolllaw04_QueryTurns.j1 kj4 t317 bt347.1 true))) else (tolllaw04_QueryTurns.j1 kj4 t317 bt347.1 true)) else (tolllaw04_QueryTurns.j1 kj4 t317 bt347.1 true)) else (tolllaw04_QueryTurns.j1 kj4 t317 bt347.1 true))) else (none)) else (none)))) = some r := by first | (rw [hy334]; with_reducible exact H) | (have H2_ := (Option.bind_some _ _).symm.trans H; rw [hy334]; with_reducible exact H2_) | (have H2_ := (Option.bind_some _ _).symm.trans H; with_reducible exact H2_) | with_reducible exact H | (rw [hy334]; exact H) | exact H
                  have Ny334 := Aside0.mk hy334
                  clear hy334
                  replace H := Option.bind_eq_some_iff.mp H
                  obtain ⟨⟨t337, t338⟩, A210, H⟩ := H
                  replace H : ((query_Parse.f t337).bind fun bt339 => (if (ji14) ≤ (wrap64 ((ji14) + 1)) then (if (wrap64 ((ji14) + 1)) ≤ (t314.length : Int) then ((query_Text.f kj4 ((t314.take ((wrap64 ((ji14) + 1)) : Int).toNat).drop ((ji14) : Int).toNat)).bind fun bt347 => (if t338 = 0 then (if bt339.2 = 0 then (if bt347.2 = 0 then ((tollref04_Same.f kj4 bt339.1 y334).bind fun t349 => (if t349 = true then (tolllaw04_QueryTurns.j1 kj4 t317 bt347.1 ((t337.size : Int) != (t317.size : Int))) else (tolllaw04_QueryTurns.j1 kj4 t317 bt347.1 true))) else (tolllaw04_QueryTurns.j1 kj4 t317 bt347.1 true)) else (tolllaw04_QueryTurns.j1 kj4 t317 bt347.1 true)) else (tolllaw04_QueryTurns.j1 kj4 t317 bt347.1 true))) else (none)) else (none))) = some r := H
                  have A21 := Aside0.mk A210
                  clear A210
                  replace H := Option.bind_eq_some_iff.mp H
                  obtain ⟨⟨t339, t340⟩, A220, H⟩ := H
                  replace H : (if (ji14) ≤ (wrap64 ((ji14) + 1)) then (if (wrap64 ((ji14) + 1)) ≤ (t314.length : Int) then ((query_Text.f kj4 ((t314.take ((wrap64 ((ji14) + 1)) : Int).toNat).drop ((ji14) : Int).toNat)).bind fun bt347 => (if t338 = 0 then (if t340 = 0 then (if bt347.2 = 0 then ((tollref04_Same.f kj4 t339 y334).bind fun t349 => (if t349 = true then (tolllaw04_QueryTurns.j1 kj4 t317 bt347.1 ((t337.size : Int) != (t317.size : Int))) else (tolllaw04_QueryTurns.j1 kj4 t317 bt347.1 true))) else (tolllaw04_QueryTurns.j1 kj4 t317 bt347.1 true)) else (tolllaw04_QueryTurns.j1 kj4 t317 bt347.1 true)) else (tolllaw04_QueryTurns.j1 kj4 t317 bt347.1 true))) else (none)) else (none)) = some r := H
                  have A22 := Aside0.mk A220
                  clear A220
                  have c23b0 := eq_true (of_decide_eq_true (by first | (with_reducible assumption) | assumption) : 0 ≤ (ji14))
                  by_cases c24 : (ji14) ≤ (wrap64 ((ji14) + 1))
                  · rw [if_pos c24] at H
                    have c24b0 := eq_true c24
                    have c24b1 : decide ((ji14) ≤ (wrap64 ((ji14) + 1))) = true := decide_eq_true c24
                    by_cases c25 : (wrap64 ((ji14) + 1)) ≤ (t314.length : Int)
                    · rw [if_pos c25] at H
                      have c25b0 := eq_true c25
                      have c25b1 : decide ((wrap64 ((ji14) + 1)) ≤ (t314.length : Int)) = true := decide_eq_true c25
                      obtain ⟨y343, hy343⟩ : ∃ y_ : List (S55), y_ = ((t314.take ((wrap64 ((ji14) + 1)) : Int).toNat).drop ((ji14) : Int).toNat) := ⟨_, rfl⟩
                      replace H : ((query_Text.f kj4 y343).bind fun bt347 => (if t338 = 0 then (if t340 = 0 then (if bt347.2 = 0 then ((tollref04_Same.f kj4 t339 y334).bind fun t349 => (if t349 = true then (tolllaw04_QueryTurns.j1 kj4 t317 bt347.1 ((t337.size : Int) != (t317.size : Int))) else (tolllaw04_QueryTurns.j1 kj4 t317 bt347.1 true))) else (tolllaw04_QueryTurns.j1 kj4 t317 bt347.1 true)) else (tolllaw04_QueryTurns.j1 kj4 t317 bt347.1 true)) else (tolllaw04_QueryTurns.j1 kj4 t317 bt347.1 true))) = some r := by first | (rw [hy343]; with_reducible exact H) | (have H2_ := (Option.bind_some _ _).symm.trans H; rw [hy343]; with_reducible exact H2_) | (have H2_ := (Option.bind_some _ _).symm.trans H; with_reducible exact H2_) | with_reducible exact H | (rw [hy343]; exact H) | exact H
                      have Ny343 := Aside0.mk hy343
                      clear hy343
                      replace H := Option.bind_eq_some_iff.mp H
                      obtain ⟨⟨t347, t348⟩, A260, H⟩ := H
                      replace H : (if t338 = 0 then (if t340 = 0 then (if t348 = 0 then ((tollref04_Same.f kj4 t339 y334).bind fun t349 => (if t349 = true then (tolllaw04_QueryTurns.j1 kj4 t317 t347 ((t337.size : Int) != (t317.size : Int))) else (tolllaw04_QueryTurns.j1 kj4 t317 t347 true))) else (tolllaw04_QueryTurns.j1 kj4 t317 t347 true)) else (tolllaw04_QueryTurns.j1 kj4 t317 t347 true)) else (tolllaw04_QueryTurns.j1 kj4 t317 t347 true)) = some r := H
                      have A26 := Aside0.mk A260
                      clear A260
                      have HC27 := Aside0.mk H
                      clear H
                      try go_wp2
                      have n0_ := Aside0.mk (Kd.R_drew HO_0.out)
                      have n1_ := Aside0.mk (below_drew1 HB.out)
                      clear HO_0
                      clear HB
                      have HO_0 := n0_
                      have HB := n1_
                      clear n0_ n1_
                      have q29 : ((ji14) : Int) ≤ ((t314.length : Int) : Int) := of_decide_eq_true (by first | (with_reducible assumption) | assumption)
                      obtain ⟨i029, hi029, _, hsz29, _⟩ := info_parts info55
                      have hroom29 : t314.length ≤ co7 := (Kd.R_reads' HO_0.out).2.1
                      have hC29 : Kd.C k55 _ Ao7 t314.length t314 := (Kd.R_reads' HO_0.out).2.2
                      have q029 : (0 : Int) ≤ ((ji14) : Int) := of_decide_eq_true (by first | (with_reducible assumption) | assumption)
                      have hcut29 := cut_from (P := Tryd.prog) 51 55 .i64 Tryd.underlying51 hi029 2 hsz29 Ao7 t314.length co7 (ji14) q029 q29
                      have hr29 := Kd.C_drop (m := ((ji14) : Int).toNat) (c := co7) hC29 (by omega) hroom29
                      obtain ⟨A29, hA29⟩ : ∃ A1, A1 = (if co7 = ((ji14) : Int).toNat then Ao7 else (Ao7 : Option Addr).map (·.add (((ji14) : Int).toNat * 2))) := ⟨_, rfl⟩
                      obtain ⟨c29, hc29⟩ : ∃ c1, c1 = co7 - ((ji14) : Int).toNat := ⟨_, rfl⟩
                      have hy29 : y323.length = t314.length - ((ji14) : Int).toNat := (by rw [Ny323.out, List.length_drop] <;> omega)
                      rw [show (t314).drop ((ji14) : Int).toNat = y323 from Ny323.out.symm] at hr29
                      replace hr29 : Kd.C k55 _ A29 y323.length y323 := (by rw [hA29]; exact hr29)
                      rw [← hy29, ← hA29, ← hc29] at hcut29
                      have HR326 := Aside0.mk hr29
                      have HC326 := Aside0.mk (show y323.length ≤ c29 from by rw [hy29, hc29]; exact Nat.sub_le_sub_right hroom29 _)
                      clear hr29 hC29 hroom29 hi029 hsz29 hc29
                      have KY29 := Aside0.mk hy29
                      have KA29 := Aside0.mk hA29
                      clear hy29 hA29
                      have KL29 := Aside0.mk (show ((ji14) : Int).toNat ≤ t314.length from by omega)
                      replace q29 := eq_true q29
                      have q30 : ((ji14) : Int) ≤ ((t314.length : Int) : Int) := of_decide_eq_true (by first | (with_reducible assumption) | assumption)
                      obtain ⟨i030, hi030, _, hsz30, _⟩ := info_parts info55
                      have hroom30 : t314.length ≤ co7 := (Kd.R_reads' HO_0.out).2.1
                      have hC30 : Kd.C k55 _ Ao7 t314.length t314 := (Kd.R_reads' HO_0.out).2.2
                      have hcut30 := cut_to (P := Tryd.prog) 51 55 .i64 Tryd.underlying51 hi030 Ao7 t314.length co7 (ji14) (of_decide_eq_true (by first | (with_reducible assumption) | assumption)) q30 hroom30
                      have hr30 := Kd.C_take (m := ((ji14) : Int).toNat) hC30 (by omega)
                      have hy30 : y330.length = ((ji14) : Int).toNat := (by rw [Ny330.out, List.length_take]; omega)
                      rw [← Ny330.out] at hr30
                      rw [← hy30] at hcut30
                      have HR333 := Aside0.mk hr30
                      have HC333 := Aside0.mk (show y330.length ≤ co7 from by omega)
                      clear hr30 hC30 hroom30 hi030 hsz30
                      have KY30 := Aside0.mk hy30
                      clear hy30
                      have KL30 := Aside0.mk (show ((ji14) : Int).toNat ≤ t314.length from by omega)
                      replace q30 := eq_true q30
                      refine start_ (n := 10) (S := fun w' => True) (ds := []) #[false, false, false, false, false, false, false, false, false, false] (by kernel_rfl) rfl rfl trivial (fun hHeld => ?_); refine with_tabW tolllaw04_QueryTurns.tab6 tolllaw04_QueryTurns.bits6 (fun HT_ HW_ => ?_)
                      generalize wc.drew = w28 at HO_0 HB HR326 HR333 hHeld ⊢
                      refine pure_ (i := 1) (N := some 37) (v := ?_) (a' := ?_) #[false, true, false, false, false, false, false, false, false, false] rfl rfl (any_of HT_.out (by kernel_rfl)) (fun _ _ _ h => h) (Or.inl ⟨by rfl, ?_⟩) ?_ ?_
                      rotate_left
                      · intro w'
                        go_simp
                        with_reducible rfl
                      rotate_left
                      · simp only [Act.put, List.setIfInBounds_toArray, List.set_cons_zero, List.set_cons_succ, i64_w, i32_w]
                        rfl
                      refine pure_ (i := 2) (N := some 38) (v := ?_) (a' := ?_) #[false, true, true, false, false, false, false, false, false, false] rfl rfl (any_of HT_.out (by kernel_rfl)) (fun _ _ _ h => h) (Or.inl ⟨by rfl, ?_⟩) ?_ ?_
                      rotate_left
                      · intro w'
                        go_simp
                        with_reducible rfl
                      rotate_left
                      · simp only [Act.put, List.setIfInBounds_toArray, List.set_cons_zero, List.set_cons_succ, i64_w, i32_w]
                        rfl
                      refine pure_ (i := 3) (N := some 39) (v := ?_) (a' := ?_) #[false, true, true, true, false, false, false, false, false, false] rfl rfl (any_of HT_.out (by kernel_rfl)) (fun _ _ _ h => h) (Or.inl ⟨by rfl, ?_⟩) ?_ ?_
                      rotate_left
                      · intro w'
                        go_simp
                        with_reducible rfl
                      rotate_left
                      · simp only [Act.put, List.setIfInBounds_toArray, List.set_cons_zero, List.set_cons_succ, i64_w, i32_w]
                        rfl
                      refine pure_ (i := 5) (N := some 41) (v := ?_) (a' := ?_) #[false, true, true, true, false, true, false, false, false, false] rfl rfl (any_of HT_.out (by kernel_rfl)) (fun _ _ _ h => h) (Or.inl ⟨by rfl, ?_⟩) ?_ ?_
                      rotate_left
                      · intro w'
                        go_simp
                        with_reducible rfl
                      rotate_left
                      · simp only [Act.put, List.setIfInBounds_toArray, List.set_cons_zero, List.set_cons_succ, i64_w, i32_w]
                        rfl
                      refine pure_ (i := 6) (N := some 42) (v := ?_) (a' := ?_) #[false, true, true, true, false, true, true, false, false, false] rfl rfl (any_of HT_.out (by kernel_rfl)) (fun _ _ _ h => h) (Or.inl ⟨by rfl, ?_⟩) ?_ ?_
                      rotate_left
                      · intro w'
                        go_simp
                        with_reducible rfl
                      rotate_left
                      · simp only [Act.put, List.setIfInBounds_toArray, List.set_cons_zero, List.set_cons_succ, i64_w, i32_w]
                        rfl
                      refine pure_ (i := 7) (N := some 43) (v := ?_) (a' := ?_) #[false, true, true, true, false, true, true, true, false, false] rfl rfl (any_of HT_.out (by kernel_rfl)) (fun _ _ _ h => h) (Or.inl ⟨by rfl, ?_⟩) ?_ ?_
                      rotate_left
                      · intro w'
                        go_simp
                        with_reducible rfl
                      rotate_left
                      · simp only [Act.put, List.setIfInBounds_toArray, List.set_cons_zero, List.set_cons_succ, i64_w, i32_w]
                        rfl
                      refine one_ (i := 0) (N := some 36) #[true, true, true, true, false, true, true, true, false, false] rfl rfl (one_of HT_.out (by kernel_rfl)) (by decide) (fun K hK => ?_)
                      refine Kd.R_lit_step k55 _ 55 ?hg (N := 36) ?hd (xs := ([] : List (S55))) (inner := []) (ok := fun _ => True) (okp := fun _ => True) ?hr ?hp (fun _ hk => hk) trivial (Below.refl _ _) (Nat.le_refl _) (by simp) ?_; (case hd => rfl); (case hg => rfl); (case hr => first | (go_simp; done) | (go_simp; rfl)); (case hp => exact (Reps.none _ _))
                      intro v321 w31 ho32 hb hg_ hnew_
                      clear hg_ hnew_
                      (first | rw [← Ny320.out] at ho32 | (simp only [Int.reduceToNat] at ho32; rw [← Ny320.out] at ho32))
                      have n0_ := Aside0.mk (Kd.R_elder' (by (with_reducible repeat (first | apply Kd.R_alloc | apply Kd.R_drewN | apply Kd.R_drew)); exact HO_0.out) (Kd.R_base ho32) hb)
                      have n1_ := Aside0.mk (Kd.R_lower (Kd.R_new' ho32 (Kd.R_lt (by (with_reducible repeat (first | apply Kd.R_alloc | apply Kd.R_drewN | apply Kd.R_drew)); exact HO_0.out))) (below_size (by repeat (first | (with_reducible first | exact HB.out | apply below_alloc | apply pw_below_drewN | apply below_drew1) | exact HB.out))))
                      have n2_ := Aside0.mk (Kd.C_below (by repeat (first | (with_reducible exact HR326.out) | (with_reducible refine Kd.C_alloc ?_ _) | (with_reducible refine Kd.C_drewN ?_ _) | (with_reducible refine Kd.C_drew ?_) | exact HR326.out)) hb)
                      have n3_ := Aside0.mk (Kd.C_below (by repeat (first | (with_reducible exact HR333.out) | (with_reducible refine Kd.C_alloc ?_ _) | (with_reducible refine Kd.C_drewN ?_ _) | (with_reducible refine Kd.C_drew ?_) | exact HR333.out)) hb)
                      have n4_ := Aside0.mk (below_step (by repeat (first | (with_reducible first | exact HB.out | apply below_alloc | apply pw_below_drewN | apply below_drew1) | exact HB.out)) hb)
                      clear HO_0
                      clear HR326
                      clear HR333
                      clear HB
                      have HO_0 := n0_
                      have HO322 := n1_
                      have HR326 := n2_
                      have HR333 := n3_
                      have HB := n4_
                      clear n0_ n1_ n2_ n3_ n4_
                      clear hb ho32
                      refine hK.out _ _ trivial (fun hHeld => ?_)
                      clear hK K
                      refine norm_ (a' := ?_) ?_ ?_
                      rotate_left
                      · show Act.put _ (some 36) _ = _
                        simp only [Act.put, List.setIfInBounds_toArray, List.set_cons_zero, List.set_cons_succ, i64_w, i32_w]
                        rfl
                      refine one_ (i := 4) (N := some 40) #[true, true, true, true, true, true, true, true, false, false] rfl rfl (one_of HT_.out (by kernel_rfl)) (by decide) (fun K hK => ?_)
                      refine Kd.R_append_rows_step k55 (w0 := w) w.heap.size (by rfl) (.tmp 36) (.tmp 39) 51 55 (.agg #[(.string ⟨#[]⟩), (.string ⟨#[]⟩)]) 32 rfl Tryd.underlying51 info55 rfl (by decide) (by omega) v321 y320 y323 _ _ _ (fun k_ => some k_ ≠ (.slice Ao7 t314.length co7 : Value).ownBlock) (fun _ => False) rfl rfl ?aO ?aR (fun _ _ h => h) (fun _ h => h.elim) ?aF ?aB ?aS ?aL ?_
                      (case aR => repeat (first | exact (by repeat (first | (with_reducible exact HR326.out) | (with_reducible refine Kd.C_alloc ?_ _) | (with_reducible refine Kd.C_drewN ?_ _) | (with_reducible refine Kd.C_drew ?_) | exact HR326.out)) | (with_reducible refine Kd.C_alloc ?_ _) | (with_reducible refine Kd.C_drewN ?_ _) | (with_reducible refine Kd.C_drew ?_)))
                      (case aB => exact (by repeat (first | (with_reducible first | exact HB.out | apply below_alloc | apply pw_below_drewN | apply below_drew1) | exact HB.out)))
                      (case aF => exact (fun k_ hk => Kd.fresh' (Kd.R_lt (by (with_reducible repeat (first | apply Kd.R_alloc | apply Kd.R_drewN | apply Kd.R_drew)); exact HO_0.out)) k_ hk))
                      (case aO => exact (by (with_reducible repeat (first | apply Kd.R_alloc | apply Kd.R_drewN | apply Kd.R_drew)); exact Kd.R_mono HO322.out (fun _ hk => hk.2)))
                      (case aS => exact (below_size (by repeat (first | (with_reducible first | exact HB.out | apply below_alloc | apply pw_below_drewN | apply below_drew1) | exact HB.out))))
                      (case aL => have := LMc17.out; omega)
                      intro v328 w33 ho hb hg hat
                      rw [← Ny327.out] at ho
                      have n0_ := Aside0.mk (Kd.R_after (ok := (fun _ => True)) (by (with_reducible repeat (first | apply Kd.R_alloc | apply Kd.R_drewN | apply Kd.R_drew)); exact HO_0.out) hg hat)
                      have n1_ := Aside0.mk (hb)
                      have n2_ := Aside0.mk ((show Kd.C k55 w33 A29 y323.length y323 from by rw [Ny323.out, KA29.out]; exact Kd.C_drop (m := ((ji14) : Int).toNat) (c := co7) ((Kd.R_reads' (Kd.R_after (ok := (fun _ => True)) (by (with_reducible repeat (first | apply Kd.R_alloc | apply Kd.R_drewN | apply Kd.R_drew)); exact HO_0.out) hg hat)).2.2) KL29.out ((Kd.R_reads' (Kd.R_after (ok := (fun _ => True)) (by (with_reducible repeat (first | apply Kd.R_alloc | apply Kd.R_drewN | apply Kd.R_drew)); exact HO_0.out) hg hat)).2.1)))
                      have n3_ := Aside0.mk ((show Kd.C k55 w33 Ao7 y330.length y330 from by rw [Ny330.out]; exact Kd.C_take (m := ((ji14) : Int).toNat) ((Kd.R_reads' (Kd.R_after (ok := (fun _ => True)) (by (with_reducible repeat (first | apply Kd.R_alloc | apply Kd.R_drewN | apply Kd.R_drew)); exact HO_0.out) hg hat)).2.2) KL30.out))
                      have n4_ := Aside0.mk (ho)
                      clear HO_0
                      clear HB
                      clear HR326
                      clear HR333
                      clear HO322
                      have HO_0 := n0_
                      have HB := n1_
                      have HR326 := n2_
                      have HR333 := n3_
                      have HO329 := n4_
                      clear n0_ n1_ n2_ n3_ n4_
                      clear ho hb hg hat
                      refine hK.out _ _ trivial (fun hHeld => ?_)
                      clear hK K
                      refine norm_ (a' := ?_) ?_ ?_
                      rotate_left
                      · show Act.put _ (some 40) _ = _
                        simp only [Act.put, List.setIfInBounds_toArray, List.set_cons_zero, List.set_cons_succ, i64_w, i32_w]
                        rfl
                      refine one_ (i := 8) (N := some 44) #[true, true, true, true, true, true, true, true, true, false] rfl rfl (one_of HT_.out (by kernel_rfl)) (by decide) (fun K hK => ?_)
                      refine Kd.R_append_rows_step k55 (w0 := w) w.heap.size (by rfl) (.tmp 40) (.tmp 43) 51 55 (.agg #[(.string ⟨#[]⟩), (.string ⟨#[]⟩)]) 32 rfl Tryd.underlying51 info55 rfl (by decide) (by omega) v328 y327 y330 _ _ _ (fun k_ => some k_ ≠ (.slice Ao7 t314.length co7 : Value).ownBlock) (fun _ => False) rfl rfl ?aO ?aR (fun _ _ h => h) (fun _ h => h.elim) ?aF ?aB ?aS ?aL ?_
                      (case aR => repeat (first | exact (by repeat (first | (with_reducible exact HR333.out) | (with_reducible refine Kd.C_alloc ?_ _) | (with_reducible refine Kd.C_drewN ?_ _) | (with_reducible refine Kd.C_drew ?_) | exact HR333.out)) | (with_reducible refine Kd.C_alloc ?_ _) | (with_reducible refine Kd.C_drewN ?_ _) | (with_reducible refine Kd.C_drew ?_)))
                      (case aB => exact (by repeat (first | (with_reducible first | exact HB.out | apply below_alloc | apply pw_below_drewN | apply below_drew1) | exact HB.out)))
                      (case aF => exact (fun k_ hk => Kd.fresh' (Kd.R_lt (by (with_reducible repeat (first | apply Kd.R_alloc | apply Kd.R_drewN | apply Kd.R_drew)); exact HO_0.out)) k_ hk))
                      (case aO => exact (by (with_reducible repeat (first | apply Kd.R_alloc | apply Kd.R_drewN | apply Kd.R_drew)); exact HO329.out))
                      (case aS => exact (below_size (by repeat (first | (with_reducible first | exact HB.out | apply below_alloc | apply pw_below_drewN | apply below_drew1) | exact HB.out))))
                      (case aL => have := LMc20.out; omega)
                      intro v335 w34 ho hb hg hat
                      rw [← Ny334.out] at ho
                      have n0_ := Aside0.mk (Kd.R_after (ok := (fun _ => True)) (by (with_reducible repeat (first | apply Kd.R_alloc | apply Kd.R_drewN | apply Kd.R_drew)); exact HO_0.out) hg hat)
                      have n1_ := Aside0.mk (hb)
                      have n2_ := Aside0.mk ((show Kd.C k55 w34 A29 y323.length y323 from by rw [Ny323.out, KA29.out]; exact Kd.C_drop (m := ((ji14) : Int).toNat) (c := co7) ((Kd.R_reads' (Kd.R_after (ok := (fun _ => True)) (by (with_reducible repeat (first | apply Kd.R_alloc | apply Kd.R_drewN | apply Kd.R_drew)); exact HO_0.out) hg hat)).2.2) KL29.out ((Kd.R_reads' (Kd.R_after (ok := (fun _ => True)) (by (with_reducible repeat (first | apply Kd.R_alloc | apply Kd.R_drewN | apply Kd.R_drew)); exact HO_0.out) hg hat)).2.1)))
                      have n3_ := Aside0.mk ((show Kd.C k55 w34 Ao7 y330.length y330 from by rw [Ny330.out]; exact Kd.C_take (m := ((ji14) : Int).toNat) ((Kd.R_reads' (Kd.R_after (ok := (fun _ => True)) (by (with_reducible repeat (first | apply Kd.R_alloc | apply Kd.R_drewN | apply Kd.R_drew)); exact HO_0.out) hg hat)).2.2) KL30.out))
                      have n4_ := Aside0.mk (ho)
                      clear HO_0
                      clear HB
                      clear HR326
                      clear HR333
                      clear HO329
                      have HO_0 := n0_
                      have HB := n1_
                      have HR326 := n2_
                      have HR333 := n3_
                      have HO336 := n4_
                      clear n0_ n1_ n2_ n3_ n4_
                      clear ho hb hg hat
                      refine hK.out _ _ trivial (fun hHeld => ?_)
                      clear hK K
                      refine norm_ (a' := ?_) ?_ ?_
                      rotate_left
                      · show Act.put _ (some 44) _ = _
                        simp only [Act.put, List.setIfInBounds_toArray, List.set_cons_zero, List.set_cons_succ, i64_w, i32_w]
                        rfl
                      refine pure_ (i := 9) (N := some 8) (v := ?_) (a' := ?_) #[true, true, true, true, true, true, true, true, true, true] rfl rfl (any_of HT_.out (by kernel_rfl)) (fun _ _ _ h => h) (Or.inl ⟨by rfl, ?_⟩) ?_ ?_
                      rotate_left
                      · intro w'
                        go_simp
                        with_reducible rfl
                      rotate_left
                      · simp only [Act.put, List.setIfInBounds_toArray, List.set_cons_zero, List.set_cons_succ, i64_w, i32_w]
                        rfl
                      refine done_ (done_of HT_.out (by kernel_rfl)) ?_
                      obtain ⟨Ao35, co35, eo35⟩ := Kd.R_slice HO336.out
                      subst eo35
                      go_upto_region 10 with (first | ((with_reducible refine gate_callee (f := 77) rfl ?_); refine goesL_ (some 47) rfl rfl Tryd.func77 (by kernel_rfl) rfl #[.slice Ao35 y334.length co35] rfl (by (try simp only [List.map_toArray, List.map_cons, List.map_nil]); first | done | rfl | (simp only [List.length_drop, List.length_take]; rfl)) ?_; (with_reducible refine (query_Text.calls kj4 _ _ y334 t337 t338 _ ?side1 ?side2 A21.out).mono ?_); (case side1 => repeat (first | exact (Kd.R_reads' HO336.out).2.2 | (with_reducible refine Kd.C_alloc ?_ _) | (with_reducible refine Kd.C_drewN ?_ _) | (with_reducible refine Kd.C_drew ?_))); (case side2 => exact (Kd.R_reads' HO336.out).2.1); rintro e w36 ⟨rfl, hb⟩; refine ⟨_, rfl, ?_⟩; have n0_ := Aside0.mk (Kd.R_below (by (with_reducible repeat (first | apply Kd.R_alloc | apply Kd.R_drewN | apply Kd.R_drew)); exact HO_0.out) hb); have n1_ := Aside0.mk (Kd.R_below (by (with_reducible repeat (first | apply Kd.R_alloc | apply Kd.R_drewN | apply Kd.R_drew)); exact HO336.out) hb); have n2_ := Aside0.mk (Kd.C_below (by repeat (first | (with_reducible exact HR326.out) | (with_reducible refine Kd.C_alloc ?_ _) | (with_reducible refine Kd.C_drewN ?_ _) | (with_reducible refine Kd.C_drew ?_) | exact HR326.out)) hb); have n3_ := Aside0.mk (Kd.C_below (by repeat (first | (with_reducible exact HR333.out) | (with_reducible refine Kd.C_alloc ?_ _) | (with_reducible refine Kd.C_drewN ?_ _) | (with_reducible refine Kd.C_drew ?_) | exact HR333.out)) hb); have n4_ := Aside0.mk (below_step (by repeat (first | (with_reducible first | exact HB.out | apply below_alloc | apply pw_below_drewN | apply below_drew1) | exact HB.out)) hb); clear HO_0; clear HO336; clear HR326; clear HR333; clear HB; have HO_0 := n0_; have HO336 := n1_; have HR326 := n2_; have HR333 := n3_; have HB := n4_; clear n0_ n1_ n2_ n3_ n4_; (try clear hb); (try clear hb2); (try clear hk); (try clear hi)) | ((with_reducible refine gate_callee (f := 83) rfl ?_); refine goesL_ (some 52) rfl rfl Tryd.func83 (by kernel_rfl) rfl #[.string t337] rfl (by (try simp only [List.map_toArray, List.map_cons, List.map_nil]); first | done | rfl | (simp only [List.length_drop, List.length_take]; rfl)) ?_; (with_reducible refine (query_Parse.calls t337 t339 t340 _ A22.out).mono ?_); rintro e w37 ⟨v341, rfl, ho0, hb⟩; refine ⟨_, rfl, ?_⟩; have n0_ := Aside0.mk (Kd.R_elder' (by (with_reducible repeat (first | apply Kd.R_alloc | apply Kd.R_drewN | apply Kd.R_drew)); exact HO_0.out) (Kd.R_base ho0) hb); have n1_ := Aside0.mk (Kd.R_elder' (by (with_reducible repeat (first | apply Kd.R_alloc | apply Kd.R_drewN | apply Kd.R_drew)); exact HO336.out) (Kd.R_base ho0) hb); have n2_ := Aside0.mk (Kd.R_lower (Kd.R_new' (Kd.R_new' ho0 (Kd.R_lt (by (with_reducible repeat (first | apply Kd.R_alloc | apply Kd.R_drewN | apply Kd.R_drew)); exact HO_0.out))) (Kd.R_lt (by (with_reducible repeat (first | apply Kd.R_alloc | apply Kd.R_drewN | apply Kd.R_drew)); exact HO336.out))) (below_size (by repeat (first | (with_reducible first | exact HB.out | apply below_alloc | apply pw_below_drewN | apply below_drew1) | exact HB.out)))); have n3_ := Aside0.mk (Kd.C_below (by repeat (first | (with_reducible exact HR326.out) | (with_reducible refine Kd.C_alloc ?_ _) | (with_reducible refine Kd.C_drewN ?_ _) | (with_reducible refine Kd.C_drew ?_) | exact HR326.out)) hb); have n4_ := Aside0.mk (Kd.C_below (by repeat (first | (with_reducible exact HR333.out) | (with_reducible refine Kd.C_alloc ?_ _) | (with_reducible refine Kd.C_drewN ?_ _) | (with_reducible refine Kd.C_drew ?_) | exact HR333.out)) hb); have n5_ := Aside0.mk (below_step (by repeat (first | (with_reducible first | exact HB.out | apply below_alloc | apply pw_below_drewN | apply below_drew1) | exact HB.out)) hb); clear HO_0; clear HO336; clear HR326; clear HR333; clear HB; have HO_0 := n0_; have HO336 := n1_; have HO342 := n2_; have HR326 := n3_; have HR333 := n4_; have HB := n5_; clear n0_ n1_ n2_ n3_ n4_ n5_; (try clear hb); (try clear hb2); (try clear hk); (try clear hi); (try clear ho0); have q38 : ((wrap64 ((ji14) + 1)) : Int) ≤ ((t314.length : Int) : Int) := of_decide_eq_true (by first | (with_reducible assumption) | assumption); obtain ⟨i038, hi038, _, hsz38, _⟩ := info_parts info55; have hroom38 : t314.length ≤ co7 := (Kd.R_reads' HO_0.out).2.1; have hC38 : Kd.C k55 _ Ao7 t314.length t314 := (Kd.R_reads' HO_0.out).2.2; have ql38 : ((ji14) : Int) ≤ ((wrap64 ((ji14) + 1)) : Int) := of_decide_eq_true (by first | (with_reducible assumption) | assumption); have q038 : (0 : Int) ≤ ((ji14) : Int) := of_decide_eq_true (by first | (with_reducible assumption) | assumption); have hcut38 := cut_mid (P := Tryd.prog) 51 55 .i64 .i64 Tryd.underlying51 hi038 2 hsz38 Ao7 t314.length co7 (ji14) (wrap64 ((ji14) + 1)) q038 ql38 q38 hroom38; have hr38 := Kd.C_mid (lo := ((ji14) : Int).toNat) (hi := ((wrap64 ((ji14) + 1)) : Int).toNat) (c := co7) hC38 (by omega) (by omega) hroom38; obtain ⟨A38, hA38⟩ : ∃ A1, A1 = (if co7 = ((ji14) : Int).toNat then Ao7 else (Ao7 : Option Addr).map (·.add (((ji14) : Int).toNat * 2))) := ⟨_, rfl⟩; obtain ⟨c38, hc38⟩ : ∃ c1, c1 = co7 - ((ji14) : Int).toNat := ⟨_, rfl⟩; have hy38 : y343.length = ((wrap64 ((ji14) + 1)) : Int).toNat - ((ji14) : Int).toNat := (by rw [Ny343.out, List.length_drop, List.length_take] <;> omega); rw [show ((t314).take ((wrap64 ((ji14) + 1)) : Int).toNat).drop ((ji14) : Int).toNat = y343 from Ny343.out.symm] at hr38; replace hr38 : Kd.C k55 _ A38 y343.length y343 := (by rw [hA38]; exact hr38); rw [← hy38, ← hA38, ← hc38] at hcut38; have HR346 := Aside0.mk hr38; have HC346 := Aside0.mk (show y343.length ≤ c38 from by rw [hy38, hc38]; exact Nat.sub_le_sub_right (Nat.le_trans (by omega) hroom38) _); clear hr38 hC38 hroom38 hi038 hsz38 hc38; have KY38 := Aside0.mk hy38; have KA38 := Aside0.mk hA38; clear hy38 hA38; have KL38 := Aside0.mk (show ((wrap64 ((ji14) + 1)) : Int).toNat ≤ t314.length from by omega); have KM38 := Aside0.mk (show ((ji14) : Int).toNat ≤ ((wrap64 ((ji14) + 1)) : Int).toNat from by omega); replace q38 := eq_true q38) | ((with_reducible refine gate_callee (f := 77) rfl ?_); refine goesL_ (some 61) rfl rfl Tryd.func77 (by kernel_rfl) rfl #[.slice A38 y343.length c38] rfl (by (try simp only [List.map_toArray, List.map_cons, List.map_nil]); first | done | rfl | (simp only [List.length_drop, List.length_take]; rfl)) ?_; (with_reducible refine (query_Text.calls kj4 _ _ y343 t347 t348 _ ?side1 ?side2 A26.out).mono ?_); (case side1 => repeat (first | exact (by repeat (first | (with_reducible exact HR346.out) | (with_reducible refine Kd.C_alloc ?_ _) | (with_reducible refine Kd.C_drewN ?_ _) | (with_reducible refine Kd.C_drew ?_) | exact HR346.out)) | (with_reducible refine Kd.C_alloc ?_ _) | (with_reducible refine Kd.C_drewN ?_ _) | (with_reducible refine Kd.C_drew ?_))); (case side2 => exact HC346.out); rintro e w39 ⟨rfl, hb⟩; refine ⟨_, rfl, ?_⟩; have n0_ := Aside0.mk (Kd.R_below (by (with_reducible repeat (first | apply Kd.R_alloc | apply Kd.R_drewN | apply Kd.R_drew)); exact HO_0.out) hb); have n1_ := Aside0.mk (Kd.R_below (by (with_reducible repeat (first | apply Kd.R_alloc | apply Kd.R_drewN | apply Kd.R_drew)); exact HO336.out) hb); have n2_ := Aside0.mk (Kd.R_below (by (with_reducible repeat (first | apply Kd.R_alloc | apply Kd.R_drewN | apply Kd.R_drew)); exact HO342.out) hb); have n3_ := Aside0.mk (Kd.C_below (by repeat (first | (with_reducible exact HR326.out) | (with_reducible refine Kd.C_alloc ?_ _) | (with_reducible refine Kd.C_drewN ?_ _) | (with_reducible refine Kd.C_drew ?_) | exact HR326.out)) hb); have n4_ := Aside0.mk (Kd.C_below (by repeat (first | (with_reducible exact HR333.out) | (with_reducible refine Kd.C_alloc ?_ _) | (with_reducible refine Kd.C_drewN ?_ _) | (with_reducible refine Kd.C_drew ?_) | exact HR333.out)) hb); have n5_ := Aside0.mk (Kd.C_below (by repeat (first | (with_reducible exact HR346.out) | (with_reducible refine Kd.C_alloc ?_ _) | (with_reducible refine Kd.C_drewN ?_ _) | (with_reducible refine Kd.C_drew ?_) | exact HR346.out)) hb); have n6_ := Aside0.mk (below_step (by repeat (first | (with_reducible first | exact HB.out | apply below_alloc | apply pw_below_drewN | apply below_drew1) | exact HB.out)) hb); clear HO_0; clear HO336; clear HO342; clear HR326; clear HR333; clear HR346; clear HB; have HO_0 := n0_; have HO336 := n1_; have HO342 := n2_; have HR326 := n3_; have HR333 := n4_; have HR346 := n5_; have HB := n6_; clear n0_ n1_ n2_ n3_ n4_ n5_ n6_; (try clear hb); (try clear hb2); (try clear hk); (try clear hi)))
                      (try simp only [Act.put, List.setIfInBounds_toArray, List.set_cons_zero, List.set_cons_succ])
                      go_cut [86] (fun v86 wc => ∃ (kq : Nat) (x86_26 : Bool), v86 = .bool x86_26 ∧ Aside0 (tolllaw04_QueryTurns.j1 kq t317 t347 x86_26 = some r) ∧ Aside0 (kq ≤ kj4) ∧ Aside0 (Kd.C k55 wc A29 y323.length y323) ∧ Aside0 (Kd.C k55 wc Ao7 y330.length y330) ∧ Aside0 (Kd.C k55 wc A38 y343.length y343) ∧ Aside0 (Below w.heap.size w wc))
                      case first =>
                        have H := HC27.out
                        clear HC27
                        by_cases c40 : t338 = 0
                        · rw [if_pos c40] at H
                          have c40b0 : (t338 == 0) = true := beq_iff_eq.mpr c40
                          have c40b1 : (t338 != 0) = false := bne_eq_false_iff_eq.mpr c40
                          clear c40
                          (first | rw [c40b0] | (simp only [i64_w, i32_w]; rw [c40b0]) | skip)
                          by_cases c41 : t340 = 0
                          · rw [if_pos c41] at H
                            have c41b0 : (t340 == 0) = true := beq_iff_eq.mpr c41
                            have c41b1 : (t340 != 0) = false := bne_eq_false_iff_eq.mpr c41
                            clear c41
                            by_cases c42 : t348 = 0
                            · rw [if_pos c42] at H
                              have c42b0 : (t348 == 0) = true := beq_iff_eq.mpr c42
                              have c42b1 : (t348 != 0) = false := bne_eq_false_iff_eq.mpr c42
                              clear c42
                              replace H := Option.bind_eq_some_iff.mp H
                              obtain ⟨t349, A430, H⟩ := H
                              replace H : (if t349 = true then (tolllaw04_QueryTurns.j1 kj4 t317 t347 ((t337.size : Int) != (t317.size : Int))) else (tolllaw04_QueryTurns.j1 kj4 t317 t347 true)) = some r := H
                              have A43 := Aside0.mk A430
                              clear A430
                              by_cases c44 : t349 = true
                              · subst c44
                                have H1 : (tolllaw04_QueryTurns.j1 kj4 t317 t347 ((t337.size : Int) != (t317.size : Int))) = some r := by rw [if_pos rfl] at H; exact H
                                clear H
                                have H := H1
                                clear H1
                                have H' := Aside0.mk H
                                clear H
                                obtain ⟨Ao45, co45, eo45⟩ := Kd.R_slice HO342.out
                                subst eo45
                                go_wp2_with (first | (go_at_call 85; (with_reducible refine (tollref04_Same.calls kj4 _ _ t339 _ _ y334 true _ ?side1 ?side2 ?side3 ?side4 A43.out).mono ?_); (case side1 => repeat (first | exact (Kd.R_reads' HO342.out).2.2 | (with_reducible refine Kd.C_alloc ?_ _) | (with_reducible refine Kd.C_drewN ?_ _) | (with_reducible refine Kd.C_drew ?_))); (case side2 => exact (Kd.R_reads' HO342.out).2.1); (case side3 => repeat (first | exact (Kd.R_reads' HO336.out).2.2 | (with_reducible refine Kd.C_alloc ?_ _) | (with_reducible refine Kd.C_drewN ?_ _) | (with_reducible refine Kd.C_drew ?_))); (case side4 => exact (Kd.R_reads' HO336.out).2.1); rintro e w' ⟨rfl, ⟨nd, rfl⟩⟩))
                                go_meet
                                case rel => exact ⟨_, (((t337.size : Int) != (t317.size : Int))), (by first | rfl | (simp; done) | (simp [*]; done)), H', ⟨by have := HJ4.out; first | omega | exact Nat.le_refl _⟩, ⟨by repeat (first | (with_reducible exact HR326.out) | (with_reducible refine Kd.C_alloc ?_ _) | (with_reducible refine Kd.C_drewN ?_ _) | (with_reducible refine Kd.C_drew ?_) | exact HR326.out)⟩, ⟨by repeat (first | (with_reducible exact HR333.out) | (with_reducible refine Kd.C_alloc ?_ _) | (with_reducible refine Kd.C_drewN ?_ _) | (with_reducible refine Kd.C_drew ?_) | exact HR333.out)⟩, ⟨by repeat (first | (with_reducible exact HR346.out) | (with_reducible refine Kd.C_alloc ?_ _) | (with_reducible refine Kd.C_drewN ?_ _) | (with_reducible refine Kd.C_drew ?_) | exact HR346.out)⟩, ⟨by repeat (first | (with_reducible first | exact HB.out | apply below_alloc | apply pw_below_drewN | apply below_drew1) | exact HB.out)⟩⟩
                              · replace c44 := Bool.eq_false_iff.mpr c44
                                subst c44
                                have H1 : (tolllaw04_QueryTurns.j1 kj4 t317 t347 true) = some r := by rw [if_neg (show ¬ (false = true) by decide)] at H; exact H
                                clear H
                                have H := H1
                                clear H1
                                have H' := Aside0.mk H
                                clear H
                                obtain ⟨Ao46, co46, eo46⟩ := Kd.R_slice HO342.out
                                subst eo46
                                go_wp2_with (first | (go_at_call 85; (with_reducible refine (tollref04_Same.calls kj4 _ _ t339 _ _ y334 false _ ?side1 ?side2 ?side3 ?side4 A43.out).mono ?_); (case side1 => repeat (first | exact (Kd.R_reads' HO342.out).2.2 | (with_reducible refine Kd.C_alloc ?_ _) | (with_reducible refine Kd.C_drewN ?_ _) | (with_reducible refine Kd.C_drew ?_))); (case side2 => exact (Kd.R_reads' HO342.out).2.1); (case side3 => repeat (first | exact (Kd.R_reads' HO336.out).2.2 | (with_reducible refine Kd.C_alloc ?_ _) | (with_reducible refine Kd.C_drewN ?_ _) | (with_reducible refine Kd.C_drew ?_))); (case side4 => exact (Kd.R_reads' HO336.out).2.1); rintro e w' ⟨rfl, ⟨nd, rfl⟩⟩))
                                go_meet
                                case rel => exact ⟨_, (true), (by first | rfl | (simp; done) | (simp [*]; done)), H', ⟨by have := HJ4.out; first | omega | exact Nat.le_refl _⟩, ⟨by repeat (first | (with_reducible exact HR326.out) | (with_reducible refine Kd.C_alloc ?_ _) | (with_reducible refine Kd.C_drewN ?_ _) | (with_reducible refine Kd.C_drew ?_) | exact HR326.out)⟩, ⟨by repeat (first | (with_reducible exact HR333.out) | (with_reducible refine Kd.C_alloc ?_ _) | (with_reducible refine Kd.C_drewN ?_ _) | (with_reducible refine Kd.C_drew ?_) | exact HR333.out)⟩, ⟨by repeat (first | (with_reducible exact HR346.out) | (with_reducible refine Kd.C_alloc ?_ _) | (with_reducible refine Kd.C_drewN ?_ _) | (with_reducible refine Kd.C_drew ?_) | exact HR346.out)⟩, ⟨by repeat (first | (with_reducible first | exact HB.out | apply below_alloc | apply pw_below_drewN | apply below_drew1) | exact HB.out)⟩⟩
                            · rw [if_neg c42] at H
                              have c42b0 : (t348 == 0) = false := beq_eq_false_iff_ne.mpr c42
                              have c42b1 : (t348 != 0) = true := bne_iff_ne.mpr c42
                              have H' := Aside0.mk H
                              clear H
                              go_wp2
                              go_meet
                              case rel => exact ⟨_, (true), (by first | rfl | (simp; done) | (simp [*]; done)), H', ⟨by have := HJ4.out; first | omega | exact Nat.le_refl _⟩, ⟨by repeat (first | (with_reducible exact HR326.out) | (with_reducible refine Kd.C_alloc ?_ _) | (with_reducible refine Kd.C_drewN ?_ _) | (with_reducible refine Kd.C_drew ?_) | exact HR326.out)⟩, ⟨by repeat (first | (with_reducible exact HR333.out) | (with_reducible refine Kd.C_alloc ?_ _) | (with_reducible refine Kd.C_drewN ?_ _) | (with_reducible refine Kd.C_drew ?_) | exact HR333.out)⟩, ⟨by repeat (first | (with_reducible exact HR346.out) | (with_reducible refine Kd.C_alloc ?_ _) | (with_reducible refine Kd.C_drewN ?_ _) | (with_reducible refine Kd.C_drew ?_) | exact HR346.out)⟩, ⟨by repeat (first | (with_reducible first | exact HB.out | apply below_alloc | apply pw_below_drewN | apply below_drew1) | exact HB.out)⟩⟩
                          · rw [if_neg c41] at H
                            have c41b0 : (t340 == 0) = false := beq_eq_false_iff_ne.mpr c41
                            have c41b1 : (t340 != 0) = true := bne_iff_ne.mpr c41
                            have H' := Aside0.mk H
                            clear H
                            go_wp2
                            go_meet
                            case rel => exact ⟨_, (true), (by first | rfl | (simp; done) | (simp [*]; done)), H', ⟨by have := HJ4.out; first | omega | exact Nat.le_refl _⟩, ⟨by repeat (first | (with_reducible exact HR326.out) | (with_reducible refine Kd.C_alloc ?_ _) | (with_reducible refine Kd.C_drewN ?_ _) | (with_reducible refine Kd.C_drew ?_) | exact HR326.out)⟩, ⟨by repeat (first | (with_reducible exact HR333.out) | (with_reducible refine Kd.C_alloc ?_ _) | (with_reducible refine Kd.C_drewN ?_ _) | (with_reducible refine Kd.C_drew ?_) | exact HR333.out)⟩, ⟨by repeat (first | (with_reducible exact HR346.out) | (with_reducible refine Kd.C_alloc ?_ _) | (with_reducible refine Kd.C_drewN ?_ _) | (with_reducible refine Kd.C_drew ?_) | exact HR346.out)⟩, ⟨by repeat (first | (with_reducible first | exact HB.out | apply below_alloc | apply pw_below_drewN | apply below_drew1) | exact HB.out)⟩⟩
                        · rw [if_neg c40] at H
                          have c40b0 : (t338 == 0) = false := beq_eq_false_iff_ne.mpr c40
                          have c40b1 : (t338 != 0) = true := bne_iff_ne.mpr c40
                          (first | rw [c40b0] | (simp only [i64_w, i32_w]; rw [c40b0]) | skip)
                          have H' := Aside0.mk H
                          clear H
                          go_wp2
                          go_meet
                          case rel => exact ⟨_, (true), (by first | rfl | (simp; done) | (simp [*]; done)), H', ⟨by have := HJ4.out; first | omega | exact Nat.le_refl _⟩, ⟨by repeat (first | (with_reducible exact HR326.out) | (with_reducible refine Kd.C_alloc ?_ _) | (with_reducible refine Kd.C_drewN ?_ _) | (with_reducible refine Kd.C_drew ?_) | exact HR326.out)⟩, ⟨by repeat (first | (with_reducible exact HR333.out) | (with_reducible refine Kd.C_alloc ?_ _) | (with_reducible refine Kd.C_drewN ?_ _) | (with_reducible refine Kd.C_drew ?_) | exact HR333.out)⟩, ⟨by repeat (first | (with_reducible exact HR346.out) | (with_reducible refine Kd.C_alloc ?_ _) | (with_reducible refine Kd.C_drewN ?_ _) | (with_reducible refine Kd.C_drew ?_) | exact HR346.out)⟩, ⟨by repeat (first | (with_reducible first | exact HB.out | apply below_alloc | apply pw_below_drewN | apply below_drew1) | exact HB.out)⟩⟩
                      case rest =>
                        clear HC27
                        try clear c1
                        try clear c2
                        try clear p2
                        try clear q2
                        try clear c3
                        try clear q3
                        try clear c4
                        try clear p6
                        try clear c7
                        try clear c8
                        try clear c9
                        try clear c9b0
                        try clear c9b1
                        try clear c10
                        try clear c13
                        try clear c13b0
                        try clear c13b1
                        try clear c13b2
                        try clear c15
                        try clear c15b0
                        try clear c15b1
                        try clear c16
                        try clear c16b0
                        try clear c16b1
                        try clear c17
                        try clear c18
                        try clear c18b0
                        try clear c19
                        try clear c19b0
                        try clear c20
                        try clear c23
                        try clear c23b0
                        try clear c24
                        try clear c24b0
                        try clear c24b1
                        try clear c25
                        try clear c25b0
                        try clear c25b1
                        try clear c28
                        try clear c29
                        try clear q29
                        try clear q30
                        try clear c38
                        try clear q38
                        try clear c40
                        try clear c40b0
                        try clear c40b1
                        try clear c41
                        try clear c41b0
                        try clear c41b1
                        try clear c42
                        try clear c42b0
                        try clear c42b1
                        try clear c44
                        try clear p2
                        try clear q029
                        try clear q038
                        try clear q29
                        try clear q30
                        try clear q38
                        obtain ⟨kq, x86_26, rfl, HA, HJ26, HR326, HR333, HR346, HB⟩ := hcut
                        cases kq with
                        | zero => exact absurd HA.out (by simp [tolllaw04_QueryTurns.j1])
                        | succ kj26 =>
                          have H := HA.out
                          clear HA
                          simp only [tolllaw04_QueryTurns.j1] at H
                          by_cases c47 : x86_26 = true
                          · subst c47
                            have H1 : (some false) = some r := by rw [if_pos rfl] at H; exact H
                            clear H
                            have H := H1
                            clear H1
                            obtain rfl := Option.some.inj H
                            go_wp2
                            go_ret
                            exact ⟨by first | rfl | (simp [errW_none, errW_some] <;> rfl) | (simp only [← hji14]; first | rfl | (simp [errW_none, errW_some] <;> rfl)) | (simp [*, errW_none, errW_some] <;> rfl), by repeat (first | (with_reducible first | exact HB.out | apply below_alloc | apply pw_below_drewN | apply below_drew1) | exact HB.out)⟩
                          · replace c47 := Bool.eq_false_iff.mpr c47
                            subst c47
                            have H1 : (tolllaw04_QueryTurns.l0 kj26 t317 t347 0) = some r := by rw [if_neg (show ¬ (false = true) by decide)] at H; exact H
                            clear H
                            have H := H1
                            clear H1
                            have H' := Aside0.mk H
                            clear H
                            go_wp2
                            go_loopg [15] kj26 (fun kq v15 w' => ∃ (x15_3 : Int), v15 = .int .i64 x15_3 ∧ Aside0 (tolllaw04_QueryTurns.l0 kq t317 t347 x15_3 = some r) ∧ Aside0 (kq ≤ kj26) ∧ Aside0 (Kd.C k55 w' A29 y323.length y323) ∧ Aside0 (Kd.C k55 w' Ao7 y330.length y330) ∧ Aside0 (Kd.C k55 w' A38 y343.length y343) ∧ Aside0 (Below w.heap.size w w'))
                            case atStart => exact ⟨(0), (by first | rfl | (simp; done) | (simp [*]; done)), H', ⟨Nat.le_refl _⟩, ⟨by repeat (first | (with_reducible exact HR326.out) | (with_reducible refine Kd.C_alloc ?_ _) | (with_reducible refine Kd.C_drewN ?_ _) | (with_reducible refine Kd.C_drew ?_) | exact HR326.out)⟩, ⟨by repeat (first | (with_reducible exact HR333.out) | (with_reducible refine Kd.C_alloc ?_ _) | (with_reducible refine Kd.C_drewN ?_ _) | (with_reducible refine Kd.C_drew ?_) | exact HR333.out)⟩, ⟨by repeat (first | (with_reducible exact HR346.out) | (with_reducible refine Kd.C_alloc ?_ _) | (with_reducible refine Kd.C_drewN ?_ _) | (with_reducible refine Kd.C_drew ?_) | exact HR346.out)⟩, ⟨by repeat (first | (with_reducible first | exact HB.out | apply below_alloc | apply pw_below_drewN | apply below_drew1) | exact HB.out)⟩⟩
                            case round =>
                              clear H'
                              try clear c1
                              try clear c2
                              try clear p2
                              try clear q2
                              try clear c3
                              try clear q3
                              try clear c4
                              try clear p6
                              try clear c7
                              try clear c8
                              try clear c9
                              try clear c9b0
                              try clear c9b1
                              try clear c10
                              try clear c13
                              try clear c13b0
                              try clear c13b1
                              try clear c13b2
                              try clear c15
                              try clear c15b0
                              try clear c15b1
                              try clear c16
                              try clear c16b0
                              try clear c16b1
                              try clear c17
                              try clear c18
                              try clear c18b0
                              try clear c19
                              try clear c19b0
                              try clear c20
                              try clear c23
                              try clear c23b0
                              try clear c24
                              try clear c24b0
                              try clear c24b1
                              try clear c25
                              try clear c25b0
                              try clear c25b1
                              try clear c28
                              try clear c29
                              try clear q29
                              try clear q30
                              try clear c38
                              try clear q38
                              try clear c40
                              try clear c40b0
                              try clear c40b1
                              try clear c41
                              try clear c41b0
                              try clear c41b1
                              try clear c42
                              try clear c42b0
                              try clear c42b1
                              try clear c44
                              try clear c47
                              try clear p2
                              try clear p6
                              try clear q029
                              try clear q038
                              try clear q2
                              try clear q29
                              try clear q3
                              try clear q30
                              try clear q38
                              obtain ⟨x15_3, rfl, HA, HK3, HR326, HR333, HR346, HB⟩ := hrel
                              cases gk with
                              | zero => exact absurd HA.out (by simp [tolllaw04_QueryTurns.l0])
                              | succ k3 =>
                                have H := HA.out
                                clear HA
                                simp only [tolllaw04_QueryTurns.l0] at H
                                by_cases c48 : (wrap64 (x15_3 + (t347.size : Int))) ≤ (t317.size : Int)
                                · rw [if_pos c48] at H
                                  have c48b0 : decide ((wrap64 (x15_3 + (t347.size : Int))) ≤ (t317.size : Int)) = true := decide_eq_true c48
                                  clear c48
                                  by_cases c49 : 0 ≤ x15_3
                                  · rw [if_pos c49] at H
                                    have c49b0 := eq_true c49
                                    have c49b1 : decide (0 ≤ x15_3) = true := decide_eq_true c49
                                    clear c49
                                    by_cases c50 : x15_3 ≤ (wrap64 (x15_3 + (t347.size : Int)))
                                    · rw [if_pos c50] at H
                                      have c50b0 := eq_true c50
                                      have c50b1 : decide (x15_3 ≤ (wrap64 (x15_3 + (t347.size : Int)))) = true := decide_eq_true c50
                                      have c51b0 := eq_true (of_decide_eq_true (by first | (with_reducible assumption) | assumption) : (wrap64 (x15_3 + (t347.size : Int))) ≤ (t317.size : Int))
                                      by_cases c52 : (t317.extract (x15_3 : Int).toNat ((wrap64 (x15_3 + (t347.size : Int))) : Int).toNat).toList = t347.toList
                                      · rw [if_pos c52] at H
                                        have c52b0 : ((t317.extract (x15_3 : Int).toNat ((wrap64 (x15_3 + (t347.size : Int))) : Int).toNat).toList == t347.toList) = true := beq_iff_eq.mpr c52
                                        have c52b1 : ((t317.extract (x15_3 : Int).toNat ((wrap64 (x15_3 + (t347.size : Int))) : Int).toNat).toList != t347.toList) = false := bne_eq_false_iff_eq.mpr c52
                                        clear c52
                                        replace H := Option.bind_eq_some_iff.mp H
                                        obtain ⟨t350, A530, H⟩ := H
                                        replace H : (some t350) = some r := H
                                        have A53 := Aside0.mk A530
                                        clear A530
                                        obtain rfl := Option.some.inj H
                                        go_wp2_with (first | ((with_reducible refine gate_callee (f := 82) rfl ?_); refine goesL_ (some 105) rfl rfl Tryd.func82 (by kernel_rfl) rfl #[] rfl (by (try simp only [List.map_toArray, List.map_cons, List.map_nil]); first | done | rfl | (simp only [List.length_drop, List.length_take]; rfl)) ?_; (with_reducible refine (tolllaw04_awake.calls k3  t350 _ A53.out).mono ?_); rintro e w54 ⟨rfl, hb⟩; refine ⟨_, rfl, ?_⟩; have n0_ := Aside0.mk (Kd.C_below (by repeat (first | (with_reducible exact HR326.out) | (with_reducible refine Kd.C_alloc ?_ _) | (with_reducible refine Kd.C_drewN ?_ _) | (with_reducible refine Kd.C_drew ?_) | exact HR326.out)) hb); have n1_ := Aside0.mk (Kd.C_below (by repeat (first | (with_reducible exact HR333.out) | (with_reducible refine Kd.C_alloc ?_ _) | (with_reducible refine Kd.C_drewN ?_ _) | (with_reducible refine Kd.C_drew ?_) | exact HR333.out)) hb); have n2_ := Aside0.mk (Kd.C_below (by repeat (first | (with_reducible exact HR346.out) | (with_reducible refine Kd.C_alloc ?_ _) | (with_reducible refine Kd.C_drewN ?_ _) | (with_reducible refine Kd.C_drew ?_) | exact HR346.out)) hb); have n3_ := Aside0.mk (below_step (by repeat (first | (with_reducible first | exact HB.out | apply below_alloc | apply pw_below_drewN | apply below_drew1) | exact HB.out)) hb); clear HR326; clear HR333; clear HR346; clear HB; have HR326 := n0_; have HR333 := n1_; have HR346 := n2_; have HB := n3_; clear n0_ n1_ n2_ n3_; (try clear hb); (try clear hb2); (try clear hk); (try clear hi)))
                                        go_ret
                                        exact ⟨by first | rfl | (simp [errW_none, errW_some] <;> rfl) | (simp only [← hji14]; first | rfl | (simp [errW_none, errW_some] <;> rfl)) | (simp [*, errW_none, errW_some] <;> rfl), by repeat (first | (with_reducible first | exact HB.out | apply below_alloc | apply pw_below_drewN | apply below_drew1) | exact HB.out)⟩
                                      · rw [if_neg c52] at H
                                        have c52b0 : ((t317.extract (x15_3 : Int).toNat ((wrap64 (x15_3 + (t347.size : Int))) : Int).toNat).toList == t347.toList) = false := beq_eq_false_iff_ne.mpr c52
                                        have c52b1 : ((t317.extract (x15_3 : Int).toNat ((wrap64 (x15_3 + (t347.size : Int))) : Int).toNat).toList != t347.toList) = true := bne_iff_ne.mpr c52
                                        have H' := Aside0.mk H
                                        clear H
                                        go_wp2
                                        go_roundg k3
                                        case measure => have := HJ4.out; have := HJ26.out; have := HK3.out; omega
                                        case rel => exact ⟨(wrap64 (x15_3 + 1)), (by first | rfl | (simp; done) | (simp [*]; done)), H', ⟨by have := HJ4.out; have := HJ26.out; have := HK3.out; omega⟩, ⟨by repeat (first | (with_reducible exact HR326.out) | (with_reducible refine Kd.C_alloc ?_ _) | (with_reducible refine Kd.C_drewN ?_ _) | (with_reducible refine Kd.C_drew ?_) | exact HR326.out)⟩, ⟨by repeat (first | (with_reducible exact HR333.out) | (with_reducible refine Kd.C_alloc ?_ _) | (with_reducible refine Kd.C_drewN ?_ _) | (with_reducible refine Kd.C_drew ?_) | exact HR333.out)⟩, ⟨by repeat (first | (with_reducible exact HR346.out) | (with_reducible refine Kd.C_alloc ?_ _) | (with_reducible refine Kd.C_drewN ?_ _) | (with_reducible refine Kd.C_drew ?_) | exact HR346.out)⟩, ⟨by repeat (first | (with_reducible first | exact HB.out | apply below_alloc | apply pw_below_drewN | apply below_drew1) | exact HB.out)⟩⟩
                                    · rw [if_neg c50] at H
                                      exact absurd H (by simp)
                                  · rw [if_neg c49] at H
                                    exact absurd H (by simp)
                                · rw [if_neg c48] at H
                                  have c48b0 : decide ((wrap64 (x15_3 + (t347.size : Int))) ≤ (t317.size : Int)) = false := decide_eq_false c48
                                  clear c48
                                  obtain rfl := Option.some.inj H
                                  go_wp2
                                  go_ret
                                  exact ⟨by first | rfl | (simp [errW_none, errW_some] <;> rfl) | (simp only [← hji14]; first | rfl | (simp [errW_none, errW_some] <;> rfl)) | (simp [*, errW_none, errW_some] <;> rfl), by repeat (first | (with_reducible first | exact HB.out | apply below_alloc | apply pw_below_drewN | apply below_drew1) | exact HB.out)⟩
                    · rw [if_neg c25] at H
                      exact absurd H (by simp)
                  · rw [if_neg c24] at H
                    exact absurd H (by simp)
                · rw [if_neg c20] at H
                  exact absurd H (by simp)
              · rw [if_neg c17] at H
                exact absurd H (by simp)
            · rw [if_neg c16] at H
              exact absurd H (by simp)
          · rw [if_neg c15] at H
            exact absurd H (by simp)

end Go.Proofs.YtcakednecmngdaaDoor.Y
