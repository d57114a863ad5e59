/- Functions of the program as plain functions, with proofs that the code comes to their answers; written by a program of this session. Conditions: as each theorem states them. -/
import Derived.Test.YtcakednecmngdaaDoorQ0
import Derived.Test.YtcakednecmngdaaDoorPf45
import Derived.Test.YtcakednecmngdaaDoorPf47
namespace Go.Proofs.YtcakednecmngdaaDoor.P
end Go.Proofs.YtcakednecmngdaaDoor.P
namespace Go.Proofs.YtcakednecmngdaaDoorW.PrintMore
end Go.Proofs.YtcakednecmngdaaDoorW.PrintMore
namespace Go.Proofs.YtcakednecmngdaaDoor.Q
open Go.Proofs.YtcakednecmngdaaDoor.P
open Go.RowKit Go.Proofs.YtcakednecmngdaaDoorW.PrintWords Go.Proofs.YtcakednecmngdaaDoorW.PrintLast Go.Proofs.YtcakednecmngdaaDoorW.PrintMore
set_option linter.unusedVariables false
set_option linter.unusedSimpArgs false

/-! ### tollref09_MayRef: function 110 -/
def tollref09_MayRef.j0 : Nat → Bool → Int → ByteArray → ByteArray → Option (Bool)
  | 0, _, _, _, _ => none
  | k + 1, x10, x265000, x265001, x265002 => if x10 = true then (some false) else (if x265000 < 3 then (if x265001.toList = ([] : List UInt8) then (if x265000 = 1 then ((tollref01_Name.f k x265002).bind fun t265 => (if t265 = true then (some true) else (if x265000 = 2 then ((tollref01_Label.f k x265002).bind fun t266 => (some t266)) else (some false)))) else (if x265000 = 2 then ((tollref01_Label.f k x265002).bind fun t267 => (some t267)) else (some false))) else (some false)) else ((tollref01_Label.f k x265001).bind fun t268 => (if t268 = true then ((tollref01_Name.f k x265002).bind fun t269 => (some t269)) else (some false))))
def tollref09_MayRef.f (k : Nat) (a0_0 : Int) (a0_1 : ByteArray) (a0_2 : ByteArray) : Option (Bool) := if a0_0 < 1 then (tollref09_MayRef.j0 k true a0_0 a0_1 a0_2) else (tollref09_MayRef.j0 k (decide (a0_0 > 7)) a0_0 a0_1 a0_2)
theorem tollref09_MayRef.mono_l : ∀ k, (∀ y0 y1 y2 y3, LeO (tollref09_MayRef.j0 k y0 y1 y2 y3) (tollref09_MayRef.j0 (k + 1) y0 y1 y2 y3))
  | 0 => fun _ _ _ _ r h => by simp [tollref09_MayRef.j0] at h
  | k + 1 => by
    have ih0 := tollref09_MayRef.mono_l k
    · intro y0 y1 y2 y3
      unfold tollref09_MayRef.j0
      repeat' first
      | (with_reducible exact ih0 _ _ _ _)
      | (with_reducible exact tollref01_Label.mono _ _)
      | (with_reducible exact tollref01_Name.mono _ _)
      | (with_reducible exact LeO.refl _)
      | (with_reducible exact LeO.none _)
      | (with_reducible refine LeO.ite ?_ ?_)
      | (with_reducible refine LeO.bind ?_ (fun _ => ?_))
      | exact ih0 _ _ _ _
      | exact tollref01_Label.mono _ _
      | exact tollref01_Name.mono _ _
      | exact LeO.none _
      | refine LeO.ite ?_ ?_
      | refine LeO.bind ?_ (fun _ => ?_)
theorem tollref09_MayRef.mono : ∀ a0 a1 a2 k, LeO (tollref09_MayRef.f k a0 a1 a2) (tollref09_MayRef.f (k + 1) a0 a1 a2) := by
  intro a0 a1 a2 k
  have ih0 := tollref09_MayRef.mono_l k
  unfold tollref09_MayRef.f
  repeat' first
      | (with_reducible exact ih0 _ _ _ _)
      | (with_reducible exact tollref01_Label.mono _ _)
      | (with_reducible exact tollref01_Name.mono _ _)
      | (with_reducible exact LeO.refl _)
      | (with_reducible exact LeO.none _)
      | (with_reducible refine LeO.ite ?_ ?_)
      | (with_reducible refine LeO.bind ?_ (fun _ => ?_))
      | exact ih0 _ _ _ _
      | exact tollref01_Label.mono _ _
      | exact tollref01_Name.mono _ _
      | exact LeO.none _
      | refine LeO.ite ?_ ?_
      | refine LeO.bind ?_ (fun _ => ?_)
set_option maxHeartbeats 8000000 in
set_option maxRecDepth 100000 in
theorem tollref09_MayRef.calls (k : Nat) (a0_0 : Int) (a0_1 : ByteArray) (a0_2 : ByteArray) (r : Bool) (w : World) (h : tollref09_MayRef.f k a0_0 a0_1 a0_2 = some r) :
    Calls Tryd.prog 110 #[.agg #[.int .i64 a0_0, .string a0_1, .string a0_2]] w fun e w' => e = .returned (.bool r) ∧ Below w.heap.size w w' := by
  have hu37 := Tryd.underlying37
  have HB := Aside0.mk (Below.refl w.heap.size w)
  have H : (if a0_0 < 1 then (tollref09_MayRef.j0 k true a0_0 a0_1 a0_2) else (tollref09_MayRef.j0 k (decide (a0_0 > 7)) a0_0 a0_1 a0_2)) = some r := h
  clear h
  have HC2 := Aside0.mk H
  clear H
  go_enter Tryd.func110, Tryd.ntmps110
  go_upto_region 1 with (first | ((with_reducible refine gate_dst (N := 1) rfl ?_); refine box_event ?hg (N := 1) ?hd (cs := #[.int .i64 a0_0, .string a0_1, .string a0_2]) (t := 37) ?hr ?_; (case hd => rfl); (case hg => rfl); (case hr => first | (go_simp; done) | (go_simp; rfl)); intro gb264 hg w3 hbox hb; have n0_ := Aside0.mk (below_step (by repeat (first | (with_reducible first | exact HB.out | apply below_alloc | apply pw_below_drewN | apply below_drew1) | exact HB.out)) hb); have n1_ := Aside0.mk (hbox); have n2_ := Aside0.mk ((by rw [hg]; exact (below_size (by repeat (first | (with_reducible first | exact HB.out | apply below_alloc | apply pw_below_drewN | apply below_drew1) | exact HB.out))) : w.heap.size ≤ gb264)); have n3_ := Aside0.mk ((by rw [hg]; exact (below_size (by repeat (first | (with_reducible first | exact HB.out | apply below_alloc | apply pw_below_drewN | apply below_drew1) | exact HB.out))) : w.heap.size ≤ gb264)); clear HB; have HB := n0_; have BK264 := n1_; have GW264 := n2_; have GE264 := n3_; clear n0_ n1_ n2_ n3_; clear hb hbox hg))
  (try simp only [Act.put, List.setIfInBounds_toArray, List.set_cons_zero, List.set_cons_succ])
  go_cut [10] (fun v10 wc => ∃ (kq : Nat) (x10_1 : Bool), v10 = .bool x10_1 ∧ Aside0 (tollref09_MayRef.j0 kq x10_1 a0_0 a0_1 a0_2 = some r) ∧ Aside0 (kq ≤ k) ∧ Aside0 (wc.heap[gb264]? = some (.cells #[.int .i64 a0_0, .string a0_1, .string a0_2] 37 (0, 0))) ∧ Aside0 (Below w.heap.size w wc))
  case first =>
    have H := HC2.out
    clear HC2
    by_cases c4 : a0_0 < 1
    · rw [if_pos c4] at H
      have c4b0 : decide (a0_0 < 1) = true := decide_eq_true c4
      clear c4
      (first | rw [c4b0] | (simp only [i64_w, i32_w]; rw [c4b0]) | skip)
      have H' := Aside0.mk H
      clear H
      have hcz5_0 : w3.cell? ⟨gb264, 0, none⟩ = some (.int .i64 a0_0) := (blk_cell BK264.out 0).trans rfl
      have hcz5_1 : w3.cell? ⟨gb264, 1, none⟩ = some (.string a0_1) := (blk_cell BK264.out 1).trans rfl
      have hcz5_2 : w3.cell? ⟨gb264, 2, none⟩ = some (.string a0_2) := (blk_cell BK264.out 2).trans rfl
      have hfz5_0 := blk_frozen BK264.out 0
      have hfz5_1 := blk_frozen BK264.out 1
      have hfz5_2 := blk_frozen BK264.out 2
      go_wp2
      go_meet
      case rel => exact ⟨_, (true), (by first | rfl | (simp; done) | (simp [*]; done)), H', ⟨by first | omega | exact Nat.le_refl _⟩, ⟨by (with_reducible repeat (first | refine blk_drewN ?_ _ | refine blk_drew ?_ | refine blk_alloc ?_ _)); exact BK264.out⟩, ⟨by repeat (first | (with_reducible first | exact HB.out | apply below_alloc | apply pw_below_drewN | apply below_drew1 | refine below_set ?_ GE264.out) | exact HB.out)⟩⟩
    · rw [if_neg c4] at H
      have c4b0 : decide (a0_0 < 1) = false := decide_eq_false c4
      clear c4
      (first | rw [c4b0] | (simp only [i64_w, i32_w]; rw [c4b0]) | skip)
      have H' := Aside0.mk H
      clear H
      have hcz6_0 : w3.cell? ⟨gb264, 0, none⟩ = some (.int .i64 a0_0) := (blk_cell BK264.out 0).trans rfl
      have hcz6_1 : w3.cell? ⟨gb264, 1, none⟩ = some (.string a0_1) := (blk_cell BK264.out 1).trans rfl
      have hcz6_2 : w3.cell? ⟨gb264, 2, none⟩ = some (.string a0_2) := (blk_cell BK264.out 2).trans rfl
      have hfz6_0 := blk_frozen BK264.out 0
      have hfz6_1 := blk_frozen BK264.out 1
      have hfz6_2 := blk_frozen BK264.out 2
      go_wp2
      go_meet
      case rel => exact ⟨_, (decide (a0_0 > 7)), (by first | rfl | (simp; done) | (simp [*]; done)), H', ⟨by first | omega | exact Nat.le_refl _⟩, ⟨by (with_reducible repeat (first | refine blk_drewN ?_ _ | refine blk_drew ?_ | refine blk_alloc ?_ _)); exact BK264.out⟩, ⟨by repeat (first | (with_reducible first | exact HB.out | apply below_alloc | apply pw_below_drewN | apply below_drew1 | refine below_set ?_ GE264.out) | exact HB.out)⟩⟩
  case rest =>
    clear HC2
    try clear c1
    try clear p2
    try clear c4
    try clear c4b0
    try clear hcz5_0
    try clear hcz5_1
    try clear hcz5_2
    try clear hcz6_0
    try clear hcz6_1
    try clear hcz6_2
    try clear hfz5_0
    try clear hfz5_1
    try clear hfz5_2
    try clear hfz6_0
    try clear hfz6_1
    try clear hfz6_2
    obtain ⟨kq, x10_1, rfl, HA, HJ1, BK264, HB⟩ := hcut
    cases kq with
    | zero => exact absurd HA.out (by simp [tollref09_MayRef.j0])
    | succ kj1 =>
      have H := HA.out
      clear HA
      simp only [tollref09_MayRef.j0] at H
      by_cases c7 : x10_1 = true
      · subst c7
        have H1 : (some false) = some r := by rw [if_pos rfl] at H; exact H
        clear H
        have H := H1
        clear H1
        obtain rfl := Option.some.inj H
        go_wp2
        go_ret
        exact ⟨by first | rfl | (simp [errW_none, errW_some] <;> rfl) | (simp [*, errW_none, errW_some] <;> rfl), by repeat (first | (with_reducible first | exact HB.out | apply below_alloc | apply pw_below_drewN | apply below_drew1 | refine below_set ?_ GE264.out) | exact HB.out)⟩
      · replace c7 := Bool.eq_false_iff.mpr c7
        subst c7
        have H1 : (if a0_0 < 3 then (if a0_1.toList = ([] : List UInt8) then (if a0_0 = 1 then ((tollref01_Name.f kj1 a0_2).bind fun t265 => (if t265 = true then (some true) else (if a0_0 = 2 then ((tollref01_Label.f kj1 a0_2).bind fun t266 => (some t266)) else (some false)))) else (if a0_0 = 2 then ((tollref01_Label.f kj1 a0_2).bind fun t267 => (some t267)) else (some false))) else (some false)) else ((tollref01_Label.f kj1 a0_1).bind fun t268 => (if t268 = true then ((tollref01_Name.f kj1 a0_2).bind fun t269 => (some t269)) else (some false)))) = some r := by rw [if_neg (show ¬ (false = true) by decide)] at H; exact H
        clear H
        have H := H1
        clear H1
        by_cases c8 : a0_0 < 3
        · rw [if_pos c8] at H
          have c8b0 : decide (a0_0 < 3) = true := decide_eq_true c8
          clear c8
          by_cases c9 : a0_1.toList = ([] : List UInt8)
          · rw [if_pos c9] at H
            have c9b0 : (a0_1.toList == ([] : List UInt8)) = true := beq_iff_eq.mpr c9
            have c9b1 : (a0_1.toList != ([] : List UInt8)) = false := bne_eq_false_iff_eq.mpr c9
            clear c9
            by_cases c10 : a0_0 = 1
            · rw [if_pos c10] at H
              have c10b0 : (a0_0 == 1) = true := beq_iff_eq.mpr c10
              have c10b1 : (a0_0 != 1) = false := bne_eq_false_iff_eq.mpr c10
              clear c10
              replace H := Option.bind_eq_some_iff.mp H
              obtain ⟨t265, A110, H⟩ := H
              replace H : (if t265 = true then (some true) else (if a0_0 = 2 then ((tollref01_Label.f kj1 a0_2).bind fun t266 => (some t266)) else (some false))) = some r := H
              have A11 := Aside0.mk A110
              clear A110
              by_cases c12 : t265 = true
              · subst c12
                have H1 : (some true) = some r := by rw [if_pos rfl] at H; exact H
                clear H
                have H := H1
                clear H1
                obtain rfl := Option.some.inj H
                have hcz13_0 : wc.cell? ⟨gb264, 0, none⟩ = some (.int .i64 a0_0) := (blk_cell BK264.out 0).trans rfl
                have hcz13_1 : wc.cell? ⟨gb264, 1, none⟩ = some (.string a0_1) := (blk_cell BK264.out 1).trans rfl
                have hcz13_2 : wc.cell? ⟨gb264, 2, none⟩ = some (.string a0_2) := (blk_cell BK264.out 2).trans rfl
                have hfz13_0 := blk_frozen BK264.out 0
                have hfz13_1 := blk_frozen BK264.out 1
                have hfz13_2 := blk_frozen BK264.out 2
                go_wp2_with (first | (go_at_call 45; (with_reducible refine (tollref01_Name.calls kj1 a0_2 true _ A11.out).mono ?_); rintro e w14 ⟨rfl, hb⟩; have n0_ := Aside0.mk (blk_below (g := gb264) (o := .cells #[.int .i64 a0_0, .string a0_1, .string a0_2] 37 (0, 0)) (by (with_reducible repeat (first | refine blk_drewN ?_ _ | refine blk_drew ?_ | refine blk_alloc ?_ _)); exact BK264.out) hb); have n1_ := Aside0.mk (below_step (by repeat (first | (with_reducible first | exact HB.out | apply below_alloc | apply pw_below_drewN | apply below_drew1 | refine below_set ?_ GE264.out) | exact HB.out)) hb); clear BK264; clear HB; have BK264 := n0_; have HB := n1_; clear n0_ n1_; (try clear hb); (try clear hb2); (try clear hk); (try clear hi)))
                go_ret
                exact ⟨by first | rfl | (simp [errW_none, errW_some] <;> rfl) | (simp [*, errW_none, errW_some] <;> rfl), by repeat (first | (with_reducible first | exact HB.out | apply below_alloc | apply pw_below_drewN | apply below_drew1 | refine below_set ?_ GE264.out) | exact HB.out)⟩
              · replace c12 := Bool.eq_false_iff.mpr c12
                subst c12
                have H1 : (if a0_0 = 2 then ((tollref01_Label.f kj1 a0_2).bind fun t266 => (some t266)) else (some false)) = some r := by rw [if_neg (show ¬ (false = true) by decide)] at H; exact H
                clear H
                have H := H1
                clear H1
                by_cases c15 : a0_0 = 2
                · rw [if_pos c15] at H
                  have c15b0 : (a0_0 == 2) = true := beq_iff_eq.mpr c15
                  have c15b1 : (a0_0 != 2) = false := bne_eq_false_iff_eq.mpr c15
                  clear c15
                  replace H := Option.bind_eq_some_iff.mp H
                  obtain ⟨t266, A160, H⟩ := H
                  replace H : (some t266) = some r := H
                  have A16 := Aside0.mk A160
                  clear A160
                  obtain rfl := Option.some.inj H
                  have hcz17_0 : wc.cell? ⟨gb264, 0, none⟩ = some (.int .i64 a0_0) := (blk_cell BK264.out 0).trans rfl
                  have hcz17_1 : wc.cell? ⟨gb264, 1, none⟩ = some (.string a0_1) := (blk_cell BK264.out 1).trans rfl
                  have hcz17_2 : wc.cell? ⟨gb264, 2, none⟩ = some (.string a0_2) := (blk_cell BK264.out 2).trans rfl
                  have hfz17_0 := blk_frozen BK264.out 0
                  have hfz17_1 := blk_frozen BK264.out 1
                  have hfz17_2 := blk_frozen BK264.out 2
                  go_wp2_with (first | (go_at_call 45; (with_reducible refine (tollref01_Name.calls kj1 a0_2 false _ A11.out).mono ?_); rintro e w18 ⟨rfl, hb⟩; have n0_ := Aside0.mk (blk_below (g := gb264) (o := .cells #[.int .i64 a0_0, .string a0_1, .string a0_2] 37 (0, 0)) (by (with_reducible repeat (first | refine blk_drewN ?_ _ | refine blk_drew ?_ | refine blk_alloc ?_ _)); exact BK264.out) hb); have n1_ := Aside0.mk (below_step (by repeat (first | (with_reducible first | exact HB.out | apply below_alloc | apply pw_below_drewN | apply below_drew1 | refine below_set ?_ GE264.out) | exact HB.out)) hb); clear BK264; clear HB; have BK264 := n0_; have HB := n1_; clear n0_ n1_; (try clear hb); (try clear hb2); (try clear hk); (try clear hi); have hcz19_0 : w18.cell? ⟨gb264, 0, none⟩ = some (.int .i64 a0_0) := (blk_cell BK264.out 0).trans rfl; have hcz19_1 : w18.cell? ⟨gb264, 1, none⟩ = some (.string a0_1) := (blk_cell BK264.out 1).trans rfl; have hcz19_2 : w18.cell? ⟨gb264, 2, none⟩ = some (.string a0_2) := (blk_cell BK264.out 2).trans rfl; have hfz19_0 := blk_frozen BK264.out 0; have hfz19_1 := blk_frozen BK264.out 1; have hfz19_2 := blk_frozen BK264.out 2) | (go_at_call 47; (with_reducible refine (tollref01_Label.calls kj1 a0_2 t266 _ A16.out).mono ?_); rintro e w' ⟨rfl, ⟨nd, rfl⟩⟩))
                  go_ret
                  exact ⟨by first | rfl | (simp [errW_none, errW_some] <;> rfl) | (simp [*, errW_none, errW_some] <;> rfl), by repeat (first | (with_reducible first | exact HB.out | apply below_alloc | apply pw_below_drewN | apply below_drew1 | refine below_set ?_ GE264.out) | exact HB.out)⟩
                · rw [if_neg c15] at H
                  have c15b0 : (a0_0 == 2) = false := beq_eq_false_iff_ne.mpr c15
                  have c15b1 : (a0_0 != 2) = true := bne_iff_ne.mpr c15
                  obtain rfl := Option.some.inj H
                  have hcz20_0 : wc.cell? ⟨gb264, 0, none⟩ = some (.int .i64 a0_0) := (blk_cell BK264.out 0).trans rfl
                  have hcz20_1 : wc.cell? ⟨gb264, 1, none⟩ = some (.string a0_1) := (blk_cell BK264.out 1).trans rfl
                  have hcz20_2 : wc.cell? ⟨gb264, 2, none⟩ = some (.string a0_2) := (blk_cell BK264.out 2).trans rfl
                  have hfz20_0 := blk_frozen BK264.out 0
                  have hfz20_1 := blk_frozen BK264.out 1
                  have hfz20_2 := blk_frozen BK264.out 2
                  go_wp2_with (first | (go_at_call 45; (with_reducible refine (tollref01_Name.calls kj1 a0_2 false _ A11.out).mono ?_); rintro e w21 ⟨rfl, hb⟩; have n0_ := Aside0.mk (blk_below (g := gb264) (o := .cells #[.int .i64 a0_0, .string a0_1, .string a0_2] 37 (0, 0)) (by (with_reducible repeat (first | refine blk_drewN ?_ _ | refine blk_drew ?_ | refine blk_alloc ?_ _)); exact BK264.out) hb); have n1_ := Aside0.mk (below_step (by repeat (first | (with_reducible first | exact HB.out | apply below_alloc | apply pw_below_drewN | apply below_drew1 | refine below_set ?_ GE264.out) | exact HB.out)) hb); clear BK264; clear HB; have BK264 := n0_; have HB := n1_; clear n0_ n1_; (try clear hb); (try clear hb2); (try clear hk); (try clear hi); have hcz22_0 : w21.cell? ⟨gb264, 0, none⟩ = some (.int .i64 a0_0) := (blk_cell BK264.out 0).trans rfl; have hcz22_1 : w21.cell? ⟨gb264, 1, none⟩ = some (.string a0_1) := (blk_cell BK264.out 1).trans rfl; have hcz22_2 : w21.cell? ⟨gb264, 2, none⟩ = some (.string a0_2) := (blk_cell BK264.out 2).trans rfl; have hfz22_0 := blk_frozen BK264.out 0; have hfz22_1 := blk_frozen BK264.out 1; have hfz22_2 := blk_frozen BK264.out 2))
                  go_ret
                  exact ⟨by first | rfl | (simp [errW_none, errW_some] <;> rfl) | (simp [*, errW_none, errW_some] <;> rfl), by repeat (first | (with_reducible first | exact HB.out | apply below_alloc | apply pw_below_drewN | apply below_drew1 | refine below_set ?_ GE264.out) | exact HB.out)⟩
            · rw [if_neg c10] at H
              have c10b0 : (a0_0 == 1) = false := beq_eq_false_iff_ne.mpr c10
              have c10b1 : (a0_0 != 1) = true := bne_iff_ne.mpr c10
              by_cases c23 : a0_0 = 2
              · rw [if_pos c23] at H
                have c23b0 : (a0_0 == 2) = true := beq_iff_eq.mpr c23
                have c23b1 : (a0_0 != 2) = false := bne_eq_false_iff_eq.mpr c23
                clear c23
                replace H := Option.bind_eq_some_iff.mp H
                obtain ⟨t267, A240, H⟩ := H
                replace H : (some t267) = some r := H
                have A24 := Aside0.mk A240
                clear A240
                obtain rfl := Option.some.inj H
                have hcz25_0 : wc.cell? ⟨gb264, 0, none⟩ = some (.int .i64 a0_0) := (blk_cell BK264.out 0).trans rfl
                have hcz25_1 : wc.cell? ⟨gb264, 1, none⟩ = some (.string a0_1) := (blk_cell BK264.out 1).trans rfl
                have hcz25_2 : wc.cell? ⟨gb264, 2, none⟩ = some (.string a0_2) := (blk_cell BK264.out 2).trans rfl
                have hfz25_0 := blk_frozen BK264.out 0
                have hfz25_1 := blk_frozen BK264.out 1
                have hfz25_2 := blk_frozen BK264.out 2
                go_wp2_with (first | (go_at_call 47; (with_reducible refine (tollref01_Label.calls kj1 a0_2 t267 _ A24.out).mono ?_); rintro e w' ⟨rfl, ⟨nd, rfl⟩⟩))
                go_ret
                exact ⟨by first | rfl | (simp [errW_none, errW_some] <;> rfl) | (simp [*, errW_none, errW_some] <;> rfl), by repeat (first | (with_reducible first | exact HB.out | apply below_alloc | apply pw_below_drewN | apply below_drew1 | refine below_set ?_ GE264.out) | exact HB.out)⟩
              · rw [if_neg c23] at H
                have c23b0 : (a0_0 == 2) = false := beq_eq_false_iff_ne.mpr c23
                have c23b1 : (a0_0 != 2) = true := bne_iff_ne.mpr c23
                obtain rfl := Option.some.inj H
                have hcz26_0 : wc.cell? ⟨gb264, 0, none⟩ = some (.int .i64 a0_0) := (blk_cell BK264.out 0).trans rfl
                have hcz26_1 : wc.cell? ⟨gb264, 1, none⟩ = some (.string a0_1) := (blk_cell BK264.out 1).trans rfl
                have hcz26_2 : wc.cell? ⟨gb264, 2, none⟩ = some (.string a0_2) := (blk_cell BK264.out 2).trans rfl
                have hfz26_0 := blk_frozen BK264.out 0
                have hfz26_1 := blk_frozen BK264.out 1
                have hfz26_2 := blk_frozen BK264.out 2
                go_wp2
                go_ret
                exact ⟨by first | rfl | (simp [errW_none, errW_some] <;> rfl) | (simp [*, errW_none, errW_some] <;> rfl), by repeat (first | (with_reducible first | exact HB.out | apply below_alloc | apply pw_below_drewN | apply below_drew1 | refine below_set ?_ GE264.out) | exact HB.out)⟩
          · rw [if_neg c9] at H
            have c9b0 : (a0_1.toList == ([] : List UInt8)) = false := beq_eq_false_iff_ne.mpr c9
            have c9b1 : (a0_1.toList != ([] : List UInt8)) = true := bne_iff_ne.mpr c9
            obtain rfl := Option.some.inj H
            have hcz27_0 : wc.cell? ⟨gb264, 0, none⟩ = some (.int .i64 a0_0) := (blk_cell BK264.out 0).trans rfl
            have hcz27_1 : wc.cell? ⟨gb264, 1, none⟩ = some (.string a0_1) := (blk_cell BK264.out 1).trans rfl
            have hcz27_2 : wc.cell? ⟨gb264, 2, none⟩ = some (.string a0_2) := (blk_cell BK264.out 2).trans rfl
            have hfz27_0 := blk_frozen BK264.out 0
            have hfz27_1 := blk_frozen BK264.out 1
            have hfz27_2 := blk_frozen BK264.out 2
            go_wp2
            go_ret
            exact ⟨by first | rfl | (simp [errW_none, errW_some] <;> rfl) | (simp [*, errW_none, errW_some] <;> rfl), by repeat (first | (with_reducible first | exact HB.out | apply below_alloc | apply pw_below_drewN | apply below_drew1 | refine below_set ?_ GE264.out) | exact HB.out)⟩
        · rw [if_neg c8] at H
          have c8b0 : decide (a0_0 < 3) = false := decide_eq_false c8
          clear c8
          replace H := Option.bind_eq_some_iff.mp H
          obtain ⟨t268, A280, H⟩ := H
          replace H : (if t268 = true then ((tollref01_Name.f kj1 a0_2).bind fun t269 => (some t269)) else (some false)) = some r := H
          have A28 := Aside0.mk A280
          clear A280
          by_cases c29 : t268 = true
          · subst c29
            have H1 : ((tollref01_Name.f kj1 a0_2).bind fun t269 => (some t269)) = some r := by rw [if_pos rfl] at H; exact H
            clear H
            have H := H1
            clear H1
            replace H := Option.bind_eq_some_iff.mp H
            obtain ⟨t269, A300, H⟩ := H
            replace H : (some t269) = some r := H
            have A30 := Aside0.mk A300
            clear A300
            obtain rfl := Option.some.inj H
            have hcz31_0 : wc.cell? ⟨gb264, 0, none⟩ = some (.int .i64 a0_0) := (blk_cell BK264.out 0).trans rfl
            have hcz31_1 : wc.cell? ⟨gb264, 1, none⟩ = some (.string a0_1) := (blk_cell BK264.out 1).trans rfl
            have hcz31_2 : wc.cell? ⟨gb264, 2, none⟩ = some (.string a0_2) := (blk_cell BK264.out 2).trans rfl
            have hfz31_0 := blk_frozen BK264.out 0
            have hfz31_1 := blk_frozen BK264.out 1
            have hfz31_2 := blk_frozen BK264.out 2
            go_wp2_with (first | ((with_reducible refine gate_callee (f := 47) rfl ?_); refine goesL_ (some 39) rfl rfl Tryd.func47 (by kernel_rfl) rfl #[.string a0_1] rfl (by (try simp only [List.map_toArray, List.map_cons, List.map_nil]); first | done | rfl | (simp only [List.length_drop, List.length_take]; rfl)) ?_; (with_reducible refine (tollref01_Label.calls kj1 a0_1 true _ A28.out).mono ?_); rintro e w' ⟨rfl, ⟨nd, rfl⟩⟩; refine ⟨_, rfl, ?_⟩) | (go_at_call 45; (with_reducible refine (tollref01_Name.calls kj1 a0_2 t269 _ A30.out).mono ?_); rintro e w32 ⟨rfl, hb⟩; have n0_ := Aside0.mk (blk_below (g := gb264) (o := .cells #[.int .i64 a0_0, .string a0_1, .string a0_2] 37 (0, 0)) (by (with_reducible repeat (first | refine blk_drewN ?_ _ | refine blk_drew ?_ | refine blk_alloc ?_ _)); exact BK264.out) hb); have n1_ := Aside0.mk (below_step (by repeat (first | (with_reducible first | exact HB.out | apply below_alloc | apply pw_below_drewN | apply below_drew1 | refine below_set ?_ GE264.out) | exact HB.out)) hb); clear BK264; clear HB; have BK264 := n0_; have HB := n1_; clear n0_ n1_; (try clear hb); (try clear hb2); (try clear hk); (try clear hi)))
            go_ret
            exact ⟨by first | rfl | (simp [errW_none, errW_some] <;> rfl) | (simp [*, errW_none, errW_some] <;> rfl), by repeat (first | (with_reducible first | exact HB.out | apply below_alloc | apply pw_below_drewN | apply below_drew1 | refine below_set ?_ GE264.out) | exact HB.out)⟩
          · replace c29 := Bool.eq_false_iff.mpr c29
            subst c29
            have H1 : (some false) = some r := by rw [if_neg (show ¬ (false = true) by decide)] at H; exact H
            clear H
            have H := H1
            clear H1
            obtain rfl := Option.some.inj H
            have hcz33_0 : wc.cell? ⟨gb264, 0, none⟩ = some (.int .i64 a0_0) := (blk_cell BK264.out 0).trans rfl
            have hcz33_1 : wc.cell? ⟨gb264, 1, none⟩ = some (.string a0_1) := (blk_cell BK264.out 1).trans rfl
            have hcz33_2 : wc.cell? ⟨gb264, 2, none⟩ = some (.string a0_2) := (blk_cell BK264.out 2).trans rfl
            have hfz33_0 := blk_frozen BK264.out 0
            have hfz33_1 := blk_frozen BK264.out 1
            have hfz33_2 := blk_frozen BK264.out 2
            go_wp2_with (first | ((with_reducible refine gate_callee (f := 47) rfl ?_); refine goesL_ (some 39) rfl rfl Tryd.func47 (by kernel_rfl) rfl #[.string a0_1] rfl (by (try simp only [List.map_toArray, List.map_cons, List.map_nil]); first | done | rfl | (simp only [List.length_drop, List.length_take]; rfl)) ?_; (with_reducible refine (tollref01_Label.calls kj1 a0_1 false _ A28.out).mono ?_); rintro e w' ⟨rfl, ⟨nd, rfl⟩⟩; refine ⟨_, rfl, ?_⟩))
            go_ret
            exact ⟨by first | rfl | (simp [errW_none, errW_some] <;> rfl) | (simp [*, errW_none, errW_some] <;> rfl), by repeat (first | (with_reducible first | exact HB.out | apply below_alloc | apply pw_below_drewN | apply below_drew1 | refine below_set ?_ GE264.out) | exact HB.out)⟩

end Go.Proofs.YtcakednecmngdaaDoor.Q
