/- Functions of the program as plain functions, with proofs that the code comes to their answers; written by a program of this session. Conditions: as each theorem states them. -/
import Derived.Test.YtcakednecmngdaaDoorP0
namespace Go.Proofs.YtcakednecmngdaaDoorW.PrintMore
end Go.Proofs.YtcakednecmngdaaDoorW.PrintMore
namespace Go.Proofs.YtcakednecmngdaaDoor.P
open Go.RowKit Go.Proofs.YtcakednecmngdaaDoorW.PrintWords Go.Proofs.YtcakednecmngdaaDoorW.PrintLast Go.Proofs.YtcakednecmngdaaDoorW.PrintMore
set_option linter.unusedVariables false
set_option linter.unusedSimpArgs false

/-! ### tollref01_Label: function 47 -/
def tollref01_Label.l0 : Nat → ByteArray → Int → Option (Bool)
  | 0, _, _ => none
  | k + 1, x0, x3 => if x3 < (x0.size : Int) then (if 0 ≤ x3 then (if x3 = 0 then (if 97 ≤ (bt x0 x3) then (if (bt x0 x3) ≤ 122 then (tollref01_Label.l0 k x0 (wrap64 (x3 + 1))) else (if 48 ≤ (bt x0 x3) then (if (bt x0 x3) ≤ 57 then (tollref01_Label.l0 k x0 (wrap64 (x3 + 1))) else (if (bt x0 x3) = 45 then (some false) else (some false))) else (if (bt x0 x3) = 45 then (some false) else (some false)))) else (if 48 ≤ (bt x0 x3) then (if (bt x0 x3) ≤ 57 then (tollref01_Label.l0 k x0 (wrap64 (x3 + 1))) else (if (bt x0 x3) = 45 then (some false) else (some false))) else (if (bt x0 x3) = 45 then (some false) else (some false)))) else (if 97 ≤ (bt x0 x3) then (if (bt x0 x3) ≤ 122 then (tollref01_Label.l0 k x0 (wrap64 (x3 + 1))) else (if 48 ≤ (bt x0 x3) then (if (bt x0 x3) ≤ 57 then (tollref01_Label.l0 k x0 (wrap64 (x3 + 1))) else (if (bt x0 x3) = 45 then (if x3 = (wrap64 ((x0.size : Int) - 1)) then (some false) else (tollref01_Label.l0 k x0 (wrap64 (x3 + 1)))) else (some false))) else (if (bt x0 x3) = 45 then (if x3 = (wrap64 ((x0.size : Int) - 1)) then (some false) else (tollref01_Label.l0 k x0 (wrap64 (x3 + 1)))) else (some false)))) else (if 48 ≤ (bt x0 x3) then (if (bt x0 x3) ≤ 57 then (tollref01_Label.l0 k x0 (wrap64 (x3 + 1))) else (if (bt x0 x3) = 45 then (if x3 = (wrap64 ((x0.size : Int) - 1)) then (some false) else (tollref01_Label.l0 k x0 (wrap64 (x3 + 1)))) else (some false))) else (if (bt x0 x3) = 45 then (if x3 = (wrap64 ((x0.size : Int) - 1)) then (some false) else (tollref01_Label.l0 k x0 (wrap64 (x3 + 1)))) else (some false))))) else (none)) else (if 1 ≤ (x0.size : Int) then (some (decide ((x0.size : Int) ≤ 20))) else (some false))
def tollref01_Label.f (k : Nat) (a0 : ByteArray) : Option (Bool) := tollref01_Label.l0 k a0 0
theorem tollref01_Label.mono_l : ∀ k, (∀ y0 y1, LeO (tollref01_Label.l0 k y0 y1) (tollref01_Label.l0 (k + 1) y0 y1))
  | 0 => fun _ _ r h => by simp [tollref01_Label.l0] at h
  | k + 1 => by
    have ih0 := tollref01_Label.mono_l k
    · intro y0 y1
      unfold tollref01_Label.l0
      repeat' first
      | (with_reducible exact ih0 _ _)
      | (with_reducible exact LeO.refl _)
      | (with_reducible exact LeO.none _)
      | (with_reducible refine LeO.ite ?_ ?_)
      | (with_reducible refine LeO.bind ?_ (fun _ => ?_))
      | exact ih0 _ _
      | exact LeO.none _
      | refine LeO.ite ?_ ?_
      | refine LeO.bind ?_ (fun _ => ?_)
theorem tollref01_Label.mono : ∀ a0 k, LeO (tollref01_Label.f k a0) (tollref01_Label.f (k + 1) a0) := by
  intro a0 k
  have ih0 := tollref01_Label.mono_l k
  unfold tollref01_Label.f
  repeat' first
      | (with_reducible exact ih0 _ _)
      | (with_reducible exact LeO.refl _)
      | (with_reducible exact LeO.none _)
      | (with_reducible refine LeO.ite ?_ ?_)
      | (with_reducible refine LeO.bind ?_ (fun _ => ?_))
      | exact ih0 _ _
      | exact LeO.none _
      | refine LeO.ite ?_ ?_
      | refine LeO.bind ?_ (fun _ => ?_)
set_option maxHeartbeats 8000000 in
set_option maxRecDepth 100000 in
theorem tollref01_Label.calls (k : Nat) (a0 : ByteArray) (r : Bool) (w : World) (h : tollref01_Label.f k a0 = some r) :
    Calls Tryd.prog 47 #[.string a0] w fun e w' => e = .returned (.bool r) ∧ Drawn0 w w' := by
  have H : (tollref01_Label.l0 k a0 0) = some r := h
  clear h
  have H' := Aside0.mk H
  clear H
  go_enter Tryd.func47, Tryd.ntmps47
  go_wp2
  go_loopg [3] k (fun kq v3 w' => ∃ (x3_1 : Int), v3 = .int .i64 x3_1 ∧ Aside0 (tollref01_Label.l0 kq a0 x3_1 = some r) ∧ Aside0 (kq ≤ k) ∧ Drawn0 w w')
  case atStart => exact ⟨(0), (by first | rfl | (simp; done) | (simp [*]; done)), H', ⟨Nat.le_refl _⟩, by repeat (first | exact Drawn0.refl _ | apply Drawn0.step)⟩
  case round =>
    clear H'
    obtain ⟨x3_1, rfl, HA, HK1, ⟨m1, rfl⟩⟩ := hrel
    cases gk with
    | zero => exact absurd HA.out (by simp [tollref01_Label.l0])
    | succ k1 =>
      have H := HA.out
      clear HA
      simp only [tollref01_Label.l0] at H
      by_cases c2 : x3_1 < (a0.size : Int)
      · rw [if_pos c2] at H
        have c2b0 : decide (x3_1 < (a0.size : Int)) = true := decide_eq_true c2
        clear c2
        by_cases c3 : 0 ≤ x3_1
        · rw [if_pos c3] at H
          have c3b0 : decide (0 ≤ x3_1) = true := decide_eq_true c3
          clear c3
          by_cases c5 : x3_1 = 0
          · rw [if_pos c5] at H
            have c5b0 : (x3_1 == 0) = true := beq_iff_eq.mpr c5
            have c5b1 : (x3_1 != 0) = false := bne_eq_false_iff_eq.mpr c5
            clear c5
            by_cases c6 : 97 ≤ (bt a0 x3_1)
            · rw [if_pos c6] at H
              have c6b0 : decide (97 ≤ (bt a0 x3_1)) = true := decide_eq_true c6
              clear c6
              by_cases c7 : (bt a0 x3_1) ≤ 122
              · rw [if_pos c7] at H
                have c7b0 : decide ((bt a0 x3_1) ≤ 122) = true := decide_eq_true c7
                clear c7
                have H' := Aside0.mk H
                clear H
                have p4 : 0 ≤ (x3_1 : Int) := of_decide_eq_true (by first | (with_reducible assumption) | assumption)
                have q4 : x3_1 < (a0.size : Int) := of_decide_eq_true (by first | (with_reducible assumption) | assumption)
                have hx4 := bt_at a0 x3_1
                replace p4 := eq_true p4
                replace q4 := eq_true q4
                go_wp2
                go_roundg k1
                case measure => have := HK1.out; omega
                case rel => exact ⟨(wrap64 (x3_1 + 1)), (by first | rfl | (simp; done) | (simp [*]; done)), H', ⟨by have := HK1.out; omega⟩, by repeat (first | exact Drawn0.refl _ | apply Drawn0.step)⟩
              · rw [if_neg c7] at H
                have c7b0 : decide ((bt a0 x3_1) ≤ 122) = false := decide_eq_false c7
                clear c7
                by_cases c8 : 48 ≤ (bt a0 x3_1)
                · rw [if_pos c8] at H
                  have c8b0 : decide (48 ≤ (bt a0 x3_1)) = true := decide_eq_true c8
                  clear c8
                  by_cases c9 : (bt a0 x3_1) ≤ 57
                  · rw [if_pos c9] at H
                    have c9b0 : decide ((bt a0 x3_1) ≤ 57) = true := decide_eq_true c9
                    clear c9
                    have H' := Aside0.mk H
                    clear H
                    have p4 : 0 ≤ (x3_1 : Int) := of_decide_eq_true (by first | (with_reducible assumption) | assumption)
                    have q4 : x3_1 < (a0.size : Int) := of_decide_eq_true (by first | (with_reducible assumption) | assumption)
                    have hx4 := bt_at a0 x3_1
                    replace p4 := eq_true p4
                    replace q4 := eq_true q4
                    go_wp2
                    go_roundg k1
                    case measure => have := HK1.out; omega
                    case rel => exact ⟨(wrap64 (x3_1 + 1)), (by first | rfl | (simp; done) | (simp [*]; done)), H', ⟨by have := HK1.out; omega⟩, by repeat (first | exact Drawn0.refl _ | apply Drawn0.step)⟩
                  · rw [if_neg c9] at H
                    have c9b0 : decide ((bt a0 x3_1) ≤ 57) = false := decide_eq_false c9
                    clear c9
                    by_cases c10 : (bt a0 x3_1) = 45
                    · rw [if_pos c10] at H
                      have c10b0 : ((bt a0 x3_1) == 45) = true := beq_iff_eq.mpr c10
                      have c10b1 : ((bt a0 x3_1) != 45) = false := bne_eq_false_iff_eq.mpr c10
                      clear c10
                      obtain rfl := Option.some.inj H
                      have p4 : 0 ≤ (x3_1 : Int) := of_decide_eq_true (by first | (with_reducible assumption) | assumption)
                      have q4 : x3_1 < (a0.size : Int) := of_decide_eq_true (by first | (with_reducible assumption) | assumption)
                      have hx4 := bt_at a0 x3_1
                      replace p4 := eq_true p4
                      replace q4 := eq_true q4
                      go_wp2
                      go_ret
                      exact ⟨by first | rfl | (simp; done) | (simp [*]; done), by repeat (first | exact Drawn0.refl _ | apply Drawn0.step)⟩
                    · rw [if_neg c10] at H
                      have c10b0 : ((bt a0 x3_1) == 45) = false := beq_eq_false_iff_ne.mpr c10
                      have c10b1 : ((bt a0 x3_1) != 45) = true := bne_iff_ne.mpr c10
                      obtain rfl := Option.some.inj H
                      have p4 : 0 ≤ (x3_1 : Int) := of_decide_eq_true (by first | (with_reducible assumption) | assumption)
                      have q4 : x3_1 < (a0.size : Int) := of_decide_eq_true (by first | (with_reducible assumption) | assumption)
                      have hx4 := bt_at a0 x3_1
                      replace p4 := eq_true p4
                      replace q4 := eq_true q4
                      go_wp2
                      go_ret
                      exact ⟨by first | rfl | (simp; done) | (simp [*]; done), by repeat (first | exact Drawn0.refl _ | apply Drawn0.step)⟩
                · rw [if_neg c8] at H
                  have c8b0 : decide (48 ≤ (bt a0 x3_1)) = false := decide_eq_false c8
                  clear c8
                  by_cases c11 : (bt a0 x3_1) = 45
                  · rw [if_pos c11] at H
                    have c11b0 : ((bt a0 x3_1) == 45) = true := beq_iff_eq.mpr c11
                    have c11b1 : ((bt a0 x3_1) != 45) = false := bne_eq_false_iff_eq.mpr c11
                    clear c11
                    obtain rfl := Option.some.inj H
                    have p4 : 0 ≤ (x3_1 : Int) := of_decide_eq_true (by first | (with_reducible assumption) | assumption)
                    have q4 : x3_1 < (a0.size : Int) := of_decide_eq_true (by first | (with_reducible assumption) | assumption)
                    have hx4 := bt_at a0 x3_1
                    replace p4 := eq_true p4
                    replace q4 := eq_true q4
                    go_wp2
                    go_ret
                    exact ⟨by first | rfl | (simp; done) | (simp [*]; done), by repeat (first | exact Drawn0.refl _ | apply Drawn0.step)⟩
                  · rw [if_neg c11] at H
                    have c11b0 : ((bt a0 x3_1) == 45) = false := beq_eq_false_iff_ne.mpr c11
                    have c11b1 : ((bt a0 x3_1) != 45) = true := bne_iff_ne.mpr c11
                    obtain rfl := Option.some.inj H
                    have p4 : 0 ≤ (x3_1 : Int) := of_decide_eq_true (by first | (with_reducible assumption) | assumption)
                    have q4 : x3_1 < (a0.size : Int) := of_decide_eq_true (by first | (with_reducible assumption) | assumption)
                    have hx4 := bt_at a0 x3_1
                    replace p4 := eq_true p4
                    replace q4 := eq_true q4
                    go_wp2
                    go_ret
                    exact ⟨by first | rfl | (simp; done) | (simp [*]; done), by repeat (first | exact Drawn0.refl _ | apply Drawn0.step)⟩
            · rw [if_neg c6] at H
              have c6b0 : decide (97 ≤ (bt a0 x3_1)) = false := decide_eq_false c6
              clear c6
              by_cases c12 : 48 ≤ (bt a0 x3_1)
              · rw [if_pos c12] at H
                have c12b0 : decide (48 ≤ (bt a0 x3_1)) = true := decide_eq_true c12
                clear c12
                by_cases c13 : (bt a0 x3_1) ≤ 57
                · rw [if_pos c13] at H
                  have c13b0 : decide ((bt a0 x3_1) ≤ 57) = true := decide_eq_true c13
                  clear c13
                  have H' := Aside0.mk H
                  clear H
                  have p4 : 0 ≤ (x3_1 : Int) := of_decide_eq_true (by first | (with_reducible assumption) | assumption)
                  have q4 : x3_1 < (a0.size : Int) := of_decide_eq_true (by first | (with_reducible assumption) | assumption)
                  have hx4 := bt_at a0 x3_1
                  replace p4 := eq_true p4
                  replace q4 := eq_true q4
                  go_wp2
                  go_roundg k1
                  case measure => have := HK1.out; omega
                  case rel => exact ⟨(wrap64 (x3_1 + 1)), (by first | rfl | (simp; done) | (simp [*]; done)), H', ⟨by have := HK1.out; omega⟩, by repeat (first | exact Drawn0.refl _ | apply Drawn0.step)⟩
                · rw [if_neg c13] at H
                  have c13b0 : decide ((bt a0 x3_1) ≤ 57) = false := decide_eq_false c13
                  clear c13
                  by_cases c14 : (bt a0 x3_1) = 45
                  · rw [if_pos c14] at H
                    have c14b0 : ((bt a0 x3_1) == 45) = true := beq_iff_eq.mpr c14
                    have c14b1 : ((bt a0 x3_1) != 45) = false := bne_eq_false_iff_eq.mpr c14
                    clear c14
                    obtain rfl := Option.some.inj H
                    have p4 : 0 ≤ (x3_1 : Int) := of_decide_eq_true (by first | (with_reducible assumption) | assumption)
                    have q4 : x3_1 < (a0.size : Int) := of_decide_eq_true (by first | (with_reducible assumption) | assumption)
                    have hx4 := bt_at a0 x3_1
                    replace p4 := eq_true p4
                    replace q4 := eq_true q4
                    go_wp2
                    go_ret
                    exact ⟨by first | rfl | (simp; done) | (simp [*]; done), by repeat (first | exact Drawn0.refl _ | apply Drawn0.step)⟩
                  · rw [if_neg c14] at H
                    have c14b0 : ((bt a0 x3_1) == 45) = false := beq_eq_false_iff_ne.mpr c14
                    have c14b1 : ((bt a0 x3_1) != 45) = true := bne_iff_ne.mpr c14
                    obtain rfl := Option.some.inj H
                    have p4 : 0 ≤ (x3_1 : Int) := of_decide_eq_true (by first | (with_reducible assumption) | assumption)
                    have q4 : x3_1 < (a0.size : Int) := of_decide_eq_true (by first | (with_reducible assumption) | assumption)
                    have hx4 := bt_at a0 x3_1
                    replace p4 := eq_true p4
                    replace q4 := eq_true q4
                    go_wp2
                    go_ret
                    exact ⟨by first | rfl | (simp; done) | (simp [*]; done), by repeat (first | exact Drawn0.refl _ | apply Drawn0.step)⟩
              · rw [if_neg c12] at H
                have c12b0 : decide (48 ≤ (bt a0 x3_1)) = false := decide_eq_false c12
                clear c12
                by_cases c15 : (bt a0 x3_1) = 45
                · rw [if_pos c15] at H
                  have c15b0 : ((bt a0 x3_1) == 45) = true := beq_iff_eq.mpr c15
                  have c15b1 : ((bt a0 x3_1) != 45) = false := bne_eq_false_iff_eq.mpr c15
                  clear c15
                  obtain rfl := Option.some.inj H
                  have p4 : 0 ≤ (x3_1 : Int) := of_decide_eq_true (by first | (with_reducible assumption) | assumption)
                  have q4 : x3_1 < (a0.size : Int) := of_decide_eq_true (by first | (with_reducible assumption) | assumption)
                  have hx4 := bt_at a0 x3_1
                  replace p4 := eq_true p4
                  replace q4 := eq_true q4
                  go_wp2
                  go_ret
                  exact ⟨by first | rfl | (simp; done) | (simp [*]; done), by repeat (first | exact Drawn0.refl _ | apply Drawn0.step)⟩
                · rw [if_neg c15] at H
                  have c15b0 : ((bt a0 x3_1) == 45) = false := beq_eq_false_iff_ne.mpr c15
                  have c15b1 : ((bt a0 x3_1) != 45) = true := bne_iff_ne.mpr c15
                  obtain rfl := Option.some.inj H
                  have p4 : 0 ≤ (x3_1 : Int) := of_decide_eq_true (by first | (with_reducible assumption) | assumption)
                  have q4 : x3_1 < (a0.size : Int) := of_decide_eq_true (by first | (with_reducible assumption) | assumption)
                  have hx4 := bt_at a0 x3_1
                  replace p4 := eq_true p4
                  replace q4 := eq_true q4
                  go_wp2
                  go_ret
                  exact ⟨by first | rfl | (simp; done) | (simp [*]; done), by repeat (first | exact Drawn0.refl _ | apply Drawn0.step)⟩
          · rw [if_neg c5] at H
            have c5b0 : (x3_1 == 0) = false := beq_eq_false_iff_ne.mpr c5
            have c5b1 : (x3_1 != 0) = true := bne_iff_ne.mpr c5
            by_cases c16 : 97 ≤ (bt a0 x3_1)
            · rw [if_pos c16] at H
              have c16b0 : decide (97 ≤ (bt a0 x3_1)) = true := decide_eq_true c16
              clear c16
              by_cases c17 : (bt a0 x3_1) ≤ 122
              · rw [if_pos c17] at H
                have c17b0 : decide ((bt a0 x3_1) ≤ 122) = true := decide_eq_true c17
                clear c17
                have H' := Aside0.mk H
                clear H
                have p4 : 0 ≤ (x3_1 : Int) := of_decide_eq_true (by first | (with_reducible assumption) | assumption)
                have q4 : x3_1 < (a0.size : Int) := of_decide_eq_true (by first | (with_reducible assumption) | assumption)
                have hx4 := bt_at a0 x3_1
                replace p4 := eq_true p4
                replace q4 := eq_true q4
                go_wp2
                go_roundg k1
                case measure => have := HK1.out; omega
                case rel => exact ⟨(wrap64 (x3_1 + 1)), (by first | rfl | (simp; done) | (simp [*]; done)), H', ⟨by have := HK1.out; omega⟩, by repeat (first | exact Drawn0.refl _ | apply Drawn0.step)⟩
              · rw [if_neg c17] at H
                have c17b0 : decide ((bt a0 x3_1) ≤ 122) = false := decide_eq_false c17
                clear c17
                by_cases c18 : 48 ≤ (bt a0 x3_1)
                · rw [if_pos c18] at H
                  have c18b0 : decide (48 ≤ (bt a0 x3_1)) = true := decide_eq_true c18
                  clear c18
                  by_cases c19 : (bt a0 x3_1) ≤ 57
                  · rw [if_pos c19] at H
                    have c19b0 : decide ((bt a0 x3_1) ≤ 57) = true := decide_eq_true c19
                    clear c19
                    have H' := Aside0.mk H
                    clear H
                    have p4 : 0 ≤ (x3_1 : Int) := of_decide_eq_true (by first | (with_reducible assumption) | assumption)
                    have q4 : x3_1 < (a0.size : Int) := of_decide_eq_true (by first | (with_reducible assumption) | assumption)
                    have hx4 := bt_at a0 x3_1
                    replace p4 := eq_true p4
                    replace q4 := eq_true q4
                    go_wp2
                    go_roundg k1
                    case measure => have := HK1.out; omega
                    case rel => exact ⟨(wrap64 (x3_1 + 1)), (by first | rfl | (simp; done) | (simp [*]; done)), H', ⟨by have := HK1.out; omega⟩, by repeat (first | exact Drawn0.refl _ | apply Drawn0.step)⟩
                  · rw [if_neg c19] at H
                    have c19b0 : decide ((bt a0 x3_1) ≤ 57) = false := decide_eq_false c19
                    clear c19
                    by_cases c20 : (bt a0 x3_1) = 45
                    · rw [if_pos c20] at H
                      have c20b0 : ((bt a0 x3_1) == 45) = true := beq_iff_eq.mpr c20
                      have c20b1 : ((bt a0 x3_1) != 45) = false := bne_eq_false_iff_eq.mpr c20
                      clear c20
                      by_cases c21 : x3_1 = (wrap64 ((a0.size : Int) - 1))
                      · rw [if_pos c21] at H
                        have c21b0 : (x3_1 == (wrap64 ((a0.size : Int) - 1))) = true := beq_iff_eq.mpr c21
                        have c21b1 : (x3_1 != (wrap64 ((a0.size : Int) - 1))) = false := bne_eq_false_iff_eq.mpr c21
                        clear c21
                        obtain rfl := Option.some.inj H
                        have p4 : 0 ≤ (x3_1 : Int) := of_decide_eq_true (by first | (with_reducible assumption) | assumption)
                        have q4 : x3_1 < (a0.size : Int) := of_decide_eq_true (by first | (with_reducible assumption) | assumption)
                        have hx4 := bt_at a0 x3_1
                        replace p4 := eq_true p4
                        replace q4 := eq_true q4
                        go_wp2
                        go_ret
                        exact ⟨by first | rfl | (simp; done) | (simp [*]; done), by repeat (first | exact Drawn0.refl _ | apply Drawn0.step)⟩
                      · rw [if_neg c21] at H
                        have c21b0 : (x3_1 == (wrap64 ((a0.size : Int) - 1))) = false := beq_eq_false_iff_ne.mpr c21
                        have c21b1 : (x3_1 != (wrap64 ((a0.size : Int) - 1))) = true := bne_iff_ne.mpr c21
                        have H' := Aside0.mk H
                        clear H
                        have p4 : 0 ≤ (x3_1 : Int) := of_decide_eq_true (by first | (with_reducible assumption) | assumption)
                        have q4 : x3_1 < (a0.size : Int) := of_decide_eq_true (by first | (with_reducible assumption) | assumption)
                        have hx4 := bt_at a0 x3_1
                        replace p4 := eq_true p4
                        replace q4 := eq_true q4
                        go_wp2
                        go_roundg k1
                        case measure => have := HK1.out; omega
                        case rel => exact ⟨(wrap64 (x3_1 + 1)), (by first | rfl | (simp; done) | (simp [*]; done)), H', ⟨by have := HK1.out; omega⟩, by repeat (first | exact Drawn0.refl _ | apply Drawn0.step)⟩
                    · rw [if_neg c20] at H
                      have c20b0 : ((bt a0 x3_1) == 45) = false := beq_eq_false_iff_ne.mpr c20
                      have c20b1 : ((bt a0 x3_1) != 45) = true := bne_iff_ne.mpr c20
                      obtain rfl := Option.some.inj H
                      have p4 : 0 ≤ (x3_1 : Int) := of_decide_eq_true (by first | (with_reducible assumption) | assumption)
                      have q4 : x3_1 < (a0.size : Int) := of_decide_eq_true (by first | (with_reducible assumption) | assumption)
                      have hx4 := bt_at a0 x3_1
                      replace p4 := eq_true p4
                      replace q4 := eq_true q4
                      go_wp2
                      go_ret
                      exact ⟨by first | rfl | (simp; done) | (simp [*]; done), by repeat (first | exact Drawn0.refl _ | apply Drawn0.step)⟩
                · rw [if_neg c18] at H
                  have c18b0 : decide (48 ≤ (bt a0 x3_1)) = false := decide_eq_false c18
                  clear c18
                  by_cases c22 : (bt a0 x3_1) = 45
                  · rw [if_pos c22] at H
                    have c22b0 : ((bt a0 x3_1) == 45) = true := beq_iff_eq.mpr c22
                    have c22b1 : ((bt a0 x3_1) != 45) = false := bne_eq_false_iff_eq.mpr c22
                    clear c22
                    by_cases c23 : x3_1 = (wrap64 ((a0.size : Int) - 1))
                    · rw [if_pos c23] at H
                      have c23b0 : (x3_1 == (wrap64 ((a0.size : Int) - 1))) = true := beq_iff_eq.mpr c23
                      have c23b1 : (x3_1 != (wrap64 ((a0.size : Int) - 1))) = false := bne_eq_false_iff_eq.mpr c23
                      clear c23
                      obtain rfl := Option.some.inj H
                      have p4 : 0 ≤ (x3_1 : Int) := of_decide_eq_true (by first | (with_reducible assumption) | assumption)
                      have q4 : x3_1 < (a0.size : Int) := of_decide_eq_true (by first | (with_reducible assumption) | assumption)
                      have hx4 := bt_at a0 x3_1
                      replace p4 := eq_true p4
                      replace q4 := eq_true q4
                      go_wp2
                      go_ret
                      exact ⟨by first | rfl | (simp; done) | (simp [*]; done), by repeat (first | exact Drawn0.refl _ | apply Drawn0.step)⟩
                    · rw [if_neg c23] at H
                      have c23b0 : (x3_1 == (wrap64 ((a0.size : Int) - 1))) = false := beq_eq_false_iff_ne.mpr c23
                      have c23b1 : (x3_1 != (wrap64 ((a0.size : Int) - 1))) = true := bne_iff_ne.mpr c23
                      have H' := Aside0.mk H
                      clear H
                      have p4 : 0 ≤ (x3_1 : Int) := of_decide_eq_true (by first | (with_reducible assumption) | assumption)
                      have q4 : x3_1 < (a0.size : Int) := of_decide_eq_true (by first | (with_reducible assumption) | assumption)
                      have hx4 := bt_at a0 x3_1
                      replace p4 := eq_true p4
                      replace q4 := eq_true q4
                      go_wp2
                      go_roundg k1
                      case measure => have := HK1.out; omega
                      case rel => exact ⟨(wrap64 (x3_1 + 1)), (by first | rfl | (simp; done) | (simp [*]; done)), H', ⟨by have := HK1.out; omega⟩, by repeat (first | exact Drawn0.refl _ | apply Drawn0.step)⟩
                  · rw [if_neg c22] at H
                    have c22b0 : ((bt a0 x3_1) == 45) = false := beq_eq_false_iff_ne.mpr c22
                    have c22b1 : ((bt a0 x3_1) != 45) = true := bne_iff_ne.mpr c22
                    obtain rfl := Option.some.inj H
                    have p4 : 0 ≤ (x3_1 : Int) := of_decide_eq_true (by first | (with_reducible assumption) | assumption)
                    have q4 : x3_1 < (a0.size : Int) := of_decide_eq_true (by first | (with_reducible assumption) | assumption)
                    have hx4 := bt_at a0 x3_1
                    replace p4 := eq_true p4
                    replace q4 := eq_true q4
                    go_wp2
                    go_ret
                    exact ⟨by first | rfl | (simp; done) | (simp [*]; done), by repeat (first | exact Drawn0.refl _ | apply Drawn0.step)⟩
            · rw [if_neg c16] at H
              have c16b0 : decide (97 ≤ (bt a0 x3_1)) = false := decide_eq_false c16
              clear c16
              by_cases c24 : 48 ≤ (bt a0 x3_1)
              · rw [if_pos c24] at H
                have c24b0 : decide (48 ≤ (bt a0 x3_1)) = true := decide_eq_true c24
                clear c24
                by_cases c25 : (bt a0 x3_1) ≤ 57
                · rw [if_pos c25] at H
                  have c25b0 : decide ((bt a0 x3_1) ≤ 57) = true := decide_eq_true c25
                  clear c25
                  have H' := Aside0.mk H
                  clear H
                  have p4 : 0 ≤ (x3_1 : Int) := of_decide_eq_true (by first | (with_reducible assumption) | assumption)
                  have q4 : x3_1 < (a0.size : Int) := of_decide_eq_true (by first | (with_reducible assumption) | assumption)
                  have hx4 := bt_at a0 x3_1
                  replace p4 := eq_true p4
                  replace q4 := eq_true q4
                  go_wp2
                  go_roundg k1
                  case measure => have := HK1.out; omega
                  case rel => exact ⟨(wrap64 (x3_1 + 1)), (by first | rfl | (simp; done) | (simp [*]; done)), H', ⟨by have := HK1.out; omega⟩, by repeat (first | exact Drawn0.refl _ | apply Drawn0.step)⟩
                · rw [if_neg c25] at H
                  have c25b0 : decide ((bt a0 x3_1) ≤ 57) = false := decide_eq_false c25
                  clear c25
                  by_cases c26 : (bt a0 x3_1) = 45
                  · rw [if_pos c26] at H
                    have c26b0 : ((bt a0 x3_1) == 45) = true := beq_iff_eq.mpr c26
                    have c26b1 : ((bt a0 x3_1) != 45) = false := bne_eq_false_iff_eq.mpr c26
                    clear c26
                    by_cases c27 : x3_1 = (wrap64 ((a0.size : Int) - 1))
                    · rw [if_pos c27] at H
                      have c27b0 : (x3_1 == (wrap64 ((a0.size : Int) - 1))) = true := beq_iff_eq.mpr c27
                      have c27b1 : (x3_1 != (wrap64 ((a0.size : Int) - 1))) = false := bne_eq_false_iff_eq.mpr c27
                      clear c27
                      obtain rfl := Option.some.inj H
                      have p4 : 0 ≤ (x3_1 : Int) := of_decide_eq_true (by first | (with_reducible assumption) | assumption)
                      have q4 : x3_1 < (a0.size : Int) := of_decide_eq_true (by first | (with_reducible assumption) | assumption)
                      have hx4 := bt_at a0 x3_1
                      replace p4 := eq_true p4
                      replace q4 := eq_true q4
                      go_wp2
                      go_ret
                      exact ⟨by first | rfl | (simp; done) | (simp [*]; done), by repeat (first | exact Drawn0.refl _ | apply Drawn0.step)⟩
                    · rw [if_neg c27] at H
                      have c27b0 : (x3_1 == (wrap64 ((a0.size : Int) - 1))) = false := beq_eq_false_iff_ne.mpr c27
                      have c27b1 : (x3_1 != (wrap64 ((a0.size : Int) - 1))) = true := bne_iff_ne.mpr c27
                      have H' := Aside0.mk H
                      clear H
                      have p4 : 0 ≤ (x3_1 : Int) := of_decide_eq_true (by first | (with_reducible assumption) | assumption)
                      have q4 : x3_1 < (a0.size : Int) := of_decide_eq_true (by first | (with_reducible assumption) | assumption)
                      have hx4 := bt_at a0 x3_1
                      replace p4 := eq_true p4
                      replace q4 := eq_true q4
                      go_wp2
                      go_roundg k1
                      case measure => have := HK1.out; omega
                      case rel => exact ⟨(wrap64 (x3_1 + 1)), (by first | rfl | (simp; done) | (simp [*]; done)), H', ⟨by have := HK1.out; omega⟩, by repeat (first | exact Drawn0.refl _ | apply Drawn0.step)⟩
                  · rw [if_neg c26] at H
                    have c26b0 : ((bt a0 x3_1) == 45) = false := beq_eq_false_iff_ne.mpr c26
                    have c26b1 : ((bt a0 x3_1) != 45) = true := bne_iff_ne.mpr c26
                    obtain rfl := Option.some.inj H
                    have p4 : 0 ≤ (x3_1 : Int) := of_decide_eq_true (by first | (with_reducible assumption) | assumption)
                    have q4 : x3_1 < (a0.size : Int) := of_decide_eq_true (by first | (with_reducible assumption) | assumption)
                    have hx4 := bt_at a0 x3_1
                    replace p4 := eq_true p4
                    replace q4 := eq_true q4
                    go_wp2
                    go_ret
                    exact ⟨by first | rfl | (simp; done) | (simp [*]; done), by repeat (first | exact Drawn0.refl _ | apply Drawn0.step)⟩
              · rw [if_neg c24] at H
                have c24b0 : decide (48 ≤ (bt a0 x3_1)) = false := decide_eq_false c24
                clear c24
                by_cases c28 : (bt a0 x3_1) = 45
                · rw [if_pos c28] at H
                  have c28b0 : ((bt a0 x3_1) == 45) = true := beq_iff_eq.mpr c28
                  have c28b1 : ((bt a0 x3_1) != 45) = false := bne_eq_false_iff_eq.mpr c28
                  clear c28
                  by_cases c29 : x3_1 = (wrap64 ((a0.size : Int) - 1))
                  · rw [if_pos c29] at H
                    have c29b0 : (x3_1 == (wrap64 ((a0.size : Int) - 1))) = true := beq_iff_eq.mpr c29
                    have c29b1 : (x3_1 != (wrap64 ((a0.size : Int) - 1))) = false := bne_eq_false_iff_eq.mpr c29
                    clear c29
                    obtain rfl := Option.some.inj H
                    have p4 : 0 ≤ (x3_1 : Int) := of_decide_eq_true (by first | (with_reducible assumption) | assumption)
                    have q4 : x3_1 < (a0.size : Int) := of_decide_eq_true (by first | (with_reducible assumption) | assumption)
                    have hx4 := bt_at a0 x3_1
                    replace p4 := eq_true p4
                    replace q4 := eq_true q4
                    go_wp2
                    go_ret
                    exact ⟨by first | rfl | (simp; done) | (simp [*]; done), by repeat (first | exact Drawn0.refl _ | apply Drawn0.step)⟩
                  · rw [if_neg c29] at H
                    have c29b0 : (x3_1 == (wrap64 ((a0.size : Int) - 1))) = false := beq_eq_false_iff_ne.mpr c29
                    have c29b1 : (x3_1 != (wrap64 ((a0.size : Int) - 1))) = true := bne_iff_ne.mpr c29
                    have H' := Aside0.mk H
                    clear H
                    have p4 : 0 ≤ (x3_1 : Int) := of_decide_eq_true (by first | (with_reducible assumption) | assumption)
                    have q4 : x3_1 < (a0.size : Int) := of_decide_eq_true (by first | (with_reducible assumption) | assumption)
                    have hx4 := bt_at a0 x3_1
                    replace p4 := eq_true p4
                    replace q4 := eq_true q4
                    go_wp2
                    go_roundg k1
                    case measure => have := HK1.out; omega
                    case rel => exact ⟨(wrap64 (x3_1 + 1)), (by first | rfl | (simp; done) | (simp [*]; done)), H', ⟨by have := HK1.out; omega⟩, by repeat (first | exact Drawn0.refl _ | apply Drawn0.step)⟩
                · rw [if_neg c28] at H
                  have c28b0 : ((bt a0 x3_1) == 45) = false := beq_eq_false_iff_ne.mpr c28
                  have c28b1 : ((bt a0 x3_1) != 45) = true := bne_iff_ne.mpr c28
                  obtain rfl := Option.some.inj H
                  have p4 : 0 ≤ (x3_1 : Int) := of_decide_eq_true (by first | (with_reducible assumption) | assumption)
                  have q4 : x3_1 < (a0.size : Int) := of_decide_eq_true (by first | (with_reducible assumption) | assumption)
                  have hx4 := bt_at a0 x3_1
                  replace p4 := eq_true p4
                  replace q4 := eq_true q4
                  go_wp2
                  go_ret
                  exact ⟨by first | rfl | (simp; done) | (simp [*]; done), by repeat (first | exact Drawn0.refl _ | apply Drawn0.step)⟩
        · rw [if_neg c3] at H
          exact absurd H (by simp)
      · rw [if_neg c2] at H
        have c2b0 : decide (x3_1 < (a0.size : Int)) = false := decide_eq_false c2
        clear c2
        by_cases c30 : 1 ≤ (a0.size : Int)
        · rw [if_pos c30] at H
          have c30b0 : decide (1 ≤ (a0.size : Int)) = true := decide_eq_true c30
          have c30b1 : decide (1 ≤ a0.size) = true := decide_eq_true (by omega)
          clear c30
          obtain rfl := Option.some.inj H
          go_wp2
          go_ret
          exact ⟨by first | rfl | (simp; done) | (simp [*]; done), by repeat (first | exact Drawn0.refl _ | apply Drawn0.step)⟩
        · rw [if_neg c30] at H
          have c30b0 : decide (1 ≤ (a0.size : Int)) = false := decide_eq_false c30
          have c30b1 : decide (1 ≤ a0.size) = false := decide_eq_false (by omega)
          clear c30
          obtain rfl := Option.some.inj H
          go_wp2
          go_ret
          exact ⟨by first | rfl | (simp; done) | (simp [*]; done), by repeat (first | exact Drawn0.refl _ | apply Drawn0.step)⟩

end Go.Proofs.YtcakednecmngdaaDoor.P
