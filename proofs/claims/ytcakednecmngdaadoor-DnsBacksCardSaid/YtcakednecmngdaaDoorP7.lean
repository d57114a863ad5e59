/- Functions of the program as plain functions, with proofs that the code comes to their answers; written by a program of this session. Conditions: as each theorem states them. -/
import Derived.Test.YtcakednecmngdaaDoorP0
import Derived.Test.YtcakednecmngdaaDoorP1
import Derived.Test.YtcakednecmngdaaDoorP2
import Derived.Test.YtcakednecmngdaaDoorP3
import Derived.Test.YtcakednecmngdaaDoorP6
namespace Go.Proofs.YtcakednecmngdaaDoor.P
open Go.RowKit Go.Proofs.YtcakednecmngdaaDoorW.PrintWords Go.Proofs.YtcakednecmngdaaDoorW.PrintLast Go.Proofs.YtcakednecmngdaaDoorW.PrintMore
attribute [local go_sem] max2_int min2_int max_two min_two max_three min_three max_four min_four   -- for this text's walks alone
set_option linter.unusedVariables false
set_option linter.unusedSimpArgs false

/-! ### tollref01_Cut: function 65 -/
def tollref01_Cut.f (k : Nat) (a0 : ByteArray) : Option (ByteArray × ByteArray × Bool) := (tollref01_Split.f k a0 47).bind fun t224 => (if (t224.length : Int) = 2 then (if 0 < (t224.length : Int) then (if (rdOf ByteArray.empty t224 0).toList = ([] : List UInt8) then (if 1 < (t224.length : Int) then ((tollref01_Name.f k (rdOf ByteArray.empty t224 1)).bind fun t229 => (if t229 = true then (some (rdOf ByteArray.empty t224 0, rdOf ByteArray.empty t224 1, true)) else (some ((⟨#[]⟩ : ByteArray), (⟨#[]⟩ : ByteArray), false)))) else (none)) else ((tollref01_Label.f k (rdOf ByteArray.empty t224 0)).bind fun t233 => (if t233 = true then (if 1 < (t224.length : Int) then ((tollref01_Name.f k (rdOf ByteArray.empty t224 1)).bind fun t235 => (if t235 = true then (some (rdOf ByteArray.empty t224 0, rdOf ByteArray.empty t224 1, true)) else (some ((⟨#[]⟩ : ByteArray), (⟨#[]⟩ : ByteArray), false)))) else (none)) else (some ((⟨#[]⟩ : ByteArray), (⟨#[]⟩ : ByteArray), false))))) else (none)) else (some ((⟨#[]⟩ : ByteArray), (⟨#[]⟩ : ByteArray), false)))
theorem tollref01_Cut.mono : ∀ a0 k, LeO (tollref01_Cut.f k a0) (tollref01_Cut.f (k + 1) a0) := by
  intro a0 k
  unfold tollref01_Cut.f
  repeat' first
      | (with_reducible exact tollref01_Label.mono _ _)
      | (with_reducible exact tollref01_Name.mono _ _)
      | (with_reducible exact tollref01_Split.mono _ _ _)
      | (with_reducible exact LeO.refl _)
      | (with_reducible exact LeO.none _)
      | (with_reducible refine LeO.ite ?_ ?_)
      | (with_reducible refine LeO.bind ?_ (fun _ => ?_))
      | exact tollref01_Label.mono _ _
      | exact tollref01_Name.mono _ _
      | exact tollref01_Split.mono _ _ _
      | exact LeO.none _
      | refine LeO.ite ?_ ?_
      | refine LeO.bind ?_ (fun _ => ?_)
set_option maxHeartbeats 8000000 in
set_option maxRecDepth 100000 in
theorem tollref01_Cut.calls (k : Nat) (a0 : ByteArray) (r1 : ByteArray) (r2 : ByteArray) (r3 : Bool) (w : World) (h : tollref01_Cut.f k a0 = some (r1, r2, r3)) :
    Calls Tryd.prog 65 #[.string a0] w fun e w' => e = .returned (.tuple #[.string r1, .string r2, .bool r3]) ∧ Below w.heap.size w w' := by
  have HB := Aside0.mk (Below.refl w.heap.size w)
  have H : ((tollref01_Split.f k a0 47).bind fun t224 => (if (t224.length : Int) = 2 then (if 0 < (t224.length : Int) then (if (rdOf ByteArray.empty t224 0).toList = ([] : List UInt8) then (if 1 < (t224.length : Int) then ((tollref01_Name.f k (rdOf ByteArray.empty t224 1)).bind fun t229 => (if t229 = true then (some (rdOf ByteArray.empty t224 0, rdOf ByteArray.empty t224 1, true)) else (some ((⟨#[]⟩ : ByteArray), (⟨#[]⟩ : ByteArray), false)))) else (none)) else ((tollref01_Label.f k (rdOf ByteArray.empty t224 0)).bind fun t233 => (if t233 = true then (if 1 < (t224.length : Int) then ((tollref01_Name.f k (rdOf ByteArray.empty t224 1)).bind fun t235 => (if t235 = true then (some (rdOf ByteArray.empty t224 0, rdOf ByteArray.empty t224 1, true)) else (some ((⟨#[]⟩ : ByteArray), (⟨#[]⟩ : ByteArray), false)))) else (none)) else (some ((⟨#[]⟩ : ByteArray), (⟨#[]⟩ : ByteArray), false))))) else (none)) else (some ((⟨#[]⟩ : ByteArray), (⟨#[]⟩ : ByteArray), false)))) = some (r1, r2, r3) := h
  clear h
  replace H := Option.bind_eq_some_iff.mp H
  obtain ⟨t224, A20, H⟩ := H
  replace H : (if (t224.length : Int) = 2 then (if 0 < (t224.length : Int) then (if (rdOf ByteArray.empty t224 0).toList = ([] : List UInt8) then (if 1 < (t224.length : Int) then ((tollref01_Name.f k (rdOf ByteArray.empty t224 1)).bind fun t229 => (if t229 = true then (some (rdOf ByteArray.empty t224 0, rdOf ByteArray.empty t224 1, true)) else (some ((⟨#[]⟩ : ByteArray), (⟨#[]⟩ : ByteArray), false)))) else (none)) else ((tollref01_Label.f k (rdOf ByteArray.empty t224 0)).bind fun t233 => (if t233 = true then (if 1 < (t224.length : Int) then ((tollref01_Name.f k (rdOf ByteArray.empty t224 1)).bind fun t235 => (if t235 = true then (some (rdOf ByteArray.empty t224 0, rdOf ByteArray.empty t224 1, true)) else (some ((⟨#[]⟩ : ByteArray), (⟨#[]⟩ : ByteArray), false)))) else (none)) else (some ((⟨#[]⟩ : ByteArray), (⟨#[]⟩ : ByteArray), false))))) else (none)) else (some ((⟨#[]⟩ : ByteArray), (⟨#[]⟩ : ByteArray), false))) = some (r1, r2, r3) := H
  have A2 := Aside0.mk A20
  clear A20
  by_cases c3 : (t224.length : Int) = 2
  · rw [if_pos c3] at H
    have c3b0 : ((t224.length : Int) == 2) = true := beq_iff_eq.mpr c3
    have c3b1 : ((t224.length : Int) != 2) = false := bne_eq_false_iff_eq.mpr c3
    clear c3
    by_cases c4 : 0 < (t224.length : Int)
    · rw [if_pos c4] at H
      have c4b0 : decide (0 < (t224.length : Int)) = true := decide_eq_true c4
      have c4b1 : decide (0 < t224.length) = true := decide_eq_true (by omega)
      clear c4
      by_cases c5 : (rdOf ByteArray.empty t224 0).toList = ([] : List UInt8)
      · rw [if_pos c5] at H
        have c5b0 : ((rdOf ByteArray.empty t224 0).toList == ([] : List UInt8)) = true := beq_iff_eq.mpr c5
        have c5b1 : ((rdOf ByteArray.empty t224 0).toList != ([] : List UInt8)) = false := bne_eq_false_iff_eq.mpr c5
        clear c5
        by_cases c6 : 1 < (t224.length : Int)
        · rw [if_pos c6] at H
          have c6b0 : decide (1 < (t224.length : Int)) = true := decide_eq_true c6
          have c6b1 : decide (1 < t224.length) = true := decide_eq_true (by omega)
          clear c6
          replace H := Option.bind_eq_some_iff.mp H
          obtain ⟨t229, A70, H⟩ := H
          replace H : (if t229 = true then (some (rdOf ByteArray.empty t224 0, rdOf ByteArray.empty t224 1, true)) else (some ((⟨#[]⟩ : ByteArray), (⟨#[]⟩ : ByteArray), false))) = some (r1, r2, r3) := H
          have A7 := Aside0.mk A70
          clear A70
          by_cases c8 : t229 = true
          · subst c8
            have H1 : (some (rdOf ByteArray.empty t224 0, rdOf ByteArray.empty t224 1, true)) = some (r1, r2, r3) := by rw [if_pos rfl] at H; exact H
            clear H
            have H := H1
            clear H1
            simp only [Option.some.injEq, Prod.mk.injEq] at H
            obtain ⟨rfl, rfl, rfl⟩ := H
            go_enter Tryd.func65, Tryd.ntmps65
            go_wp2_with (first | (go_at_call 46; (with_reducible refine (tollref01_Split.calls k a0 47 t224 _ A2.out).mono ?_); rintro e w9 ⟨v225, rfl, ho0, hb⟩; have n0_ := Aside0.mk (Kd.R_lower ho0 (below_size (by repeat (first | (with_reducible first | exact HB.out | apply below_alloc | apply pw_below_drewN | apply below_drew1) | exact HB.out)))); have n1_ := Aside0.mk (below_step (by repeat (first | (with_reducible first | exact HB.out | apply below_alloc | apply pw_below_drewN | apply below_drew1) | exact HB.out)) hb); clear HB; have HO226 := n0_; have HB := n1_; clear n0_ n1_; (try clear hb); (try clear hb2); (try clear hk); (try clear hi); (try clear ho0); obtain ⟨Ao10, co10, eo10⟩ := Kd.R_slice HO226.out; subst eo10; have p227 : 0 ≤ (0 : Int) := (by omega); have q227 : 0 < (t224.length : Int) := of_decide_eq_true (by first | (with_reducible assumption) | assumption); obtain ⟨ad227, e227, hx227_0⟩ := Kd.at_string (Kd.R_reads' HO226.out).2.2 0 p227 q227; cases e227; have qi227 : (0 < t224.length) = True := eq_true (by omega); (try rw [show ((0 : Int)).toNat = 0 from rfl] at hx227_0); (try rw [Addr.add_zero'] at hx227_0); replace p227 := eq_true p227; replace q227 := eq_true q227; have p228 : 0 ≤ (1 : Int) := (by omega); have q228 : 1 < (t224.length : Int) := of_decide_eq_true (by first | (with_reducible assumption) | assumption); obtain ⟨ad228, e228, hx228_0⟩ := Kd.at_string (Kd.R_reads' HO226.out).2.2 1 p228 q228; obtain rfl : ad227 = ad228 := (by injection e228); (try simp only [show (1 : Int).toNat = 1 from rfl, Nat.reduceMul, Nat.reduceEqDiff, Go.Addr.add, ↓reduceIte] at hx228_0); have qi228 : (1 < t224.length) = True := eq_true (by omega); (try rw [show ((1 : Int)).toNat = 1 from rfl] at hx228_0); replace p228 := eq_true p228; replace q228 := eq_true q228) | (go_at_call 45; (with_reducible refine (tollref01_Name.calls k (rdOf ByteArray.empty t224 1) true _ A7.out).mono ?_); rintro e w11 ⟨rfl, hb⟩; have n0_ := Aside0.mk (Kd.R_below (by (with_reducible repeat (first | apply Kd.R_alloc | apply Kd.R_drewN | apply Kd.R_drew)); exact HO226.out) hb); have n1_ := Aside0.mk (below_step (by repeat (first | (with_reducible first | exact HB.out | apply below_alloc | apply pw_below_drewN | apply below_drew1) | exact HB.out)) hb); clear HO226; clear HB; have HO226 := n0_; have HB := n1_; clear n0_ n1_; (try clear hb); (try clear hb2); (try clear hk); (try clear hi); have p230 : 0 ≤ (0 : Int) := (by omega); have q230 : 0 < (t224.length : Int) := of_decide_eq_true (by first | (with_reducible assumption) | assumption); obtain ⟨ad230, e230, hx230_0⟩ := Kd.at_string (Kd.R_reads' HO226.out).2.2 0 p230 q230; obtain rfl : ad227 = ad230 := (by injection e230); have qi230 : (0 < t224.length) = True := eq_true (by omega); (try rw [show ((0 : Int)).toNat = 0 from rfl] at hx230_0); (try rw [Addr.add_zero'] at hx230_0); replace p230 := eq_true p230; replace q230 := eq_true q230; have p231 : 0 ≤ (1 : Int) := (by omega); have q231 : 1 < (t224.length : Int) := of_decide_eq_true (by first | (with_reducible assumption) | assumption); obtain ⟨ad231, e231, hx231_0⟩ := Kd.at_string (Kd.R_reads' HO226.out).2.2 1 p231 q231; obtain rfl : ad227 = ad231 := (by injection e231); (try simp only [show (1 : Int).toNat = 1 from rfl, Nat.reduceMul, Nat.reduceEqDiff, Go.Addr.add, ↓reduceIte] at hx231_0); have qi231 : (1 < t224.length) = True := eq_true (by omega); (try rw [show ((1 : Int)).toNat = 1 from rfl] at hx231_0); replace p231 := eq_true p231; replace q231 := eq_true q231))
            repeat (go_quiet (first | (go_at_call 46; (with_reducible refine (tollref01_Split.calls k a0 47 t224 _ A2.out).mono ?_); rintro e w9 ⟨v225, rfl, ho0, hb⟩; have n0_ := Aside0.mk (Kd.R_lower ho0 (below_size (by repeat (first | (with_reducible first | exact HB.out | apply below_alloc | apply pw_below_drewN | apply below_drew1) | exact HB.out)))); have n1_ := Aside0.mk (below_step (by repeat (first | (with_reducible first | exact HB.out | apply below_alloc | apply pw_below_drewN | apply below_drew1) | exact HB.out)) hb); clear HB; have HO226 := n0_; have HB := n1_; clear n0_ n1_; (try clear hb); (try clear hb2); (try clear hk); (try clear hi); (try clear ho0); obtain ⟨Ao10, co10, eo10⟩ := Kd.R_slice HO226.out; subst eo10; have p227 : 0 ≤ (0 : Int) := (by omega); have q227 : 0 < (t224.length : Int) := of_decide_eq_true (by first | (with_reducible assumption) | assumption); obtain ⟨ad227, e227, hx227_0⟩ := Kd.at_string (Kd.R_reads' HO226.out).2.2 0 p227 q227; cases e227; have qi227 : (0 < t224.length) = True := eq_true (by omega); (try rw [show ((0 : Int)).toNat = 0 from rfl] at hx227_0); (try rw [Addr.add_zero'] at hx227_0); replace p227 := eq_true p227; replace q227 := eq_true q227; have p228 : 0 ≤ (1 : Int) := (by omega); have q228 : 1 < (t224.length : Int) := of_decide_eq_true (by first | (with_reducible assumption) | assumption); obtain ⟨ad228, e228, hx228_0⟩ := Kd.at_string (Kd.R_reads' HO226.out).2.2 1 p228 q228; obtain rfl : ad227 = ad228 := (by injection e228); (try simp only [show (1 : Int).toNat = 1 from rfl, Nat.reduceMul, Nat.reduceEqDiff, Go.Addr.add, ↓reduceIte] at hx228_0); have qi228 : (1 < t224.length) = True := eq_true (by omega); (try rw [show ((1 : Int)).toNat = 1 from rfl] at hx228_0); replace p228 := eq_true p228; replace q228 := eq_true q228) | (go_at_call 45; (with_reducible refine (tollref01_Name.calls k (rdOf ByteArray.empty t224 1) true _ A7.out).mono ?_); rintro e w11 ⟨rfl, hb⟩; have n0_ := Aside0.mk (Kd.R_below (by (with_reducible repeat (first | apply Kd.R_alloc | apply Kd.R_drewN | apply Kd.R_drew)); exact HO226.out) hb); have n1_ := Aside0.mk (below_step (by repeat (first | (with_reducible first | exact HB.out | apply below_alloc | apply pw_below_drewN | apply below_drew1) | exact HB.out)) hb); clear HO226; clear HB; have HO226 := n0_; have HB := n1_; clear n0_ n1_; (try clear hb); (try clear hb2); (try clear hk); (try clear hi); have p230 : 0 ≤ (0 : Int) := (by omega); have q230 : 0 < (t224.length : Int) := of_decide_eq_true (by first | (with_reducible assumption) | assumption); obtain ⟨ad230, e230, hx230_0⟩ := Kd.at_string (Kd.R_reads' HO226.out).2.2 0 p230 q230; obtain rfl : ad227 = ad230 := (by injection e230); have qi230 : (0 < t224.length) = True := eq_true (by omega); (try rw [show ((0 : Int)).toNat = 0 from rfl] at hx230_0); (try rw [Addr.add_zero'] at hx230_0); replace p230 := eq_true p230; replace q230 := eq_true q230; have p231 : 0 ≤ (1 : Int) := (by omega); have q231 : 1 < (t224.length : Int) := of_decide_eq_true (by first | (with_reducible assumption) | assumption); obtain ⟨ad231, e231, hx231_0⟩ := Kd.at_string (Kd.R_reads' HO226.out).2.2 1 p231 q231; obtain rfl : ad227 = ad231 := (by injection e231); (try simp only [show (1 : Int).toNat = 1 from rfl, Nat.reduceMul, Nat.reduceEqDiff, Go.Addr.add, ↓reduceIte] at hx231_0); have qi231 : (1 < t224.length) = True := eq_true (by omega); (try rw [show ((1 : Int)).toNat = 1 from rfl] at hx231_0); replace p231 := eq_true p231; replace q231 := eq_true q231)); try go_wp2_with (first | (go_at_call 46; (with_reducible refine (tollref01_Split.calls k a0 47 t224 _ A2.out).mono ?_); rintro e w9 ⟨v225, rfl, ho0, hb⟩; have n0_ := Aside0.mk (Kd.R_lower ho0 (below_size (by repeat (first | (with_reducible first | exact HB.out | apply below_alloc | apply pw_below_drewN | apply below_drew1) | exact HB.out)))); have n1_ := Aside0.mk (below_step (by repeat (first | (with_reducible first | exact HB.out | apply below_alloc | apply pw_below_drewN | apply below_drew1) | exact HB.out)) hb); clear HB; have HO226 := n0_; have HB := n1_; clear n0_ n1_; (try clear hb); (try clear hb2); (try clear hk); (try clear hi); (try clear ho0); obtain ⟨Ao10, co10, eo10⟩ := Kd.R_slice HO226.out; subst eo10; have p227 : 0 ≤ (0 : Int) := (by omega); have q227 : 0 < (t224.length : Int) := of_decide_eq_true (by first | (with_reducible assumption) | assumption); obtain ⟨ad227, e227, hx227_0⟩ := Kd.at_string (Kd.R_reads' HO226.out).2.2 0 p227 q227; cases e227; have qi227 : (0 < t224.length) = True := eq_true (by omega); (try rw [show ((0 : Int)).toNat = 0 from rfl] at hx227_0); (try rw [Addr.add_zero'] at hx227_0); replace p227 := eq_true p227; replace q227 := eq_true q227; have p228 : 0 ≤ (1 : Int) := (by omega); have q228 : 1 < (t224.length : Int) := of_decide_eq_true (by first | (with_reducible assumption) | assumption); obtain ⟨ad228, e228, hx228_0⟩ := Kd.at_string (Kd.R_reads' HO226.out).2.2 1 p228 q228; obtain rfl : ad227 = ad228 := (by injection e228); (try simp only [show (1 : Int).toNat = 1 from rfl, Nat.reduceMul, Nat.reduceEqDiff, Go.Addr.add, ↓reduceIte] at hx228_0); have qi228 : (1 < t224.length) = True := eq_true (by omega); (try rw [show ((1 : Int)).toNat = 1 from rfl] at hx228_0); replace p228 := eq_true p228; replace q228 := eq_true q228) | (go_at_call 45; (with_reducible refine (tollref01_Name.calls k (rdOf ByteArray.empty t224 1) true _ A7.out).mono ?_); rintro e w11 ⟨rfl, hb⟩; have n0_ := Aside0.mk (Kd.R_below (by (with_reducible repeat (first | apply Kd.R_alloc | apply Kd.R_drewN | apply Kd.R_drew)); exact HO226.out) hb); have n1_ := Aside0.mk (below_step (by repeat (first | (with_reducible first | exact HB.out | apply below_alloc | apply pw_below_drewN | apply below_drew1) | exact HB.out)) hb); clear HO226; clear HB; have HO226 := n0_; have HB := n1_; clear n0_ n1_; (try clear hb); (try clear hb2); (try clear hk); (try clear hi); have p230 : 0 ≤ (0 : Int) := (by omega); have q230 : 0 < (t224.length : Int) := of_decide_eq_true (by first | (with_reducible assumption) | assumption); obtain ⟨ad230, e230, hx230_0⟩ := Kd.at_string (Kd.R_reads' HO226.out).2.2 0 p230 q230; obtain rfl : ad227 = ad230 := (by injection e230); have qi230 : (0 < t224.length) = True := eq_true (by omega); (try rw [show ((0 : Int)).toNat = 0 from rfl] at hx230_0); (try rw [Addr.add_zero'] at hx230_0); replace p230 := eq_true p230; replace q230 := eq_true q230; have p231 : 0 ≤ (1 : Int) := (by omega); have q231 : 1 < (t224.length : Int) := of_decide_eq_true (by first | (with_reducible assumption) | assumption); obtain ⟨ad231, e231, hx231_0⟩ := Kd.at_string (Kd.R_reads' HO226.out).2.2 1 p231 q231; obtain rfl : ad227 = ad231 := (by injection e231); (try simp only [show (1 : Int).toNat = 1 from rfl, Nat.reduceMul, Nat.reduceEqDiff, Go.Addr.add, ↓reduceIte] at hx231_0); have qi231 : (1 < t224.length) = True := eq_true (by omega); (try rw [show ((1 : Int)).toNat = 1 from rfl] at hx231_0); replace p231 := eq_true p231; replace q231 := eq_true q231)))
            go_ret3
            exact ⟨by first | rfl | (simp [errW_none, errW_some] <;> rfl) | (simp [*, errW_none, errW_some] <;> rfl), by repeat (first | (with_reducible first | exact HB.out | apply below_alloc | apply pw_below_drewN | apply below_drew1) | exact HB.out)⟩
          · replace c8 := Bool.eq_false_iff.mpr c8
            subst c8
            have H1 : (some ((⟨#[]⟩ : ByteArray), (⟨#[]⟩ : ByteArray), false)) = some (r1, r2, r3) := by rw [if_neg (show ¬ (false = true) by decide)] at H; exact H
            clear H
            have H := H1
            clear H1
            simp only [Option.some.injEq, Prod.mk.injEq] at H
            obtain ⟨rfl, rfl, rfl⟩ := H
            go_enter Tryd.func65, Tryd.ntmps65
            go_wp2_with (first | (go_at_call 46; (with_reducible refine (tollref01_Split.calls k a0 47 t224 _ A2.out).mono ?_); rintro e w12 ⟨v225, rfl, ho0, hb⟩; have n0_ := Aside0.mk (Kd.R_lower ho0 (below_size (by repeat (first | (with_reducible first | exact HB.out | apply below_alloc | apply pw_below_drewN | apply below_drew1) | exact HB.out)))); have n1_ := Aside0.mk (below_step (by repeat (first | (with_reducible first | exact HB.out | apply below_alloc | apply pw_below_drewN | apply below_drew1) | exact HB.out)) hb); clear HB; have HO226 := n0_; have HB := n1_; clear n0_ n1_; (try clear hb); (try clear hb2); (try clear hk); (try clear hi); (try clear ho0); obtain ⟨Ao13, co13, eo13⟩ := Kd.R_slice HO226.out; subst eo13; have p227 : 0 ≤ (0 : Int) := (by omega); have q227 : 0 < (t224.length : Int) := of_decide_eq_true (by first | (with_reducible assumption) | assumption); obtain ⟨ad227, e227, hx227_0⟩ := Kd.at_string (Kd.R_reads' HO226.out).2.2 0 p227 q227; cases e227; have qi227 : (0 < t224.length) = True := eq_true (by omega); (try rw [show ((0 : Int)).toNat = 0 from rfl] at hx227_0); (try rw [Addr.add_zero'] at hx227_0); replace p227 := eq_true p227; replace q227 := eq_true q227; have p228 : 0 ≤ (1 : Int) := (by omega); have q228 : 1 < (t224.length : Int) := of_decide_eq_true (by first | (with_reducible assumption) | assumption); obtain ⟨ad228, e228, hx228_0⟩ := Kd.at_string (Kd.R_reads' HO226.out).2.2 1 p228 q228; obtain rfl : ad227 = ad228 := (by injection e228); (try simp only [show (1 : Int).toNat = 1 from rfl, Nat.reduceMul, Nat.reduceEqDiff, Go.Addr.add, ↓reduceIte] at hx228_0); have qi228 : (1 < t224.length) = True := eq_true (by omega); (try rw [show ((1 : Int)).toNat = 1 from rfl] at hx228_0); replace p228 := eq_true p228; replace q228 := eq_true q228) | (go_at_call 45; (with_reducible refine (tollref01_Name.calls k (rdOf ByteArray.empty t224 1) false _ A7.out).mono ?_); rintro e w14 ⟨rfl, hb⟩; have n0_ := Aside0.mk (Kd.R_below (by (with_reducible repeat (first | apply Kd.R_alloc | apply Kd.R_drewN | apply Kd.R_drew)); exact HO226.out) hb); have n1_ := Aside0.mk (below_step (by repeat (first | (with_reducible first | exact HB.out | apply below_alloc | apply pw_below_drewN | apply below_drew1) | exact HB.out)) hb); clear HO226; clear HB; have HO226 := n0_; have HB := n1_; clear n0_ n1_; (try clear hb); (try clear hb2); (try clear hk); (try clear hi)))
            repeat (go_quiet (first | (go_at_call 46; (with_reducible refine (tollref01_Split.calls k a0 47 t224 _ A2.out).mono ?_); rintro e w12 ⟨v225, rfl, ho0, hb⟩; have n0_ := Aside0.mk (Kd.R_lower ho0 (below_size (by repeat (first | (with_reducible first | exact HB.out | apply below_alloc | apply pw_below_drewN | apply below_drew1) | exact HB.out)))); have n1_ := Aside0.mk (below_step (by repeat (first | (with_reducible first | exact HB.out | apply below_alloc | apply pw_below_drewN | apply below_drew1) | exact HB.out)) hb); clear HB; have HO226 := n0_; have HB := n1_; clear n0_ n1_; (try clear hb); (try clear hb2); (try clear hk); (try clear hi); (try clear ho0); obtain ⟨Ao13, co13, eo13⟩ := Kd.R_slice HO226.out; subst eo13; have p227 : 0 ≤ (0 : Int) := (by omega); have q227 : 0 < (t224.length : Int) := of_decide_eq_true (by first | (with_reducible assumption) | assumption); obtain ⟨ad227, e227, hx227_0⟩ := Kd.at_string (Kd.R_reads' HO226.out).2.2 0 p227 q227; cases e227; have qi227 : (0 < t224.length) = True := eq_true (by omega); (try rw [show ((0 : Int)).toNat = 0 from rfl] at hx227_0); (try rw [Addr.add_zero'] at hx227_0); replace p227 := eq_true p227; replace q227 := eq_true q227; have p228 : 0 ≤ (1 : Int) := (by omega); have q228 : 1 < (t224.length : Int) := of_decide_eq_true (by first | (with_reducible assumption) | assumption); obtain ⟨ad228, e228, hx228_0⟩ := Kd.at_string (Kd.R_reads' HO226.out).2.2 1 p228 q228; obtain rfl : ad227 = ad228 := (by injection e228); (try simp only [show (1 : Int).toNat = 1 from rfl, Nat.reduceMul, Nat.reduceEqDiff, Go.Addr.add, ↓reduceIte] at hx228_0); have qi228 : (1 < t224.length) = True := eq_true (by omega); (try rw [show ((1 : Int)).toNat = 1 from rfl] at hx228_0); replace p228 := eq_true p228; replace q228 := eq_true q228) | (go_at_call 45; (with_reducible refine (tollref01_Name.calls k (rdOf ByteArray.empty t224 1) false _ A7.out).mono ?_); rintro e w14 ⟨rfl, hb⟩; have n0_ := Aside0.mk (Kd.R_below (by (with_reducible repeat (first | apply Kd.R_alloc | apply Kd.R_drewN | apply Kd.R_drew)); exact HO226.out) hb); have n1_ := Aside0.mk (below_step (by repeat (first | (with_reducible first | exact HB.out | apply below_alloc | apply pw_below_drewN | apply below_drew1) | exact HB.out)) hb); clear HO226; clear HB; have HO226 := n0_; have HB := n1_; clear n0_ n1_; (try clear hb); (try clear hb2); (try clear hk); (try clear hi))); try go_wp2_with (first | (go_at_call 46; (with_reducible refine (tollref01_Split.calls k a0 47 t224 _ A2.out).mono ?_); rintro e w12 ⟨v225, rfl, ho0, hb⟩; have n0_ := Aside0.mk (Kd.R_lower ho0 (below_size (by repeat (first | (with_reducible first | exact HB.out | apply below_alloc | apply pw_below_drewN | apply below_drew1) | exact HB.out)))); have n1_ := Aside0.mk (below_step (by repeat (first | (with_reducible first | exact HB.out | apply below_alloc | apply pw_below_drewN | apply below_drew1) | exact HB.out)) hb); clear HB; have HO226 := n0_; have HB := n1_; clear n0_ n1_; (try clear hb); (try clear hb2); (try clear hk); (try clear hi); (try clear ho0); obtain ⟨Ao13, co13, eo13⟩ := Kd.R_slice HO226.out; subst eo13; have p227 : 0 ≤ (0 : Int) := (by omega); have q227 : 0 < (t224.length : Int) := of_decide_eq_true (by first | (with_reducible assumption) | assumption); obtain ⟨ad227, e227, hx227_0⟩ := Kd.at_string (Kd.R_reads' HO226.out).2.2 0 p227 q227; cases e227; have qi227 : (0 < t224.length) = True := eq_true (by omega); (try rw [show ((0 : Int)).toNat = 0 from rfl] at hx227_0); (try rw [Addr.add_zero'] at hx227_0); replace p227 := eq_true p227; replace q227 := eq_true q227; have p228 : 0 ≤ (1 : Int) := (by omega); have q228 : 1 < (t224.length : Int) := of_decide_eq_true (by first | (with_reducible assumption) | assumption); obtain ⟨ad228, e228, hx228_0⟩ := Kd.at_string (Kd.R_reads' HO226.out).2.2 1 p228 q228; obtain rfl : ad227 = ad228 := (by injection e228); (try simp only [show (1 : Int).toNat = 1 from rfl, Nat.reduceMul, Nat.reduceEqDiff, Go.Addr.add, ↓reduceIte] at hx228_0); have qi228 : (1 < t224.length) = True := eq_true (by omega); (try rw [show ((1 : Int)).toNat = 1 from rfl] at hx228_0); replace p228 := eq_true p228; replace q228 := eq_true q228) | (go_at_call 45; (with_reducible refine (tollref01_Name.calls k (rdOf ByteArray.empty t224 1) false _ A7.out).mono ?_); rintro e w14 ⟨rfl, hb⟩; have n0_ := Aside0.mk (Kd.R_below (by (with_reducible repeat (first | apply Kd.R_alloc | apply Kd.R_drewN | apply Kd.R_drew)); exact HO226.out) hb); have n1_ := Aside0.mk (below_step (by repeat (first | (with_reducible first | exact HB.out | apply below_alloc | apply pw_below_drewN | apply below_drew1) | exact HB.out)) hb); clear HO226; clear HB; have HO226 := n0_; have HB := n1_; clear n0_ n1_; (try clear hb); (try clear hb2); (try clear hk); (try clear hi))))
            go_ret3
            exact ⟨by first | rfl | (simp [errW_none, errW_some] <;> rfl) | (simp [*, errW_none, errW_some] <;> rfl), by repeat (first | (with_reducible first | exact HB.out | apply below_alloc | apply pw_below_drewN | apply below_drew1) | exact HB.out)⟩
        · rw [if_neg c6] at H
          exact absurd H (by simp)
      · rw [if_neg c5] at H
        have c5b0 : ((rdOf ByteArray.empty t224 0).toList == ([] : List UInt8)) = false := beq_eq_false_iff_ne.mpr c5
        have c5b1 : ((rdOf ByteArray.empty t224 0).toList != ([] : List UInt8)) = true := bne_iff_ne.mpr c5
        replace H := Option.bind_eq_some_iff.mp H
        obtain ⟨t233, A150, H⟩ := H
        replace H : (if t233 = true then (if 1 < (t224.length : Int) then ((tollref01_Name.f k (rdOf ByteArray.empty t224 1)).bind fun t235 => (if t235 = true then (some (rdOf ByteArray.empty t224 0, rdOf ByteArray.empty t224 1, true)) else (some ((⟨#[]⟩ : ByteArray), (⟨#[]⟩ : ByteArray), false)))) else (none)) else (some ((⟨#[]⟩ : ByteArray), (⟨#[]⟩ : ByteArray), false))) = some (r1, r2, r3) := H
        have A15 := Aside0.mk A150
        clear A150
        by_cases c16 : t233 = true
        · subst c16
          have H1 : (if 1 < (t224.length : Int) then ((tollref01_Name.f k (rdOf ByteArray.empty t224 1)).bind fun t235 => (if t235 = true then (some (rdOf ByteArray.empty t224 0, rdOf ByteArray.empty t224 1, true)) else (some ((⟨#[]⟩ : ByteArray), (⟨#[]⟩ : ByteArray), false)))) else (none)) = some (r1, r2, r3) := by rw [if_pos rfl] at H; exact H
          clear H
          have H := H1
          clear H1
          by_cases c17 : 1 < (t224.length : Int)
          · rw [if_pos c17] at H
            have c17b0 : decide (1 < (t224.length : Int)) = true := decide_eq_true c17
            have c17b1 : decide (1 < t224.length) = true := decide_eq_true (by omega)
            clear c17
            replace H := Option.bind_eq_some_iff.mp H
            obtain ⟨t235, A180, H⟩ := H
            replace H : (if t235 = true then (some (rdOf ByteArray.empty t224 0, rdOf ByteArray.empty t224 1, true)) else (some ((⟨#[]⟩ : ByteArray), (⟨#[]⟩ : ByteArray), false))) = some (r1, r2, r3) := H
            have A18 := Aside0.mk A180
            clear A180
            by_cases c19 : t235 = true
            · subst c19
              have H1 : (some (rdOf ByteArray.empty t224 0, rdOf ByteArray.empty t224 1, true)) = some (r1, r2, r3) := by rw [if_pos rfl] at H; exact H
              clear H
              have H := H1
              clear H1
              simp only [Option.some.injEq, Prod.mk.injEq] at H
              obtain ⟨rfl, rfl, rfl⟩ := H
              go_enter Tryd.func65, Tryd.ntmps65
              go_wp2_with (first | (go_at_call 46; (with_reducible refine (tollref01_Split.calls k a0 47 t224 _ A2.out).mono ?_); rintro e w20 ⟨v225, rfl, ho0, hb⟩; have n0_ := Aside0.mk (Kd.R_lower ho0 (below_size (by repeat (first | (with_reducible first | exact HB.out | apply below_alloc | apply pw_below_drewN | apply below_drew1) | exact HB.out)))); have n1_ := Aside0.mk (below_step (by repeat (first | (with_reducible first | exact HB.out | apply below_alloc | apply pw_below_drewN | apply below_drew1) | exact HB.out)) hb); clear HB; have HO226 := n0_; have HB := n1_; clear n0_ n1_; (try clear hb); (try clear hb2); (try clear hk); (try clear hi); (try clear ho0); obtain ⟨Ao21, co21, eo21⟩ := Kd.R_slice HO226.out; subst eo21; have p227 : 0 ≤ (0 : Int) := (by omega); have q227 : 0 < (t224.length : Int) := of_decide_eq_true (by first | (with_reducible assumption) | assumption); obtain ⟨ad227, e227, hx227_0⟩ := Kd.at_string (Kd.R_reads' HO226.out).2.2 0 p227 q227; cases e227; have qi227 : (0 < t224.length) = True := eq_true (by omega); (try rw [show ((0 : Int)).toNat = 0 from rfl] at hx227_0); (try rw [Addr.add_zero'] at hx227_0); replace p227 := eq_true p227; replace q227 := eq_true q227; have p232 : 0 ≤ (0 : Int) := (by omega); have q232 : 0 < (t224.length : Int) := of_decide_eq_true (by first | (with_reducible assumption) | assumption); obtain ⟨ad232, e232, hx232_0⟩ := Kd.at_string (Kd.R_reads' HO226.out).2.2 0 p232 q232; obtain rfl : ad227 = ad232 := (by injection e232); have qi232 : (0 < t224.length) = True := eq_true (by omega); (try rw [show ((0 : Int)).toNat = 0 from rfl] at hx232_0); (try rw [Addr.add_zero'] at hx232_0); replace p232 := eq_true p232; replace q232 := eq_true q232) | (go_at_call 47; (with_reducible refine (tollref01_Label.calls k (rdOf ByteArray.empty t224 0) true _ A15.out).mono ?_); rintro e w' ⟨rfl, ⟨nd, rfl⟩⟩; (try first | exact ⟨rfl, _, World.drewN_drewN _ _ _⟩ | exact ⟨rfl, _, Eq.trans (World.drewN_drewN _ _ _) (congrArg (World.drewN _) (Nat.add_assoc _ _ _))⟩); have p234 : 0 ≤ (1 : Int) := (by omega); have q234 : 1 < (t224.length : Int) := of_decide_eq_true (by first | (with_reducible assumption) | assumption); obtain ⟨ad234, e234, hx234_0⟩ := Kd.at_string (Kd.R_reads' HO226.out).2.2 1 p234 q234; obtain rfl : ad227 = ad234 := (by injection e234); (try simp only [show (1 : Int).toNat = 1 from rfl, Nat.reduceMul, Nat.reduceEqDiff, Go.Addr.add, ↓reduceIte] at hx234_0); have qi234 : (1 < t224.length) = True := eq_true (by omega); (try rw [show ((1 : Int)).toNat = 1 from rfl] at hx234_0); replace p234 := eq_true p234; replace q234 := eq_true q234) | (go_at_call 45; (with_reducible refine (tollref01_Name.calls k (rdOf ByteArray.empty t224 1) true _ A18.out).mono ?_); rintro e w22 ⟨rfl, hb⟩; have n0_ := Aside0.mk (Kd.R_below (by (with_reducible repeat (first | apply Kd.R_alloc | apply Kd.R_drewN | apply Kd.R_drew)); exact HO226.out) hb); have n1_ := Aside0.mk (below_step (by repeat (first | (with_reducible first | exact HB.out | apply below_alloc | apply pw_below_drewN | apply below_drew1) | exact HB.out)) hb); clear HO226; clear HB; have HO226 := n0_; have HB := n1_; clear n0_ n1_; (try clear hb); (try clear hb2); (try clear hk); (try clear hi); have p236 : 0 ≤ (0 : Int) := (by omega); have q236 : 0 < (t224.length : Int) := of_decide_eq_true (by first | (with_reducible assumption) | assumption); obtain ⟨ad236, e236, hx236_0⟩ := Kd.at_string (Kd.R_reads' HO226.out).2.2 0 p236 q236; obtain rfl : ad227 = ad236 := (by injection e236); have qi236 : (0 < t224.length) = True := eq_true (by omega); (try rw [show ((0 : Int)).toNat = 0 from rfl] at hx236_0); (try rw [Addr.add_zero'] at hx236_0); replace p236 := eq_true p236; replace q236 := eq_true q236; have p237 : 0 ≤ (1 : Int) := (by omega); have q237 : 1 < (t224.length : Int) := of_decide_eq_true (by first | (with_reducible assumption) | assumption); obtain ⟨ad237, e237, hx237_0⟩ := Kd.at_string (Kd.R_reads' HO226.out).2.2 1 p237 q237; obtain rfl : ad227 = ad237 := (by injection e237); (try simp only [show (1 : Int).toNat = 1 from rfl, Nat.reduceMul, Nat.reduceEqDiff, Go.Addr.add, ↓reduceIte] at hx237_0); have qi237 : (1 < t224.length) = True := eq_true (by omega); (try rw [show ((1 : Int)).toNat = 1 from rfl] at hx237_0); replace p237 := eq_true p237; replace q237 := eq_true q237))
              repeat (go_quiet (first | (go_at_call 46; (with_reducible refine (tollref01_Split.calls k a0 47 t224 _ A2.out).mono ?_); rintro e w20 ⟨v225, rfl, ho0, hb⟩; have n0_ := Aside0.mk (Kd.R_lower ho0 (below_size (by repeat (first | (with_reducible first | exact HB.out | apply below_alloc | apply pw_below_drewN | apply below_drew1) | exact HB.out)))); have n1_ := Aside0.mk (below_step (by repeat (first | (with_reducible first | exact HB.out | apply below_alloc | apply pw_below_drewN | apply below_drew1) | exact HB.out)) hb); clear HB; have HO226 := n0_; have HB := n1_; clear n0_ n1_; (try clear hb); (try clear hb2); (try clear hk); (try clear hi); (try clear ho0); obtain ⟨Ao21, co21, eo21⟩ := Kd.R_slice HO226.out; subst eo21; have p227 : 0 ≤ (0 : Int) := (by omega); have q227 : 0 < (t224.length : Int) := of_decide_eq_true (by first | (with_reducible assumption) | assumption); obtain ⟨ad227, e227, hx227_0⟩ := Kd.at_string (Kd.R_reads' HO226.out).2.2 0 p227 q227; cases e227; have qi227 : (0 < t224.length) = True := eq_true (by omega); (try rw [show ((0 : Int)).toNat = 0 from rfl] at hx227_0); (try rw [Addr.add_zero'] at hx227_0); replace p227 := eq_true p227; replace q227 := eq_true q227; have p232 : 0 ≤ (0 : Int) := (by omega); have q232 : 0 < (t224.length : Int) := of_decide_eq_true (by first | (with_reducible assumption) | assumption); obtain ⟨ad232, e232, hx232_0⟩ := Kd.at_string (Kd.R_reads' HO226.out).2.2 0 p232 q232; obtain rfl : ad227 = ad232 := (by injection e232); have qi232 : (0 < t224.length) = True := eq_true (by omega); (try rw [show ((0 : Int)).toNat = 0 from rfl] at hx232_0); (try rw [Addr.add_zero'] at hx232_0); replace p232 := eq_true p232; replace q232 := eq_true q232) | (go_at_call 47; (with_reducible refine (tollref01_Label.calls k (rdOf ByteArray.empty t224 0) true _ A15.out).mono ?_); rintro e w' ⟨rfl, ⟨nd, rfl⟩⟩; (try first | exact ⟨rfl, _, World.drewN_drewN _ _ _⟩ | exact ⟨rfl, _, Eq.trans (World.drewN_drewN _ _ _) (congrArg (World.drewN _) (Nat.add_assoc _ _ _))⟩); have p234 : 0 ≤ (1 : Int) := (by omega); have q234 : 1 < (t224.length : Int) := of_decide_eq_true (by first | (with_reducible assumption) | assumption); obtain ⟨ad234, e234, hx234_0⟩ := Kd.at_string (Kd.R_reads' HO226.out).2.2 1 p234 q234; obtain rfl : ad227 = ad234 := (by injection e234); (try simp only [show (1 : Int).toNat = 1 from rfl, Nat.reduceMul, Nat.reduceEqDiff, Go.Addr.add, ↓reduceIte] at hx234_0); have qi234 : (1 < t224.length) = True := eq_true (by omega); (try rw [show ((1 : Int)).toNat = 1 from rfl] at hx234_0); replace p234 := eq_true p234; replace q234 := eq_true q234) | (go_at_call 45; (with_reducible refine (tollref01_Name.calls k (rdOf ByteArray.empty t224 1) true _ A18.out).mono ?_); rintro e w22 ⟨rfl, hb⟩; have n0_ := Aside0.mk (Kd.R_below (by (with_reducible repeat (first | apply Kd.R_alloc | apply Kd.R_drewN | apply Kd.R_drew)); exact HO226.out) hb); have n1_ := Aside0.mk (below_step (by repeat (first | (with_reducible first | exact HB.out | apply below_alloc | apply pw_below_drewN | apply below_drew1) | exact HB.out)) hb); clear HO226; clear HB; have HO226 := n0_; have HB := n1_; clear n0_ n1_; (try clear hb); (try clear hb2); (try clear hk); (try clear hi); have p236 : 0 ≤ (0 : Int) := (by omega); have q236 : 0 < (t224.length : Int) := of_decide_eq_true (by first | (with_reducible assumption) | assumption); obtain ⟨ad236, e236, hx236_0⟩ := Kd.at_string (Kd.R_reads' HO226.out).2.2 0 p236 q236; obtain rfl : ad227 = ad236 := (by injection e236); have qi236 : (0 < t224.length) = True := eq_true (by omega); (try rw [show ((0 : Int)).toNat = 0 from rfl] at hx236_0); (try rw [Addr.add_zero'] at hx236_0); replace p236 := eq_true p236; replace q236 := eq_true q236; have p237 : 0 ≤ (1 : Int) := (by omega); have q237 : 1 < (t224.length : Int) := of_decide_eq_true (by first | (with_reducible assumption) | assumption); obtain ⟨ad237, e237, hx237_0⟩ := Kd.at_string (Kd.R_reads' HO226.out).2.2 1 p237 q237; obtain rfl : ad227 = ad237 := (by injection e237); (try simp only [show (1 : Int).toNat = 1 from rfl, Nat.reduceMul, Nat.reduceEqDiff, Go.Addr.add, ↓reduceIte] at hx237_0); have qi237 : (1 < t224.length) = True := eq_true (by omega); (try rw [show ((1 : Int)).toNat = 1 from rfl] at hx237_0); replace p237 := eq_true p237; replace q237 := eq_true q237)); try go_wp2_with (first | (go_at_call 46; (with_reducible refine (tollref01_Split.calls k a0 47 t224 _ A2.out).mono ?_); rintro e w20 ⟨v225, rfl, ho0, hb⟩; have n0_ := Aside0.mk (Kd.R_lower ho0 (below_size (by repeat (first | (with_reducible first | exact HB.out | apply below_alloc | apply pw_below_drewN | apply below_drew1) | exact HB.out)))); have n1_ := Aside0.mk (below_step (by repeat (first | (with_reducible first | exact HB.out | apply below_alloc | apply pw_below_drewN | apply below_drew1) | exact HB.out)) hb); clear HB; have HO226 := n0_; have HB := n1_; clear n0_ n1_; (try clear hb); (try clear hb2); (try clear hk); (try clear hi); (try clear ho0); obtain ⟨Ao21, co21, eo21⟩ := Kd.R_slice HO226.out; subst eo21; have p227 : 0 ≤ (0 : Int) := (by omega); have q227 : 0 < (t224.length : Int) := of_decide_eq_true (by first | (with_reducible assumption) | assumption); obtain ⟨ad227, e227, hx227_0⟩ := Kd.at_string (Kd.R_reads' HO226.out).2.2 0 p227 q227; cases e227; have qi227 : (0 < t224.length) = True := eq_true (by omega); (try rw [show ((0 : Int)).toNat = 0 from rfl] at hx227_0); (try rw [Addr.add_zero'] at hx227_0); replace p227 := eq_true p227; replace q227 := eq_true q227; have p232 : 0 ≤ (0 : Int) := (by omega); have q232 : 0 < (t224.length : Int) := of_decide_eq_true (by first | (with_reducible assumption) | assumption); obtain ⟨ad232, e232, hx232_0⟩ := Kd.at_string (Kd.R_reads' HO226.out).2.2 0 p232 q232; obtain rfl : ad227 = ad232 := (by injection e232); have qi232 : (0 < t224.length) = True := eq_true (by omega); (try rw [show ((0 : Int)).toNat = 0 from rfl] at hx232_0); (try rw [Addr.add_zero'] at hx232_0); replace p232 := eq_true p232; replace q232 := eq_true q232) | (go_at_call 47; (with_reducible refine (tollref01_Label.calls k (rdOf ByteArray.empty t224 0) true _ A15.out).mono ?_); rintro e w' ⟨rfl, ⟨nd, rfl⟩⟩; (try first | exact ⟨rfl, _, World.drewN_drewN _ _ _⟩ | exact ⟨rfl, _, Eq.trans (World.drewN_drewN _ _ _) (congrArg (World.drewN _) (Nat.add_assoc _ _ _))⟩); have p234 : 0 ≤ (1 : Int) := (by omega); have q234 : 1 < (t224.length : Int) := of_decide_eq_true (by first | (with_reducible assumption) | assumption); obtain ⟨ad234, e234, hx234_0⟩ := Kd.at_string (Kd.R_reads' HO226.out).2.2 1 p234 q234; obtain rfl : ad227 = ad234 := (by injection e234); (try simp only [show (1 : Int).toNat = 1 from rfl, Nat.reduceMul, Nat.reduceEqDiff, Go.Addr.add, ↓reduceIte] at hx234_0); have qi234 : (1 < t224.length) = True := eq_true (by omega); (try rw [show ((1 : Int)).toNat = 1 from rfl] at hx234_0); replace p234 := eq_true p234; replace q234 := eq_true q234) | (go_at_call 45; (with_reducible refine (tollref01_Name.calls k (rdOf ByteArray.empty t224 1) true _ A18.out).mono ?_); rintro e w22 ⟨rfl, hb⟩; have n0_ := Aside0.mk (Kd.R_below (by (with_reducible repeat (first | apply Kd.R_alloc | apply Kd.R_drewN | apply Kd.R_drew)); exact HO226.out) hb); have n1_ := Aside0.mk (below_step (by repeat (first | (with_reducible first | exact HB.out | apply below_alloc | apply pw_below_drewN | apply below_drew1) | exact HB.out)) hb); clear HO226; clear HB; have HO226 := n0_; have HB := n1_; clear n0_ n1_; (try clear hb); (try clear hb2); (try clear hk); (try clear hi); have p236 : 0 ≤ (0 : Int) := (by omega); have q236 : 0 < (t224.length : Int) := of_decide_eq_true (by first | (with_reducible assumption) | assumption); obtain ⟨ad236, e236, hx236_0⟩ := Kd.at_string (Kd.R_reads' HO226.out).2.2 0 p236 q236; obtain rfl : ad227 = ad236 := (by injection e236); have qi236 : (0 < t224.length) = True := eq_true (by omega); (try rw [show ((0 : Int)).toNat = 0 from rfl] at hx236_0); (try rw [Addr.add_zero'] at hx236_0); replace p236 := eq_true p236; replace q236 := eq_true q236; have p237 : 0 ≤ (1 : Int) := (by omega); have q237 : 1 < (t224.length : Int) := of_decide_eq_true (by first | (with_reducible assumption) | assumption); obtain ⟨ad237, e237, hx237_0⟩ := Kd.at_string (Kd.R_reads' HO226.out).2.2 1 p237 q237; obtain rfl : ad227 = ad237 := (by injection e237); (try simp only [show (1 : Int).toNat = 1 from rfl, Nat.reduceMul, Nat.reduceEqDiff, Go.Addr.add, ↓reduceIte] at hx237_0); have qi237 : (1 < t224.length) = True := eq_true (by omega); (try rw [show ((1 : Int)).toNat = 1 from rfl] at hx237_0); replace p237 := eq_true p237; replace q237 := eq_true q237)))
              go_ret3
              exact ⟨by first | rfl | (simp [errW_none, errW_some] <;> rfl) | (simp [*, errW_none, errW_some] <;> rfl), by repeat (first | (with_reducible first | exact HB.out | apply below_alloc | apply pw_below_drewN | apply below_drew1) | exact HB.out)⟩
            · replace c19 := Bool.eq_false_iff.mpr c19
              subst c19
              have H1 : (some ((⟨#[]⟩ : ByteArray), (⟨#[]⟩ : ByteArray), false)) = some (r1, r2, r3) := by rw [if_neg (show ¬ (false = true) by decide)] at H; exact H
              clear H
              have H := H1
              clear H1
              simp only [Option.some.injEq, Prod.mk.injEq] at H
              obtain ⟨rfl, rfl, rfl⟩ := H
              go_enter Tryd.func65, Tryd.ntmps65
              go_wp2_with (first | (go_at_call 46; (with_reducible refine (tollref01_Split.calls k a0 47 t224 _ A2.out).mono ?_); rintro e w23 ⟨v225, rfl, ho0, hb⟩; have n0_ := Aside0.mk (Kd.R_lower ho0 (below_size (by repeat (first | (with_reducible first | exact HB.out | apply below_alloc | apply pw_below_drewN | apply below_drew1) | exact HB.out)))); have n1_ := Aside0.mk (below_step (by repeat (first | (with_reducible first | exact HB.out | apply below_alloc | apply pw_below_drewN | apply below_drew1) | exact HB.out)) hb); clear HB; have HO226 := n0_; have HB := n1_; clear n0_ n1_; (try clear hb); (try clear hb2); (try clear hk); (try clear hi); (try clear ho0); obtain ⟨Ao24, co24, eo24⟩ := Kd.R_slice HO226.out; subst eo24; have p227 : 0 ≤ (0 : Int) := (by omega); have q227 : 0 < (t224.length : Int) := of_decide_eq_true (by first | (with_reducible assumption) | assumption); obtain ⟨ad227, e227, hx227_0⟩ := Kd.at_string (Kd.R_reads' HO226.out).2.2 0 p227 q227; cases e227; have qi227 : (0 < t224.length) = True := eq_true (by omega); (try rw [show ((0 : Int)).toNat = 0 from rfl] at hx227_0); (try rw [Addr.add_zero'] at hx227_0); replace p227 := eq_true p227; replace q227 := eq_true q227; have p232 : 0 ≤ (0 : Int) := (by omega); have q232 : 0 < (t224.length : Int) := of_decide_eq_true (by first | (with_reducible assumption) | assumption); obtain ⟨ad232, e232, hx232_0⟩ := Kd.at_string (Kd.R_reads' HO226.out).2.2 0 p232 q232; obtain rfl : ad227 = ad232 := (by injection e232); have qi232 : (0 < t224.length) = True := eq_true (by omega); (try rw [show ((0 : Int)).toNat = 0 from rfl] at hx232_0); (try rw [Addr.add_zero'] at hx232_0); replace p232 := eq_true p232; replace q232 := eq_true q232) | (go_at_call 47; (with_reducible refine (tollref01_Label.calls k (rdOf ByteArray.empty t224 0) true _ A15.out).mono ?_); rintro e w' ⟨rfl, ⟨nd, rfl⟩⟩; (try first | exact ⟨rfl, _, World.drewN_drewN _ _ _⟩ | exact ⟨rfl, _, Eq.trans (World.drewN_drewN _ _ _) (congrArg (World.drewN _) (Nat.add_assoc _ _ _))⟩); have p234 : 0 ≤ (1 : Int) := (by omega); have q234 : 1 < (t224.length : Int) := of_decide_eq_true (by first | (with_reducible assumption) | assumption); obtain ⟨ad234, e234, hx234_0⟩ := Kd.at_string (Kd.R_reads' HO226.out).2.2 1 p234 q234; obtain rfl : ad227 = ad234 := (by injection e234); (try simp only [show (1 : Int).toNat = 1 from rfl, Nat.reduceMul, Nat.reduceEqDiff, Go.Addr.add, ↓reduceIte] at hx234_0); have qi234 : (1 < t224.length) = True := eq_true (by omega); (try rw [show ((1 : Int)).toNat = 1 from rfl] at hx234_0); replace p234 := eq_true p234; replace q234 := eq_true q234) | (go_at_call 45; (with_reducible refine (tollref01_Name.calls k (rdOf ByteArray.empty t224 1) false _ A18.out).mono ?_); rintro e w25 ⟨rfl, hb⟩; have n0_ := Aside0.mk (Kd.R_below (by (with_reducible repeat (first | apply Kd.R_alloc | apply Kd.R_drewN | apply Kd.R_drew)); exact HO226.out) hb); have n1_ := Aside0.mk (below_step (by repeat (first | (with_reducible first | exact HB.out | apply below_alloc | apply pw_below_drewN | apply below_drew1) | exact HB.out)) hb); clear HO226; clear HB; have HO226 := n0_; have HB := n1_; clear n0_ n1_; (try clear hb); (try clear hb2); (try clear hk); (try clear hi)))
              repeat (go_quiet (first | (go_at_call 46; (with_reducible refine (tollref01_Split.calls k a0 47 t224 _ A2.out).mono ?_); rintro e w23 ⟨v225, rfl, ho0, hb⟩; have n0_ := Aside0.mk (Kd.R_lower ho0 (below_size (by repeat (first | (with_reducible first | exact HB.out | apply below_alloc | apply pw_below_drewN | apply below_drew1) | exact HB.out)))); have n1_ := Aside0.mk (below_step (by repeat (first | (with_reducible first | exact HB.out | apply below_alloc | apply pw_below_drewN | apply below_drew1) | exact HB.out)) hb); clear HB; have HO226 := n0_; have HB := n1_; clear n0_ n1_; (try clear hb); (try clear hb2); (try clear hk); (try clear hi); (try clear ho0); obtain ⟨Ao24, co24, eo24⟩ := Kd.R_slice HO226.out; subst eo24; have p227 : 0 ≤ (0 : Int) := (by omega); have q227 : 0 < (t224.length : Int) := of_decide_eq_true (by first | (with_reducible assumption) | assumption); obtain ⟨ad227, e227, hx227_0⟩ := Kd.at_string (Kd.R_reads' HO226.out).2.2 0 p227 q227; cases e227; have qi227 : (0 < t224.length) = True := eq_true (by omega); (try rw [show ((0 : Int)).toNat = 0 from rfl] at hx227_0); (try rw [Addr.add_zero'] at hx227_0); replace p227 := eq_true p227; replace q227 := eq_true q227; have p232 : 0 ≤ (0 : Int) := (by omega); have q232 : 0 < (t224.length : Int) := of_decide_eq_true (by first | (with_reducible assumption) | assumption); obtain ⟨ad232, e232, hx232_0⟩ := Kd.at_string (Kd.R_reads' HO226.out).2.2 0 p232 q232; obtain rfl : ad227 = ad232 := (by injection e232); have qi232 : (0 < t224.length) = True := eq_true (by omega); (try rw [show ((0 : Int)).toNat = 0 from rfl] at hx232_0); (try rw [Addr.add_zero'] at hx232_0); replace p232 := eq_true p232; replace q232 := eq_true q232) | (go_at_call 47; (with_reducible refine (tollref01_Label.calls k (rdOf ByteArray.empty t224 0) true _ A15.out).mono ?_); rintro e w' ⟨rfl, ⟨nd, rfl⟩⟩; (try first | exact ⟨rfl, _, World.drewN_drewN _ _ _⟩ | exact ⟨rfl, _, Eq.trans (World.drewN_drewN _ _ _) (congrArg (World.drewN _) (Nat.add_assoc _ _ _))⟩); have p234 : 0 ≤ (1 : Int) := (by omega); have q234 : 1 < (t224.length : Int) := of_decide_eq_true (by first | (with_reducible assumption) | assumption); obtain ⟨ad234, e234, hx234_0⟩ := Kd.at_string (Kd.R_reads' HO226.out).2.2 1 p234 q234; obtain rfl : ad227 = ad234 := (by injection e234); (try simp only [show (1 : Int).toNat = 1 from rfl, Nat.reduceMul, Nat.reduceEqDiff, Go.Addr.add, ↓reduceIte] at hx234_0); have qi234 : (1 < t224.length) = True := eq_true (by omega); (try rw [show ((1 : Int)).toNat = 1 from rfl] at hx234_0); replace p234 := eq_true p234; replace q234 := eq_true q234) | (go_at_call 45; (with_reducible refine (tollref01_Name.calls k (rdOf ByteArray.empty t224 1) false _ A18.out).mono ?_); rintro e w25 ⟨rfl, hb⟩; have n0_ := Aside0.mk (Kd.R_below (by (with_reducible repeat (first | apply Kd.R_alloc | apply Kd.R_drewN | apply Kd.R_drew)); exact HO226.out) hb); have n1_ := Aside0.mk (below_step (by repeat (first | (with_reducible first | exact HB.out | apply below_alloc | apply pw_below_drewN | apply below_drew1) | exact HB.out)) hb); clear HO226; clear HB; have HO226 := n0_; have HB := n1_; clear n0_ n1_; (try clear hb); (try clear hb2); (try clear hk); (try clear hi))); try go_wp2_with (first | (go_at_call 46; (with_reducible refine (tollref01_Split.calls k a0 47 t224 _ A2.out).mono ?_); rintro e w23 ⟨v225, rfl, ho0, hb⟩; have n0_ := Aside0.mk (Kd.R_lower ho0 (below_size (by repeat (first | (with_reducible first | exact HB.out | apply below_alloc | apply pw_below_drewN | apply below_drew1) | exact HB.out)))); have n1_ := Aside0.mk (below_step (by repeat (first | (with_reducible first | exact HB.out | apply below_alloc | apply pw_below_drewN | apply below_drew1) | exact HB.out)) hb); clear HB; have HO226 := n0_; have HB := n1_; clear n0_ n1_; (try clear hb); (try clear hb2); (try clear hk); (try clear hi); (try clear ho0); obtain ⟨Ao24, co24, eo24⟩ := Kd.R_slice HO226.out; subst eo24; have p227 : 0 ≤ (0 : Int) := (by omega); have q227 : 0 < (t224.length : Int) := of_decide_eq_true (by first | (with_reducible assumption) | assumption); obtain ⟨ad227, e227, hx227_0⟩ := Kd.at_string (Kd.R_reads' HO226.out).2.2 0 p227 q227; cases e227; have qi227 : (0 < t224.length) = True := eq_true (by omega); (try rw [show ((0 : Int)).toNat = 0 from rfl] at hx227_0); (try rw [Addr.add_zero'] at hx227_0); replace p227 := eq_true p227; replace q227 := eq_true q227; have p232 : 0 ≤ (0 : Int) := (by omega); have q232 : 0 < (t224.length : Int) := of_decide_eq_true (by first | (with_reducible assumption) | assumption); obtain ⟨ad232, e232, hx232_0⟩ := Kd.at_string (Kd.R_reads' HO226.out).2.2 0 p232 q232; obtain rfl : ad227 = ad232 := (by injection e232); have qi232 : (0 < t224.length) = True := eq_true (by omega); (try rw [show ((0 : Int)).toNat = 0 from rfl] at hx232_0); (try rw [Addr.add_zero'] at hx232_0); replace p232 := eq_true p232; replace q232 := eq_true q232) | (go_at_call 47; (with_reducible refine (tollref01_Label.calls k (rdOf ByteArray.empty t224 0) true _ A15.out).mono ?_); rintro e w' ⟨rfl, ⟨nd, rfl⟩⟩; (try first | exact ⟨rfl, _, World.drewN_drewN _ _ _⟩ | exact ⟨rfl, _, Eq.trans (World.drewN_drewN _ _ _) (congrArg (World.drewN _) (Nat.add_assoc _ _ _))⟩); have p234 : 0 ≤ (1 : Int) := (by omega); have q234 : 1 < (t224.length : Int) := of_decide_eq_true (by first | (with_reducible assumption) | assumption); obtain ⟨ad234, e234, hx234_0⟩ := Kd.at_string (Kd.R_reads' HO226.out).2.2 1 p234 q234; obtain rfl : ad227 = ad234 := (by injection e234); (try simp only [show (1 : Int).toNat = 1 from rfl, Nat.reduceMul, Nat.reduceEqDiff, Go.Addr.add, ↓reduceIte] at hx234_0); have qi234 : (1 < t224.length) = True := eq_true (by omega); (try rw [show ((1 : Int)).toNat = 1 from rfl] at hx234_0); replace p234 := eq_true p234; replace q234 := eq_true q234) | (go_at_call 45; (with_reducible refine (tollref01_Name.calls k (rdOf ByteArray.empty t224 1) false _ A18.out).mono ?_); rintro e w25 ⟨rfl, hb⟩; have n0_ := Aside0.mk (Kd.R_below (by (with_reducible repeat (first | apply Kd.R_alloc | apply Kd.R_drewN | apply Kd.R_drew)); exact HO226.out) hb); have n1_ := Aside0.mk (below_step (by repeat (first | (with_reducible first | exact HB.out | apply below_alloc | apply pw_below_drewN | apply below_drew1) | exact HB.out)) hb); clear HO226; clear HB; have HO226 := n0_; have HB := n1_; clear n0_ n1_; (try clear hb); (try clear hb2); (try clear hk); (try clear hi))))
              go_ret3
              exact ⟨by first | rfl | (simp [errW_none, errW_some] <;> rfl) | (simp [*, errW_none, errW_some] <;> rfl), by repeat (first | (with_reducible first | exact HB.out | apply below_alloc | apply pw_below_drewN | apply below_drew1) | exact HB.out)⟩
          · rw [if_neg c17] at H
            exact absurd H (by simp)
        · replace c16 := Bool.eq_false_iff.mpr c16
          subst c16
          have H1 : (some ((⟨#[]⟩ : ByteArray), (⟨#[]⟩ : ByteArray), false)) = some (r1, r2, r3) := by rw [if_neg (show ¬ (false = true) by decide)] at H; exact H
          clear H
          have H := H1
          clear H1
          simp only [Option.some.injEq, Prod.mk.injEq] at H
          obtain ⟨rfl, rfl, rfl⟩ := H
          go_enter Tryd.func65, Tryd.ntmps65
          go_wp2_with (first | (go_at_call 46; (with_reducible refine (tollref01_Split.calls k a0 47 t224 _ A2.out).mono ?_); rintro e w26 ⟨v225, rfl, ho0, hb⟩; have n0_ := Aside0.mk (Kd.R_lower ho0 (below_size (by repeat (first | (with_reducible first | exact HB.out | apply below_alloc | apply pw_below_drewN | apply below_drew1) | exact HB.out)))); have n1_ := Aside0.mk (below_step (by repeat (first | (with_reducible first | exact HB.out | apply below_alloc | apply pw_below_drewN | apply below_drew1) | exact HB.out)) hb); clear HB; have HO226 := n0_; have HB := n1_; clear n0_ n1_; (try clear hb); (try clear hb2); (try clear hk); (try clear hi); (try clear ho0); obtain ⟨Ao27, co27, eo27⟩ := Kd.R_slice HO226.out; subst eo27; have p227 : 0 ≤ (0 : Int) := (by omega); have q227 : 0 < (t224.length : Int) := of_decide_eq_true (by first | (with_reducible assumption) | assumption); obtain ⟨ad227, e227, hx227_0⟩ := Kd.at_string (Kd.R_reads' HO226.out).2.2 0 p227 q227; cases e227; have qi227 : (0 < t224.length) = True := eq_true (by omega); (try rw [show ((0 : Int)).toNat = 0 from rfl] at hx227_0); (try rw [Addr.add_zero'] at hx227_0); replace p227 := eq_true p227; replace q227 := eq_true q227; have p232 : 0 ≤ (0 : Int) := (by omega); have q232 : 0 < (t224.length : Int) := of_decide_eq_true (by first | (with_reducible assumption) | assumption); obtain ⟨ad232, e232, hx232_0⟩ := Kd.at_string (Kd.R_reads' HO226.out).2.2 0 p232 q232; obtain rfl : ad227 = ad232 := (by injection e232); have qi232 : (0 < t224.length) = True := eq_true (by omega); (try rw [show ((0 : Int)).toNat = 0 from rfl] at hx232_0); (try rw [Addr.add_zero'] at hx232_0); replace p232 := eq_true p232; replace q232 := eq_true q232) | (go_at_call 47; (with_reducible refine (tollref01_Label.calls k (rdOf ByteArray.empty t224 0) false _ A15.out).mono ?_); rintro e w' ⟨rfl, ⟨nd, rfl⟩⟩; (try first | exact ⟨rfl, _, World.drewN_drewN _ _ _⟩ | exact ⟨rfl, _, Eq.trans (World.drewN_drewN _ _ _) (congrArg (World.drewN _) (Nat.add_assoc _ _ _))⟩)))
          repeat (go_quiet (first | (go_at_call 46; (with_reducible refine (tollref01_Split.calls k a0 47 t224 _ A2.out).mono ?_); rintro e w26 ⟨v225, rfl, ho0, hb⟩; have n0_ := Aside0.mk (Kd.R_lower ho0 (below_size (by repeat (first | (with_reducible first | exact HB.out | apply below_alloc | apply pw_below_drewN | apply below_drew1) | exact HB.out)))); have n1_ := Aside0.mk (below_step (by repeat (first | (with_reducible first | exact HB.out | apply below_alloc | apply pw_below_drewN | apply below_drew1) | exact HB.out)) hb); clear HB; have HO226 := n0_; have HB := n1_; clear n0_ n1_; (try clear hb); (try clear hb2); (try clear hk); (try clear hi); (try clear ho0); obtain ⟨Ao27, co27, eo27⟩ := Kd.R_slice HO226.out; subst eo27; have p227 : 0 ≤ (0 : Int) := (by omega); have q227 : 0 < (t224.length : Int) := of_decide_eq_true (by first | (with_reducible assumption) | assumption); obtain ⟨ad227, e227, hx227_0⟩ := Kd.at_string (Kd.R_reads' HO226.out).2.2 0 p227 q227; cases e227; have qi227 : (0 < t224.length) = True := eq_true (by omega); (try rw [show ((0 : Int)).toNat = 0 from rfl] at hx227_0); (try rw [Addr.add_zero'] at hx227_0); replace p227 := eq_true p227; replace q227 := eq_true q227; have p232 : 0 ≤ (0 : Int) := (by omega); have q232 : 0 < (t224.length : Int) := of_decide_eq_true (by first | (with_reducible assumption) | assumption); obtain ⟨ad232, e232, hx232_0⟩ := Kd.at_string (Kd.R_reads' HO226.out).2.2 0 p232 q232; obtain rfl : ad227 = ad232 := (by injection e232); have qi232 : (0 < t224.length) = True := eq_true (by omega); (try rw [show ((0 : Int)).toNat = 0 from rfl] at hx232_0); (try rw [Addr.add_zero'] at hx232_0); replace p232 := eq_true p232; replace q232 := eq_true q232) | (go_at_call 47; (with_reducible refine (tollref01_Label.calls k (rdOf ByteArray.empty t224 0) false _ A15.out).mono ?_); rintro e w' ⟨rfl, ⟨nd, rfl⟩⟩; (try first | exact ⟨rfl, _, World.drewN_drewN _ _ _⟩ | exact ⟨rfl, _, Eq.trans (World.drewN_drewN _ _ _) (congrArg (World.drewN _) (Nat.add_assoc _ _ _))⟩))); try go_wp2_with (first | (go_at_call 46; (with_reducible refine (tollref01_Split.calls k a0 47 t224 _ A2.out).mono ?_); rintro e w26 ⟨v225, rfl, ho0, hb⟩; have n0_ := Aside0.mk (Kd.R_lower ho0 (below_size (by repeat (first | (with_reducible first | exact HB.out | apply below_alloc | apply pw_below_drewN | apply below_drew1) | exact HB.out)))); have n1_ := Aside0.mk (below_step (by repeat (first | (with_reducible first | exact HB.out | apply below_alloc | apply pw_below_drewN | apply below_drew1) | exact HB.out)) hb); clear HB; have HO226 := n0_; have HB := n1_; clear n0_ n1_; (try clear hb); (try clear hb2); (try clear hk); (try clear hi); (try clear ho0); obtain ⟨Ao27, co27, eo27⟩ := Kd.R_slice HO226.out; subst eo27; have p227 : 0 ≤ (0 : Int) := (by omega); have q227 : 0 < (t224.length : Int) := of_decide_eq_true (by first | (with_reducible assumption) | assumption); obtain ⟨ad227, e227, hx227_0⟩ := Kd.at_string (Kd.R_reads' HO226.out).2.2 0 p227 q227; cases e227; have qi227 : (0 < t224.length) = True := eq_true (by omega); (try rw [show ((0 : Int)).toNat = 0 from rfl] at hx227_0); (try rw [Addr.add_zero'] at hx227_0); replace p227 := eq_true p227; replace q227 := eq_true q227; have p232 : 0 ≤ (0 : Int) := (by omega); have q232 : 0 < (t224.length : Int) := of_decide_eq_true (by first | (with_reducible assumption) | assumption); obtain ⟨ad232, e232, hx232_0⟩ := Kd.at_string (Kd.R_reads' HO226.out).2.2 0 p232 q232; obtain rfl : ad227 = ad232 := (by injection e232); have qi232 : (0 < t224.length) = True := eq_true (by omega); (try rw [show ((0 : Int)).toNat = 0 from rfl] at hx232_0); (try rw [Addr.add_zero'] at hx232_0); replace p232 := eq_true p232; replace q232 := eq_true q232) | (go_at_call 47; (with_reducible refine (tollref01_Label.calls k (rdOf ByteArray.empty t224 0) false _ A15.out).mono ?_); rintro e w' ⟨rfl, ⟨nd, rfl⟩⟩; (try first | exact ⟨rfl, _, World.drewN_drewN _ _ _⟩ | exact ⟨rfl, _, Eq.trans (World.drewN_drewN _ _ _) (congrArg (World.drewN _) (Nat.add_assoc _ _ _))⟩))))
          go_ret3
          exact ⟨by first | rfl | (simp [errW_none, errW_some] <;> rfl) | (simp [*, errW_none, errW_some] <;> rfl), by repeat (first | (with_reducible first | exact HB.out | apply below_alloc | apply pw_below_drewN | apply below_drew1) | exact HB.out)⟩
    · rw [if_neg c4] at H
      exact absurd H (by simp)
  · rw [if_neg c3] at H
    have c3b0 : ((t224.length : Int) == 2) = false := beq_eq_false_iff_ne.mpr c3
    have c3b1 : ((t224.length : Int) != 2) = true := bne_iff_ne.mpr c3
    simp only [Option.some.injEq, Prod.mk.injEq] at H
    obtain ⟨rfl, rfl, rfl⟩ := H
    go_enter Tryd.func65, Tryd.ntmps65
    go_wp2_with (first | (go_at_call 46; (with_reducible refine (tollref01_Split.calls k a0 47 t224 _ A2.out).mono ?_); rintro e w28 ⟨v225, rfl, ho0, hb⟩; have n0_ := Aside0.mk (Kd.R_lower ho0 (below_size (by repeat (first | (with_reducible first | exact HB.out | apply below_alloc | apply pw_below_drewN | apply below_drew1) | exact HB.out)))); have n1_ := Aside0.mk (below_step (by repeat (first | (with_reducible first | exact HB.out | apply below_alloc | apply pw_below_drewN | apply below_drew1) | exact HB.out)) hb); clear HB; have HO226 := n0_; have HB := n1_; clear n0_ n1_; (try clear hb); (try clear hb2); (try clear hk); (try clear hi); (try clear ho0); obtain ⟨Ao29, co29, eo29⟩ := Kd.R_slice HO226.out; subst eo29))
    repeat (go_quiet (first | (go_at_call 46; (with_reducible refine (tollref01_Split.calls k a0 47 t224 _ A2.out).mono ?_); rintro e w28 ⟨v225, rfl, ho0, hb⟩; have n0_ := Aside0.mk (Kd.R_lower ho0 (below_size (by repeat (first | (with_reducible first | exact HB.out | apply below_alloc | apply pw_below_drewN | apply below_drew1) | exact HB.out)))); have n1_ := Aside0.mk (below_step (by repeat (first | (with_reducible first | exact HB.out | apply below_alloc | apply pw_below_drewN | apply below_drew1) | exact HB.out)) hb); clear HB; have HO226 := n0_; have HB := n1_; clear n0_ n1_; (try clear hb); (try clear hb2); (try clear hk); (try clear hi); (try clear ho0); obtain ⟨Ao29, co29, eo29⟩ := Kd.R_slice HO226.out; subst eo29)); try go_wp2_with (first | (go_at_call 46; (with_reducible refine (tollref01_Split.calls k a0 47 t224 _ A2.out).mono ?_); rintro e w28 ⟨v225, rfl, ho0, hb⟩; have n0_ := Aside0.mk (Kd.R_lower ho0 (below_size (by repeat (first | (with_reducible first | exact HB.out | apply below_alloc | apply pw_below_drewN | apply below_drew1) | exact HB.out)))); have n1_ := Aside0.mk (below_step (by repeat (first | (with_reducible first | exact HB.out | apply below_alloc | apply pw_below_drewN | apply below_drew1) | exact HB.out)) hb); clear HB; have HO226 := n0_; have HB := n1_; clear n0_ n1_; (try clear hb); (try clear hb2); (try clear hk); (try clear hi); (try clear ho0); obtain ⟨Ao29, co29, eo29⟩ := Kd.R_slice HO226.out; subst eo29)))
    go_ret3
    exact ⟨by first | rfl | (simp [errW_none, errW_some] <;> rfl) | (simp [*, errW_none, errW_some] <;> rfl), by repeat (first | (with_reducible first | exact HB.out | apply below_alloc | apply pw_below_drewN | apply below_drew1) | exact HB.out)⟩

/-! ### tolllaw01_DnsKeys: function 17 -/
def tolllaw01_DnsKeys.j0 : Nat → ByteArray → Bool → Option (Bool)
  | 0, _, _ => none
  | k + 1, x2, x51 => if x51 = true then (some false) else ((dns_Cut.f x2).bind fun bt245 => ((tollref01_Cut.f k x2).bind fun bt248 => (if bt245.1.toList = bt248.1.toList then (if bt245.2.1.toList = bt248.2.1.toList then (if ((bt245.2.2 == 0) == bt248.2.2) = true then (if bt248.2.2 = true then ((tolllaw01_awake.f k).bind fun t251 => (some t251)) else (if bt245.2.2 = 2 then ((tolllaw01_awake.f k).bind fun t252 => (some t252)) else (some false))) else (some false)) else (some false)) else (some false))))
def tolllaw01_DnsKeys.f (k : Nat) (a0 : ByteArray) (a1 : ByteArray) (a2 : ByteArray) : Option (Bool) := (tolllaw01_Few.f a0).bind fun t238 => ((tolllaw01_Few.f a1).bind fun t239 => ((tolllaw01_Few.f a2).bind fun t240 => ((dns_Key.f t238 t239).bind fun bt241 => ((tollref01_Key.f k t238 t239).bind fun bt243 => (if bt241.1.toList = bt243.1.toList then (if ((bt241.2 == 0) != bt243.2) = true then (tolllaw01_DnsKeys.j0 k t240 true) else (if bt243.2 = true then (tolllaw01_DnsKeys.j0 k t240 false) else (tolllaw01_DnsKeys.j0 k t240 (bt241.2 != 1)))) else (tolllaw01_DnsKeys.j0 k t240 true))))))
theorem tolllaw01_DnsKeys.mono_l : ∀ k, (∀ y0 y1, LeO (tolllaw01_DnsKeys.j0 k y0 y1) (tolllaw01_DnsKeys.j0 (k + 1) y0 y1))
  | 0 => fun _ _ r h => by simp [tolllaw01_DnsKeys.j0] at h
  | k + 1 => by
    have ih0 := tolllaw01_DnsKeys.mono_l k
    · intro y0 y1
      unfold tolllaw01_DnsKeys.j0
      repeat' first
      | (with_reducible exact ih0 _ _)
      | (with_reducible exact tolllaw01_awake.mono _)
      | (with_reducible exact tollref01_Cut.mono _ _)
      | (with_reducible exact tollref01_Key.mono _ _ _)
      | (with_reducible exact LeO.refl _)
      | (with_reducible exact LeO.none _)
      | (with_reducible refine LeO.ite ?_ ?_)
      | (with_reducible refine LeO.bind ?_ (fun _ => ?_))
      | exact ih0 _ _
      | exact tolllaw01_awake.mono _
      | exact tollref01_Cut.mono _ _
      | exact tollref01_Key.mono _ _ _
      | exact LeO.none _
      | refine LeO.ite ?_ ?_
      | refine LeO.bind ?_ (fun _ => ?_)
theorem tolllaw01_DnsKeys.mono : ∀ a0 a1 a2 k, LeO (tolllaw01_DnsKeys.f k a0 a1 a2) (tolllaw01_DnsKeys.f (k + 1) a0 a1 a2) := by
  intro a0 a1 a2 k
  have ih0 := tolllaw01_DnsKeys.mono_l k
  unfold tolllaw01_DnsKeys.f
  repeat' first
      | (with_reducible exact ih0 _ _)
      | (with_reducible exact tolllaw01_awake.mono _)
      | (with_reducible exact tollref01_Cut.mono _ _)
      | (with_reducible exact tollref01_Key.mono _ _ _)
      | (with_reducible exact LeO.refl _)
      | (with_reducible exact LeO.none _)
      | (with_reducible refine LeO.ite ?_ ?_)
      | (with_reducible refine LeO.bind ?_ (fun _ => ?_))
      | exact ih0 _ _
      | exact tolllaw01_awake.mono _
      | exact tollref01_Cut.mono _ _
      | exact tollref01_Key.mono _ _ _
      | exact LeO.none _
      | refine LeO.ite ?_ ?_
      | refine LeO.bind ?_ (fun _ => ?_)
set_option maxHeartbeats 8000000 in
set_option maxRecDepth 100000 in
theorem tolllaw01_DnsKeys.calls (k : Nat) (a0 : ByteArray) (a1 : ByteArray) (a2 : ByteArray) (r : Bool) (w : World) (h : tolllaw01_DnsKeys.f k a0 a1 a2 = some r) :
    Calls Tryd.prog 17 #[.string a0, .string a1, .string a2] w fun e w' => e = .returned (.bool r) ∧ Below w.heap.size w w' := by
  have HB := Aside0.mk (Below.refl w.heap.size w)
  have H : ((tolllaw01_Few.f a0).bind fun t238 => ((tolllaw01_Few.f a1).bind fun t239 => ((tolllaw01_Few.f a2).bind fun t240 => ((dns_Key.f t238 t239).bind fun bt241 => ((tollref01_Key.f k t238 t239).bind fun bt243 => (if bt241.1.toList = bt243.1.toList then (if ((bt241.2 == 0) != bt243.2) = true then (tolllaw01_DnsKeys.j0 k t240 true) else (if bt243.2 = true then (tolllaw01_DnsKeys.j0 k t240 false) else (tolllaw01_DnsKeys.j0 k t240 (bt241.2 != 1)))) else (tolllaw01_DnsKeys.j0 k t240 true))))))) = some r := h
  clear h
  replace H := Option.bind_eq_some_iff.mp H
  obtain ⟨t238, A40, H⟩ := H
  replace H : ((tolllaw01_Few.f a1).bind fun t239 => ((tolllaw01_Few.f a2).bind fun t240 => ((dns_Key.f t238 t239).bind fun bt241 => ((tollref01_Key.f k t238 t239).bind fun bt243 => (if bt241.1.toList = bt243.1.toList then (if ((bt241.2 == 0) != bt243.2) = true then (tolllaw01_DnsKeys.j0 k t240 true) else (if bt243.2 = true then (tolllaw01_DnsKeys.j0 k t240 false) else (tolllaw01_DnsKeys.j0 k t240 (bt241.2 != 1)))) else (tolllaw01_DnsKeys.j0 k t240 true)))))) = some r := H
  have A4 := Aside0.mk A40
  clear A40
  replace H := Option.bind_eq_some_iff.mp H
  obtain ⟨t239, A50, H⟩ := H
  replace H : ((tolllaw01_Few.f a2).bind fun t240 => ((dns_Key.f t238 t239).bind fun bt241 => ((tollref01_Key.f k t238 t239).bind fun bt243 => (if bt241.1.toList = bt243.1.toList then (if ((bt241.2 == 0) != bt243.2) = true then (tolllaw01_DnsKeys.j0 k t240 true) else (if bt243.2 = true then (tolllaw01_DnsKeys.j0 k t240 false) else (tolllaw01_DnsKeys.j0 k t240 (bt241.2 != 1)))) else (tolllaw01_DnsKeys.j0 k t240 true))))) = some r := H
  have A5 := Aside0.mk A50
  clear A50
  replace H := Option.bind_eq_some_iff.mp H
  obtain ⟨t240, A60, H⟩ := H
  replace H : ((dns_Key.f t238 t239).bind fun bt241 => ((tollref01_Key.f k t238 t239).bind fun bt243 => (if bt241.1.toList = bt243.1.toList then (if ((bt241.2 == 0) != bt243.2) = true then (tolllaw01_DnsKeys.j0 k t240 true) else (if bt243.2 = true then (tolllaw01_DnsKeys.j0 k t240 false) else (tolllaw01_DnsKeys.j0 k t240 (bt241.2 != 1)))) else (tolllaw01_DnsKeys.j0 k t240 true)))) = some r := H
  have A6 := Aside0.mk A60
  clear A60
  replace H := Option.bind_eq_some_iff.mp H
  obtain ⟨⟨t241, t242⟩, A70, H⟩ := H
  replace H : ((tollref01_Key.f k t238 t239).bind fun bt243 => (if t241.toList = bt243.1.toList then (if ((t242 == 0) != bt243.2) = true then (tolllaw01_DnsKeys.j0 k t240 true) else (if bt243.2 = true then (tolllaw01_DnsKeys.j0 k t240 false) else (tolllaw01_DnsKeys.j0 k t240 (t242 != 1)))) else (tolllaw01_DnsKeys.j0 k t240 true))) = some r := H
  have A7 := Aside0.mk A70
  clear A70
  replace H := Option.bind_eq_some_iff.mp H
  obtain ⟨⟨t243, t244⟩, A80, H⟩ := H
  replace H : (if t241.toList = t243.toList then (if ((t242 == 0) != t244) = true then (tolllaw01_DnsKeys.j0 k t240 true) else (if t244 = true then (tolllaw01_DnsKeys.j0 k t240 false) else (tolllaw01_DnsKeys.j0 k t240 (t242 != 1)))) else (tolllaw01_DnsKeys.j0 k t240 true)) = some r := H
  have A8 := Aside0.mk A80
  clear A80
  have HC9 := Aside0.mk H
  clear H
  go_enter Tryd.func17, Tryd.ntmps17
  go_upto_region 4 with (first | ((with_reducible refine gate_callee (f := 30) rfl ?_); refine goesL_ (some 18) rfl rfl Tryd.func30 (by kernel_rfl) rfl #[.string a0] rfl (by (try simp only [List.map_toArray, List.map_cons, List.map_nil]); first | done | rfl | (simp only [List.length_drop, List.length_take]; rfl)) ?_; (with_reducible refine (tolllaw01_Few.calls a0 t238 _ A4.out).mono ?_); rintro e w' ⟨rfl, ⟨nd, rfl⟩⟩; refine ⟨_, rfl, ?_⟩) | ((with_reducible refine gate_callee (f := 30) rfl ?_); refine goesL_ (some 20) rfl rfl Tryd.func30 (by kernel_rfl) rfl #[.string a1] rfl (by (try simp only [List.map_toArray, List.map_cons, List.map_nil]); first | done | rfl | (simp only [List.length_drop, List.length_take]; rfl)) ?_; (with_reducible refine (tolllaw01_Few.calls a1 t239 _ A5.out).mono ?_); rintro e w' ⟨rfl, ⟨nd, rfl⟩⟩; refine ⟨_, rfl, ?_⟩) | ((with_reducible refine gate_callee (f := 30) rfl ?_); refine goesL_ (some 22) rfl rfl Tryd.func30 (by kernel_rfl) rfl #[.string a2] rfl (by (try simp only [List.map_toArray, List.map_cons, List.map_nil]); first | done | rfl | (simp only [List.length_drop, List.length_take]; rfl)) ?_; (with_reducible refine (tolllaw01_Few.calls a2 t240 _ A6.out).mono ?_); rintro e w' ⟨rfl, ⟨nd, rfl⟩⟩; refine ⟨_, rfl, ?_⟩) | ((with_reducible refine gate_callee (f := 62) rfl ?_); refine goesL_ (some 26) rfl rfl Tryd.func62 (by kernel_rfl) rfl #[.string t238, .string t239] rfl (by (try simp only [List.map_toArray, List.map_cons, List.map_nil]); first | done | rfl | (simp only [List.length_drop, List.length_take]; rfl)) ?_; (with_reducible refine (dns_Key.calls t238 t239 t241 t242 _ A7.out).mono ?_); rintro e w10 ⟨rfl, hb⟩; refine ⟨_, rfl, ?_⟩; have n0_ := Aside0.mk (below_step (by repeat (first | (with_reducible first | exact HB.out | apply below_alloc | apply pw_below_drewN | apply below_drew1) | exact HB.out)) hb); clear HB; have HB := n0_; clear n0_; (try clear hb); (try clear hb2); (try clear hk); (try clear hi)) | ((with_reducible refine gate_callee (f := 63) rfl ?_); refine goesL_ (some 32) rfl rfl Tryd.func63 (by kernel_rfl) rfl #[.string t238, .string t239] rfl (by (try simp only [List.map_toArray, List.map_cons, List.map_nil]); first | done | rfl | (simp only [List.length_drop, List.length_take]; rfl)) ?_; (with_reducible refine (tollref01_Key.calls k t238 t239 t243 t244 _ A8.out).mono ?_); rintro e w11 ⟨rfl, hb⟩; refine ⟨_, rfl, ?_⟩; have n0_ := Aside0.mk (below_step (by repeat (first | (with_reducible first | exact HB.out | apply below_alloc | apply pw_below_drewN | apply below_drew1) | exact HB.out)) hb); clear HB; have HB := n0_; clear n0_; (try clear hb); (try clear hb2); (try clear hk); (try clear hi)))
  (try simp only [Act.put, List.setIfInBounds_toArray, List.set_cons_zero, List.set_cons_succ])
  go_cut [51] (fun v51 wc => ∃ (kq : Nat) (x51_8 : Bool), v51 = .bool x51_8 ∧ Aside0 (tolllaw01_DnsKeys.j0 kq t240 x51_8 = some r) ∧ Aside0 (kq ≤ k) ∧ Aside0 (Below w.heap.size w wc))
  case first =>
    have H := HC9.out
    clear HC9
    by_cases c12 : t241.toList = t243.toList
    · rw [if_pos c12] at H
      have c12b0 : (t241.toList == t243.toList) = true := beq_iff_eq.mpr c12
      have c12b1 : (t241.toList != t243.toList) = false := bne_eq_false_iff_eq.mpr c12
      clear c12
      (first | rw [c12b0] | (simp only [i64_w, i32_w]; rw [c12b0]) | skip)
      by_cases c13 : ((t242 == 0) != t244) = true
      · rw [if_pos c13] at H
        have c13b0 : ((t242 == 0) != t244) = true := c13
        (try (have c13b1 : decide ((t242 == 0) = t244) = false := by simpa using c13))
        (try (have c13b2 : ((t242 == 0) == t244) = false := by simpa using c13))
        (try (have c13b3 : ¬ ((t242 == 0) = t244) := by simpa using c13))
        clear c13
        have H' := Aside0.mk H
        clear H
        go_wp2
        go_meet
        case rel => exact ⟨_, (true), (by first | rfl | (simp; done) | (simp [*]; done)), H', ⟨by first | omega | exact Nat.le_refl _⟩, ⟨by repeat (first | (with_reducible first | exact HB.out | apply below_alloc | apply pw_below_drewN | apply below_drew1) | exact HB.out)⟩⟩
      · rw [if_neg c13] at H
        have c13b0 : ((t242 == 0) != t244) = false := by simpa using c13
        (try (have c13b1 : decide ((t242 == 0) = t244) = true := by simpa using c13))
        (try (have c13b2 : ((t242 == 0) == t244) = true := by simpa using c13))
        clear c13
        by_cases c14 : t244 = true
        · subst c14
          have H1 : (tolllaw01_DnsKeys.j0 k t240 false) = some r := by rw [if_pos rfl] at H; exact H
          clear H
          have H := H1
          clear H1
          have H' := Aside0.mk H
          clear H
          go_wp2
          go_meet
          case rel => exact ⟨_, (false), (by first | rfl | (simp; done) | (simp [*]; done)), H', ⟨by first | omega | exact Nat.le_refl _⟩, ⟨by repeat (first | (with_reducible first | exact HB.out | apply below_alloc | apply pw_below_drewN | apply below_drew1) | exact HB.out)⟩⟩
        · replace c14 := Bool.eq_false_iff.mpr c14
          subst c14
          have H1 : (tolllaw01_DnsKeys.j0 k t240 (t242 != 1)) = some r := by rw [if_neg (show ¬ (false = true) by decide)] at H; exact H
          clear H
          have H := H1
          clear H1
          have H' := Aside0.mk H
          clear H
          go_wp2
          go_meet
          case rel => exact ⟨_, ((t242 != 1)), (by first | rfl | (simp; done) | (simp [*]; done)), H', ⟨by first | omega | exact Nat.le_refl _⟩, ⟨by repeat (first | (with_reducible first | exact HB.out | apply below_alloc | apply pw_below_drewN | apply below_drew1) | exact HB.out)⟩⟩
    · rw [if_neg c12] at H
      have c12b0 : (t241.toList == t243.toList) = false := beq_eq_false_iff_ne.mpr c12
      have c12b1 : (t241.toList != t243.toList) = true := bne_iff_ne.mpr c12
      (first | rw [c12b0] | (simp only [i64_w, i32_w]; rw [c12b0]) | skip)
      have H' := Aside0.mk H
      clear H
      go_wp2
      go_meet
      case rel => exact ⟨_, (true), (by first | rfl | (simp; done) | (simp [*]; done)), H', ⟨by first | omega | exact Nat.le_refl _⟩, ⟨by repeat (first | (with_reducible first | exact HB.out | apply below_alloc | apply pw_below_drewN | apply below_drew1) | exact HB.out)⟩⟩
  case rest =>
    clear HC9
    try clear c1
    try clear p2
    try clear c3
    try clear c6
    try clear c12
    try clear c12b0
    try clear c12b1
    try clear c13
    try clear c13b0
    try clear c13b1
    try clear c13b2
    try clear c14
    obtain ⟨kq, x51_8, rfl, HA, HJ8, HB⟩ := hcut
    cases kq with
    | zero => exact absurd HA.out (by simp [tolllaw01_DnsKeys.j0])
    | succ kj8 =>
      have H := HA.out
      clear HA
      simp only [tolllaw01_DnsKeys.j0] at H
      by_cases c15 : x51_8 = true
      · subst c15
        have H1 : (some false) = some r := by rw [if_pos rfl] at H; exact H
        clear H
        have H := H1
        clear H1
        obtain rfl := Option.some.inj H
        go_wp2
        go_ret
        exact ⟨by first | rfl | (simp [errW_none, errW_some] <;> rfl) | (simp [*, errW_none, errW_some] <;> rfl), by repeat (first | (with_reducible first | exact HB.out | apply below_alloc | apply pw_below_drewN | apply below_drew1) | exact HB.out)⟩
      · replace c15 := Bool.eq_false_iff.mpr c15
        subst c15
        have H1 : ((dns_Cut.f t240).bind fun bt245 => ((tollref01_Cut.f kj8 t240).bind fun bt248 => (if bt245.1.toList = bt248.1.toList then (if bt245.2.1.toList = bt248.2.1.toList then (if ((bt245.2.2 == 0) == bt248.2.2) = true then (if bt248.2.2 = true then ((tolllaw01_awake.f kj8).bind fun t251 => (some t251)) else (if bt245.2.2 = 2 then ((tolllaw01_awake.f kj8).bind fun t252 => (some t252)) else (some false))) else (some false)) else (some false)) else (some false)))) = some r := by rw [if_neg (show ¬ (false = true) by decide)] at H; exact H
        clear H
        have H := H1
        clear H1
        replace H := Option.bind_eq_some_iff.mp H
        obtain ⟨⟨t245, t246, t247⟩, A160, H⟩ := H
        replace H : ((tollref01_Cut.f kj8 t240).bind fun bt248 => (if t245.toList = bt248.1.toList then (if t246.toList = bt248.2.1.toList then (if ((t247 == 0) == bt248.2.2) = true then (if bt248.2.2 = true then ((tolllaw01_awake.f kj8).bind fun t251 => (some t251)) else (if t247 = 2 then ((tolllaw01_awake.f kj8).bind fun t252 => (some t252)) else (some false))) else (some false)) else (some false)) else (some false))) = some r := H
        have A16 := Aside0.mk A160
        clear A160
        replace H := Option.bind_eq_some_iff.mp H
        obtain ⟨⟨t248, t249, t250⟩, A170, H⟩ := H
        replace H : (if t245.toList = t248.toList then (if t246.toList = t249.toList then (if ((t247 == 0) == t250) = true then (if t250 = true then ((tolllaw01_awake.f kj8).bind fun t251 => (some t251)) else (if t247 = 2 then ((tolllaw01_awake.f kj8).bind fun t252 => (some t252)) else (some false))) else (some false)) else (some false)) else (some false)) = some r := H
        have A17 := Aside0.mk A170
        clear A170
        by_cases c18 : t245.toList = t248.toList
        · rw [if_pos c18] at H
          have c18b0 : (t245.toList == t248.toList) = true := beq_iff_eq.mpr c18
          have c18b1 : (t245.toList != t248.toList) = false := bne_eq_false_iff_eq.mpr c18
          clear c18
          by_cases c19 : t246.toList = t249.toList
          · rw [if_pos c19] at H
            have c19b0 : (t246.toList == t249.toList) = true := beq_iff_eq.mpr c19
            have c19b1 : (t246.toList != t249.toList) = false := bne_eq_false_iff_eq.mpr c19
            clear c19
            by_cases c20 : ((t247 == 0) == t250) = true
            · rw [if_pos c20] at H
              have c20b0 : ((t247 == 0) == t250) = true := c20
              (try (have c20b1 : decide ((t247 == 0) = t250) = true := by simpa using c20))
              (try (have c20b2 : ((t247 == 0) == t250) = true := by simpa using c20))
              clear c20
              by_cases c21 : t250 = true
              · subst c21
                have H1 : ((tolllaw01_awake.f kj8).bind fun t251 => (some t251)) = some r := by rw [if_pos rfl] at H; exact H
                clear H
                have H := H1
                clear H1
                replace H := Option.bind_eq_some_iff.mp H
                obtain ⟨t251, A220, H⟩ := H
                replace H : (some t251) = some r := H
                have A22 := Aside0.mk A220
                clear A220
                obtain rfl := Option.some.inj H
                go_wp2_with (first | ((with_reducible refine gate_callee (f := 64) rfl ?_); refine goesL_ (some 54) rfl rfl Tryd.func64 (by kernel_rfl) rfl #[.string t240] rfl (by (try simp only [List.map_toArray, List.map_cons, List.map_nil]); first | done | rfl | (simp only [List.length_drop, List.length_take]; rfl)) ?_; (with_reducible refine (dns_Cut.calls t240 t245 t246 t247 _ A16.out).mono ?_); rintro e w23 ⟨rfl, hb⟩; refine ⟨_, rfl, ?_⟩; have n0_ := Aside0.mk (below_step (by repeat (first | (with_reducible first | exact HB.out | apply below_alloc | apply pw_below_drewN | apply below_drew1) | exact HB.out)) hb); clear HB; have HB := n0_; clear n0_; (try clear hb); (try clear hb2); (try clear hk); (try clear hi)) | ((with_reducible refine gate_callee (f := 65) rfl ?_); refine goesL_ (some 60) rfl rfl Tryd.func65 (by kernel_rfl) rfl #[.string t240] rfl (by (try simp only [List.map_toArray, List.map_cons, List.map_nil]); first | done | rfl | (simp only [List.length_drop, List.length_take]; rfl)) ?_; (with_reducible refine (tollref01_Cut.calls kj8 t240 t248 t249 true _ A17.out).mono ?_); rintro e w24 ⟨rfl, hb⟩; refine ⟨_, rfl, ?_⟩; have n0_ := Aside0.mk (below_step (by repeat (first | (with_reducible first | exact HB.out | apply below_alloc | apply pw_below_drewN | apply below_drew1) | exact HB.out)) hb); clear HB; have HB := n0_; clear n0_; (try clear hb); (try clear hb2); (try clear hk); (try clear hi)) | (go_at_call 33; (with_reducible refine (tolllaw01_awake.calls kj8  t251 _ A22.out).mono ?_); rintro e w25 ⟨rfl, hb⟩; have n0_ := Aside0.mk (below_step (by repeat (first | (with_reducible first | exact HB.out | apply below_alloc | apply pw_below_drewN | apply below_drew1) | exact HB.out)) hb); clear HB; have HB := n0_; clear n0_; (try clear hb); (try clear hb2); (try clear hk); (try clear hi)))
                go_ret
                exact ⟨by first | rfl | (simp [errW_none, errW_some] <;> rfl) | (simp [*, errW_none, errW_some] <;> rfl), by repeat (first | (with_reducible first | exact HB.out | apply below_alloc | apply pw_below_drewN | apply below_drew1) | exact HB.out)⟩
              · replace c21 := Bool.eq_false_iff.mpr c21
                subst c21
                have H1 : (if t247 = 2 then ((tolllaw01_awake.f kj8).bind fun t252 => (some t252)) else (some false)) = some r := by rw [if_neg (show ¬ (false = true) by decide)] at H; exact H
                clear H
                have H := H1
                clear H1
                by_cases c26 : t247 = 2
                · rw [if_pos c26] at H
                  have c26b0 : (t247 == 2) = true := beq_iff_eq.mpr c26
                  have c26b1 : (t247 != 2) = false := bne_eq_false_iff_eq.mpr c26
                  clear c26
                  replace H := Option.bind_eq_some_iff.mp H
                  obtain ⟨t252, A270, H⟩ := H
                  replace H : (some t252) = some r := H
                  have A27 := Aside0.mk A270
                  clear A270
                  obtain rfl := Option.some.inj H
                  go_wp2_with (first | ((with_reducible refine gate_callee (f := 64) rfl ?_); refine goesL_ (some 54) rfl rfl Tryd.func64 (by kernel_rfl) rfl #[.string t240] rfl (by (try simp only [List.map_toArray, List.map_cons, List.map_nil]); first | done | rfl | (simp only [List.length_drop, List.length_take]; rfl)) ?_; (with_reducible refine (dns_Cut.calls t240 t245 t246 t247 _ A16.out).mono ?_); rintro e w28 ⟨rfl, hb⟩; refine ⟨_, rfl, ?_⟩; have n0_ := Aside0.mk (below_step (by repeat (first | (with_reducible first | exact HB.out | apply below_alloc | apply pw_below_drewN | apply below_drew1) | exact HB.out)) hb); clear HB; have HB := n0_; clear n0_; (try clear hb); (try clear hb2); (try clear hk); (try clear hi)) | ((with_reducible refine gate_callee (f := 65) rfl ?_); refine goesL_ (some 60) rfl rfl Tryd.func65 (by kernel_rfl) rfl #[.string t240] rfl (by (try simp only [List.map_toArray, List.map_cons, List.map_nil]); first | done | rfl | (simp only [List.length_drop, List.length_take]; rfl)) ?_; (with_reducible refine (tollref01_Cut.calls kj8 t240 t248 t249 false _ A17.out).mono ?_); rintro e w29 ⟨rfl, hb⟩; refine ⟨_, rfl, ?_⟩; have n0_ := Aside0.mk (below_step (by repeat (first | (with_reducible first | exact HB.out | apply below_alloc | apply pw_below_drewN | apply below_drew1) | exact HB.out)) hb); clear HB; have HB := n0_; clear n0_; (try clear hb); (try clear hb2); (try clear hk); (try clear hi)) | (go_at_call 33; (with_reducible refine (tolllaw01_awake.calls kj8  t252 _ A27.out).mono ?_); rintro e w30 ⟨rfl, hb⟩; have n0_ := Aside0.mk (below_step (by repeat (first | (with_reducible first | exact HB.out | apply below_alloc | apply pw_below_drewN | apply below_drew1) | exact HB.out)) hb); clear HB; have HB := n0_; clear n0_; (try clear hb); (try clear hb2); (try clear hk); (try clear hi)))
                  go_ret
                  exact ⟨by first | rfl | (simp [errW_none, errW_some] <;> rfl) | (simp [*, errW_none, errW_some] <;> rfl), by repeat (first | (with_reducible first | exact HB.out | apply below_alloc | apply pw_below_drewN | apply below_drew1) | exact HB.out)⟩
                · rw [if_neg c26] at H
                  have c26b0 : (t247 == 2) = false := beq_eq_false_iff_ne.mpr c26
                  have c26b1 : (t247 != 2) = true := bne_iff_ne.mpr c26
                  obtain rfl := Option.some.inj H
                  go_wp2_with (first | ((with_reducible refine gate_callee (f := 64) rfl ?_); refine goesL_ (some 54) rfl rfl Tryd.func64 (by kernel_rfl) rfl #[.string t240] rfl (by (try simp only [List.map_toArray, List.map_cons, List.map_nil]); first | done | rfl | (simp only [List.length_drop, List.length_take]; rfl)) ?_; (with_reducible refine (dns_Cut.calls t240 t245 t246 t247 _ A16.out).mono ?_); rintro e w31 ⟨rfl, hb⟩; refine ⟨_, rfl, ?_⟩; have n0_ := Aside0.mk (below_step (by repeat (first | (with_reducible first | exact HB.out | apply below_alloc | apply pw_below_drewN | apply below_drew1) | exact HB.out)) hb); clear HB; have HB := n0_; clear n0_; (try clear hb); (try clear hb2); (try clear hk); (try clear hi)) | ((with_reducible refine gate_callee (f := 65) rfl ?_); refine goesL_ (some 60) rfl rfl Tryd.func65 (by kernel_rfl) rfl #[.string t240] rfl (by (try simp only [List.map_toArray, List.map_cons, List.map_nil]); first | done | rfl | (simp only [List.length_drop, List.length_take]; rfl)) ?_; (with_reducible refine (tollref01_Cut.calls kj8 t240 t248 t249 false _ A17.out).mono ?_); rintro e w32 ⟨rfl, hb⟩; refine ⟨_, rfl, ?_⟩; have n0_ := Aside0.mk (below_step (by repeat (first | (with_reducible first | exact HB.out | apply below_alloc | apply pw_below_drewN | apply below_drew1) | exact HB.out)) hb); clear HB; have HB := n0_; clear n0_; (try clear hb); (try clear hb2); (try clear hk); (try clear hi)))
                  go_ret
                  exact ⟨by first | rfl | (simp [errW_none, errW_some] <;> rfl) | (simp [*, errW_none, errW_some] <;> rfl), by repeat (first | (with_reducible first | exact HB.out | apply below_alloc | apply pw_below_drewN | apply below_drew1) | exact HB.out)⟩
            · rw [if_neg c20] at H
              have c20b0 : ((t247 == 0) == t250) = false := by simpa using c20
              (try (have c20b1 : decide ((t247 == 0) = t250) = false := by simpa using c20))
              (try (have c20b2 : ((t247 == 0) == t250) = false := by simpa using c20))
              (try (have c20b3 : ¬ ((t247 == 0) = t250) := by simpa using c20))
              clear c20
              obtain rfl := Option.some.inj H
              go_wp2_with (first | ((with_reducible refine gate_callee (f := 64) rfl ?_); refine goesL_ (some 54) rfl rfl Tryd.func64 (by kernel_rfl) rfl #[.string t240] rfl (by (try simp only [List.map_toArray, List.map_cons, List.map_nil]); first | done | rfl | (simp only [List.length_drop, List.length_take]; rfl)) ?_; (with_reducible refine (dns_Cut.calls t240 t245 t246 t247 _ A16.out).mono ?_); rintro e w33 ⟨rfl, hb⟩; refine ⟨_, rfl, ?_⟩; have n0_ := Aside0.mk (below_step (by repeat (first | (with_reducible first | exact HB.out | apply below_alloc | apply pw_below_drewN | apply below_drew1) | exact HB.out)) hb); clear HB; have HB := n0_; clear n0_; (try clear hb); (try clear hb2); (try clear hk); (try clear hi)) | ((with_reducible refine gate_callee (f := 65) rfl ?_); refine goesL_ (some 60) rfl rfl Tryd.func65 (by kernel_rfl) rfl #[.string t240] rfl (by (try simp only [List.map_toArray, List.map_cons, List.map_nil]); first | done | rfl | (simp only [List.length_drop, List.length_take]; rfl)) ?_; (with_reducible refine (tollref01_Cut.calls kj8 t240 t248 t249 t250 _ A17.out).mono ?_); rintro e w34 ⟨rfl, hb⟩; refine ⟨_, rfl, ?_⟩; have n0_ := Aside0.mk (below_step (by repeat (first | (with_reducible first | exact HB.out | apply below_alloc | apply pw_below_drewN | apply below_drew1) | exact HB.out)) hb); clear HB; have HB := n0_; clear n0_; (try clear hb); (try clear hb2); (try clear hk); (try clear hi)))
              go_ret
              exact ⟨by first | rfl | (simp [errW_none, errW_some] <;> rfl) | (simp [*, errW_none, errW_some] <;> rfl), by repeat (first | (with_reducible first | exact HB.out | apply below_alloc | apply pw_below_drewN | apply below_drew1) | exact HB.out)⟩
          · rw [if_neg c19] at H
            have c19b0 : (t246.toList == t249.toList) = false := beq_eq_false_iff_ne.mpr c19
            have c19b1 : (t246.toList != t249.toList) = true := bne_iff_ne.mpr c19
            obtain rfl := Option.some.inj H
            go_wp2_with (first | ((with_reducible refine gate_callee (f := 64) rfl ?_); refine goesL_ (some 54) rfl rfl Tryd.func64 (by kernel_rfl) rfl #[.string t240] rfl (by (try simp only [List.map_toArray, List.map_cons, List.map_nil]); first | done | rfl | (simp only [List.length_drop, List.length_take]; rfl)) ?_; (with_reducible refine (dns_Cut.calls t240 t245 t246 t247 _ A16.out).mono ?_); rintro e w35 ⟨rfl, hb⟩; refine ⟨_, rfl, ?_⟩; have n0_ := Aside0.mk (below_step (by repeat (first | (with_reducible first | exact HB.out | apply below_alloc | apply pw_below_drewN | apply below_drew1) | exact HB.out)) hb); clear HB; have HB := n0_; clear n0_; (try clear hb); (try clear hb2); (try clear hk); (try clear hi)) | ((with_reducible refine gate_callee (f := 65) rfl ?_); refine goesL_ (some 60) rfl rfl Tryd.func65 (by kernel_rfl) rfl #[.string t240] rfl (by (try simp only [List.map_toArray, List.map_cons, List.map_nil]); first | done | rfl | (simp only [List.length_drop, List.length_take]; rfl)) ?_; (with_reducible refine (tollref01_Cut.calls kj8 t240 t248 t249 t250 _ A17.out).mono ?_); rintro e w36 ⟨rfl, hb⟩; refine ⟨_, rfl, ?_⟩; have n0_ := Aside0.mk (below_step (by repeat (first | (with_reducible first | exact HB.out | apply below_alloc | apply pw_below_drewN | apply below_drew1) | exact HB.out)) hb); clear HB; have HB := n0_; clear n0_; (try clear hb); (try clear hb2); (try clear hk); (try clear hi)))
            go_ret
            exact ⟨by first | rfl | (simp [errW_none, errW_some] <;> rfl) | (simp [*, errW_none, errW_some] <;> rfl), by repeat (first | (with_reducible first | exact HB.out | apply below_alloc | apply pw_below_drewN | apply below_drew1) | exact HB.out)⟩
        · rw [if_neg c18] at H
          have c18b0 : (t245.toList == t248.toList) = false := beq_eq_false_iff_ne.mpr c18
          have c18b1 : (t245.toList != t248.toList) = true := bne_iff_ne.mpr c18
          obtain rfl := Option.some.inj H
          go_wp2_with (first | ((with_reducible refine gate_callee (f := 64) rfl ?_); refine goesL_ (some 54) rfl rfl Tryd.func64 (by kernel_rfl) rfl #[.string t240] rfl (by (try simp only [List.map_toArray, List.map_cons, List.map_nil]); first | done | rfl | (simp only [List.length_drop, List.length_take]; rfl)) ?_; (with_reducible refine (dns_Cut.calls t240 t245 t246 t247 _ A16.out).mono ?_); rintro e w37 ⟨rfl, hb⟩; refine ⟨_, rfl, ?_⟩; have n0_ := Aside0.mk (below_step (by repeat (first | (with_reducible first | exact HB.out | apply below_alloc | apply pw_below_drewN | apply below_drew1) | exact HB.out)) hb); clear HB; have HB := n0_; clear n0_; (try clear hb); (try clear hb2); (try clear hk); (try clear hi)) | ((with_reducible refine gate_callee (f := 65) rfl ?_); refine goesL_ (some 60) rfl rfl Tryd.func65 (by kernel_rfl) rfl #[.string t240] rfl (by (try simp only [List.map_toArray, List.map_cons, List.map_nil]); first | done | rfl | (simp only [List.length_drop, List.length_take]; rfl)) ?_; (with_reducible refine (tollref01_Cut.calls kj8 t240 t248 t249 t250 _ A17.out).mono ?_); rintro e w38 ⟨rfl, hb⟩; refine ⟨_, rfl, ?_⟩; have n0_ := Aside0.mk (below_step (by repeat (first | (with_reducible first | exact HB.out | apply below_alloc | apply pw_below_drewN | apply below_drew1) | exact HB.out)) hb); clear HB; have HB := n0_; clear n0_; (try clear hb); (try clear hb2); (try clear hk); (try clear hi)))
          go_ret
          exact ⟨by first | rfl | (simp [errW_none, errW_some] <;> rfl) | (simp [*, errW_none, errW_some] <;> rfl), by repeat (first | (with_reducible first | exact HB.out | apply below_alloc | apply pw_below_drewN | apply below_drew1) | exact HB.out)⟩

/-- THE ONE PURE STATEMENT of tolllaw01_DnsKeys: yours. -/
def tolllaw01_DnsKeys.Pure : Prop := ∀ (a0 : ByteArray) (a1 : ByteArray) (a2 : ByteArray), a0.size ≤ 140737488351232 → a1.size ≤ 140737488351232 → a2.size ≤ 140737488351232 → ∃ k, tolllaw01_DnsKeys.f k a0 a1 a2 = some true
theorem tolllaw01_DnsKeys.walk (P : tolllaw01_DnsKeys.Pure) (a0 : ByteArray) (a1 : ByteArray) (a2 : ByteArray) (w : World) (w0 : a0.size ≤ 140737488351232) (w1 : a1.size ≤ 140737488351232) (w2 : a2.size ≤ 140737488351232) :
    Calls Tryd.prog 17 #[.string a0, .string a1, .string a2] w fun e w' => e = .returned (.bool true) ∧ Below w.heap.size w w' := by
  obtain ⟨k, h⟩ := P a0 a1 a2 w0 w1 w2
  refine (tolllaw01_DnsKeys.calls k a0 a1 a2 true w h).mono ?_
  rintro e w' ⟨rfl, hd⟩
  exact ⟨rfl, hd⟩

/-! ### tolllaw01_DnsBacks: function 18 -/
def tolllaw01_DnsBacks.f (k : Nat) (a0 : ByteArray) (a1 : ByteArray) : Option (Bool) := (tolllaw01_Few.f a0).bind fun t253 => ((tolllaw01_Few.f a1).bind fun t254 => ((dns_Key.f t253 t254).bind fun bt255 => (if bt255.2 = 0 then ((dns_Cut.f bt255.1).bind fun bt257 => (if bt257.1.toList = t253.toList then (if bt257.2.1.toList = t254.toList then (if bt257.2.2 = 0 then (if (bt255.1.size : Int) = (wrap64 ((wrap64 ((t253.size : Int) + 1)) + (t254.size : Int))) then ((tolllaw01_awake.f k).bind fun t260 => (some t260)) else (some false)) else (some false)) else (some false)) else (some false))) else (if bt255.1.toList = ([] : List UInt8) then ((tolllaw01_awake.f k).bind fun t261 => (some t261)) else (some false)))))
theorem tolllaw01_DnsBacks.mono : ∀ a0 a1 k, LeO (tolllaw01_DnsBacks.f k a0 a1) (tolllaw01_DnsBacks.f (k + 1) a0 a1) := by
  intro a0 a1 k
  unfold tolllaw01_DnsBacks.f
  repeat' first
      | (with_reducible exact tolllaw01_awake.mono _)
      | (with_reducible exact LeO.refl _)
      | (with_reducible exact LeO.none _)
      | (with_reducible refine LeO.ite ?_ ?_)
      | (with_reducible refine LeO.bind ?_ (fun _ => ?_))
      | exact tolllaw01_awake.mono _
      | exact LeO.none _
      | refine LeO.ite ?_ ?_
      | refine LeO.bind ?_ (fun _ => ?_)
set_option maxHeartbeats 8000000 in
set_option maxRecDepth 100000 in
theorem tolllaw01_DnsBacks.calls (k : Nat) (a0 : ByteArray) (a1 : ByteArray) (r : Bool) (w : World) (h : tolllaw01_DnsBacks.f k a0 a1 = some r) :
    Calls Tryd.prog 18 #[.string a0, .string a1] w fun e w' => e = .returned (.bool r) ∧ Below w.heap.size w w' := by
  have HB := Aside0.mk (Below.refl w.heap.size w)
  have H : ((tolllaw01_Few.f a0).bind fun t253 => ((tolllaw01_Few.f a1).bind fun t254 => ((dns_Key.f t253 t254).bind fun bt255 => (if bt255.2 = 0 then ((dns_Cut.f bt255.1).bind fun bt257 => (if bt257.1.toList = t253.toList then (if bt257.2.1.toList = t254.toList then (if bt257.2.2 = 0 then (if (bt255.1.size : Int) = (wrap64 ((wrap64 ((t253.size : Int) + 1)) + (t254.size : Int))) then ((tolllaw01_awake.f k).bind fun t260 => (some t260)) else (some false)) else (some false)) else (some false)) else (some false))) else (if bt255.1.toList = ([] : List UInt8) then ((tolllaw01_awake.f k).bind fun t261 => (some t261)) else (some false)))))) = some r := h
  clear h
  replace H := Option.bind_eq_some_iff.mp H
  obtain ⟨t253, A30, H⟩ := H
  replace H : ((tolllaw01_Few.f a1).bind fun t254 => ((dns_Key.f t253 t254).bind fun bt255 => (if bt255.2 = 0 then ((dns_Cut.f bt255.1).bind fun bt257 => (if bt257.1.toList = t253.toList then (if bt257.2.1.toList = t254.toList then (if bt257.2.2 = 0 then (if (bt255.1.size : Int) = (wrap64 ((wrap64 ((t253.size : Int) + 1)) + (t254.size : Int))) then ((tolllaw01_awake.f k).bind fun t260 => (some t260)) else (some false)) else (some false)) else (some false)) else (some false))) else (if bt255.1.toList = ([] : List UInt8) then ((tolllaw01_awake.f k).bind fun t261 => (some t261)) else (some false))))) = some r := H
  have A3 := Aside0.mk A30
  clear A30
  replace H := Option.bind_eq_some_iff.mp H
  obtain ⟨t254, A40, H⟩ := H
  replace H : ((dns_Key.f t253 t254).bind fun bt255 => (if bt255.2 = 0 then ((dns_Cut.f bt255.1).bind fun bt257 => (if bt257.1.toList = t253.toList then (if bt257.2.1.toList = t254.toList then (if bt257.2.2 = 0 then (if (bt255.1.size : Int) = (wrap64 ((wrap64 ((t253.size : Int) + 1)) + (t254.size : Int))) then ((tolllaw01_awake.f k).bind fun t260 => (some t260)) else (some false)) else (some false)) else (some false)) else (some false))) else (if bt255.1.toList = ([] : List UInt8) then ((tolllaw01_awake.f k).bind fun t261 => (some t261)) else (some false)))) = some r := H
  have A4 := Aside0.mk A40
  clear A40
  replace H := Option.bind_eq_some_iff.mp H
  obtain ⟨⟨t255, t256⟩, A50, H⟩ := H
  replace H : (if t256 = 0 then ((dns_Cut.f t255).bind fun bt257 => (if bt257.1.toList = t253.toList then (if bt257.2.1.toList = t254.toList then (if bt257.2.2 = 0 then (if (t255.size : Int) = (wrap64 ((wrap64 ((t253.size : Int) + 1)) + (t254.size : Int))) then ((tolllaw01_awake.f k).bind fun t260 => (some t260)) else (some false)) else (some false)) else (some false)) else (some false))) else (if t255.toList = ([] : List UInt8) then ((tolllaw01_awake.f k).bind fun t261 => (some t261)) else (some false))) = some r := H
  have A5 := Aside0.mk A50
  clear A50
  by_cases c6 : t256 = 0
  · rw [if_pos c6] at H
    have c6b0 : (t256 == 0) = true := beq_iff_eq.mpr c6
    have c6b1 : (t256 != 0) = false := bne_eq_false_iff_eq.mpr c6
    clear c6
    replace H := Option.bind_eq_some_iff.mp H
    obtain ⟨⟨t257, t258, t259⟩, A70, H⟩ := H
    replace H : (if t257.toList = t253.toList then (if t258.toList = t254.toList then (if t259 = 0 then (if (t255.size : Int) = (wrap64 ((wrap64 ((t253.size : Int) + 1)) + (t254.size : Int))) then ((tolllaw01_awake.f k).bind fun t260 => (some t260)) else (some false)) else (some false)) else (some false)) else (some false)) = some r := H
    have A7 := Aside0.mk A70
    clear A70
    by_cases c8 : t257.toList = t253.toList
    · rw [if_pos c8] at H
      have c8b0 : (t257.toList == t253.toList) = true := beq_iff_eq.mpr c8
      have c8b1 : (t257.toList != t253.toList) = false := bne_eq_false_iff_eq.mpr c8
      clear c8
      by_cases c9 : t258.toList = t254.toList
      · rw [if_pos c9] at H
        have c9b0 : (t258.toList == t254.toList) = true := beq_iff_eq.mpr c9
        have c9b1 : (t258.toList != t254.toList) = false := bne_eq_false_iff_eq.mpr c9
        clear c9
        by_cases c10 : t259 = 0
        · rw [if_pos c10] at H
          have c10b0 : (t259 == 0) = true := beq_iff_eq.mpr c10
          have c10b1 : (t259 != 0) = false := bne_eq_false_iff_eq.mpr c10
          clear c10
          by_cases c11 : (t255.size : Int) = (wrap64 ((wrap64 ((t253.size : Int) + 1)) + (t254.size : Int)))
          · rw [if_pos c11] at H
            have c11b0 : ((t255.size : Int) == (wrap64 ((wrap64 ((t253.size : Int) + 1)) + (t254.size : Int)))) = true := beq_iff_eq.mpr c11
            have c11b1 : ((t255.size : Int) != (wrap64 ((wrap64 ((t253.size : Int) + 1)) + (t254.size : Int)))) = false := bne_eq_false_iff_eq.mpr c11
            clear c11
            replace H := Option.bind_eq_some_iff.mp H
            obtain ⟨t260, A120, H⟩ := H
            replace H : (some t260) = some r := H
            have A12 := Aside0.mk A120
            clear A120
            obtain rfl := Option.some.inj H
            go_enter Tryd.func18, Tryd.ntmps18
            go_wp2_with (first | ((with_reducible refine gate_callee (f := 30) rfl ?_); refine goesL_ (some 11) rfl rfl Tryd.func30 (by kernel_rfl) rfl #[.string a0] rfl (by (try simp only [List.map_toArray, List.map_cons, List.map_nil]); first | done | rfl | (simp only [List.length_drop, List.length_take]; rfl)) ?_; (with_reducible refine (tolllaw01_Few.calls a0 t253 _ A3.out).mono ?_); rintro e w' ⟨rfl, ⟨nd, rfl⟩⟩; refine ⟨_, rfl, ?_⟩) | ((with_reducible refine gate_callee (f := 30) rfl ?_); refine goesL_ (some 13) rfl rfl Tryd.func30 (by kernel_rfl) rfl #[.string a1] rfl (by (try simp only [List.map_toArray, List.map_cons, List.map_nil]); first | done | rfl | (simp only [List.length_drop, List.length_take]; rfl)) ?_; (with_reducible refine (tolllaw01_Few.calls a1 t254 _ A4.out).mono ?_); rintro e w' ⟨rfl, ⟨nd, rfl⟩⟩; refine ⟨_, rfl, ?_⟩) | ((with_reducible refine gate_callee (f := 62) rfl ?_); refine goesL_ (some 17) rfl rfl Tryd.func62 (by kernel_rfl) rfl #[.string t253, .string t254] rfl (by (try simp only [List.map_toArray, List.map_cons, List.map_nil]); first | done | rfl | (simp only [List.length_drop, List.length_take]; rfl)) ?_; (with_reducible refine (dns_Key.calls t253 t254 t255 t256 _ A5.out).mono ?_); rintro e w13 ⟨rfl, hb⟩; refine ⟨_, rfl, ?_⟩; have n0_ := Aside0.mk (below_step (by repeat (first | (with_reducible first | exact HB.out | apply below_alloc | apply pw_below_drewN | apply below_drew1) | exact HB.out)) hb); clear HB; have HB := n0_; clear n0_; (try clear hb); (try clear hb2); (try clear hk); (try clear hi)) | ((with_reducible refine gate_callee (f := 64) rfl ?_); refine goesL_ (some 29) rfl rfl Tryd.func64 (by kernel_rfl) rfl #[.string t255] rfl (by (try simp only [List.map_toArray, List.map_cons, List.map_nil]); first | done | rfl | (simp only [List.length_drop, List.length_take]; rfl)) ?_; (with_reducible refine (dns_Cut.calls t255 t257 t258 t259 _ A7.out).mono ?_); rintro e w14 ⟨rfl, hb⟩; refine ⟨_, rfl, ?_⟩; have n0_ := Aside0.mk (below_step (by repeat (first | (with_reducible first | exact HB.out | apply below_alloc | apply pw_below_drewN | apply below_drew1) | exact HB.out)) hb); clear HB; have HB := n0_; clear n0_; (try clear hb); (try clear hb2); (try clear hk); (try clear hi)) | (go_at_call 33; (with_reducible refine (tolllaw01_awake.calls k  t260 _ A12.out).mono ?_); rintro e w15 ⟨rfl, hb⟩; have n0_ := Aside0.mk (below_step (by repeat (first | (with_reducible first | exact HB.out | apply below_alloc | apply pw_below_drewN | apply below_drew1) | exact HB.out)) hb); clear HB; have HB := n0_; clear n0_; (try clear hb); (try clear hb2); (try clear hk); (try clear hi)))
            go_ret
            exact ⟨by first | rfl | (simp [errW_none, errW_some] <;> rfl) | (simp [*, errW_none, errW_some] <;> rfl), by repeat (first | (with_reducible first | exact HB.out | apply below_alloc | apply pw_below_drewN | apply below_drew1) | exact HB.out)⟩
          · rw [if_neg c11] at H
            have c11b0 : ((t255.size : Int) == (wrap64 ((wrap64 ((t253.size : Int) + 1)) + (t254.size : Int)))) = false := beq_eq_false_iff_ne.mpr c11
            have c11b1 : ((t255.size : Int) != (wrap64 ((wrap64 ((t253.size : Int) + 1)) + (t254.size : Int)))) = true := bne_iff_ne.mpr c11
            obtain rfl := Option.some.inj H
            go_enter Tryd.func18, Tryd.ntmps18
            go_wp2_with (first | ((with_reducible refine gate_callee (f := 30) rfl ?_); refine goesL_ (some 11) rfl rfl Tryd.func30 (by kernel_rfl) rfl #[.string a0] rfl (by (try simp only [List.map_toArray, List.map_cons, List.map_nil]); first | done | rfl | (simp only [List.length_drop, List.length_take]; rfl)) ?_; (with_reducible refine (tolllaw01_Few.calls a0 t253 _ A3.out).mono ?_); rintro e w' ⟨rfl, ⟨nd, rfl⟩⟩; refine ⟨_, rfl, ?_⟩) | ((with_reducible refine gate_callee (f := 30) rfl ?_); refine goesL_ (some 13) rfl rfl Tryd.func30 (by kernel_rfl) rfl #[.string a1] rfl (by (try simp only [List.map_toArray, List.map_cons, List.map_nil]); first | done | rfl | (simp only [List.length_drop, List.length_take]; rfl)) ?_; (with_reducible refine (tolllaw01_Few.calls a1 t254 _ A4.out).mono ?_); rintro e w' ⟨rfl, ⟨nd, rfl⟩⟩; refine ⟨_, rfl, ?_⟩) | ((with_reducible refine gate_callee (f := 62) rfl ?_); refine goesL_ (some 17) rfl rfl Tryd.func62 (by kernel_rfl) rfl #[.string t253, .string t254] rfl (by (try simp only [List.map_toArray, List.map_cons, List.map_nil]); first | done | rfl | (simp only [List.length_drop, List.length_take]; rfl)) ?_; (with_reducible refine (dns_Key.calls t253 t254 t255 t256 _ A5.out).mono ?_); rintro e w16 ⟨rfl, hb⟩; refine ⟨_, rfl, ?_⟩; have n0_ := Aside0.mk (below_step (by repeat (first | (with_reducible first | exact HB.out | apply below_alloc | apply pw_below_drewN | apply below_drew1) | exact HB.out)) hb); clear HB; have HB := n0_; clear n0_; (try clear hb); (try clear hb2); (try clear hk); (try clear hi)) | ((with_reducible refine gate_callee (f := 64) rfl ?_); refine goesL_ (some 29) rfl rfl Tryd.func64 (by kernel_rfl) rfl #[.string t255] rfl (by (try simp only [List.map_toArray, List.map_cons, List.map_nil]); first | done | rfl | (simp only [List.length_drop, List.length_take]; rfl)) ?_; (with_reducible refine (dns_Cut.calls t255 t257 t258 t259 _ A7.out).mono ?_); rintro e w17 ⟨rfl, hb⟩; refine ⟨_, rfl, ?_⟩; have n0_ := Aside0.mk (below_step (by repeat (first | (with_reducible first | exact HB.out | apply below_alloc | apply pw_below_drewN | apply below_drew1) | exact HB.out)) hb); clear HB; have HB := n0_; clear n0_; (try clear hb); (try clear hb2); (try clear hk); (try clear hi)))
            go_ret
            exact ⟨by first | rfl | (simp [errW_none, errW_some] <;> rfl) | (simp [*, errW_none, errW_some] <;> rfl), by repeat (first | (with_reducible first | exact HB.out | apply below_alloc | apply pw_below_drewN | apply below_drew1) | exact HB.out)⟩
        · rw [if_neg c10] at H
          have c10b0 : (t259 == 0) = false := beq_eq_false_iff_ne.mpr c10
          have c10b1 : (t259 != 0) = true := bne_iff_ne.mpr c10
          obtain rfl := Option.some.inj H
          go_enter Tryd.func18, Tryd.ntmps18
          go_wp2_with (first | ((with_reducible refine gate_callee (f := 30) rfl ?_); refine goesL_ (some 11) rfl rfl Tryd.func30 (by kernel_rfl) rfl #[.string a0] rfl (by (try simp only [List.map_toArray, List.map_cons, List.map_nil]); first | done | rfl | (simp only [List.length_drop, List.length_take]; rfl)) ?_; (with_reducible refine (tolllaw01_Few.calls a0 t253 _ A3.out).mono ?_); rintro e w' ⟨rfl, ⟨nd, rfl⟩⟩; refine ⟨_, rfl, ?_⟩) | ((with_reducible refine gate_callee (f := 30) rfl ?_); refine goesL_ (some 13) rfl rfl Tryd.func30 (by kernel_rfl) rfl #[.string a1] rfl (by (try simp only [List.map_toArray, List.map_cons, List.map_nil]); first | done | rfl | (simp only [List.length_drop, List.length_take]; rfl)) ?_; (with_reducible refine (tolllaw01_Few.calls a1 t254 _ A4.out).mono ?_); rintro e w' ⟨rfl, ⟨nd, rfl⟩⟩; refine ⟨_, rfl, ?_⟩) | ((with_reducible refine gate_callee (f := 62) rfl ?_); refine goesL_ (some 17) rfl rfl Tryd.func62 (by kernel_rfl) rfl #[.string t253, .string t254] rfl (by (try simp only [List.map_toArray, List.map_cons, List.map_nil]); first | done | rfl | (simp only [List.length_drop, List.length_take]; rfl)) ?_; (with_reducible refine (dns_Key.calls t253 t254 t255 t256 _ A5.out).mono ?_); rintro e w18 ⟨rfl, hb⟩; refine ⟨_, rfl, ?_⟩; have n0_ := Aside0.mk (below_step (by repeat (first | (with_reducible first | exact HB.out | apply below_alloc | apply pw_below_drewN | apply below_drew1) | exact HB.out)) hb); clear HB; have HB := n0_; clear n0_; (try clear hb); (try clear hb2); (try clear hk); (try clear hi)) | ((with_reducible refine gate_callee (f := 64) rfl ?_); refine goesL_ (some 29) rfl rfl Tryd.func64 (by kernel_rfl) rfl #[.string t255] rfl (by (try simp only [List.map_toArray, List.map_cons, List.map_nil]); first | done | rfl | (simp only [List.length_drop, List.length_take]; rfl)) ?_; (with_reducible refine (dns_Cut.calls t255 t257 t258 t259 _ A7.out).mono ?_); rintro e w19 ⟨rfl, hb⟩; refine ⟨_, rfl, ?_⟩; have n0_ := Aside0.mk (below_step (by repeat (first | (with_reducible first | exact HB.out | apply below_alloc | apply pw_below_drewN | apply below_drew1) | exact HB.out)) hb); clear HB; have HB := n0_; clear n0_; (try clear hb); (try clear hb2); (try clear hk); (try clear hi)))
          go_ret
          exact ⟨by first | rfl | (simp [errW_none, errW_some] <;> rfl) | (simp [*, errW_none, errW_some] <;> rfl), by repeat (first | (with_reducible first | exact HB.out | apply below_alloc | apply pw_below_drewN | apply below_drew1) | exact HB.out)⟩
      · rw [if_neg c9] at H
        have c9b0 : (t258.toList == t254.toList) = false := beq_eq_false_iff_ne.mpr c9
        have c9b1 : (t258.toList != t254.toList) = true := bne_iff_ne.mpr c9
        obtain rfl := Option.some.inj H
        go_enter Tryd.func18, Tryd.ntmps18
        go_wp2_with (first | ((with_reducible refine gate_callee (f := 30) rfl ?_); refine goesL_ (some 11) rfl rfl Tryd.func30 (by kernel_rfl) rfl #[.string a0] rfl (by (try simp only [List.map_toArray, List.map_cons, List.map_nil]); first | done | rfl | (simp only [List.length_drop, List.length_take]; rfl)) ?_; (with_reducible refine (tolllaw01_Few.calls a0 t253 _ A3.out).mono ?_); rintro e w' ⟨rfl, ⟨nd, rfl⟩⟩; refine ⟨_, rfl, ?_⟩) | ((with_reducible refine gate_callee (f := 30) rfl ?_); refine goesL_ (some 13) rfl rfl Tryd.func30 (by kernel_rfl) rfl #[.string a1] rfl (by (try simp only [List.map_toArray, List.map_cons, List.map_nil]); first | done | rfl | (simp only [List.length_drop, List.length_take]; rfl)) ?_; (with_reducible refine (tolllaw01_Few.calls a1 t254 _ A4.out).mono ?_); rintro e w' ⟨rfl, ⟨nd, rfl⟩⟩; refine ⟨_, rfl, ?_⟩) | ((with_reducible refine gate_callee (f := 62) rfl ?_); refine goesL_ (some 17) rfl rfl Tryd.func62 (by kernel_rfl) rfl #[.string t253, .string t254] rfl (by (try simp only [List.map_toArray, List.map_cons, List.map_nil]); first | done | rfl | (simp only [List.length_drop, List.length_take]; rfl)) ?_; (with_reducible refine (dns_Key.calls t253 t254 t255 t256 _ A5.out).mono ?_); rintro e w20 ⟨rfl, hb⟩; refine ⟨_, rfl, ?_⟩; have n0_ := Aside0.mk (below_step (by repeat (first | (with_reducible first | exact HB.out | apply below_alloc | apply pw_below_drewN | apply below_drew1) | exact HB.out)) hb); clear HB; have HB := n0_; clear n0_; (try clear hb); (try clear hb2); (try clear hk); (try clear hi)) | ((with_reducible refine gate_callee (f := 64) rfl ?_); refine goesL_ (some 29) rfl rfl Tryd.func64 (by kernel_rfl) rfl #[.string t255] rfl (by (try simp only [List.map_toArray, List.map_cons, List.map_nil]); first | done | rfl | (simp only [List.length_drop, List.length_take]; rfl)) ?_; (with_reducible refine (dns_Cut.calls t255 t257 t258 t259 _ A7.out).mono ?_); rintro e w21 ⟨rfl, hb⟩; refine ⟨_, rfl, ?_⟩; have n0_ := Aside0.mk (below_step (by repeat (first | (with_reducible first | exact HB.out | apply below_alloc | apply pw_below_drewN | apply below_drew1) | exact HB.out)) hb); clear HB; have HB := n0_; clear n0_; (try clear hb); (try clear hb2); (try clear hk); (try clear hi)))
        go_ret
        exact ⟨by first | rfl | (simp [errW_none, errW_some] <;> rfl) | (simp [*, errW_none, errW_some] <;> rfl), by repeat (first | (with_reducible first | exact HB.out | apply below_alloc | apply pw_below_drewN | apply below_drew1) | exact HB.out)⟩
    · rw [if_neg c8] at H
      have c8b0 : (t257.toList == t253.toList) = false := beq_eq_false_iff_ne.mpr c8
      have c8b1 : (t257.toList != t253.toList) = true := bne_iff_ne.mpr c8
      obtain rfl := Option.some.inj H
      go_enter Tryd.func18, Tryd.ntmps18
      go_wp2_with (first | ((with_reducible refine gate_callee (f := 30) rfl ?_); refine goesL_ (some 11) rfl rfl Tryd.func30 (by kernel_rfl) rfl #[.string a0] rfl (by (try simp only [List.map_toArray, List.map_cons, List.map_nil]); first | done | rfl | (simp only [List.length_drop, List.length_take]; rfl)) ?_; (with_reducible refine (tolllaw01_Few.calls a0 t253 _ A3.out).mono ?_); rintro e w' ⟨rfl, ⟨nd, rfl⟩⟩; refine ⟨_, rfl, ?_⟩) | ((with_reducible refine gate_callee (f := 30) rfl ?_); refine goesL_ (some 13) rfl rfl Tryd.func30 (by kernel_rfl) rfl #[.string a1] rfl (by (try simp only [List.map_toArray, List.map_cons, List.map_nil]); first | done | rfl | (simp only [List.length_drop, List.length_take]; rfl)) ?_; (with_reducible refine (tolllaw01_Few.calls a1 t254 _ A4.out).mono ?_); rintro e w' ⟨rfl, ⟨nd, rfl⟩⟩; refine ⟨_, rfl, ?_⟩) | ((with_reducible refine gate_callee (f := 62) rfl ?_); refine goesL_ (some 17) rfl rfl Tryd.func62 (by kernel_rfl) rfl #[.string t253, .string t254] rfl (by (try simp only [List.map_toArray, List.map_cons, List.map_nil]); first | done | rfl | (simp only [List.length_drop, List.length_take]; rfl)) ?_; (with_reducible refine (dns_Key.calls t253 t254 t255 t256 _ A5.out).mono ?_); rintro e w22 ⟨rfl, hb⟩; refine ⟨_, rfl, ?_⟩; have n0_ := Aside0.mk (below_step (by repeat (first | (with_reducible first | exact HB.out | apply below_alloc | apply pw_below_drewN | apply below_drew1) | exact HB.out)) hb); clear HB; have HB := n0_; clear n0_; (try clear hb); (try clear hb2); (try clear hk); (try clear hi)) | ((with_reducible refine gate_callee (f := 64) rfl ?_); refine goesL_ (some 29) rfl rfl Tryd.func64 (by kernel_rfl) rfl #[.string t255] rfl (by (try simp only [List.map_toArray, List.map_cons, List.map_nil]); first | done | rfl | (simp only [List.length_drop, List.length_take]; rfl)) ?_; (with_reducible refine (dns_Cut.calls t255 t257 t258 t259 _ A7.out).mono ?_); rintro e w23 ⟨rfl, hb⟩; refine ⟨_, rfl, ?_⟩; have n0_ := Aside0.mk (below_step (by repeat (first | (with_reducible first | exact HB.out | apply below_alloc | apply pw_below_drewN | apply below_drew1) | exact HB.out)) hb); clear HB; have HB := n0_; clear n0_; (try clear hb); (try clear hb2); (try clear hk); (try clear hi)))
      go_ret
      exact ⟨by first | rfl | (simp [errW_none, errW_some] <;> rfl) | (simp [*, errW_none, errW_some] <;> rfl), by repeat (first | (with_reducible first | exact HB.out | apply below_alloc | apply pw_below_drewN | apply below_drew1) | exact HB.out)⟩
  · rw [if_neg c6] at H
    have c6b0 : (t256 == 0) = false := beq_eq_false_iff_ne.mpr c6
    have c6b1 : (t256 != 0) = true := bne_iff_ne.mpr c6
    by_cases c24 : t255.toList = ([] : List UInt8)
    · rw [if_pos c24] at H
      have c24b0 : (t255.toList == ([] : List UInt8)) = true := beq_iff_eq.mpr c24
      have c24b1 : (t255.toList != ([] : List UInt8)) = false := bne_eq_false_iff_eq.mpr c24
      clear c24
      replace H := Option.bind_eq_some_iff.mp H
      obtain ⟨t261, A250, H⟩ := H
      replace H : (some t261) = some r := H
      have A25 := Aside0.mk A250
      clear A250
      obtain rfl := Option.some.inj H
      go_enter Tryd.func18, Tryd.ntmps18
      go_wp2_with (first | ((with_reducible refine gate_callee (f := 30) rfl ?_); refine goesL_ (some 11) rfl rfl Tryd.func30 (by kernel_rfl) rfl #[.string a0] rfl (by (try simp only [List.map_toArray, List.map_cons, List.map_nil]); first | done | rfl | (simp only [List.length_drop, List.length_take]; rfl)) ?_; (with_reducible refine (tolllaw01_Few.calls a0 t253 _ A3.out).mono ?_); rintro e w' ⟨rfl, ⟨nd, rfl⟩⟩; refine ⟨_, rfl, ?_⟩) | ((with_reducible refine gate_callee (f := 30) rfl ?_); refine goesL_ (some 13) rfl rfl Tryd.func30 (by kernel_rfl) rfl #[.string a1] rfl (by (try simp only [List.map_toArray, List.map_cons, List.map_nil]); first | done | rfl | (simp only [List.length_drop, List.length_take]; rfl)) ?_; (with_reducible refine (tolllaw01_Few.calls a1 t254 _ A4.out).mono ?_); rintro e w' ⟨rfl, ⟨nd, rfl⟩⟩; refine ⟨_, rfl, ?_⟩) | ((with_reducible refine gate_callee (f := 62) rfl ?_); refine goesL_ (some 17) rfl rfl Tryd.func62 (by kernel_rfl) rfl #[.string t253, .string t254] rfl (by (try simp only [List.map_toArray, List.map_cons, List.map_nil]); first | done | rfl | (simp only [List.length_drop, List.length_take]; rfl)) ?_; (with_reducible refine (dns_Key.calls t253 t254 t255 t256 _ A5.out).mono ?_); rintro e w26 ⟨rfl, hb⟩; refine ⟨_, rfl, ?_⟩; have n0_ := Aside0.mk (below_step (by repeat (first | (with_reducible first | exact HB.out | apply below_alloc | apply pw_below_drewN | apply below_drew1) | exact HB.out)) hb); clear HB; have HB := n0_; clear n0_; (try clear hb); (try clear hb2); (try clear hk); (try clear hi)) | (go_at_call 33; (with_reducible refine (tolllaw01_awake.calls k  t261 _ A25.out).mono ?_); rintro e w27 ⟨rfl, hb⟩; have n0_ := Aside0.mk (below_step (by repeat (first | (with_reducible first | exact HB.out | apply below_alloc | apply pw_below_drewN | apply below_drew1) | exact HB.out)) hb); clear HB; have HB := n0_; clear n0_; (try clear hb); (try clear hb2); (try clear hk); (try clear hi)))
      go_ret
      exact ⟨by first | rfl | (simp [errW_none, errW_some] <;> rfl) | (simp [*, errW_none, errW_some] <;> rfl), by repeat (first | (with_reducible first | exact HB.out | apply below_alloc | apply pw_below_drewN | apply below_drew1) | exact HB.out)⟩
    · rw [if_neg c24] at H
      have c24b0 : (t255.toList == ([] : List UInt8)) = false := beq_eq_false_iff_ne.mpr c24
      have c24b1 : (t255.toList != ([] : List UInt8)) = true := bne_iff_ne.mpr c24
      obtain rfl := Option.some.inj H
      go_enter Tryd.func18, Tryd.ntmps18
      go_wp2_with (first | ((with_reducible refine gate_callee (f := 30) rfl ?_); refine goesL_ (some 11) rfl rfl Tryd.func30 (by kernel_rfl) rfl #[.string a0] rfl (by (try simp only [List.map_toArray, List.map_cons, List.map_nil]); first | done | rfl | (simp only [List.length_drop, List.length_take]; rfl)) ?_; (with_reducible refine (tolllaw01_Few.calls a0 t253 _ A3.out).mono ?_); rintro e w' ⟨rfl, ⟨nd, rfl⟩⟩; refine ⟨_, rfl, ?_⟩) | ((with_reducible refine gate_callee (f := 30) rfl ?_); refine goesL_ (some 13) rfl rfl Tryd.func30 (by kernel_rfl) rfl #[.string a1] rfl (by (try simp only [List.map_toArray, List.map_cons, List.map_nil]); first | done | rfl | (simp only [List.length_drop, List.length_take]; rfl)) ?_; (with_reducible refine (tolllaw01_Few.calls a1 t254 _ A4.out).mono ?_); rintro e w' ⟨rfl, ⟨nd, rfl⟩⟩; refine ⟨_, rfl, ?_⟩) | ((with_reducible refine gate_callee (f := 62) rfl ?_); refine goesL_ (some 17) rfl rfl Tryd.func62 (by kernel_rfl) rfl #[.string t253, .string t254] rfl (by (try simp only [List.map_toArray, List.map_cons, List.map_nil]); first | done | rfl | (simp only [List.length_drop, List.length_take]; rfl)) ?_; (with_reducible refine (dns_Key.calls t253 t254 t255 t256 _ A5.out).mono ?_); rintro e w28 ⟨rfl, hb⟩; refine ⟨_, rfl, ?_⟩; have n0_ := Aside0.mk (below_step (by repeat (first | (with_reducible first | exact HB.out | apply below_alloc | apply pw_below_drewN | apply below_drew1) | exact HB.out)) hb); clear HB; have HB := n0_; clear n0_; (try clear hb); (try clear hb2); (try clear hk); (try clear hi)))
      go_ret
      exact ⟨by first | rfl | (simp [errW_none, errW_some] <;> rfl) | (simp [*, errW_none, errW_some] <;> rfl), by repeat (first | (with_reducible first | exact HB.out | apply below_alloc | apply pw_below_drewN | apply below_drew1) | exact HB.out)⟩

/-- THE ONE PURE STATEMENT of tolllaw01_DnsBacks: yours. -/
def tolllaw01_DnsBacks.Pure : Prop := ∀ (a0 : ByteArray) (a1 : ByteArray), a0.size ≤ 140737488351232 → a1.size ≤ 140737488351232 → ∃ k, tolllaw01_DnsBacks.f k a0 a1 = some true
theorem tolllaw01_DnsBacks.walk (P : tolllaw01_DnsBacks.Pure) (a0 : ByteArray) (a1 : ByteArray) (w : World) (w0 : a0.size ≤ 140737488351232) (w1 : a1.size ≤ 140737488351232) :
    Calls Tryd.prog 18 #[.string a0, .string a1] w fun e w' => e = .returned (.bool true) ∧ Below w.heap.size w w' := by
  obtain ⟨k, h⟩ := P a0 a1 w0 w1
  refine (tolllaw01_DnsBacks.calls k a0 a1 true w h).mono ?_
  rintro e w' ⟨rfl, hd⟩
  exact ⟨rfl, hd⟩

end Go.Proofs.YtcakednecmngdaaDoor.P
