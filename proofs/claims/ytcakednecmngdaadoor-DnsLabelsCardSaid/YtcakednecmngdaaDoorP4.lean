/- Functions of the program as plain functions, with proofs that the code comes to their answers; written by a program of this session. Conditions: as each theorem states them. -/
import Derived.Test.YtcakednecmngdaaDoorP0
import Derived.Test.YtcakednecmngdaaDoorP1
import Derived.Test.YtcakednecmngdaaDoorP3
import Derived.Test.YtcakednecmngdaaDoorPlugDns
namespace Go.Proofs.YtcakednecmngdaaDoor.P
open Go.RowKit Go.Proofs.YtcakednecmngdaaDoorW.PrintWords Go.Proofs.YtcakednecmngdaaDoorW.PrintLast Go.Proofs.YtcakednecmngdaaDoorW.PrintMore
attribute [local go_sem] max2_int min2_int max_two min_two max_three min_three max_four min_four   -- for this text's walks alone
set_option linter.unusedVariables false
set_option linter.unusedSimpArgs false

/-! ### tolllaw01_DnsGoes: function 4 -/
mutual
def tolllaw01_DnsGoes.j0 : Nat → ByteArray → ByteArray → Bool → Option (Bool)
  | 0, _, _, _ => none
  | k + 1, x0, x1, x36 => if x36 = true then (some false) else ((dns_Name.f x0).bind fun t161 => (if t161 = true then ((dns_Label.f x1).bind fun t162 => (if t162 = true then (tolllaw01_DnsGoes.j1 k x0 x1 (decide ((wrap64 ((x0.size : Int) + (x1.size : Int))) ≥ 60))) else (tolllaw01_DnsGoes.j1 k x0 x1 true))) else (tolllaw01_DnsGoes.j1 k x0 x1 true)))
def tolllaw01_DnsGoes.j1 : Nat → ByteArray → ByteArray → Bool → Option (Bool)
  | 0, _, _, _ => none
  | k + 1, x0, x1, x52 => if x52 = true then ((tolllaw01_awake.f k).bind fun t163 => (some t163)) else (if x1.size + 1 ≤ 9223372036854775807 then (if (x1 ++ (⟨#[46]⟩ : ByteArray)).size + x0.size ≤ 9223372036854775807 then ((dns_Under.f ((x1 ++ (⟨#[46]⟩ : ByteArray)) ++ x0) x0).bind fun t164 => (if t164 = true then (if x1.size + x0.size ≤ 9223372036854775807 then ((dns_Under.f (x1 ++ x0) x0).bind fun t165 => (if t165 = true then (some false) else ((tolllaw01_awake.f k).bind fun t166 => (some t166)))) else (none)) else (some false))) else (none)) else (none))
end
def tolllaw01_DnsGoes.f (k : Nat) (a0 : ByteArray) (a1 : ByteArray) (a2 : ByteArray) : Option (Bool) := (tolllaw01_Few.f a0).bind fun t153 => ((tolllaw01_Few.f a1).bind fun t154 => ((tolllaw01_Few.f a2).bind fun t155 => ((dns_Under.f t153 t153).bind fun t156 => (if t156 = true then (tolllaw01_DnsGoes.j0 k t153 t154 true) else ((dns_Under.f t153 t154).bind fun t157 => (if t157 = true then ((dns_Under.f t154 t153).bind fun t158 => (if t158 = true then (tolllaw01_DnsGoes.j0 k t153 t154 true) else ((dns_Under.f t154 t155).bind fun t159 => (if t159 = true then ((dns_Under.f t153 t155).bind fun t160 => (tolllaw01_DnsGoes.j0 k t153 t154 (!t160))) else (tolllaw01_DnsGoes.j0 k t153 t154 false))))) else (tolllaw01_DnsGoes.j0 k t153 t154 false)))))))
theorem tolllaw01_DnsGoes.mono_l : ∀ k, (∀ y0 y1 y2, LeO (tolllaw01_DnsGoes.j0 k y0 y1 y2) (tolllaw01_DnsGoes.j0 (k + 1) y0 y1 y2)) ∧ (∀ y0 y1 y2, LeO (tolllaw01_DnsGoes.j1 k y0 y1 y2) (tolllaw01_DnsGoes.j1 (k + 1) y0 y1 y2))
  | 0 => ⟨fun _ _ _ r h => by simp [tolllaw01_DnsGoes.j0] at h, fun _ _ _ r h => by simp [tolllaw01_DnsGoes.j1] at h⟩
  | k + 1 => by
    obtain ⟨ih0, ih1⟩ := tolllaw01_DnsGoes.mono_l k
    refine ⟨?_, ?_⟩
    · intro y0 y1 y2
      unfold tolllaw01_DnsGoes.j0
      repeat' first
      | (with_reducible exact ih0 _ _ _)
      | (with_reducible exact ih1 _ _ _)
      | (with_reducible exact tolllaw01_awake.mono _)
      | (with_reducible exact LeO.refl _)
      | (with_reducible exact LeO.none _)
      | (with_reducible refine LeO.ite ?_ ?_)
      | (with_reducible refine LeO.bind ?_ (fun _ => ?_))
      | exact ih0 _ _ _
      | exact ih1 _ _ _
      | exact tolllaw01_awake.mono _
      | exact LeO.none _
      | refine LeO.ite ?_ ?_
      | refine LeO.bind ?_ (fun _ => ?_)
    · intro y0 y1 y2
      unfold tolllaw01_DnsGoes.j1
      repeat' first
      | (with_reducible exact ih0 _ _ _)
      | (with_reducible exact ih1 _ _ _)
      | (with_reducible exact tolllaw01_awake.mono _)
      | (with_reducible exact LeO.refl _)
      | (with_reducible exact LeO.none _)
      | (with_reducible refine LeO.ite ?_ ?_)
      | (with_reducible refine LeO.bind ?_ (fun _ => ?_))
      | exact ih0 _ _ _
      | exact ih1 _ _ _
      | exact tolllaw01_awake.mono _
      | exact LeO.none _
      | refine LeO.ite ?_ ?_
      | refine LeO.bind ?_ (fun _ => ?_)
theorem tolllaw01_DnsGoes.mono : ∀ a0 a1 a2 k, LeO (tolllaw01_DnsGoes.f k a0 a1 a2) (tolllaw01_DnsGoes.f (k + 1) a0 a1 a2) := by
  intro a0 a1 a2 k
  obtain ⟨ih0, ih1⟩ := tolllaw01_DnsGoes.mono_l k
  unfold tolllaw01_DnsGoes.f
  repeat' first
      | (with_reducible exact ih0 _ _ _)
      | (with_reducible exact ih1 _ _ _)
      | (with_reducible exact tolllaw01_awake.mono _)
      | (with_reducible exact LeO.refl _)
      | (with_reducible exact LeO.none _)
      | (with_reducible refine LeO.ite ?_ ?_)
      | (with_reducible refine LeO.bind ?_ (fun _ => ?_))
      | exact ih0 _ _ _
      | exact ih1 _ _ _
      | exact tolllaw01_awake.mono _
      | exact LeO.none _
      | refine LeO.ite ?_ ?_
      | refine LeO.bind ?_ (fun _ => ?_)
set_option maxHeartbeats 8000000 in
set_option maxRecDepth 100000 in
theorem tolllaw01_DnsGoes.calls (k : Nat) (a0 : ByteArray) (a1 : ByteArray) (a2 : ByteArray) (r : Bool) (w : World) (h : tolllaw01_DnsGoes.f k a0 a1 a2 = some r) :
    Calls Tryd.prog 4 #[.string a0, .string a1, .string a2] w fun e w' => e = .returned (.bool r) ∧ Below w.heap.size w w' := by
  have HB := Aside0.mk (Below.refl w.heap.size w)
  have H : ((tolllaw01_Few.f a0).bind fun t153 => ((tolllaw01_Few.f a1).bind fun t154 => ((tolllaw01_Few.f a2).bind fun t155 => ((dns_Under.f t153 t153).bind fun t156 => (if t156 = true then (tolllaw01_DnsGoes.j0 k t153 t154 true) else ((dns_Under.f t153 t154).bind fun t157 => (if t157 = true then ((dns_Under.f t154 t153).bind fun t158 => (if t158 = true then (tolllaw01_DnsGoes.j0 k t153 t154 true) else ((dns_Under.f t154 t155).bind fun t159 => (if t159 = true then ((dns_Under.f t153 t155).bind fun t160 => (tolllaw01_DnsGoes.j0 k t153 t154 (!t160))) else (tolllaw01_DnsGoes.j0 k t153 t154 false))))) else (tolllaw01_DnsGoes.j0 k t153 t154 false)))))))) = some r := h
  clear h
  replace H := Option.bind_eq_some_iff.mp H
  obtain ⟨t153, A40, H⟩ := H
  replace H : ((tolllaw01_Few.f a1).bind fun t154 => ((tolllaw01_Few.f a2).bind fun t155 => ((dns_Under.f t153 t153).bind fun t156 => (if t156 = true then (tolllaw01_DnsGoes.j0 k t153 t154 true) else ((dns_Under.f t153 t154).bind fun t157 => (if t157 = true then ((dns_Under.f t154 t153).bind fun t158 => (if t158 = true then (tolllaw01_DnsGoes.j0 k t153 t154 true) else ((dns_Under.f t154 t155).bind fun t159 => (if t159 = true then ((dns_Under.f t153 t155).bind fun t160 => (tolllaw01_DnsGoes.j0 k t153 t154 (!t160))) else (tolllaw01_DnsGoes.j0 k t153 t154 false))))) else (tolllaw01_DnsGoes.j0 k t153 t154 false))))))) = some r := H
  have A4 := Aside0.mk A40
  clear A40
  replace H := Option.bind_eq_some_iff.mp H
  obtain ⟨t154, A50, H⟩ := H
  replace H : ((tolllaw01_Few.f a2).bind fun t155 => ((dns_Under.f t153 t153).bind fun t156 => (if t156 = true then (tolllaw01_DnsGoes.j0 k t153 t154 true) else ((dns_Under.f t153 t154).bind fun t157 => (if t157 = true then ((dns_Under.f t154 t153).bind fun t158 => (if t158 = true then (tolllaw01_DnsGoes.j0 k t153 t154 true) else ((dns_Under.f t154 t155).bind fun t159 => (if t159 = true then ((dns_Under.f t153 t155).bind fun t160 => (tolllaw01_DnsGoes.j0 k t153 t154 (!t160))) else (tolllaw01_DnsGoes.j0 k t153 t154 false))))) else (tolllaw01_DnsGoes.j0 k t153 t154 false)))))) = some r := H
  have A5 := Aside0.mk A50
  clear A50
  replace H := Option.bind_eq_some_iff.mp H
  obtain ⟨t155, A60, H⟩ := H
  replace H : ((dns_Under.f t153 t153).bind fun t156 => (if t156 = true then (tolllaw01_DnsGoes.j0 k t153 t154 true) else ((dns_Under.f t153 t154).bind fun t157 => (if t157 = true then ((dns_Under.f t154 t153).bind fun t158 => (if t158 = true then (tolllaw01_DnsGoes.j0 k t153 t154 true) else ((dns_Under.f t154 t155).bind fun t159 => (if t159 = true then ((dns_Under.f t153 t155).bind fun t160 => (tolllaw01_DnsGoes.j0 k t153 t154 (!t160))) else (tolllaw01_DnsGoes.j0 k t153 t154 false))))) else (tolllaw01_DnsGoes.j0 k t153 t154 false))))) = some r := H
  have A6 := Aside0.mk A60
  clear A60
  have HC7 := Aside0.mk H
  clear H
  go_enter Tryd.func4, Tryd.ntmps4
  go_upto_region 2 with (first | ((with_reducible refine gate_callee (f := 30) rfl ?_); refine goesL_ (some 8) rfl rfl Tryd.func30 (by kernel_rfl) rfl #[.string a0] rfl (by (try simp only [List.map_toArray, List.map_cons, List.map_nil]); first | done | rfl | (simp only [List.length_drop, List.length_take]; rfl)) ?_; (with_reducible refine (tolllaw01_Few.calls a0 t153 _ A4.out).mono ?_); rintro e w' ⟨rfl, ⟨nd, rfl⟩⟩; refine ⟨_, rfl, ?_⟩) | ((with_reducible refine gate_callee (f := 30) rfl ?_); refine goesL_ (some 10) rfl rfl Tryd.func30 (by kernel_rfl) rfl #[.string a1] rfl (by (try simp only [List.map_toArray, List.map_cons, List.map_nil]); first | done | rfl | (simp only [List.length_drop, List.length_take]; rfl)) ?_; (with_reducible refine (tolllaw01_Few.calls a1 t154 _ A5.out).mono ?_); rintro e w' ⟨rfl, ⟨nd, rfl⟩⟩; refine ⟨_, rfl, ?_⟩) | ((with_reducible refine gate_callee (f := 30) rfl ?_); refine goesL_ (some 12) rfl rfl Tryd.func30 (by kernel_rfl) rfl #[.string a2] rfl (by (try simp only [List.map_toArray, List.map_cons, List.map_nil]); first | done | rfl | (simp only [List.length_drop, List.length_take]; rfl)) ?_; (with_reducible refine (tolllaw01_Few.calls a2 t155 _ A6.out).mono ?_); rintro e w' ⟨rfl, ⟨nd, rfl⟩⟩; refine ⟨_, rfl, ?_⟩))
  (try simp only [Act.put, List.setIfInBounds_toArray, List.set_cons_zero, List.set_cons_succ])
  go_cut [36] (fun v36 wc => ∃ (kq : Nat) (x36_6 : Bool), v36 = .bool x36_6 ∧ Aside0 (tolllaw01_DnsGoes.j0 kq t153 t154 x36_6 = some r) ∧ Aside0 (kq ≤ k) ∧ Aside0 (Below w.heap.size w wc))
  case first =>
    have H := HC7.out
    clear HC7
    replace H := Option.bind_eq_some_iff.mp H
    obtain ⟨t156, A80, H⟩ := H
    replace H : (if t156 = true then (tolllaw01_DnsGoes.j0 k t153 t154 true) else ((dns_Under.f t153 t154).bind fun t157 => (if t157 = true then ((dns_Under.f t154 t153).bind fun t158 => (if t158 = true then (tolllaw01_DnsGoes.j0 k t153 t154 true) else ((dns_Under.f t154 t155).bind fun t159 => (if t159 = true then ((dns_Under.f t153 t155).bind fun t160 => (tolllaw01_DnsGoes.j0 k t153 t154 (!t160))) else (tolllaw01_DnsGoes.j0 k t153 t154 false))))) else (tolllaw01_DnsGoes.j0 k t153 t154 false)))) = some r := H
    have A8 := Aside0.mk A80
    clear A80
    by_cases c9 : t156 = true
    · subst c9
      have H1 : (tolllaw01_DnsGoes.j0 k t153 t154 true) = some r := by rw [if_pos rfl] at H; exact H
      clear H
      have H := H1
      clear H1
      have H' := Aside0.mk H
      clear H
      go_wp2_with (first | ((with_reducible refine gate_callee (f := 31) rfl ?_); refine goesL_ (some 15) rfl rfl Tryd.func31 (by kernel_rfl) rfl #[.string t153, .string t153] rfl (by (try simp only [List.map_toArray, List.map_cons, List.map_nil]); first | done | rfl | (simp only [List.length_drop, List.length_take]; rfl)) ?_; (with_reducible refine (dns_Under.calls t153 t153 true _ A8.out).mono ?_); rintro e w10 ⟨rfl, hb⟩; refine ⟨_, rfl, ?_⟩; have n0_ := Aside0.mk (below_step (by repeat (first | (with_reducible first | exact HB.out | apply below_alloc | apply pw_below_drewN | apply below_drew1) | exact HB.out)) hb); clear HB; have HB := n0_; clear n0_; (try clear hb); (try clear hb2); (try clear hk); (try clear hi)))
      go_meet
      case rel => exact ⟨_, (true), (by first | rfl | (simp; done) | (simp [*]; done)), H', ⟨by first | omega | exact Nat.le_refl _⟩, ⟨by repeat (first | (with_reducible first | exact HB.out | apply below_alloc | apply pw_below_drewN | apply below_drew1) | exact HB.out)⟩⟩
    · replace c9 := Bool.eq_false_iff.mpr c9
      subst c9
      have H1 : ((dns_Under.f t153 t154).bind fun t157 => (if t157 = true then ((dns_Under.f t154 t153).bind fun t158 => (if t158 = true then (tolllaw01_DnsGoes.j0 k t153 t154 true) else ((dns_Under.f t154 t155).bind fun t159 => (if t159 = true then ((dns_Under.f t153 t155).bind fun t160 => (tolllaw01_DnsGoes.j0 k t153 t154 (!t160))) else (tolllaw01_DnsGoes.j0 k t153 t154 false))))) else (tolllaw01_DnsGoes.j0 k t153 t154 false))) = some r := by rw [if_neg (show ¬ (false = true) by decide)] at H; exact H
      clear H
      have H := H1
      clear H1
      replace H := Option.bind_eq_some_iff.mp H
      obtain ⟨t157, A110, H⟩ := H
      replace H : (if t157 = true then ((dns_Under.f t154 t153).bind fun t158 => (if t158 = true then (tolllaw01_DnsGoes.j0 k t153 t154 true) else ((dns_Under.f t154 t155).bind fun t159 => (if t159 = true then ((dns_Under.f t153 t155).bind fun t160 => (tolllaw01_DnsGoes.j0 k t153 t154 (!t160))) else (tolllaw01_DnsGoes.j0 k t153 t154 false))))) else (tolllaw01_DnsGoes.j0 k t153 t154 false)) = some r := H
      have A11 := Aside0.mk A110
      clear A110
      by_cases c12 : t157 = true
      · subst c12
        have H1 : ((dns_Under.f t154 t153).bind fun t158 => (if t158 = true then (tolllaw01_DnsGoes.j0 k t153 t154 true) else ((dns_Under.f t154 t155).bind fun t159 => (if t159 = true then ((dns_Under.f t153 t155).bind fun t160 => (tolllaw01_DnsGoes.j0 k t153 t154 (!t160))) else (tolllaw01_DnsGoes.j0 k t153 t154 false))))) = some r := by rw [if_pos rfl] at H; exact H
        clear H
        have H := H1
        clear H1
        replace H := Option.bind_eq_some_iff.mp H
        obtain ⟨t158, A130, H⟩ := H
        replace H : (if t158 = true then (tolllaw01_DnsGoes.j0 k t153 t154 true) else ((dns_Under.f t154 t155).bind fun t159 => (if t159 = true then ((dns_Under.f t153 t155).bind fun t160 => (tolllaw01_DnsGoes.j0 k t153 t154 (!t160))) else (tolllaw01_DnsGoes.j0 k t153 t154 false)))) = some r := H
        have A13 := Aside0.mk A130
        clear A130
        by_cases c14 : t158 = true
        · subst c14
          have H1 : (tolllaw01_DnsGoes.j0 k t153 t154 true) = some r := by rw [if_pos rfl] at H; exact H
          clear H
          have H := H1
          clear H1
          have H' := Aside0.mk H
          clear H
          go_wp2_with (first | ((with_reducible refine gate_callee (f := 31) rfl ?_); refine goesL_ (some 15) rfl rfl Tryd.func31 (by kernel_rfl) rfl #[.string t153, .string t153] rfl (by (try simp only [List.map_toArray, List.map_cons, List.map_nil]); first | done | rfl | (simp only [List.length_drop, List.length_take]; rfl)) ?_; (with_reducible refine (dns_Under.calls t153 t153 false _ A8.out).mono ?_); rintro e w15 ⟨rfl, hb⟩; refine ⟨_, rfl, ?_⟩; have n0_ := Aside0.mk (below_step (by repeat (first | (with_reducible first | exact HB.out | apply below_alloc | apply pw_below_drewN | apply below_drew1) | exact HB.out)) hb); clear HB; have HB := n0_; clear n0_; (try clear hb); (try clear hb2); (try clear hk); (try clear hi)) | (go_at_call 31; (with_reducible refine (dns_Under.calls t153 t154 true _ A11.out).mono ?_); rintro e w16 ⟨rfl, hb⟩; have n0_ := Aside0.mk (below_step (by repeat (first | (with_reducible first | exact HB.out | apply below_alloc | apply pw_below_drewN | apply below_drew1) | exact HB.out)) hb); clear HB; have HB := n0_; clear n0_; (try clear hb); (try clear hb2); (try clear hk); (try clear hi)) | (go_at_call 31; (with_reducible refine (dns_Under.calls t154 t153 true _ A13.out).mono ?_); rintro e w17 ⟨rfl, hb⟩; have n0_ := Aside0.mk (below_step (by repeat (first | (with_reducible first | exact HB.out | apply below_alloc | apply pw_below_drewN | apply below_drew1) | exact HB.out)) hb); clear HB; have HB := n0_; clear n0_; (try clear hb); (try clear hb2); (try clear hk); (try clear hi)))
          go_meet
          case rel => exact ⟨_, (true), (by first | rfl | (simp; done) | (simp [*]; done)), H', ⟨by first | omega | exact Nat.le_refl _⟩, ⟨by repeat (first | (with_reducible first | exact HB.out | apply below_alloc | apply pw_below_drewN | apply below_drew1) | exact HB.out)⟩⟩
        · replace c14 := Bool.eq_false_iff.mpr c14
          subst c14
          have H1 : ((dns_Under.f t154 t155).bind fun t159 => (if t159 = true then ((dns_Under.f t153 t155).bind fun t160 => (tolllaw01_DnsGoes.j0 k t153 t154 (!t160))) else (tolllaw01_DnsGoes.j0 k t153 t154 false))) = some r := by rw [if_neg (show ¬ (false = true) by decide)] at H; exact H
          clear H
          have H := H1
          clear H1
          replace H := Option.bind_eq_some_iff.mp H
          obtain ⟨t159, A180, H⟩ := H
          replace H : (if t159 = true then ((dns_Under.f t153 t155).bind fun t160 => (tolllaw01_DnsGoes.j0 k t153 t154 (!t160))) else (tolllaw01_DnsGoes.j0 k t153 t154 false)) = some r := H
          have A18 := Aside0.mk A180
          clear A180
          by_cases c19 : t159 = true
          · subst c19
            have H1 : ((dns_Under.f t153 t155).bind fun t160 => (tolllaw01_DnsGoes.j0 k t153 t154 (!t160))) = some r := by rw [if_pos rfl] at H; exact H
            clear H
            have H := H1
            clear H1
            replace H := Option.bind_eq_some_iff.mp H
            obtain ⟨t160, A200, H⟩ := H
            replace H : (tolllaw01_DnsGoes.j0 k t153 t154 (!t160)) = some r := H
            have A20 := Aside0.mk A200
            clear A200
            have H' := Aside0.mk H
            clear H
            go_wp2_with (first | ((with_reducible refine gate_callee (f := 31) rfl ?_); refine goesL_ (some 15) rfl rfl Tryd.func31 (by kernel_rfl) rfl #[.string t153, .string t153] rfl (by (try simp only [List.map_toArray, List.map_cons, List.map_nil]); first | done | rfl | (simp only [List.length_drop, List.length_take]; rfl)) ?_; (with_reducible refine (dns_Under.calls t153 t153 false _ A8.out).mono ?_); rintro e w21 ⟨rfl, hb⟩; refine ⟨_, rfl, ?_⟩; have n0_ := Aside0.mk (below_step (by repeat (first | (with_reducible first | exact HB.out | apply below_alloc | apply pw_below_drewN | apply below_drew1) | exact HB.out)) hb); clear HB; have HB := n0_; clear n0_; (try clear hb); (try clear hb2); (try clear hk); (try clear hi)) | (go_at_call 31; (with_reducible refine (dns_Under.calls t153 t154 true _ A11.out).mono ?_); rintro e w22 ⟨rfl, hb⟩; have n0_ := Aside0.mk (below_step (by repeat (first | (with_reducible first | exact HB.out | apply below_alloc | apply pw_below_drewN | apply below_drew1) | exact HB.out)) hb); clear HB; have HB := n0_; clear n0_; (try clear hb); (try clear hb2); (try clear hk); (try clear hi)) | (go_at_call 31; (with_reducible refine (dns_Under.calls t154 t153 false _ A13.out).mono ?_); rintro e w23 ⟨rfl, hb⟩; have n0_ := Aside0.mk (below_step (by repeat (first | (with_reducible first | exact HB.out | apply below_alloc | apply pw_below_drewN | apply below_drew1) | exact HB.out)) hb); clear HB; have HB := n0_; clear n0_; (try clear hb); (try clear hb2); (try clear hk); (try clear hi)) | (go_at_call 31; (with_reducible refine (dns_Under.calls t154 t155 true _ A18.out).mono ?_); rintro e w24 ⟨rfl, hb⟩; have n0_ := Aside0.mk (below_step (by repeat (first | (with_reducible first | exact HB.out | apply below_alloc | apply pw_below_drewN | apply below_drew1) | exact HB.out)) hb); clear HB; have HB := n0_; clear n0_; (try clear hb); (try clear hb2); (try clear hk); (try clear hi)) | (go_at_call 31; (with_reducible refine (dns_Under.calls t153 t155 t160 _ A20.out).mono ?_); rintro e w25 ⟨rfl, hb⟩; have n0_ := Aside0.mk (below_step (by repeat (first | (with_reducible first | exact HB.out | apply below_alloc | apply pw_below_drewN | apply below_drew1) | exact HB.out)) hb); clear HB; have HB := n0_; clear n0_; (try clear hb); (try clear hb2); (try clear hk); (try clear hi)))
            go_meet
            case rel => exact ⟨_, (!t160), (by first | rfl | (simp; done) | (simp [*]; done)), H', ⟨by first | omega | exact Nat.le_refl _⟩, ⟨by repeat (first | (with_reducible first | exact HB.out | apply below_alloc | apply pw_below_drewN | apply below_drew1) | exact HB.out)⟩⟩
          · replace c19 := Bool.eq_false_iff.mpr c19
            subst c19
            have H1 : (tolllaw01_DnsGoes.j0 k t153 t154 false) = some r := by rw [if_neg (show ¬ (false = true) by decide)] at H; exact H
            clear H
            have H := H1
            clear H1
            have H' := Aside0.mk H
            clear H
            go_wp2_with (first | ((with_reducible refine gate_callee (f := 31) rfl ?_); refine goesL_ (some 15) rfl rfl Tryd.func31 (by kernel_rfl) rfl #[.string t153, .string t153] rfl (by (try simp only [List.map_toArray, List.map_cons, List.map_nil]); first | done | rfl | (simp only [List.length_drop, List.length_take]; rfl)) ?_; (with_reducible refine (dns_Under.calls t153 t153 false _ A8.out).mono ?_); rintro e w26 ⟨rfl, hb⟩; refine ⟨_, rfl, ?_⟩; have n0_ := Aside0.mk (below_step (by repeat (first | (with_reducible first | exact HB.out | apply below_alloc | apply pw_below_drewN | apply below_drew1) | exact HB.out)) hb); clear HB; have HB := n0_; clear n0_; (try clear hb); (try clear hb2); (try clear hk); (try clear hi)) | (go_at_call 31; (with_reducible refine (dns_Under.calls t153 t154 true _ A11.out).mono ?_); rintro e w27 ⟨rfl, hb⟩; have n0_ := Aside0.mk (below_step (by repeat (first | (with_reducible first | exact HB.out | apply below_alloc | apply pw_below_drewN | apply below_drew1) | exact HB.out)) hb); clear HB; have HB := n0_; clear n0_; (try clear hb); (try clear hb2); (try clear hk); (try clear hi)) | (go_at_call 31; (with_reducible refine (dns_Under.calls t154 t153 false _ A13.out).mono ?_); rintro e w28 ⟨rfl, hb⟩; have n0_ := Aside0.mk (below_step (by repeat (first | (with_reducible first | exact HB.out | apply below_alloc | apply pw_below_drewN | apply below_drew1) | exact HB.out)) hb); clear HB; have HB := n0_; clear n0_; (try clear hb); (try clear hb2); (try clear hk); (try clear hi)) | (go_at_call 31; (with_reducible refine (dns_Under.calls t154 t155 false _ A18.out).mono ?_); rintro e w29 ⟨rfl, hb⟩; have n0_ := Aside0.mk (below_step (by repeat (first | (with_reducible first | exact HB.out | apply below_alloc | apply pw_below_drewN | apply below_drew1) | exact HB.out)) hb); clear HB; have HB := n0_; clear n0_; (try clear hb); (try clear hb2); (try clear hk); (try clear hi)))
            go_meet
            case rel => exact ⟨_, (false), (by first | rfl | (simp; done) | (simp [*]; done)), H', ⟨by first | omega | exact Nat.le_refl _⟩, ⟨by repeat (first | (with_reducible first | exact HB.out | apply below_alloc | apply pw_below_drewN | apply below_drew1) | exact HB.out)⟩⟩
      · replace c12 := Bool.eq_false_iff.mpr c12
        subst c12
        have H1 : (tolllaw01_DnsGoes.j0 k t153 t154 false) = some r := by rw [if_neg (show ¬ (false = true) by decide)] at H; exact H
        clear H
        have H := H1
        clear H1
        have H' := Aside0.mk H
        clear H
        go_wp2_with (first | ((with_reducible refine gate_callee (f := 31) rfl ?_); refine goesL_ (some 15) rfl rfl Tryd.func31 (by kernel_rfl) rfl #[.string t153, .string t153] rfl (by (try simp only [List.map_toArray, List.map_cons, List.map_nil]); first | done | rfl | (simp only [List.length_drop, List.length_take]; rfl)) ?_; (with_reducible refine (dns_Under.calls t153 t153 false _ A8.out).mono ?_); rintro e w30 ⟨rfl, hb⟩; refine ⟨_, rfl, ?_⟩; have n0_ := Aside0.mk (below_step (by repeat (first | (with_reducible first | exact HB.out | apply below_alloc | apply pw_below_drewN | apply below_drew1) | exact HB.out)) hb); clear HB; have HB := n0_; clear n0_; (try clear hb); (try clear hb2); (try clear hk); (try clear hi)) | (go_at_call 31; (with_reducible refine (dns_Under.calls t153 t154 false _ A11.out).mono ?_); rintro e w31 ⟨rfl, hb⟩; have n0_ := Aside0.mk (below_step (by repeat (first | (with_reducible first | exact HB.out | apply below_alloc | apply pw_below_drewN | apply below_drew1) | exact HB.out)) hb); clear HB; have HB := n0_; clear n0_; (try clear hb); (try clear hb2); (try clear hk); (try clear hi)))
        go_meet
        case rel => exact ⟨_, (false), (by first | rfl | (simp; done) | (simp [*]; done)), H', ⟨by first | omega | exact Nat.le_refl _⟩, ⟨by repeat (first | (with_reducible first | exact HB.out | apply below_alloc | apply pw_below_drewN | apply below_drew1) | exact HB.out)⟩⟩
  case rest =>
    clear HC7
    try clear c1
    try clear p2
    try clear c3
    try clear c4
    try clear c9
    try clear c12
    try clear c14
    try clear c19
    try clear c30
    try clear c31
    obtain ⟨kq, x36_6, rfl, HA, HJ6, HB⟩ := hcut
    cases kq with
    | zero => exact absurd HA.out (by simp [tolllaw01_DnsGoes.j0])
    | succ kj6 =>
      have H := HA.out
      clear HA
      simp only [tolllaw01_DnsGoes.j0] at H
      by_cases c32 : x36_6 = true
      · subst c32
        have H1 : (some false) = some r := by rw [if_pos rfl] at H; exact H
        clear H
        have H := H1
        clear H1
        obtain rfl := Option.some.inj H
        go_wp2
        go_ret
        exact ⟨by first | rfl | (simp [errW_none, errW_some] <;> rfl) | (simp [*, errW_none, errW_some] <;> rfl), by repeat (first | (with_reducible first | exact HB.out | apply below_alloc | apply pw_below_drewN | apply below_drew1) | exact HB.out)⟩
      · replace c32 := Bool.eq_false_iff.mpr c32
        subst c32
        have H1 : ((dns_Name.f t153).bind fun t161 => (if t161 = true then ((dns_Label.f t154).bind fun t162 => (if t162 = true then (tolllaw01_DnsGoes.j1 kj6 t153 t154 (decide ((wrap64 ((t153.size : Int) + (t154.size : Int))) ≥ 60))) else (tolllaw01_DnsGoes.j1 kj6 t153 t154 true))) else (tolllaw01_DnsGoes.j1 kj6 t153 t154 true))) = some r := by rw [if_neg (show ¬ (false = true) by decide)] at H; exact H
        clear H
        have H := H1
        clear H1
        have HC33 := Aside0.mk H
        clear H
        go_upto_region 4 with (fail)
        go_cut [52] (fun v52 wc => ∃ (kq : Nat) (x52_32 : Bool), v52 = .bool x52_32 ∧ Aside0 (tolllaw01_DnsGoes.j1 kq t153 t154 x52_32 = some r) ∧ Aside0 (kq ≤ kj6) ∧ Aside0 (Below w.heap.size w wc))
        case first =>
          have H := HC33.out
          clear HC33
          replace H := Option.bind_eq_some_iff.mp H
          obtain ⟨t161, A340, H⟩ := H
          replace H : (if t161 = true then ((dns_Label.f t154).bind fun t162 => (if t162 = true then (tolllaw01_DnsGoes.j1 kj6 t153 t154 (decide ((wrap64 ((t153.size : Int) + (t154.size : Int))) ≥ 60))) else (tolllaw01_DnsGoes.j1 kj6 t153 t154 true))) else (tolllaw01_DnsGoes.j1 kj6 t153 t154 true)) = some r := H
          have A34 := Aside0.mk A340
          clear A340
          by_cases c35 : t161 = true
          · subst c35
            have H1 : ((dns_Label.f t154).bind fun t162 => (if t162 = true then (tolllaw01_DnsGoes.j1 kj6 t153 t154 (decide ((wrap64 ((t153.size : Int) + (t154.size : Int))) ≥ 60))) else (tolllaw01_DnsGoes.j1 kj6 t153 t154 true))) = some r := by rw [if_pos rfl] at H; exact H
            clear H
            have H := H1
            clear H1
            replace H := Option.bind_eq_some_iff.mp H
            obtain ⟨t162, A360, H⟩ := H
            replace H : (if t162 = true then (tolllaw01_DnsGoes.j1 kj6 t153 t154 (decide ((wrap64 ((t153.size : Int) + (t154.size : Int))) ≥ 60))) else (tolllaw01_DnsGoes.j1 kj6 t153 t154 true)) = some r := H
            have A36 := Aside0.mk A360
            clear A360
            by_cases c37 : t162 = true
            · subst c37
              have H1 : (tolllaw01_DnsGoes.j1 kj6 t153 t154 (decide ((wrap64 ((t153.size : Int) + (t154.size : Int))) ≥ 60))) = some r := by rw [if_pos rfl] at H; exact H
              clear H
              have H := H1
              clear H1
              have H' := Aside0.mk H
              clear H
              go_wp2_with (first | ((with_reducible refine gate_callee (f := 34) rfl ?_); refine goesL_ (some 38) rfl rfl Tryd.func34 (by kernel_rfl) rfl #[.string t153] rfl (by (try simp only [List.map_toArray, List.map_cons, List.map_nil]); first | done | rfl | (simp only [List.length_drop, List.length_take]; rfl)) ?_; (with_reducible refine (dns_Name.calls t153 true _ A34.out).mono ?_); rintro e w38 ⟨rfl, hb⟩; refine ⟨_, rfl, ?_⟩; have n0_ := Aside0.mk (below_step (by repeat (first | (with_reducible first | exact HB.out | apply below_alloc | apply pw_below_drewN | apply below_drew1) | exact HB.out)) hb); clear HB; have HB := n0_; clear n0_; (try clear hb); (try clear hb2); (try clear hk); (try clear hi)) | (go_at_call 35; (with_reducible refine (dns_Label.calls t154 true _ A36.out).mono ?_); rintro e w39 ⟨rfl, hb⟩; have n0_ := Aside0.mk (below_step (by repeat (first | (with_reducible first | exact HB.out | apply below_alloc | apply pw_below_drewN | apply below_drew1) | exact HB.out)) hb); clear HB; have HB := n0_; clear n0_; (try clear hb); (try clear hb2); (try clear hk); (try clear hi)))
              go_meet
              case rel => exact ⟨_, (decide ((wrap64 ((t153.size : Int) + (t154.size : Int))) ≥ 60)), (by first | rfl | (simp; done) | (simp [*]; done)), H', ⟨by have := HJ6.out; first | omega | exact Nat.le_refl _⟩, ⟨by repeat (first | (with_reducible first | exact HB.out | apply below_alloc | apply pw_below_drewN | apply below_drew1) | exact HB.out)⟩⟩
            · replace c37 := Bool.eq_false_iff.mpr c37
              subst c37
              have H1 : (tolllaw01_DnsGoes.j1 kj6 t153 t154 true) = some r := by rw [if_neg (show ¬ (false = true) by decide)] at H; exact H
              clear H
              have H := H1
              clear H1
              have H' := Aside0.mk H
              clear H
              go_wp2_with (first | ((with_reducible refine gate_callee (f := 34) rfl ?_); refine goesL_ (some 38) rfl rfl Tryd.func34 (by kernel_rfl) rfl #[.string t153] rfl (by (try simp only [List.map_toArray, List.map_cons, List.map_nil]); first | done | rfl | (simp only [List.length_drop, List.length_take]; rfl)) ?_; (with_reducible refine (dns_Name.calls t153 true _ A34.out).mono ?_); rintro e w40 ⟨rfl, hb⟩; refine ⟨_, rfl, ?_⟩; have n0_ := Aside0.mk (below_step (by repeat (first | (with_reducible first | exact HB.out | apply below_alloc | apply pw_below_drewN | apply below_drew1) | exact HB.out)) hb); clear HB; have HB := n0_; clear n0_; (try clear hb); (try clear hb2); (try clear hk); (try clear hi)) | (go_at_call 35; (with_reducible refine (dns_Label.calls t154 false _ A36.out).mono ?_); rintro e w41 ⟨rfl, hb⟩; have n0_ := Aside0.mk (below_step (by repeat (first | (with_reducible first | exact HB.out | apply below_alloc | apply pw_below_drewN | apply below_drew1) | exact HB.out)) hb); clear HB; have HB := n0_; clear n0_; (try clear hb); (try clear hb2); (try clear hk); (try clear hi)))
              go_meet
              case rel => exact ⟨_, (true), (by first | rfl | (simp; done) | (simp [*]; done)), H', ⟨by have := HJ6.out; first | omega | exact Nat.le_refl _⟩, ⟨by repeat (first | (with_reducible first | exact HB.out | apply below_alloc | apply pw_below_drewN | apply below_drew1) | exact HB.out)⟩⟩
          · replace c35 := Bool.eq_false_iff.mpr c35
            subst c35
            have H1 : (tolllaw01_DnsGoes.j1 kj6 t153 t154 true) = some r := by rw [if_neg (show ¬ (false = true) by decide)] at H; exact H
            clear H
            have H := H1
            clear H1
            have H' := Aside0.mk H
            clear H
            go_wp2_with (first | ((with_reducible refine gate_callee (f := 34) rfl ?_); refine goesL_ (some 38) rfl rfl Tryd.func34 (by kernel_rfl) rfl #[.string t153] rfl (by (try simp only [List.map_toArray, List.map_cons, List.map_nil]); first | done | rfl | (simp only [List.length_drop, List.length_take]; rfl)) ?_; (with_reducible refine (dns_Name.calls t153 false _ A34.out).mono ?_); rintro e w42 ⟨rfl, hb⟩; refine ⟨_, rfl, ?_⟩; have n0_ := Aside0.mk (below_step (by repeat (first | (with_reducible first | exact HB.out | apply below_alloc | apply pw_below_drewN | apply below_drew1) | exact HB.out)) hb); clear HB; have HB := n0_; clear n0_; (try clear hb); (try clear hb2); (try clear hk); (try clear hi)))
            go_meet
            case rel => exact ⟨_, (true), (by first | rfl | (simp; done) | (simp [*]; done)), H', ⟨by have := HJ6.out; first | omega | exact Nat.le_refl _⟩, ⟨by repeat (first | (with_reducible first | exact HB.out | apply below_alloc | apply pw_below_drewN | apply below_drew1) | exact HB.out)⟩⟩
        case rest =>
          clear HC33
          try clear c1
          try clear p2
          try clear c3
          try clear c4
          try clear p6
          try clear c9
          try clear c12
          try clear c14
          try clear c19
          try clear c30
          try clear c31
          try clear c32
          try clear c34
          try clear c35
          try clear c37
          try clear p2
          obtain ⟨kq, x52_32, rfl, HA, HJ32, HB⟩ := hcut
          cases kq with
          | zero => exact absurd HA.out (by simp [tolllaw01_DnsGoes.j1])
          | succ kj32 =>
            have H := HA.out
            clear HA
            simp only [tolllaw01_DnsGoes.j1] at H
            by_cases c43 : x52_32 = true
            · subst c43
              have H1 : ((tolllaw01_awake.f kj32).bind fun t163 => (some t163)) = some r := by rw [if_pos rfl] at H; exact H
              clear H
              have H := H1
              clear H1
              replace H := Option.bind_eq_some_iff.mp H
              obtain ⟨t163, A440, H⟩ := H
              replace H : (some t163) = some r := H
              have A44 := Aside0.mk A440
              clear A440
              obtain rfl := Option.some.inj H
              go_wp2_with (first | ((with_reducible refine gate_callee (f := 33) rfl ?_); refine goesL_ (some 53) rfl rfl Tryd.func33 (by kernel_rfl) rfl #[] rfl (by (try simp only [List.map_toArray, List.map_cons, List.map_nil]); first | done | rfl | (simp only [List.length_drop, List.length_take]; rfl)) ?_; (with_reducible refine (tolllaw01_awake.calls kj32  t163 _ A44.out).mono ?_); rintro e w45 ⟨rfl, hb⟩; refine ⟨_, rfl, ?_⟩; have n0_ := Aside0.mk (below_step (by repeat (first | (with_reducible first | exact HB.out | apply below_alloc | apply pw_below_drewN | apply below_drew1) | exact HB.out)) hb); clear HB; have HB := n0_; clear n0_; (try clear hb); (try clear hb2); (try clear hk); (try clear hi)))
              go_ret
              exact ⟨by first | rfl | (simp [errW_none, errW_some] <;> rfl) | (simp [*, errW_none, errW_some] <;> rfl), by repeat (first | (with_reducible first | exact HB.out | apply below_alloc | apply pw_below_drewN | apply below_drew1) | exact HB.out)⟩
            · replace c43 := Bool.eq_false_iff.mpr c43
              subst c43
              have H1 : (if t154.size + 1 ≤ 9223372036854775807 then (if (t154 ++ (⟨#[46]⟩ : ByteArray)).size + t153.size ≤ 9223372036854775807 then ((dns_Under.f ((t154 ++ (⟨#[46]⟩ : ByteArray)) ++ t153) t153).bind fun t164 => (if t164 = true then (if t154.size + t153.size ≤ 9223372036854775807 then ((dns_Under.f (t154 ++ t153) t153).bind fun t165 => (if t165 = true then (some false) else ((tolllaw01_awake.f kj32).bind fun t166 => (some t166)))) else (none)) else (some false))) else (none)) else (none)) = some r := by rw [if_neg (show ¬ (false = true) by decide)] at H; exact H
              clear H
              have H := H1
              clear H1
              by_cases c46 : t154.size + 1 ≤ 9223372036854775807
              · rw [if_pos c46] at H
                have c46b0 := eq_true c46
                have c46b1 : decide (t154.size + 1 ≤ 9223372036854775807) = true := decide_eq_true c46
                try have c46b2 : (9223372036854775807 < t154.size + 1) = False := eq_false (Nat.not_lt.2 c46)
                by_cases c47 : (t154 ++ (⟨#[46]⟩ : ByteArray)).size + t153.size ≤ 9223372036854775807
                · rw [if_pos c47] at H
                  have c47b0 := eq_true c47
                  have c47b1 : decide ((t154 ++ (⟨#[46]⟩ : ByteArray)).size + t153.size ≤ 9223372036854775807) = true := decide_eq_true c47
                  try have c47b2 : (9223372036854775807 < (t154 ++ (⟨#[46]⟩ : ByteArray)).size + t153.size) = False := eq_false (Nat.not_lt.2 c47)
                  (try (have c47b4 := c47b2; simp only [ByteArray.size_append, show ((⟨#[46]⟩ : ByteArray).size) = 1 from rfl] at c47b4))
                  replace H := Option.bind_eq_some_iff.mp H
                  obtain ⟨t164, A480, H⟩ := H
                  replace H : (if t164 = true then (if t154.size + t153.size ≤ 9223372036854775807 then ((dns_Under.f (t154 ++ t153) t153).bind fun t165 => (if t165 = true then (some false) else ((tolllaw01_awake.f kj32).bind fun t166 => (some t166)))) else (none)) else (some false)) = some r := H
                  have A48 := Aside0.mk A480
                  clear A480
                  by_cases c49 : t164 = true
                  · subst c49
                    have H1 : (if t154.size + t153.size ≤ 9223372036854775807 then ((dns_Under.f (t154 ++ t153) t153).bind fun t165 => (if t165 = true then (some false) else ((tolllaw01_awake.f kj32).bind fun t166 => (some t166)))) else (none)) = some r := by rw [if_pos rfl] at H; exact H
                    clear H
                    have H := H1
                    clear H1
                    by_cases c50 : t154.size + t153.size ≤ 9223372036854775807
                    · rw [if_pos c50] at H
                      have c50b0 := eq_true c50
                      have c50b1 : decide (t154.size + t153.size ≤ 9223372036854775807) = true := decide_eq_true c50
                      try have c50b2 : (9223372036854775807 < t154.size + t153.size) = False := eq_false (Nat.not_lt.2 c50)
                      replace H := Option.bind_eq_some_iff.mp H
                      obtain ⟨t165, A510, H⟩ := H
                      replace H : (if t165 = true then (some false) else ((tolllaw01_awake.f kj32).bind fun t166 => (some t166))) = some r := H
                      have A51 := Aside0.mk A510
                      clear A510
                      by_cases c52 : t165 = true
                      · subst c52
                        have H1 : (some false) = some r := by rw [if_pos rfl] at H; exact H
                        clear H
                        have H := H1
                        clear H1
                        obtain rfl := Option.some.inj H
                        go_wp2_with (first | ((with_reducible refine gate_callee (f := 31) rfl ?_); refine goesL_ (some 59) rfl rfl Tryd.func31 (by kernel_rfl) rfl #[.string ((t154 ++ (⟨#[46]⟩ : ByteArray)) ++ t153), .string t153] rfl (by (try simp only [List.map_toArray, List.map_cons, List.map_nil]); first | done | rfl | (simp only [List.length_drop, List.length_take]; rfl)) ?_; (with_reducible refine (dns_Under.calls ((t154 ++ (⟨#[46]⟩ : ByteArray)) ++ t153) t153 true _ A48.out).mono ?_); rintro e w53 ⟨rfl, hb⟩; refine ⟨_, rfl, ?_⟩; have n0_ := Aside0.mk (below_step (by repeat (first | (with_reducible first | exact HB.out | apply below_alloc | apply pw_below_drewN | apply below_drew1) | exact HB.out)) hb); clear HB; have HB := n0_; clear n0_; (try clear hb); (try clear hb2); (try clear hk); (try clear hi)) | (go_at_call 31; (with_reducible refine (dns_Under.calls (t154 ++ t153) t153 true _ A51.out).mono ?_); rintro e w54 ⟨rfl, hb⟩; have n0_ := Aside0.mk (below_step (by repeat (first | (with_reducible first | exact HB.out | apply below_alloc | apply pw_below_drewN | apply below_drew1) | exact HB.out)) hb); clear HB; have HB := n0_; clear n0_; (try clear hb); (try clear hb2); (try clear hk); (try clear hi)))
                        go_ret
                        exact ⟨by first | rfl | (simp [errW_none, errW_some] <;> rfl) | (simp [*, errW_none, errW_some] <;> rfl), by repeat (first | (with_reducible first | exact HB.out | apply below_alloc | apply pw_below_drewN | apply below_drew1) | exact HB.out)⟩
                      · replace c52 := Bool.eq_false_iff.mpr c52
                        subst c52
                        have H1 : ((tolllaw01_awake.f kj32).bind fun t166 => (some t166)) = some r := by rw [if_neg (show ¬ (false = true) by decide)] at H; exact H
                        clear H
                        have H := H1
                        clear H1
                        replace H := Option.bind_eq_some_iff.mp H
                        obtain ⟨t166, A550, H⟩ := H
                        replace H : (some t166) = some r := H
                        have A55 := Aside0.mk A550
                        clear A550
                        obtain rfl := Option.some.inj H
                        go_wp2_with (first | ((with_reducible refine gate_callee (f := 31) rfl ?_); refine goesL_ (some 59) rfl rfl Tryd.func31 (by kernel_rfl) rfl #[.string ((t154 ++ (⟨#[46]⟩ : ByteArray)) ++ t153), .string t153] rfl (by (try simp only [List.map_toArray, List.map_cons, List.map_nil]); first | done | rfl | (simp only [List.length_drop, List.length_take]; rfl)) ?_; (with_reducible refine (dns_Under.calls ((t154 ++ (⟨#[46]⟩ : ByteArray)) ++ t153) t153 true _ A48.out).mono ?_); rintro e w56 ⟨rfl, hb⟩; refine ⟨_, rfl, ?_⟩; have n0_ := Aside0.mk (below_step (by repeat (first | (with_reducible first | exact HB.out | apply below_alloc | apply pw_below_drewN | apply below_drew1) | exact HB.out)) hb); clear HB; have HB := n0_; clear n0_; (try clear hb); (try clear hb2); (try clear hk); (try clear hi)) | (go_at_call 31; (with_reducible refine (dns_Under.calls (t154 ++ t153) t153 false _ A51.out).mono ?_); rintro e w57 ⟨rfl, hb⟩; have n0_ := Aside0.mk (below_step (by repeat (first | (with_reducible first | exact HB.out | apply below_alloc | apply pw_below_drewN | apply below_drew1) | exact HB.out)) hb); clear HB; have HB := n0_; clear n0_; (try clear hb); (try clear hb2); (try clear hk); (try clear hi)) | (go_at_call 33; (with_reducible refine (tolllaw01_awake.calls kj32  t166 _ A55.out).mono ?_); rintro e w58 ⟨rfl, hb⟩; have n0_ := Aside0.mk (below_step (by repeat (first | (with_reducible first | exact HB.out | apply below_alloc | apply pw_below_drewN | apply below_drew1) | exact HB.out)) hb); clear HB; have HB := n0_; clear n0_; (try clear hb); (try clear hb2); (try clear hk); (try clear hi)))
                        go_ret
                        exact ⟨by first | rfl | (simp [errW_none, errW_some] <;> rfl) | (simp [*, errW_none, errW_some] <;> rfl), by repeat (first | (with_reducible first | exact HB.out | apply below_alloc | apply pw_below_drewN | apply below_drew1) | exact HB.out)⟩
                    · rw [if_neg c50] at H
                      exact absurd H (by simp)
                  · replace c49 := Bool.eq_false_iff.mpr c49
                    subst c49
                    have H1 : (some false) = some r := by rw [if_neg (show ¬ (false = true) by decide)] at H; exact H
                    clear H
                    have H := H1
                    clear H1
                    obtain rfl := Option.some.inj H
                    go_wp2_with (first | ((with_reducible refine gate_callee (f := 31) rfl ?_); refine goesL_ (some 59) rfl rfl Tryd.func31 (by kernel_rfl) rfl #[.string ((t154 ++ (⟨#[46]⟩ : ByteArray)) ++ t153), .string t153] rfl (by (try simp only [List.map_toArray, List.map_cons, List.map_nil]); first | done | rfl | (simp only [List.length_drop, List.length_take]; rfl)) ?_; (with_reducible refine (dns_Under.calls ((t154 ++ (⟨#[46]⟩ : ByteArray)) ++ t153) t153 false _ A48.out).mono ?_); rintro e w59 ⟨rfl, hb⟩; refine ⟨_, rfl, ?_⟩; have n0_ := Aside0.mk (below_step (by repeat (first | (with_reducible first | exact HB.out | apply below_alloc | apply pw_below_drewN | apply below_drew1) | exact HB.out)) hb); clear HB; have HB := n0_; clear n0_; (try clear hb); (try clear hb2); (try clear hk); (try clear hi)))
                    go_ret
                    exact ⟨by first | rfl | (simp [errW_none, errW_some] <;> rfl) | (simp [*, errW_none, errW_some] <;> rfl), by repeat (first | (with_reducible first | exact HB.out | apply below_alloc | apply pw_below_drewN | apply below_drew1) | exact HB.out)⟩
                · rw [if_neg c47] at H
                  exact absurd H (by simp)
              · rw [if_neg c46] at H
                exact absurd H (by simp)

/-- THE ONE PURE STATEMENT of tolllaw01_DnsGoes: yours. -/
def tolllaw01_DnsGoes.Pure : Prop := ∀ (a0 : ByteArray) (a1 : ByteArray) (a2 : ByteArray), a0.size ≤ 140737488351232 → a1.size ≤ 140737488351232 → a2.size ≤ 140737488351232 → ∃ k, tolllaw01_DnsGoes.f k a0 a1 a2 = some true
theorem tolllaw01_DnsGoes.walk (P : tolllaw01_DnsGoes.Pure) (a0 : ByteArray) (a1 : ByteArray) (a2 : ByteArray) (w : World) (w0 : a0.size ≤ 140737488351232) (w1 : a1.size ≤ 140737488351232) (w2 : a2.size ≤ 140737488351232) :
    Calls Tryd.prog 4 #[.string a0, .string a1, .string a2] w fun e w' => e = .returned (.bool true) ∧ Below w.heap.size w w' := by
  obtain ⟨k, h⟩ := P a0 a1 a2 w0 w1 w2
  refine (tolllaw01_DnsGoes.calls k a0 a1 a2 true w h).mono ?_
  rintro e w' ⟨rfl, hd⟩
  exact ⟨rfl, hd⟩

/-! ### tolllaw01_DnsLabels: function 5 -/
def tolllaw01_DnsLabels.l0 : Nat → ByteArray → ByteArray → List ByteArray → ByteArray → Int → Option (Bool)
  | 0, _, _, _, _, _ => none
  | k + 1, x0, x1, x5, x6, x7 => if x7 < (x5.length : Int) then (if 0 ≤ x7 then ((dns_Label.f (rdOf ByteArray.empty x5 x7)).bind fun t179 => (if t179 = true then (if x7 > 0 then (if x6.size + 1 ≤ 9223372036854775807 then (if (x6 ++ (⟨#[46]⟩ : ByteArray)).size + (rdOf ByteArray.empty x5 x7).size ≤ 9223372036854775807 then (tolllaw01_DnsLabels.l0 k x0 x1 x5 ((x6 ++ (⟨#[46]⟩ : ByteArray)) ++ (rdOf ByteArray.empty x5 x7)) (wrap64 (x7 + 1))) else (none)) else (none)) else (if x6.size + (rdOf ByteArray.empty x5 x7).size ≤ 9223372036854775807 then (tolllaw01_DnsLabels.l0 k x0 x1 x5 (x6 ++ (rdOf ByteArray.empty x5 x7)) (wrap64 (x7 + 1))) else (none))) else (some false))) else (none)) else (if x0.size + 1 ≤ 9223372036854775807 then (if (x0 ++ (⟨#[46]⟩ : ByteArray)).size + x1.size ≤ 9223372036854775807 then (if x6.toList = x0.toList then ((dns_Name.f ((x0 ++ (⟨#[46]⟩ : ByteArray)) ++ x1)).bind fun t174 => ((dns_Name.f x1).bind fun t175 => (if t175 = true then (if (t174 == (decide ((((x0 ++ (⟨#[46]⟩ : ByteArray)) ++ x1).size : Int) ≤ 60))) = true then ((tolllaw01_awake.f k).bind fun t176 => (some t176)) else (some false)) else (if (t174 == false) = true then ((tolllaw01_awake.f k).bind fun t177 => (some t177)) else (some false))))) else (some false)) else (none)) else (none))
def tolllaw01_DnsLabels.f (k : Nat) (a0 : ByteArray) (a1 : ByteArray) : Option (Bool) := (tolllaw01_Few.f a0).bind fun t167 => ((tolllaw01_Few.f a1).bind fun t168 => ((dns_Labels.f t167).bind fun t169 => ((dns_Name.f t167).bind fun t172 => (if t172 = true then (tolllaw01_DnsLabels.l0 k t167 t168 t169 (⟨#[]⟩ : ByteArray) 0) else (if (t169.length : Int) = 0 then ((tolllaw01_awake.f k).bind fun t173 => (some t173)) else (some false))))))
theorem tolllaw01_DnsLabels.mono_l : ∀ k, (∀ y0 y1 y2 y3 y4, LeO (tolllaw01_DnsLabels.l0 k y0 y1 y2 y3 y4) (tolllaw01_DnsLabels.l0 (k + 1) y0 y1 y2 y3 y4))
  | 0 => fun _ _ _ _ _ r h => by simp [tolllaw01_DnsLabels.l0] at h
  | k + 1 => by
    have ih0 := tolllaw01_DnsLabels.mono_l k
    · intro y0 y1 y2 y3 y4
      unfold tolllaw01_DnsLabels.l0
      repeat' first
      | (with_reducible exact ih0 _ _ _ _ _)
      | (with_reducible exact tolllaw01_awake.mono _)
      | (with_reducible exact LeO.refl _)
      | (with_reducible exact LeO.none _)
      | (with_reducible refine LeO.ite ?_ ?_)
      | (with_reducible refine LeO.bind ?_ (fun _ => ?_))
      | exact ih0 _ _ _ _ _
      | exact tolllaw01_awake.mono _
      | exact LeO.none _
      | refine LeO.ite ?_ ?_
      | refine LeO.bind ?_ (fun _ => ?_)
theorem tolllaw01_DnsLabels.mono : ∀ a0 a1 k, LeO (tolllaw01_DnsLabels.f k a0 a1) (tolllaw01_DnsLabels.f (k + 1) a0 a1) := by
  intro a0 a1 k
  have ih0 := tolllaw01_DnsLabels.mono_l k
  unfold tolllaw01_DnsLabels.f
  repeat' first
      | (with_reducible exact ih0 _ _ _ _ _)
      | (with_reducible exact tolllaw01_awake.mono _)
      | (with_reducible exact LeO.refl _)
      | (with_reducible exact LeO.none _)
      | (with_reducible refine LeO.ite ?_ ?_)
      | (with_reducible refine LeO.bind ?_ (fun _ => ?_))
      | exact ih0 _ _ _ _ _
      | exact tolllaw01_awake.mono _
      | exact LeO.none _
      | refine LeO.ite ?_ ?_
      | refine LeO.bind ?_ (fun _ => ?_)
set_option maxHeartbeats 8000000 in
set_option maxRecDepth 100000 in
theorem tolllaw01_DnsLabels.calls (k : Nat) (a0 : ByteArray) (a1 : ByteArray) (r : Bool) (w : World) (h : tolllaw01_DnsLabels.f k a0 a1 = some r) :
    Calls Tryd.prog 5 #[.string a0, .string a1] w fun e w' => e = .returned (.bool r) ∧ Below w.heap.size w w' := by
  have HB := Aside0.mk (Below.refl w.heap.size w)
  have H : ((tolllaw01_Few.f a0).bind fun t167 => ((tolllaw01_Few.f a1).bind fun t168 => ((dns_Labels.f t167).bind fun t169 => ((dns_Name.f t167).bind fun t172 => (if t172 = true then (tolllaw01_DnsLabels.l0 k t167 t168 t169 (⟨#[]⟩ : ByteArray) 0) else (if (t169.length : Int) = 0 then ((tolllaw01_awake.f k).bind fun t173 => (some t173)) else (some false))))))) = some r := h
  clear h
  replace H := Option.bind_eq_some_iff.mp H
  obtain ⟨t167, A30, H⟩ := H
  replace H : ((tolllaw01_Few.f a1).bind fun t168 => ((dns_Labels.f t167).bind fun t169 => ((dns_Name.f t167).bind fun t172 => (if t172 = true then (tolllaw01_DnsLabels.l0 k t167 t168 t169 (⟨#[]⟩ : ByteArray) 0) else (if (t169.length : Int) = 0 then ((tolllaw01_awake.f k).bind fun t173 => (some t173)) else (some false)))))) = some r := H
  have A3 := Aside0.mk A30
  clear A30
  replace H := Option.bind_eq_some_iff.mp H
  obtain ⟨t168, A40, H⟩ := H
  replace H : ((dns_Labels.f t167).bind fun t169 => ((dns_Name.f t167).bind fun t172 => (if t172 = true then (tolllaw01_DnsLabels.l0 k t167 t168 t169 (⟨#[]⟩ : ByteArray) 0) else (if (t169.length : Int) = 0 then ((tolllaw01_awake.f k).bind fun t173 => (some t173)) else (some false))))) = some r := H
  have A4 := Aside0.mk A40
  clear A40
  replace H := Option.bind_eq_some_iff.mp H
  obtain ⟨t169, A50, H⟩ := H
  replace H : ((dns_Name.f t167).bind fun t172 => (if t172 = true then (tolllaw01_DnsLabels.l0 k t167 t168 t169 (⟨#[]⟩ : ByteArray) 0) else (if (t169.length : Int) = 0 then ((tolllaw01_awake.f k).bind fun t173 => (some t173)) else (some false)))) = some r := H
  have A5 := Aside0.mk A50
  clear A50
  replace H := Option.bind_eq_some_iff.mp H
  obtain ⟨t172, A60, H⟩ := H
  replace H : (if t172 = true then (tolllaw01_DnsLabels.l0 k t167 t168 t169 (⟨#[]⟩ : ByteArray) 0) else (if (t169.length : Int) = 0 then ((tolllaw01_awake.f k).bind fun t173 => (some t173)) else (some false))) = some r := H
  have A6 := Aside0.mk A60
  clear A60
  by_cases c7 : t172 = true
  · subst c7
    have H1 : (tolllaw01_DnsLabels.l0 k t167 t168 t169 (⟨#[]⟩ : ByteArray) 0) = some r := by rw [if_pos rfl] at H; exact H
    clear H
    have H := H1
    clear H1
    have H' := Aside0.mk H
    clear H
    go_enter Tryd.func5, Tryd.ntmps5
    go_wp2_with (first | ((with_reducible refine gate_callee (f := 30) rfl ?_); refine goesL_ (some 10) rfl rfl Tryd.func30 (by kernel_rfl) rfl #[.string a0] rfl (by (try simp only [List.map_toArray, List.map_cons, List.map_nil]); first | done | rfl | (simp only [List.length_drop, List.length_take]; rfl)) ?_; (with_reducible refine (tolllaw01_Few.calls a0 t167 _ A3.out).mono ?_); rintro e w' ⟨rfl, ⟨nd, rfl⟩⟩; refine ⟨_, rfl, ?_⟩) | ((with_reducible refine gate_callee (f := 30) rfl ?_); refine goesL_ (some 12) rfl rfl Tryd.func30 (by kernel_rfl) rfl #[.string a1] rfl (by (try simp only [List.map_toArray, List.map_cons, List.map_nil]); first | done | rfl | (simp only [List.length_drop, List.length_take]; rfl)) ?_; (with_reducible refine (tolllaw01_Few.calls a1 t168 _ A4.out).mono ?_); rintro e w' ⟨rfl, ⟨nd, rfl⟩⟩; refine ⟨_, rfl, ?_⟩) | ((with_reducible refine gate_callee (f := 36) rfl ?_); refine goesL_ (some 14) rfl rfl Tryd.func36 (by kernel_rfl) rfl #[.string t167] rfl (by (try simp only [List.map_toArray, List.map_cons, List.map_nil]); first | done | rfl | (simp only [List.length_drop, List.length_take]; rfl)) ?_; (with_reducible refine (dns_Labels.calls t167 t169 _ A5.out).mono ?_); rintro e w8 ⟨v170, rfl, ho0, hb⟩; refine ⟨_, rfl, ?_⟩; have n0_ := Aside0.mk (Kd.R_lower ho0 (below_size (by repeat (first | (with_reducible first | exact HB.out | apply below_alloc | apply pw_below_drewN | apply below_drew1) | exact HB.out)))); have n1_ := Aside0.mk (below_step (by repeat (first | (with_reducible first | exact HB.out | apply below_alloc | apply pw_below_drewN | apply below_drew1) | exact HB.out)) hb); clear HB; have HO171 := n0_; have HB := n1_; clear n0_ n1_; (try clear hb); (try clear hb2); (try clear hk); (try clear hi); (try clear ho0)) | ((with_reducible refine gate_callee (f := 34) rfl ?_); refine goesL_ (some 16) rfl rfl Tryd.func34 (by kernel_rfl) rfl #[.string t167] rfl (by (try simp only [List.map_toArray, List.map_cons, List.map_nil]); first | done | rfl | (simp only [List.length_drop, List.length_take]; rfl)) ?_; (with_reducible refine (dns_Name.calls t167 true _ A6.out).mono ?_); rintro e w9 ⟨rfl, hb⟩; refine ⟨_, rfl, ?_⟩; have n0_ := Aside0.mk (Kd.R_below (by (with_reducible repeat (first | apply Kd.R_alloc | apply Kd.R_drewN | apply Kd.R_drew)); exact HO171.out) hb); have n1_ := Aside0.mk (below_step (by repeat (first | (with_reducible first | exact HB.out | apply below_alloc | apply pw_below_drewN | apply below_drew1) | exact HB.out)) hb); clear HO171; clear HB; have HO171 := n0_; have HB := n1_; clear n0_ n1_; (try clear hb); (try clear hb2); (try clear hk); (try clear hi)))
    go_loopg [6, 7] k (fun kq v6 v7 w' => ∃ (x6_1 : ByteArray) (x7_1 : Int), v6 = .string x6_1 ∧ v7 = .int .i64 x7_1 ∧ Aside0 (tolllaw01_DnsLabels.l0 kq t167 t168 t169 x6_1 x7_1 = some r) ∧ Aside0 (kq ≤ k) ∧ Aside0 (Kd.R Kd.string 9 w' w.heap.size (fun _ => True) v170 t169) ∧ Aside0 (Below w.heap.size w w'))
    case atStart => exact ⟨((⟨#[]⟩ : ByteArray)), (0), (by first | rfl | (simp; done) | (simp [*]; done)), (by first | rfl | (simp; done) | (simp [*]; done)), H', ⟨Nat.le_refl _⟩, ⟨by (with_reducible repeat (first | apply Kd.R_alloc | apply Kd.R_drewN | apply Kd.R_drew)); exact HO171.out⟩, ⟨by repeat (first | (with_reducible first | exact HB.out | apply below_alloc | apply pw_below_drewN | apply below_drew1) | exact HB.out)⟩⟩
    case round =>
      clear H'
      try clear p2
      try clear c3
      try clear c5
      try clear c7
      obtain ⟨x6_1, x7_1, rfl, rfl, HA, HK1, HO_5, HB⟩ := hrel
      cases gk with
      | zero => exact absurd HA.out (by simp [tolllaw01_DnsLabels.l0])
      | succ k1 =>
        have H := HA.out
        clear HA
        simp only [tolllaw01_DnsLabels.l0] at H
        by_cases c10 : x7_1 < (t169.length : Int)
        · rw [if_pos c10] at H
          have c10b0 : decide (x7_1 < (t169.length : Int)) = true := decide_eq_true c10
          clear c10
          by_cases c11 : 0 ≤ x7_1
          · rw [if_pos c11] at H
            have c11b0 : decide (0 ≤ x7_1) = true := decide_eq_true c11
            clear c11
            replace H := Option.bind_eq_some_iff.mp H
            obtain ⟨t179, A120, H⟩ := H
            replace H : (if t179 = true then (if x7_1 > 0 then (if x6_1.size + 1 ≤ 9223372036854775807 then (if (x6_1 ++ (⟨#[46]⟩ : ByteArray)).size + (rdOf ByteArray.empty t169 x7_1).size ≤ 9223372036854775807 then (tolllaw01_DnsLabels.l0 k1 t167 t168 t169 ((x6_1 ++ (⟨#[46]⟩ : ByteArray)) ++ (rdOf ByteArray.empty t169 x7_1)) (wrap64 (x7_1 + 1))) else (none)) else (none)) else (if x6_1.size + (rdOf ByteArray.empty t169 x7_1).size ≤ 9223372036854775807 then (tolllaw01_DnsLabels.l0 k1 t167 t168 t169 (x6_1 ++ (rdOf ByteArray.empty t169 x7_1)) (wrap64 (x7_1 + 1))) else (none))) else (some false)) = some r := H
            have A12 := Aside0.mk A120
            clear A120
            by_cases c13 : t179 = true
            · subst c13
              have H1 : (if x7_1 > 0 then (if x6_1.size + 1 ≤ 9223372036854775807 then (if (x6_1 ++ (⟨#[46]⟩ : ByteArray)).size + (rdOf ByteArray.empty t169 x7_1).size ≤ 9223372036854775807 then (tolllaw01_DnsLabels.l0 k1 t167 t168 t169 ((x6_1 ++ (⟨#[46]⟩ : ByteArray)) ++ (rdOf ByteArray.empty t169 x7_1)) (wrap64 (x7_1 + 1))) else (none)) else (none)) else (if x6_1.size + (rdOf ByteArray.empty t169 x7_1).size ≤ 9223372036854775807 then (tolllaw01_DnsLabels.l0 k1 t167 t168 t169 (x6_1 ++ (rdOf ByteArray.empty t169 x7_1)) (wrap64 (x7_1 + 1))) else (none))) = some r := by rw [if_pos rfl] at H; exact H
              clear H
              have H := H1
              clear H1
              by_cases c14 : x7_1 > 0
              · rw [if_pos c14] at H
                have c14b0 : decide (0 < x7_1) = true := decide_eq_true c14
                clear c14
                by_cases c15 : x6_1.size + 1 ≤ 9223372036854775807
                · rw [if_pos c15] at H
                  have c15b0 := eq_true c15
                  have c15b1 : decide (x6_1.size + 1 ≤ 9223372036854775807) = true := decide_eq_true c15
                  try have c15b2 : (9223372036854775807 < x6_1.size + 1) = False := eq_false (Nat.not_lt.2 c15)
                  by_cases c16 : (x6_1 ++ (⟨#[46]⟩ : ByteArray)).size + (rdOf ByteArray.empty t169 x7_1).size ≤ 9223372036854775807
                  · rw [if_pos c16] at H
                    have c16b0 := eq_true c16
                    have c16b1 : decide ((x6_1 ++ (⟨#[46]⟩ : ByteArray)).size + (rdOf ByteArray.empty t169 x7_1).size ≤ 9223372036854775807) = true := decide_eq_true c16
                    try have c16b2 : (9223372036854775807 < (x6_1 ++ (⟨#[46]⟩ : ByteArray)).size + (rdOf ByteArray.empty t169 x7_1).size) = False := eq_false (Nat.not_lt.2 c16)
                    (try (have c16b4 := c16b2; simp only [ByteArray.size_append, show ((⟨#[46]⟩ : ByteArray).size) = 1 from rfl] at c16b4))
                    have H' := Aside0.mk H
                    clear H
                    obtain ⟨Ao17, co17, eo17⟩ := Kd.R_slice HO_5.out
                    subst eo17
                    have p178 : 0 ≤ (x7_1 : Int) := of_decide_eq_true (by first | (with_reducible assumption) | assumption)
                    have q178 : x7_1 < (t169.length : Int) := of_decide_eq_true (by first | (with_reducible assumption) | assumption)
                    obtain ⟨ad178, e178, hx178_0⟩ := Kd.at_string (Kd.R_reads' HO_5.out).2.2 x7_1 p178 q178
                    cases e178
                    replace p178 := eq_true p178
                    replace q178 := eq_true q178
                    go_wp2_with (first | ((with_reducible refine gate_callee (f := 35) rfl ?_); refine goesL_ (some 34) rfl rfl Tryd.func35 (by kernel_rfl) rfl #[.string (rdOf ByteArray.empty t169 x7_1)] rfl (by (try simp only [List.map_toArray, List.map_cons, List.map_nil]); first | done | rfl | (simp only [List.length_drop, List.length_take]; rfl)) ?_; (with_reducible refine (dns_Label.calls (rdOf ByteArray.empty t169 x7_1) true _ A12.out).mono ?_); rintro e w18 ⟨rfl, hb⟩; refine ⟨_, rfl, ?_⟩; have n0_ := Aside0.mk (Kd.R_below (by (with_reducible repeat (first | apply Kd.R_alloc | apply Kd.R_drewN | apply Kd.R_drew)); exact HO_5.out) hb); have n1_ := Aside0.mk (below_step (by repeat (first | (with_reducible first | exact HB.out | apply below_alloc | apply pw_below_drewN | apply below_drew1) | exact HB.out)) hb); clear HO_5; clear HB; have HO_5 := n0_; have HB := n1_; clear n0_ n1_; (try clear hb); (try clear hb2); (try clear hk); (try clear hi); have p180 : 0 ≤ (x7_1 : Int) := of_decide_eq_true (by first | (with_reducible assumption) | assumption); have q180 : x7_1 < (t169.length : Int) := of_decide_eq_true (by first | (with_reducible assumption) | assumption); obtain ⟨ad180, e180, hx180_0⟩ := Kd.at_string (Kd.R_reads' HO_5.out).2.2 x7_1 p180 q180; obtain rfl : ad178 = ad180 := (by injection e180); replace p180 := eq_true p180; replace q180 := eq_true q180))
                    go_roundg k1
                    case measure => have := HK1.out; omega
                    case rel => exact ⟨((x6_1 ++ (⟨#[46]⟩ : ByteArray)) ++ (rdOf ByteArray.empty t169 x7_1)), (wrap64 (x7_1 + 1)), (by first | rfl | (simp; done) | (simp [*]; done)), (by first | rfl | (simp; done) | (simp [*]; done)), H', ⟨by have := HK1.out; omega⟩, ⟨by (with_reducible repeat (first | apply Kd.R_alloc | apply Kd.R_drewN | apply Kd.R_drew)); exact HO_5.out⟩, ⟨by repeat (first | (with_reducible first | exact HB.out | apply below_alloc | apply pw_below_drewN | apply below_drew1) | exact HB.out)⟩⟩
                  · rw [if_neg c16] at H
                    exact absurd H (by simp)
                · rw [if_neg c15] at H
                  exact absurd H (by simp)
              · rw [if_neg c14] at H
                have c14b0 : decide (0 < x7_1) = false := decide_eq_false c14
                clear c14
                by_cases c19 : x6_1.size + (rdOf ByteArray.empty t169 x7_1).size ≤ 9223372036854775807
                · rw [if_pos c19] at H
                  have c19b0 := eq_true c19
                  have c19b1 : decide (x6_1.size + (rdOf ByteArray.empty t169 x7_1).size ≤ 9223372036854775807) = true := decide_eq_true c19
                  try have c19b2 : (9223372036854775807 < x6_1.size + (rdOf ByteArray.empty t169 x7_1).size) = False := eq_false (Nat.not_lt.2 c19)
                  have H' := Aside0.mk H
                  clear H
                  obtain ⟨Ao20, co20, eo20⟩ := Kd.R_slice HO_5.out
                  subst eo20
                  have p178 : 0 ≤ (x7_1 : Int) := of_decide_eq_true (by first | (with_reducible assumption) | assumption)
                  have q178 : x7_1 < (t169.length : Int) := of_decide_eq_true (by first | (with_reducible assumption) | assumption)
                  obtain ⟨ad178, e178, hx178_0⟩ := Kd.at_string (Kd.R_reads' HO_5.out).2.2 x7_1 p178 q178
                  cases e178
                  replace p178 := eq_true p178
                  replace q178 := eq_true q178
                  go_wp2_with (first | ((with_reducible refine gate_callee (f := 35) rfl ?_); refine goesL_ (some 34) rfl rfl Tryd.func35 (by kernel_rfl) rfl #[.string (rdOf ByteArray.empty t169 x7_1)] rfl (by (try simp only [List.map_toArray, List.map_cons, List.map_nil]); first | done | rfl | (simp only [List.length_drop, List.length_take]; rfl)) ?_; (with_reducible refine (dns_Label.calls (rdOf ByteArray.empty t169 x7_1) true _ A12.out).mono ?_); rintro e w21 ⟨rfl, hb⟩; refine ⟨_, rfl, ?_⟩; have n0_ := Aside0.mk (Kd.R_below (by (with_reducible repeat (first | apply Kd.R_alloc | apply Kd.R_drewN | apply Kd.R_drew)); exact HO_5.out) hb); have n1_ := Aside0.mk (below_step (by repeat (first | (with_reducible first | exact HB.out | apply below_alloc | apply pw_below_drewN | apply below_drew1) | exact HB.out)) hb); clear HO_5; clear HB; have HO_5 := n0_; have HB := n1_; clear n0_ n1_; (try clear hb); (try clear hb2); (try clear hk); (try clear hi); have p181 : 0 ≤ (x7_1 : Int) := of_decide_eq_true (by first | (with_reducible assumption) | assumption); have q181 : x7_1 < (t169.length : Int) := of_decide_eq_true (by first | (with_reducible assumption) | assumption); obtain ⟨ad181, e181, hx181_0⟩ := Kd.at_string (Kd.R_reads' HO_5.out).2.2 x7_1 p181 q181; obtain rfl : ad178 = ad181 := (by injection e181); replace p181 := eq_true p181; replace q181 := eq_true q181))
                  go_roundg k1
                  case measure => have := HK1.out; omega
                  case rel => exact ⟨(x6_1 ++ (rdOf ByteArray.empty t169 x7_1)), (wrap64 (x7_1 + 1)), (by first | rfl | (simp; done) | (simp [*]; done)), (by first | rfl | (simp; done) | (simp [*]; done)), H', ⟨by have := HK1.out; omega⟩, ⟨by (with_reducible repeat (first | apply Kd.R_alloc | apply Kd.R_drewN | apply Kd.R_drew)); exact HO_5.out⟩, ⟨by repeat (first | (with_reducible first | exact HB.out | apply below_alloc | apply pw_below_drewN | apply below_drew1) | exact HB.out)⟩⟩
                · rw [if_neg c19] at H
                  exact absurd H (by simp)
            · replace c13 := Bool.eq_false_iff.mpr c13
              subst c13
              have H1 : (some false) = some r := by rw [if_neg (show ¬ (false = true) by decide)] at H; exact H
              clear H
              have H := H1
              clear H1
              obtain rfl := Option.some.inj H
              obtain ⟨Ao22, co22, eo22⟩ := Kd.R_slice HO_5.out
              subst eo22
              have p178 : 0 ≤ (x7_1 : Int) := of_decide_eq_true (by first | (with_reducible assumption) | assumption)
              have q178 : x7_1 < (t169.length : Int) := of_decide_eq_true (by first | (with_reducible assumption) | assumption)
              obtain ⟨ad178, e178, hx178_0⟩ := Kd.at_string (Kd.R_reads' HO_5.out).2.2 x7_1 p178 q178
              cases e178
              replace p178 := eq_true p178
              replace q178 := eq_true q178
              go_wp2_with (first | ((with_reducible refine gate_callee (f := 35) rfl ?_); refine goesL_ (some 34) rfl rfl Tryd.func35 (by kernel_rfl) rfl #[.string (rdOf ByteArray.empty t169 x7_1)] rfl (by (try simp only [List.map_toArray, List.map_cons, List.map_nil]); first | done | rfl | (simp only [List.length_drop, List.length_take]; rfl)) ?_; (with_reducible refine (dns_Label.calls (rdOf ByteArray.empty t169 x7_1) false _ A12.out).mono ?_); rintro e w23 ⟨rfl, hb⟩; refine ⟨_, rfl, ?_⟩; have n0_ := Aside0.mk (Kd.R_below (by (with_reducible repeat (first | apply Kd.R_alloc | apply Kd.R_drewN | apply Kd.R_drew)); exact HO_5.out) hb); have n1_ := Aside0.mk (below_step (by repeat (first | (with_reducible first | exact HB.out | apply below_alloc | apply pw_below_drewN | apply below_drew1) | exact HB.out)) hb); clear HO_5; clear HB; have HO_5 := n0_; have HB := n1_; clear n0_ n1_; (try clear hb); (try clear hb2); (try clear hk); (try clear hi)))
              go_ret
              exact ⟨by first | rfl | (simp [errW_none, errW_some] <;> rfl) | (simp [*, errW_none, errW_some] <;> rfl), by repeat (first | (with_reducible first | exact HB.out | apply below_alloc | apply pw_below_drewN | apply below_drew1) | exact HB.out)⟩
          · rw [if_neg c11] at H
            exact absurd H (by simp)
        · rw [if_neg c10] at H
          have c10b0 : decide (x7_1 < (t169.length : Int)) = false := decide_eq_false c10
          clear c10
          by_cases c24 : t167.size + 1 ≤ 9223372036854775807
          · rw [if_pos c24] at H
            have c24b0 := eq_true c24
            have c24b1 : decide (t167.size + 1 ≤ 9223372036854775807) = true := decide_eq_true c24
            try have c24b2 : (9223372036854775807 < t167.size + 1) = False := eq_false (Nat.not_lt.2 c24)
            by_cases c25 : (t167 ++ (⟨#[46]⟩ : ByteArray)).size + t168.size ≤ 9223372036854775807
            · rw [if_pos c25] at H
              have c25b0 := eq_true c25
              have c25b1 : decide ((t167 ++ (⟨#[46]⟩ : ByteArray)).size + t168.size ≤ 9223372036854775807) = true := decide_eq_true c25
              try have c25b2 : (9223372036854775807 < (t167 ++ (⟨#[46]⟩ : ByteArray)).size + t168.size) = False := eq_false (Nat.not_lt.2 c25)
              (try (have c25b4 := c25b2; simp only [ByteArray.size_append, show ((⟨#[46]⟩ : ByteArray).size) = 1 from rfl] at c25b4))
              by_cases c26 : x6_1.toList = t167.toList
              · rw [if_pos c26] at H
                have c26b0 : (x6_1.toList == t167.toList) = true := beq_iff_eq.mpr c26
                have c26b1 : (x6_1.toList != t167.toList) = false := bne_eq_false_iff_eq.mpr c26
                clear c26
                replace H := Option.bind_eq_some_iff.mp H
                obtain ⟨t174, A270, H⟩ := H
                replace H : ((dns_Name.f t168).bind fun t175 => (if t175 = true then (if (t174 == (decide ((((t167 ++ (⟨#[46]⟩ : ByteArray)) ++ t168).size : Int) ≤ 60))) = true then ((tolllaw01_awake.f k1).bind fun t176 => (some t176)) else (some false)) else (if (t174 == false) = true then ((tolllaw01_awake.f k1).bind fun t177 => (some t177)) else (some false)))) = some r := H
                have A27 := Aside0.mk A270
                clear A270
                replace H := Option.bind_eq_some_iff.mp H
                obtain ⟨t175, A280, H⟩ := H
                replace H : (if t175 = true then (if (t174 == (decide ((((t167 ++ (⟨#[46]⟩ : ByteArray)) ++ t168).size : Int) ≤ 60))) = true then ((tolllaw01_awake.f k1).bind fun t176 => (some t176)) else (some false)) else (if (t174 == false) = true then ((tolllaw01_awake.f k1).bind fun t177 => (some t177)) else (some false))) = some r := H
                have A28 := Aside0.mk A280
                clear A280
                by_cases c29 : t175 = true
                · subst c29
                  have H1 : (if (t174 == (decide ((((t167 ++ (⟨#[46]⟩ : ByteArray)) ++ t168).size : Int) ≤ 60))) = true then ((tolllaw01_awake.f k1).bind fun t176 => (some t176)) else (some false)) = some r := by rw [if_pos rfl] at H; exact H
                  clear H
                  have H := H1
                  clear H1
                  by_cases c30 : (t174 == (decide ((((t167 ++ (⟨#[46]⟩ : ByteArray)) ++ t168).size : Int) ≤ 60))) = true
                  · rw [if_pos c30] at H
                    (try (have c30b80 : (t174 == (decide ((((t167 ++ (⟨#[46]⟩ : ByteArray)) ++ t168).size : Int) ≤ 60))) = true := c30; simp only [ByteArray.size_append, Int.natCast_add, show ((⟨#[46]⟩ : ByteArray).size) = 1 from rfl] at c30b80; (try simp only [Int.natCast_one, Int.cast_ofNat_Int] at c30b80)))
                    (try (have c30b81 : decide (t174 = (decide ((((t167 ++ (⟨#[46]⟩ : ByteArray)) ++ t168).size : Int) ≤ 60))) = true := (by simpa using c30); simp only [ByteArray.size_append, Int.natCast_add, show ((⟨#[46]⟩ : ByteArray).size) = 1 from rfl] at c30b81; (try simp only [Int.natCast_one, Int.cast_ofNat_Int] at c30b81)))
                    (try (have c30b82 : (t174 == (decide ((((t167 ++ (⟨#[46]⟩ : ByteArray)) ++ t168).size : Int) ≤ 60))) = true := (by simpa using c30); simp only [ByteArray.size_append, Int.natCast_add, show ((⟨#[46]⟩ : ByteArray).size) = 1 from rfl] at c30b82; (try simp only [Int.natCast_one, Int.cast_ofNat_Int] at c30b82)))
                    have c30b0 : (t174 == (decide ((((t167 ++ (⟨#[46]⟩ : ByteArray)) ++ t168).size : Int) ≤ 60))) = true := c30
                    (try (have c30b1 : decide (t174 = (decide ((((t167 ++ (⟨#[46]⟩ : ByteArray)) ++ t168).size : Int) ≤ 60))) = true := by simpa using c30))
                    (try (have c30b2 : (t174 == (decide ((((t167 ++ (⟨#[46]⟩ : ByteArray)) ++ t168).size : Int) ≤ 60))) = true := by simpa using c30))
                    clear c30
                    replace H := Option.bind_eq_some_iff.mp H
                    obtain ⟨t176, A310, H⟩ := H
                    replace H : (some t176) = some r := H
                    have A31 := Aside0.mk A310
                    clear A310
                    obtain rfl := Option.some.inj H
                    obtain ⟨Ao32, co32, eo32⟩ := Kd.R_slice HO_5.out
                    subst eo32
                    go_wp2_with (first | (go_at_call 34; (with_reducible refine (dns_Name.calls ((t167 ++ (⟨#[46]⟩ : ByteArray)) ++ t168) t174 _ A27.out).mono ?_); rintro e w33 ⟨rfl, hb⟩; have n0_ := Aside0.mk (Kd.R_below (by (with_reducible repeat (first | apply Kd.R_alloc | apply Kd.R_drewN | apply Kd.R_drew)); exact HO_5.out) hb); have n1_ := Aside0.mk (below_step (by repeat (first | (with_reducible first | exact HB.out | apply below_alloc | apply pw_below_drewN | apply below_drew1) | exact HB.out)) hb); clear HO_5; clear HB; have HO_5 := n0_; have HB := n1_; clear n0_ n1_; (try clear hb); (try clear hb2); (try clear hk); (try clear hi)) | (go_at_call 34; (with_reducible refine (dns_Name.calls t168 true _ A28.out).mono ?_); rintro e w34 ⟨rfl, hb⟩; have n0_ := Aside0.mk (Kd.R_below (by (with_reducible repeat (first | apply Kd.R_alloc | apply Kd.R_drewN | apply Kd.R_drew)); exact HO_5.out) hb); have n1_ := Aside0.mk (below_step (by repeat (first | (with_reducible first | exact HB.out | apply below_alloc | apply pw_below_drewN | apply below_drew1) | exact HB.out)) hb); clear HO_5; clear HB; have HO_5 := n0_; have HB := n1_; clear n0_ n1_; (try clear hb); (try clear hb2); (try clear hk); (try clear hi)) | (go_at_call 33; (with_reducible refine (tolllaw01_awake.calls k1  t176 _ A31.out).mono ?_); rintro e w35 ⟨rfl, hb⟩; have n0_ := Aside0.mk (Kd.R_below (by (with_reducible repeat (first | apply Kd.R_alloc | apply Kd.R_drewN | apply Kd.R_drew)); exact HO_5.out) hb); have n1_ := Aside0.mk (below_step (by repeat (first | (with_reducible first | exact HB.out | apply below_alloc | apply pw_below_drewN | apply below_drew1) | exact HB.out)) hb); clear HO_5; clear HB; have HO_5 := n0_; have HB := n1_; clear n0_ n1_; (try clear hb); (try clear hb2); (try clear hk); (try clear hi)))
                    go_ret
                    exact ⟨by first | rfl | (simp [errW_none, errW_some] <;> rfl) | (simp [*, errW_none, errW_some] <;> rfl), by repeat (first | (with_reducible first | exact HB.out | apply below_alloc | apply pw_below_drewN | apply below_drew1) | exact HB.out)⟩
                  · rw [if_neg c30] at H
                    (try (have c30b80 : (t174 == (decide ((((t167 ++ (⟨#[46]⟩ : ByteArray)) ++ t168).size : Int) ≤ 60))) = false := (by simpa using c30); simp only [ByteArray.size_append, Int.natCast_add, show ((⟨#[46]⟩ : ByteArray).size) = 1 from rfl] at c30b80; (try simp only [Int.natCast_one, Int.cast_ofNat_Int] at c30b80)))
                    (try (have c30b81 : decide (t174 = (decide ((((t167 ++ (⟨#[46]⟩ : ByteArray)) ++ t168).size : Int) ≤ 60))) = false := (by simpa using c30); simp only [ByteArray.size_append, Int.natCast_add, show ((⟨#[46]⟩ : ByteArray).size) = 1 from rfl] at c30b81; (try simp only [Int.natCast_one, Int.cast_ofNat_Int] at c30b81)))
                    (try (have c30b82 : (t174 == (decide ((((t167 ++ (⟨#[46]⟩ : ByteArray)) ++ t168).size : Int) ≤ 60))) = false := (by simpa using c30); simp only [ByteArray.size_append, Int.natCast_add, show ((⟨#[46]⟩ : ByteArray).size) = 1 from rfl] at c30b82; (try simp only [Int.natCast_one, Int.cast_ofNat_Int] at c30b82)))
                    (try (have c30b83 : ¬ (t174 = (decide ((((t167 ++ (⟨#[46]⟩ : ByteArray)) ++ t168).size : Int) ≤ 60))) := (by simpa using c30); simp only [ByteArray.size_append, Int.natCast_add, show ((⟨#[46]⟩ : ByteArray).size) = 1 from rfl] at c30b83; (try simp only [Int.natCast_one, Int.cast_ofNat_Int] at c30b83)))
                    have c30b0 : (t174 == (decide ((((t167 ++ (⟨#[46]⟩ : ByteArray)) ++ t168).size : Int) ≤ 60))) = false := by simpa using c30
                    (try (have c30b1 : decide (t174 = (decide ((((t167 ++ (⟨#[46]⟩ : ByteArray)) ++ t168).size : Int) ≤ 60))) = false := by simpa using c30))
                    (try (have c30b2 : (t174 == (decide ((((t167 ++ (⟨#[46]⟩ : ByteArray)) ++ t168).size : Int) ≤ 60))) = false := by simpa using c30))
                    (try (have c30b3 : ¬ (t174 = (decide ((((t167 ++ (⟨#[46]⟩ : ByteArray)) ++ t168).size : Int) ≤ 60))) := by simpa using c30))
                    clear c30
                    obtain rfl := Option.some.inj H
                    obtain ⟨Ao36, co36, eo36⟩ := Kd.R_slice HO_5.out
                    subst eo36
                    go_wp2_with (first | (go_at_call 34; (with_reducible refine (dns_Name.calls ((t167 ++ (⟨#[46]⟩ : ByteArray)) ++ t168) t174 _ A27.out).mono ?_); rintro e w37 ⟨rfl, hb⟩; have n0_ := Aside0.mk (Kd.R_below (by (with_reducible repeat (first | apply Kd.R_alloc | apply Kd.R_drewN | apply Kd.R_drew)); exact HO_5.out) hb); have n1_ := Aside0.mk (below_step (by repeat (first | (with_reducible first | exact HB.out | apply below_alloc | apply pw_below_drewN | apply below_drew1) | exact HB.out)) hb); clear HO_5; clear HB; have HO_5 := n0_; have HB := n1_; clear n0_ n1_; (try clear hb); (try clear hb2); (try clear hk); (try clear hi)) | (go_at_call 34; (with_reducible refine (dns_Name.calls t168 true _ A28.out).mono ?_); rintro e w38 ⟨rfl, hb⟩; have n0_ := Aside0.mk (Kd.R_below (by (with_reducible repeat (first | apply Kd.R_alloc | apply Kd.R_drewN | apply Kd.R_drew)); exact HO_5.out) hb); have n1_ := Aside0.mk (below_step (by repeat (first | (with_reducible first | exact HB.out | apply below_alloc | apply pw_below_drewN | apply below_drew1) | exact HB.out)) hb); clear HO_5; clear HB; have HO_5 := n0_; have HB := n1_; clear n0_ n1_; (try clear hb); (try clear hb2); (try clear hk); (try clear hi)))
                    go_ret
                    exact ⟨by first | rfl | (simp [errW_none, errW_some] <;> rfl) | (simp [*, errW_none, errW_some] <;> rfl), by repeat (first | (with_reducible first | exact HB.out | apply below_alloc | apply pw_below_drewN | apply below_drew1) | exact HB.out)⟩
                · replace c29 := Bool.eq_false_iff.mpr c29
                  subst c29
                  have H1 : (if (t174 == false) = true then ((tolllaw01_awake.f k1).bind fun t177 => (some t177)) else (some false)) = some r := by rw [if_neg (show ¬ (false = true) by decide)] at H; exact H
                  clear H
                  have H := H1
                  clear H1
                  by_cases c39 : (t174 == false) = true
                  · rw [if_pos c39] at H
                    have c39b0 : (t174 == false) = true := c39
                    (try (have c39b1 : decide (t174 = false) = true := by simpa using c39))
                    (try (have c39b2 : (t174 == false) = true := by simpa using c39))
                    clear c39
                    replace H := Option.bind_eq_some_iff.mp H
                    obtain ⟨t177, A400, H⟩ := H
                    replace H : (some t177) = some r := H
                    have A40 := Aside0.mk A400
                    clear A400
                    obtain rfl := Option.some.inj H
                    obtain ⟨Ao41, co41, eo41⟩ := Kd.R_slice HO_5.out
                    subst eo41
                    go_wp2_with (first | (go_at_call 34; (with_reducible refine (dns_Name.calls ((t167 ++ (⟨#[46]⟩ : ByteArray)) ++ t168) t174 _ A27.out).mono ?_); rintro e w42 ⟨rfl, hb⟩; have n0_ := Aside0.mk (Kd.R_below (by (with_reducible repeat (first | apply Kd.R_alloc | apply Kd.R_drewN | apply Kd.R_drew)); exact HO_5.out) hb); have n1_ := Aside0.mk (below_step (by repeat (first | (with_reducible first | exact HB.out | apply below_alloc | apply pw_below_drewN | apply below_drew1) | exact HB.out)) hb); clear HO_5; clear HB; have HO_5 := n0_; have HB := n1_; clear n0_ n1_; (try clear hb); (try clear hb2); (try clear hk); (try clear hi)) | (go_at_call 34; (with_reducible refine (dns_Name.calls t168 false _ A28.out).mono ?_); rintro e w43 ⟨rfl, hb⟩; have n0_ := Aside0.mk (Kd.R_below (by (with_reducible repeat (first | apply Kd.R_alloc | apply Kd.R_drewN | apply Kd.R_drew)); exact HO_5.out) hb); have n1_ := Aside0.mk (below_step (by repeat (first | (with_reducible first | exact HB.out | apply below_alloc | apply pw_below_drewN | apply below_drew1) | exact HB.out)) hb); clear HO_5; clear HB; have HO_5 := n0_; have HB := n1_; clear n0_ n1_; (try clear hb); (try clear hb2); (try clear hk); (try clear hi)) | (go_at_call 33; (with_reducible refine (tolllaw01_awake.calls k1  t177 _ A40.out).mono ?_); rintro e w44 ⟨rfl, hb⟩; have n0_ := Aside0.mk (Kd.R_below (by (with_reducible repeat (first | apply Kd.R_alloc | apply Kd.R_drewN | apply Kd.R_drew)); exact HO_5.out) hb); have n1_ := Aside0.mk (below_step (by repeat (first | (with_reducible first | exact HB.out | apply below_alloc | apply pw_below_drewN | apply below_drew1) | exact HB.out)) hb); clear HO_5; clear HB; have HO_5 := n0_; have HB := n1_; clear n0_ n1_; (try clear hb); (try clear hb2); (try clear hk); (try clear hi)))
                    go_ret
                    exact ⟨by first | rfl | (simp [errW_none, errW_some] <;> rfl) | (simp [*, errW_none, errW_some] <;> rfl), by repeat (first | (with_reducible first | exact HB.out | apply below_alloc | apply pw_below_drewN | apply below_drew1) | exact HB.out)⟩
                  · rw [if_neg c39] at H
                    have c39b0 : (t174 == false) = false := by simpa using c39
                    (try (have c39b1 : decide (t174 = false) = false := by simpa using c39))
                    (try (have c39b2 : (t174 == false) = false := by simpa using c39))
                    (try (have c39b3 : ¬ (t174 = false) := by simpa using c39))
                    clear c39
                    obtain rfl := Option.some.inj H
                    obtain ⟨Ao45, co45, eo45⟩ := Kd.R_slice HO_5.out
                    subst eo45
                    go_wp2_with (first | (go_at_call 34; (with_reducible refine (dns_Name.calls ((t167 ++ (⟨#[46]⟩ : ByteArray)) ++ t168) t174 _ A27.out).mono ?_); rintro e w46 ⟨rfl, hb⟩; have n0_ := Aside0.mk (Kd.R_below (by (with_reducible repeat (first | apply Kd.R_alloc | apply Kd.R_drewN | apply Kd.R_drew)); exact HO_5.out) hb); have n1_ := Aside0.mk (below_step (by repeat (first | (with_reducible first | exact HB.out | apply below_alloc | apply pw_below_drewN | apply below_drew1) | exact HB.out)) hb); clear HO_5; clear HB; have HO_5 := n0_; have HB := n1_; clear n0_ n1_; (try clear hb); (try clear hb2); (try clear hk); (try clear hi)) | (go_at_call 34; (with_reducible refine (dns_Name.calls t168 false _ A28.out).mono ?_); rintro e w47 ⟨rfl, hb⟩; have n0_ := Aside0.mk (Kd.R_below (by (with_reducible repeat (first | apply Kd.R_alloc | apply Kd.R_drewN | apply Kd.R_drew)); exact HO_5.out) hb); have n1_ := Aside0.mk (below_step (by repeat (first | (with_reducible first | exact HB.out | apply below_alloc | apply pw_below_drewN | apply below_drew1) | exact HB.out)) hb); clear HO_5; clear HB; have HO_5 := n0_; have HB := n1_; clear n0_ n1_; (try clear hb); (try clear hb2); (try clear hk); (try clear hi)))
                    go_ret
                    exact ⟨by first | rfl | (simp [errW_none, errW_some] <;> rfl) | (simp [*, errW_none, errW_some] <;> rfl), by repeat (first | (with_reducible first | exact HB.out | apply below_alloc | apply pw_below_drewN | apply below_drew1) | exact HB.out)⟩
              · rw [if_neg c26] at H
                have c26b0 : (x6_1.toList == t167.toList) = false := beq_eq_false_iff_ne.mpr c26
                have c26b1 : (x6_1.toList != t167.toList) = true := bne_iff_ne.mpr c26
                obtain rfl := Option.some.inj H
                obtain ⟨Ao48, co48, eo48⟩ := Kd.R_slice HO_5.out
                subst eo48
                go_wp2
                go_ret
                exact ⟨by first | rfl | (simp [errW_none, errW_some] <;> rfl) | (simp [*, errW_none, errW_some] <;> rfl), by repeat (first | (with_reducible first | exact HB.out | apply below_alloc | apply pw_below_drewN | apply below_drew1) | exact HB.out)⟩
            · rw [if_neg c25] at H
              exact absurd H (by simp)
          · rw [if_neg c24] at H
            exact absurd H (by simp)
  · replace c7 := Bool.eq_false_iff.mpr c7
    subst c7
    have H1 : (if (t169.length : Int) = 0 then ((tolllaw01_awake.f k).bind fun t173 => (some t173)) else (some false)) = some r := by rw [if_neg (show ¬ (false = true) by decide)] at H; exact H
    clear H
    have H := H1
    clear H1
    by_cases c49 : (t169.length : Int) = 0
    · rw [if_pos c49] at H
      have c49b0 : ((t169.length : Int) == 0) = true := beq_iff_eq.mpr c49
      have c49b1 : ((t169.length : Int) != 0) = false := bne_eq_false_iff_eq.mpr c49
      clear c49
      replace H := Option.bind_eq_some_iff.mp H
      obtain ⟨t173, A500, H⟩ := H
      replace H : (some t173) = some r := H
      have A50 := Aside0.mk A500
      clear A500
      obtain rfl := Option.some.inj H
      go_enter Tryd.func5, Tryd.ntmps5
      go_wp2_with (first | ((with_reducible refine gate_callee (f := 30) rfl ?_); refine goesL_ (some 10) rfl rfl Tryd.func30 (by kernel_rfl) rfl #[.string a0] rfl (by (try simp only [List.map_toArray, List.map_cons, List.map_nil]); first | done | rfl | (simp only [List.length_drop, List.length_take]; rfl)) ?_; (with_reducible refine (tolllaw01_Few.calls a0 t167 _ A3.out).mono ?_); rintro e w' ⟨rfl, ⟨nd, rfl⟩⟩; refine ⟨_, rfl, ?_⟩) | ((with_reducible refine gate_callee (f := 30) rfl ?_); refine goesL_ (some 12) rfl rfl Tryd.func30 (by kernel_rfl) rfl #[.string a1] rfl (by (try simp only [List.map_toArray, List.map_cons, List.map_nil]); first | done | rfl | (simp only [List.length_drop, List.length_take]; rfl)) ?_; (with_reducible refine (tolllaw01_Few.calls a1 t168 _ A4.out).mono ?_); rintro e w' ⟨rfl, ⟨nd, rfl⟩⟩; refine ⟨_, rfl, ?_⟩) | ((with_reducible refine gate_callee (f := 36) rfl ?_); refine goesL_ (some 14) rfl rfl Tryd.func36 (by kernel_rfl) rfl #[.string t167] rfl (by (try simp only [List.map_toArray, List.map_cons, List.map_nil]); first | done | rfl | (simp only [List.length_drop, List.length_take]; rfl)) ?_; (with_reducible refine (dns_Labels.calls t167 t169 _ A5.out).mono ?_); rintro e w51 ⟨v170, rfl, ho0, hb⟩; refine ⟨_, rfl, ?_⟩; have n0_ := Aside0.mk (Kd.R_lower ho0 (below_size (by repeat (first | (with_reducible first | exact HB.out | apply below_alloc | apply pw_below_drewN | apply below_drew1) | exact HB.out)))); have n1_ := Aside0.mk (below_step (by repeat (first | (with_reducible first | exact HB.out | apply below_alloc | apply pw_below_drewN | apply below_drew1) | exact HB.out)) hb); clear HB; have HO171 := n0_; have HB := n1_; clear n0_ n1_; (try clear hb); (try clear hb2); (try clear hk); (try clear hi); (try clear ho0)) | ((with_reducible refine gate_callee (f := 34) rfl ?_); refine goesL_ (some 16) rfl rfl Tryd.func34 (by kernel_rfl) rfl #[.string t167] rfl (by (try simp only [List.map_toArray, List.map_cons, List.map_nil]); first | done | rfl | (simp only [List.length_drop, List.length_take]; rfl)) ?_; (with_reducible refine (dns_Name.calls t167 false _ A6.out).mono ?_); rintro e w52 ⟨rfl, hb⟩; refine ⟨_, rfl, ?_⟩; have n0_ := Aside0.mk (Kd.R_below (by (with_reducible repeat (first | apply Kd.R_alloc | apply Kd.R_drewN | apply Kd.R_drew)); exact HO171.out) hb); have n1_ := Aside0.mk (below_step (by repeat (first | (with_reducible first | exact HB.out | apply below_alloc | apply pw_below_drewN | apply below_drew1) | exact HB.out)) hb); clear HO171; clear HB; have HO171 := n0_; have HB := n1_; clear n0_ n1_; (try clear hb); (try clear hb2); (try clear hk); (try clear hi); obtain ⟨Ao53, co53, eo53⟩ := Kd.R_slice HO171.out; subst eo53) | (go_at_call 33; (with_reducible refine (tolllaw01_awake.calls k  t173 _ A50.out).mono ?_); rintro e w54 ⟨rfl, hb⟩; have n0_ := Aside0.mk (Kd.R_below (by (with_reducible repeat (first | apply Kd.R_alloc | apply Kd.R_drewN | apply Kd.R_drew)); exact HO171.out) hb); have n1_ := Aside0.mk (below_step (by repeat (first | (with_reducible first | exact HB.out | apply below_alloc | apply pw_below_drewN | apply below_drew1) | exact HB.out)) hb); clear HO171; clear HB; have HO171 := n0_; have HB := n1_; clear n0_ n1_; (try clear hb); (try clear hb2); (try clear hk); (try clear hi)))
      go_ret
      exact ⟨by first | rfl | (simp [errW_none, errW_some] <;> rfl) | (simp [*, errW_none, errW_some] <;> rfl), by repeat (first | (with_reducible first | exact HB.out | apply below_alloc | apply pw_below_drewN | apply below_drew1) | exact HB.out)⟩
    · rw [if_neg c49] at H
      have c49b0 : ((t169.length : Int) == 0) = false := beq_eq_false_iff_ne.mpr c49
      have c49b1 : ((t169.length : Int) != 0) = true := bne_iff_ne.mpr c49
      have c49b2 : ¬ (t169 = []) := fun h_ => c49 (by rw [h_]; rfl)
      obtain rfl := Option.some.inj H
      go_enter Tryd.func5, Tryd.ntmps5
      go_wp2_with (first | ((with_reducible refine gate_callee (f := 30) rfl ?_); refine goesL_ (some 10) rfl rfl Tryd.func30 (by kernel_rfl) rfl #[.string a0] rfl (by (try simp only [List.map_toArray, List.map_cons, List.map_nil]); first | done | rfl | (simp only [List.length_drop, List.length_take]; rfl)) ?_; (with_reducible refine (tolllaw01_Few.calls a0 t167 _ A3.out).mono ?_); rintro e w' ⟨rfl, ⟨nd, rfl⟩⟩; refine ⟨_, rfl, ?_⟩) | ((with_reducible refine gate_callee (f := 30) rfl ?_); refine goesL_ (some 12) rfl rfl Tryd.func30 (by kernel_rfl) rfl #[.string a1] rfl (by (try simp only [List.map_toArray, List.map_cons, List.map_nil]); first | done | rfl | (simp only [List.length_drop, List.length_take]; rfl)) ?_; (with_reducible refine (tolllaw01_Few.calls a1 t168 _ A4.out).mono ?_); rintro e w' ⟨rfl, ⟨nd, rfl⟩⟩; refine ⟨_, rfl, ?_⟩) | ((with_reducible refine gate_callee (f := 36) rfl ?_); refine goesL_ (some 14) rfl rfl Tryd.func36 (by kernel_rfl) rfl #[.string t167] rfl (by (try simp only [List.map_toArray, List.map_cons, List.map_nil]); first | done | rfl | (simp only [List.length_drop, List.length_take]; rfl)) ?_; (with_reducible refine (dns_Labels.calls t167 t169 _ A5.out).mono ?_); rintro e w55 ⟨v170, rfl, ho0, hb⟩; refine ⟨_, rfl, ?_⟩; have n0_ := Aside0.mk (Kd.R_lower ho0 (below_size (by repeat (first | (with_reducible first | exact HB.out | apply below_alloc | apply pw_below_drewN | apply below_drew1) | exact HB.out)))); have n1_ := Aside0.mk (below_step (by repeat (first | (with_reducible first | exact HB.out | apply below_alloc | apply pw_below_drewN | apply below_drew1) | exact HB.out)) hb); clear HB; have HO171 := n0_; have HB := n1_; clear n0_ n1_; (try clear hb); (try clear hb2); (try clear hk); (try clear hi); (try clear ho0)) | ((with_reducible refine gate_callee (f := 34) rfl ?_); refine goesL_ (some 16) rfl rfl Tryd.func34 (by kernel_rfl) rfl #[.string t167] rfl (by (try simp only [List.map_toArray, List.map_cons, List.map_nil]); first | done | rfl | (simp only [List.length_drop, List.length_take]; rfl)) ?_; (with_reducible refine (dns_Name.calls t167 false _ A6.out).mono ?_); rintro e w56 ⟨rfl, hb⟩; refine ⟨_, rfl, ?_⟩; have n0_ := Aside0.mk (Kd.R_below (by (with_reducible repeat (first | apply Kd.R_alloc | apply Kd.R_drewN | apply Kd.R_drew)); exact HO171.out) hb); have n1_ := Aside0.mk (below_step (by repeat (first | (with_reducible first | exact HB.out | apply below_alloc | apply pw_below_drewN | apply below_drew1) | exact HB.out)) hb); clear HO171; clear HB; have HO171 := n0_; have HB := n1_; clear n0_ n1_; (try clear hb); (try clear hb2); (try clear hk); (try clear hi); obtain ⟨Ao57, co57, eo57⟩ := Kd.R_slice HO171.out; subst eo57))
      go_ret
      exact ⟨by first | rfl | (simp [errW_none, errW_some] <;> rfl) | (simp [*, errW_none, errW_some] <;> rfl), by repeat (first | (with_reducible first | exact HB.out | apply below_alloc | apply pw_below_drewN | apply below_drew1) | exact HB.out)⟩

/-- THE ONE PURE STATEMENT of tolllaw01_DnsLabels: yours. -/
def tolllaw01_DnsLabels.Pure : Prop := ∀ (a0 : ByteArray) (a1 : ByteArray), a0.size ≤ 140737488351232 → a1.size ≤ 140737488351232 → ∃ k, tolllaw01_DnsLabels.f k a0 a1 = some true
theorem tolllaw01_DnsLabels.walk (P : tolllaw01_DnsLabels.Pure) (a0 : ByteArray) (a1 : ByteArray) (w : World) (w0 : a0.size ≤ 140737488351232) (w1 : a1.size ≤ 140737488351232) :
    Calls Tryd.prog 5 #[.string a0, .string a1] w fun e w' => e = .returned (.bool true) ∧ Below w.heap.size w w' := by
  obtain ⟨k, h⟩ := P a0 a1 w0 w1
  refine (tolllaw01_DnsLabels.calls k a0 a1 true w h).mono ?_
  rintro e w' ⟨rfl, hd⟩
  exact ⟨rfl, hd⟩

end Go.Proofs.YtcakednecmngdaaDoor.P
