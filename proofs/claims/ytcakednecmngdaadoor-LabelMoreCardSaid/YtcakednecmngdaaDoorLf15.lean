/- Functions of the program as plain functions, with proofs that the code comes to their answers; written by a program of this session. Conditions: as each theorem states them. -/
import Derived.Test.YtcakednecmngdaaDoorWNEv
import Derived.Test.YtcakednecmngdaaDoorWMore
import Derived.Test.YtcakednecmngdaaDoorL0
import Derived.Test.YtcakednecmngdaaDoorLf52
import Derived.Test.YtcakednecmngdaaDoorLf51
import Derived.Test.YtcakednecmngdaaDoorLf53
import Derived.Test.YtcakednecmngdaaDoorLf55
import Derived.Test.YtcakednecmngdaaDoorLabelO
namespace Go.Proofs.YtcakednecmngdaaDoor.P
end Go.Proofs.YtcakednecmngdaaDoor.P
namespace Go.Proofs.YtcakednecmngdaaDoorW.PrintMore
end Go.Proofs.YtcakednecmngdaaDoorW.PrintMore
namespace Go.Proofs.YtcakednecmngdaaDoor.L
open Go.Proofs.YtcakednecmngdaaDoor.P
open Go.RowKit Go.Proofs.YtcakednecmngdaaDoorW.PrintWords Go.Proofs.YtcakednecmngdaaDoorW.PrintLast Go.Proofs.YtcakednecmngdaaDoorW.PrintMore
set_option linter.unusedVariables false
set_option linter.unusedSimpArgs false

/-! ### tolllaw08_LabelMore: function 15 -/
mutual
def tolllaw08_LabelMore.j0 : Nat → List (S58) → List (S58) → List (S55) → Option (Bool)
  | 0, _, _, _ => none
  | k + 1, x0, x1, x2 => if (x1.length : Int) > 4 then (if 4 ≤ (x1.length : Int) then (tolllaw08_LabelMore.j1 k x0 (x1.take (4 : Int).toNat) x2) else (none)) else (tolllaw08_LabelMore.j1 k x0 x1 x2)
def tolllaw08_LabelMore.j1 : Nat → List (S58) → List (S58) → List (S55) → Option (Bool)
  | 0, _, _, _ => none
  | k + 1, x0, x1, x2 => (some (([] : List (S58)) : List (S58))).bind fun y398 => (if y398.length + x0.length < 2932031007402 then ((some (y398 ++ x0 : List (S58))).bind fun y401 => (if y401.length + x1.length < 2932031007402 then ((some (y401 ++ x1 : List (S58))).bind fun y404 => ((some (([] : List (S58)) : List (S58))).bind fun y407 => (if y407.length + x1.length < 2932031007402 then ((some (y407 ++ x1 : List (S58))).bind fun y410 => (if y410.length + x0.length < 2932031007402 then ((some (y410 ++ x0 : List (S58))).bind fun y413 => ((label_All.f x0 x2).bind fun t416 => (if t416 = true then ((label_All.f x1 x2).bind fun t417 => (tolllaw08_LabelMore.j2 k x2 y404 y413 t417)) else (tolllaw08_LabelMore.j2 k x2 y404 y413 false)))) else (none))) else (none)))) else (none))) else (none))
def tolllaw08_LabelMore.j2 : Nat → List (S55) → List (S58) → List (S58) → Bool → Option (Bool)
  | 0, _, _, _, _ => none
  | k + 1, x2, x7, x8, x9 => (label_All.f x7 x2).bind fun t418 => (if (t418 == x9) = true then ((label_All.f x8 x2).bind fun t419 => (if (t419 == x9) = true then ((label_All.f ([] : List (S58)) x2).bind fun t420 => ((label_May.f k x2).bind fun t421 => (if (t420 == t421) = true then ((tolllaw08_awake.f).bind fun t422 => (some t422)) else (some false)))) else (some false))) else (some false))
end
def tolllaw08_LabelMore.f (k : Nat) (l0 : List (S58)) (l1 : List (S58)) (l2 : List (S55)) : Option (Bool) := (tolllaw08_Few.f k l0).bind fun t383 => ((tolllaw08_Few.f k l1).bind fun t386 => ((tolllaw05_Few.f k l2).bind fun t389 => (if (t383.length : Int) > 4 then (if 4 ≤ (t383.length : Int) then (tolllaw08_LabelMore.j0 k (t383.take (4 : Int).toNat) t386 t389) else (none)) else (tolllaw08_LabelMore.j0 k t383 t386 t389))))
theorem tolllaw08_LabelMore.mono_l : ∀ k, (∀ y0 y1 y2, LeO (tolllaw08_LabelMore.j0 k y0 y1 y2) (tolllaw08_LabelMore.j0 (k + 1) y0 y1 y2)) ∧ (∀ y0 y1 y2, LeO (tolllaw08_LabelMore.j1 k y0 y1 y2) (tolllaw08_LabelMore.j1 (k + 1) y0 y1 y2)) ∧ (∀ y0 y1 y2 y3, LeO (tolllaw08_LabelMore.j2 k y0 y1 y2 y3) (tolllaw08_LabelMore.j2 (k + 1) y0 y1 y2 y3))
  | 0 => ⟨fun _ _ _ r h => by simp [tolllaw08_LabelMore.j0] at h, fun _ _ _ r h => by simp [tolllaw08_LabelMore.j1] at h, fun _ _ _ _ r h => by simp [tolllaw08_LabelMore.j2] at h⟩
  | k + 1 => by
    obtain ⟨ih0, ih1, ih2⟩ := tolllaw08_LabelMore.mono_l k
    refine ⟨?_, ?_, ?_⟩
    · intro y0 y1 y2
      unfold tolllaw08_LabelMore.j0
      repeat' first
      | (with_reducible exact ih0 _ _ _)
      | (with_reducible exact ih1 _ _ _)
      | (with_reducible exact ih2 _ _ _ _)
      | (with_reducible exact label_May.mono _ _)
      | (with_reducible exact tolllaw05_Few.mono _ _)
      | (with_reducible exact tolllaw08_Few.mono _ _)
      | (with_reducible exact LeO.refl _)
      | (with_reducible exact LeO.none _)
      | (with_reducible refine LeO.ite ?_ ?_)
      | (with_reducible refine LeO.bind ?_ (fun _ => ?_))
      | exact ih0 _ _ _
      | exact ih1 _ _ _
      | exact ih2 _ _ _ _
      | exact label_May.mono _ _
      | exact tolllaw05_Few.mono _ _
      | exact tolllaw08_Few.mono _ _
      | exact LeO.none _
      | refine LeO.ite ?_ ?_
      | refine LeO.bind ?_ (fun _ => ?_)
    · intro y0 y1 y2
      unfold tolllaw08_LabelMore.j1
      repeat' first
      | (with_reducible exact ih0 _ _ _)
      | (with_reducible exact ih1 _ _ _)
      | (with_reducible exact ih2 _ _ _ _)
      | (with_reducible exact label_May.mono _ _)
      | (with_reducible exact tolllaw05_Few.mono _ _)
      | (with_reducible exact tolllaw08_Few.mono _ _)
      | (with_reducible exact LeO.refl _)
      | (with_reducible exact LeO.none _)
      | (with_reducible refine LeO.ite ?_ ?_)
      | (with_reducible refine LeO.bind ?_ (fun _ => ?_))
      | exact ih0 _ _ _
      | exact ih1 _ _ _
      | exact ih2 _ _ _ _
      | exact label_May.mono _ _
      | exact tolllaw05_Few.mono _ _
      | exact tolllaw08_Few.mono _ _
      | exact LeO.none _
      | refine LeO.ite ?_ ?_
      | refine LeO.bind ?_ (fun _ => ?_)
    · intro y0 y1 y2 y3
      unfold tolllaw08_LabelMore.j2
      repeat' first
      | (with_reducible exact ih0 _ _ _)
      | (with_reducible exact ih1 _ _ _)
      | (with_reducible exact ih2 _ _ _ _)
      | (with_reducible exact label_May.mono _ _)
      | (with_reducible exact tolllaw05_Few.mono _ _)
      | (with_reducible exact tolllaw08_Few.mono _ _)
      | (with_reducible exact LeO.refl _)
      | (with_reducible exact LeO.none _)
      | (with_reducible refine LeO.ite ?_ ?_)
      | (with_reducible refine LeO.bind ?_ (fun _ => ?_))
      | exact ih0 _ _ _
      | exact ih1 _ _ _
      | exact ih2 _ _ _ _
      | exact label_May.mono _ _
      | exact tolllaw05_Few.mono _ _
      | exact tolllaw08_Few.mono _ _
      | exact LeO.none _
      | refine LeO.ite ?_ ?_
      | refine LeO.bind ?_ (fun _ => ?_)
theorem tolllaw08_LabelMore.mono : ∀ a0 a1 a2 k, LeO (tolllaw08_LabelMore.f k a0 a1 a2) (tolllaw08_LabelMore.f (k + 1) a0 a1 a2) := by
  intro a0 a1 a2 k
  obtain ⟨ih0, ih1, ih2⟩ := tolllaw08_LabelMore.mono_l k
  unfold tolllaw08_LabelMore.f
  repeat' first
      | (with_reducible exact ih0 _ _ _)
      | (with_reducible exact ih1 _ _ _)
      | (with_reducible exact ih2 _ _ _ _)
      | (with_reducible exact label_May.mono _ _)
      | (with_reducible exact tolllaw05_Few.mono _ _)
      | (with_reducible exact tolllaw08_Few.mono _ _)
      | (with_reducible exact LeO.refl _)
      | (with_reducible exact LeO.none _)
      | (with_reducible refine LeO.ite ?_ ?_)
      | (with_reducible refine LeO.bind ?_ (fun _ => ?_))
      | exact ih0 _ _ _
      | exact ih1 _ _ _
      | exact ih2 _ _ _ _
      | exact label_May.mono _ _
      | exact tolllaw05_Few.mono _ _
      | exact tolllaw08_Few.mono _ _
      | exact LeO.none _
      | refine LeO.ite ?_ ?_
      | refine LeO.bind ?_ (fun _ => ?_)
set_option maxHeartbeats 8000000 in
set_option maxRecDepth 100000 in
theorem tolllaw08_LabelMore.calls (k : Nat) (A0 : Option Addr) (c0 : Nat) (l0 : List (S58)) (A1 : Option Addr) (c1 : Nat) (l1 : List (S58)) (A2 : Option Addr) (c2 : Nat) (l2 : List (S55)) (r : Bool) (w : World) (hr0 : Kd.C k58 w A0 l0.length l0) (hc0 : l0.length ≤ c0) (hr1 : Kd.C k58 w A1 l1.length l1) (hc1 : l1.length ≤ c1) (hr2 : Kd.C k55 w A2 l2.length l2) (hc2 : l2.length ≤ c2) (h : tolllaw08_LabelMore.f k l0 l1 l2 = some r) :
    Calls Tryd.prog 15 #[.slice A0 l0.length c0, .slice A1 l1.length c1, .slice A2 l2.length c2] w fun e w' => e = .returned (.bool r) ∧ Below w.heap.size w w' := by
  have HR0 := Aside0.mk hr0
  have HC0 := Aside0.mk hc0
  clear hr0 hc0
  have HR1 := Aside0.mk hr1
  have HC1 := Aside0.mk hc1
  clear hr1 hc1
  have HR2 := Aside0.mk hr2
  have HC2 := Aside0.mk hc2
  clear hr2 hc2
  have HB := Aside0.mk (Below.refl w.heap.size w)
  have H : ((tolllaw08_Few.f k l0).bind fun t383 => ((tolllaw08_Few.f k l1).bind fun t386 => ((tolllaw05_Few.f k l2).bind fun t389 => (if (t383.length : Int) > 4 then (if 4 ≤ (t383.length : Int) then (tolllaw08_LabelMore.j0 k (t383.take (4 : Int).toNat) t386 t389) else (none)) else (tolllaw08_LabelMore.j0 k t383 t386 t389))))) = some r := h
  clear h
  replace H := Option.bind_eq_some_iff.mp H
  obtain ⟨t383, A40, H⟩ := H
  replace H : ((tolllaw08_Few.f k l1).bind fun t386 => ((tolllaw05_Few.f k l2).bind fun t389 => (if (t383.length : Int) > 4 then (if 4 ≤ (t383.length : Int) then (tolllaw08_LabelMore.j0 k (t383.take (4 : Int).toNat) t386 t389) else (none)) else (tolllaw08_LabelMore.j0 k t383 t386 t389)))) = some r := H
  have A4 := Aside0.mk A40
  clear A40
  replace H := Option.bind_eq_some_iff.mp H
  obtain ⟨t386, A50, H⟩ := H
  replace H : ((tolllaw05_Few.f k l2).bind fun t389 => (if (t383.length : Int) > 4 then (if 4 ≤ (t383.length : Int) then (tolllaw08_LabelMore.j0 k (t383.take (4 : Int).toNat) t386 t389) else (none)) else (tolllaw08_LabelMore.j0 k t383 t386 t389))) = some r := H
  have A5 := Aside0.mk A50
  clear A50
  replace H := Option.bind_eq_some_iff.mp H
  obtain ⟨t389, A60, H⟩ := H
  replace H : (if (t383.length : Int) > 4 then (if 4 ≤ (t383.length : Int) then (tolllaw08_LabelMore.j0 k (t383.take (4 : Int).toNat) t386 t389) else (none)) else (tolllaw08_LabelMore.j0 k t383 t386 t389)) = some r := H
  have A6 := Aside0.mk A60
  clear A60
  have HC7 := Aside0.mk H
  clear H
  go_enter Tryd.func15, Tryd.ntmps15
  go_upto_if 18 with (first | ((with_reducible refine _root_.Go.Proofs.YtcakednecmngdaaDoorW.PrintMore.gate_callee (f := 55) rfl ?_); refine goesL_ (some 11) rfl rfl Tryd.func55 (by kernel_rfl) rfl #[.slice A0 l0.length c0] rfl (by (try simp only [List.map_toArray, List.map_cons, List.map_nil]); first | done | rfl | (simp only [List.length_drop, List.length_take]; rfl)) ?_; (with_reducible refine (tolllaw08_Few.calls k _ _ l0 t383 _ ?side1 ?side2 A4.out).mono ?_); (case side1 => repeat (first | exact HR0.out | (with_reducible refine Kd.C_alloc ?_ _) | (with_reducible refine Kd.C_drewN ?_ _) | (with_reducible refine Kd.C_drew ?_))); (case side2 => exact HC0.out); rintro e w8 ⟨v384, rfl, ho0, hb⟩; refine ⟨_, rfl, ?_⟩; have n0_ := Aside0.mk (Kd.N_lower (Kd.N_mono (ok' := fun k_ => True) (Kd.S_N (Kd.S_bound ho0)) (fun k_ hk_ => trivial)) (below_size (by repeat (first | (with_reducible first | exact HB.out | apply below_alloc | apply pw_below_drewN | apply below_drew1) | exact HB.out)))); have n1_ := Aside0.mk (below_step (by repeat (first | (with_reducible first | exact HB.out | apply below_alloc | apply pw_below_drewN | apply below_drew1) | exact HB.out)) hb); clear HB; have HO385 := n0_; have HB := n1_; clear n0_ n1_; (try clear hb); (try clear hb2); (try clear hk); (try clear hi); (try clear ho0)) | ((with_reducible refine _root_.Go.Proofs.YtcakednecmngdaaDoorW.PrintMore.gate_callee (f := 55) rfl ?_); refine goesL_ (some 13) rfl rfl Tryd.func55 (by kernel_rfl) rfl #[.slice A1 l1.length c1] rfl (by (try simp only [List.map_toArray, List.map_cons, List.map_nil]); first | done | rfl | (simp only [List.length_drop, List.length_take]; rfl)) ?_; (with_reducible refine (tolllaw08_Few.calls k _ _ l1 t386 _ ?side1 ?side2 A5.out).mono ?_); (case side1 => repeat (first | exact (Kd.C_below HR1.out HB.out) | (with_reducible refine Kd.C_alloc ?_ _) | (with_reducible refine Kd.C_drewN ?_ _) | (with_reducible refine Kd.C_drew ?_))); (case side2 => exact HC1.out); rintro e w9 ⟨v387, rfl, ho0, hb⟩; refine ⟨_, rfl, ?_⟩; have n0_ := Aside0.mk (Kd.N_elder' (by (with_reducible repeat (first | apply Kd.N_alloc | apply Kd.N_drewN | apply Kd.N_drew)); exact HO385.out) (by first | exact Kd.N_base ho0 | exact Kd.N_base (Kd.S_N ho0)) hb); have n1_ := Aside0.mk (Kd.N_lower (Kd.N_mono (ok' := fun k_ => some k_ ≠ (v384 : Value).ownBlock) (Kd.S_N (Kd.S_bound ho0)) (fun k_ hk_ => (Kd.fresh' (Kd.N_lt (by (with_reducible repeat (first | apply Kd.N_alloc | apply Kd.N_drewN | apply Kd.N_drew)); exact HO385.out)) k_ hk_.2.1))) (below_size (by repeat (first | (with_reducible first | exact HB.out | apply below_alloc | apply pw_below_drewN | apply below_drew1) | exact HB.out)))); have n2_ := Aside0.mk (below_step (by repeat (first | (with_reducible first | exact HB.out | apply below_alloc | apply pw_below_drewN | apply below_drew1) | exact HB.out)) hb); clear HO385; clear HB; have HO385 := n0_; have HO388 := n1_; have HB := n2_; clear n0_ n1_ n2_; (try clear hb); (try clear hb2); (try clear hk); (try clear hi); (try clear ho0)) | ((with_reducible refine _root_.Go.Proofs.YtcakednecmngdaaDoorW.PrintMore.gate_callee (f := 51) rfl ?_); refine goesL_ (some 15) rfl rfl Tryd.func51 (by kernel_rfl) rfl #[.slice A2 l2.length c2] rfl (by (try simp only [List.map_toArray, List.map_cons, List.map_nil]); first | done | rfl | (simp only [List.length_drop, List.length_take]; rfl)) ?_; (with_reducible refine (tolllaw05_Few.calls k _ _ l2 t389 _ ?side1 ?side2 A6.out).mono ?_); (case side1 => repeat (first | exact (Kd.C_below HR2.out HB.out) | (with_reducible refine Kd.C_alloc ?_ _) | (with_reducible refine Kd.C_drewN ?_ _) | (with_reducible refine Kd.C_drew ?_))); (case side2 => exact HC2.out); rintro e w10 ⟨v390, rfl, ho0, hb⟩; refine ⟨_, rfl, ?_⟩; have n0_ := Aside0.mk (Kd.N_elder' (by (with_reducible repeat (first | apply Kd.N_alloc | apply Kd.N_drewN | apply Kd.N_drew)); exact HO385.out) (Kd.R_base ho0) hb); have n1_ := Aside0.mk (Kd.N_elder' (by (with_reducible repeat (first | apply Kd.N_alloc | apply Kd.N_drewN | apply Kd.N_drew)); exact HO388.out) (Kd.R_base ho0) hb); have n2_ := Aside0.mk (Kd.R_lower ho0 (below_size (by repeat (first | (with_reducible first | exact HB.out | apply below_alloc | apply pw_below_drewN | apply below_drew1) | exact HB.out)))); have n3_ := Aside0.mk (below_step (by repeat (first | (with_reducible first | exact HB.out | apply below_alloc | apply pw_below_drewN | apply below_drew1) | exact HB.out)) hb); clear HO385; clear HO388; clear HB; have HO385 := n0_; have HO388 := n1_; have HO391 := n2_; have HB := n3_; clear n0_ n1_ n2_ n3_; (try clear hb); (try clear hb2); (try clear hk); (try clear hi); (try clear ho0); obtain ⟨Ao11, co11, eo11⟩ := Kd.N_slice HO385.out; subst eo11))
  (try simp only [Act.put, List.setIfInBounds_toArray, List.set_cons_zero, List.set_cons_succ])
  go_cut [0] (fun v0 wc => ∃ (kq : Nat) (x0_6 : List (S58)), Aside0 (tolllaw08_LabelMore.j0 kq x0_6 t386 t389 = some r) ∧ Aside0 (kq ≤ k) ∧ Aside0 (Kd.N k58 58 wc w.heap.size (fun k_ => some k_ ≠ (v387 : Value).ownBlock ∧ some k_ ≠ (v390 : Value).ownBlock) v0 x0_6) ∧ Aside0 (Kd.N k58 58 wc w.heap.size (fun k_ => some k_ ≠ (v0 : Value).ownBlock ∧ some k_ ≠ (v390 : Value).ownBlock) v387 t386) ∧ Aside0 (Kd.R k55 55 wc w.heap.size (fun _ => True) v390 t389) ∧ Aside0 (Below w.heap.size w wc))
  case first =>
    have H := HC7.out
    clear HC7
    by_cases c12 : (t383.length : Int) > 4
    · rw [if_pos c12] at H
      have c12b0 : decide (4 < (t383.length : Int)) = true := decide_eq_true c12
      have c12b1 : decide (4 < t383.length) = true := decide_eq_true (by omega)
      clear c12
      (first | rw [c12b0] | (simp only [i64_w, i32_w]; rw [c12b0]) | skip)
      by_cases c13 : 4 ≤ (t383.length : Int)
      · rw [if_pos c13] at H
        have c13b0 := eq_true c13
        have c13b1 : decide (4 ≤ (t383.length : Int)) = true := decide_eq_true c13
        clear c13
        obtain ⟨y392, hy392⟩ : ∃ y_ : List (S58), y_ = (t383.take (4 : Int).toNat) := ⟨_, rfl⟩
        replace H : (tolllaw08_LabelMore.j0 k y392 t386 t389) = some r := by first | (rw [hy392]; with_reducible exact H) | (have H2_ := (Option.bind_some _ _).symm.trans H; rw [hy392]; with_reducible exact H2_) | (have H2_ := (Option.bind_some _ _).symm.trans H; with_reducible exact H2_) | with_reducible exact H | (rw [hy392]; exact H) | exact H
        have Ny392 := Aside0.mk hy392
        clear hy392
        have H' := Aside0.mk H
        clear H
        have q14 : (4 : Int) ≤ ((t383.length : Int) : Int) := of_decide_eq_true (by first | (with_reducible assumption) | assumption)
        obtain ⟨i014, hi014, _, hsz14, _⟩ := info_parts info58
        have hcut14 := cut_to (P := Tryd.prog) 60 58 .i64 Tryd.underlying60 hi014 Ao11 t383.length co11 4 (by omega) q14 (Kd.N_reads' HO385.out).2.1
        have hr14 := Kd.N_take (m := (4 : Int).toNat) HO385.out (by omega)
        have hy14 : y392.length = (4 : Int).toNat := (by rw [Ny392.out, List.length_take]; omega)
        rw [← Ny392.out] at hr14
        rw [← hy14] at hr14 hcut14
        clear hy14 hi014 hsz14 HO385
        have HO394 := Aside0.mk hr14
        clear hr14
        replace q14 := eq_true q14
        go_wp2
        go_meet
        case rel => exact ⟨_, (y392), H', ⟨by first | omega | exact Nat.le_refl _⟩, ⟨by (with_reducible repeat (first | apply Kd.N_alloc | apply Kd.N_drewN | apply Kd.N_drew)); exact Kd.N_mono HO394.out (fun _ hk => ⟨hk.1.2, hk.2⟩)⟩, ⟨by (with_reducible repeat (first | apply Kd.N_alloc | apply Kd.N_drewN | apply Kd.N_drew)); first | exact HO388.out | exact Kd.N_mono HO388.out (fun _ hk => ⟨by cases Ao11 <;> first | (simp [Value.ownBlock]; done) | simpa [Value.ownBlock] using hk.1, hk.2⟩)⟩, ⟨by (with_reducible repeat (first | apply Kd.R_alloc | apply Kd.R_drewN | apply Kd.R_drew)); first | exact HO391.out | exact Kd.N_mono HO391.out (fun _ hk => ⟨by cases Ao11 <;> first | (simp [Value.ownBlock]; done) | simpa [Value.ownBlock] using hk.1, hk.2⟩)⟩, ⟨by repeat (first | (with_reducible first | exact HB.out | apply below_alloc | apply pw_below_drewN | apply below_drew1) | exact HB.out)⟩⟩
      · rw [if_neg c13] at H
        exact absurd H (by simp)
    · rw [if_neg c12] at H
      have c12b0 : decide (4 < (t383.length : Int)) = false := decide_eq_false c12
      have c12b1 : decide (4 < t383.length) = false := decide_eq_false (by omega)
      clear c12
      (first | rw [c12b0] | (simp only [i64_w, i32_w]; rw [c12b0]) | skip)
      have H' := Aside0.mk H
      clear H
      go_wp2
      go_meet
      case rel => exact ⟨_, (t383), H', ⟨by first | omega | exact Nat.le_refl _⟩, ⟨by (with_reducible repeat (first | apply Kd.N_alloc | apply Kd.N_drewN | apply Kd.N_drew)); exact Kd.N_mono HO385.out (fun _ hk => ⟨hk.1.2, hk.2⟩)⟩, ⟨by (with_reducible repeat (first | apply Kd.N_alloc | apply Kd.N_drewN | apply Kd.N_drew)); first | exact HO388.out | exact Kd.N_mono HO388.out (fun _ hk => ⟨by cases Ao11 <;> first | (simp [Value.ownBlock]; done) | simpa [Value.ownBlock] using hk.1, hk.2⟩)⟩, ⟨by (with_reducible repeat (first | apply Kd.R_alloc | apply Kd.R_drewN | apply Kd.R_drew)); first | exact HO391.out | exact Kd.N_mono HO391.out (fun _ hk => ⟨by cases Ao11 <;> first | (simp [Value.ownBlock]; done) | simpa [Value.ownBlock] using hk.1, hk.2⟩)⟩, ⟨by repeat (first | (with_reducible first | exact HB.out | apply below_alloc | apply pw_below_drewN | apply below_drew1) | exact HB.out)⟩⟩
  case rest =>
    clear HC7
    try clear c1
    try clear q1
    try clear c2
    try clear p2
    try clear c5
    try clear c12
    try clear c12b0
    try clear c12b1
    try clear c13
    try clear c13b0
    try clear c13b1
    try clear q14
    try clear q14
    obtain ⟨kq, x0_6, HA, HJ6, HO_0, HO_1, HO_2, HB⟩ := hcut
    cases kq with
    | zero => exact absurd HA.out (by simp [tolllaw08_LabelMore.j0])
    | succ kj6 =>
      have H := HA.out
      clear HA
      simp only [tolllaw08_LabelMore.j0] at H
      have HC15 := Aside0.mk H
      clear H
      obtain ⟨Ao16, co16, eo16⟩ := Kd.N_slice HO_1.out
      subst eo16
      go_upto_if 23 with (fail)
      go_cut [1] (fun v1 wc => ∃ (kq : Nat) (x1_14 : List (S58)), Aside0 (tolllaw08_LabelMore.j1 kq x0_6 x1_14 t389 = some r) ∧ Aside0 (kq ≤ kj6) ∧ Aside0 (Kd.N k58 58 wc w.heap.size (fun k_ => some k_ ≠ (v1 : Value).ownBlock ∧ some k_ ≠ (v390 : Value).ownBlock) u0 x0_6) ∧ Aside0 (Kd.N k58 58 wc w.heap.size (fun k_ => some k_ ≠ (u0 : Value).ownBlock ∧ some k_ ≠ (v390 : Value).ownBlock) v1 x1_14) ∧ Aside0 (Kd.R k55 55 wc w.heap.size (fun _ => True) v390 t389) ∧ Aside0 (Below w.heap.size w wc))
      case first =>
        have H := HC15.out
        clear HC15
        by_cases c17 : (t386.length : Int) > 4
        · rw [if_pos c17] at H
          have c17b0 : decide (4 < (t386.length : Int)) = true := decide_eq_true c17
          have c17b1 : decide (4 < t386.length) = true := decide_eq_true (by omega)
          clear c17
          (first | rw [c17b0] | (simp only [i64_w, i32_w]; rw [c17b0]) | skip)
          by_cases c18 : 4 ≤ (t386.length : Int)
          · rw [if_pos c18] at H
            have c18b0 := eq_true c18
            have c18b1 : decide (4 ≤ (t386.length : Int)) = true := decide_eq_true c18
            clear c18
            obtain ⟨y395, hy395⟩ : ∃ y_ : List (S58), y_ = (t386.take (4 : Int).toNat) := ⟨_, rfl⟩
            replace H : (tolllaw08_LabelMore.j1 kj6 x0_6 y395 t389) = some r := by first | (rw [hy395]; with_reducible exact H) | (have H2_ := (Option.bind_some _ _).symm.trans H; rw [hy395]; with_reducible exact H2_) | (have H2_ := (Option.bind_some _ _).symm.trans H; with_reducible exact H2_) | with_reducible exact H | (rw [hy395]; exact H) | exact H
            have Ny395 := Aside0.mk hy395
            clear hy395
            have H' := Aside0.mk H
            clear H
            have q19 : (4 : Int) ≤ ((t386.length : Int) : Int) := of_decide_eq_true (by first | (with_reducible assumption) | assumption)
            obtain ⟨i019, hi019, _, hsz19, _⟩ := info_parts info58
            have hcut19 := cut_to (P := Tryd.prog) 60 58 .i64 Tryd.underlying60 hi019 Ao16 t386.length co16 4 (by omega) q19 (Kd.N_reads' HO_1.out).2.1
            have hr19 := Kd.N_take (m := (4 : Int).toNat) HO_1.out (by omega)
            have hy19 : y395.length = (4 : Int).toNat := (by rw [Ny395.out, List.length_take]; omega)
            rw [← Ny395.out] at hr19
            rw [← hy19] at hr19 hcut19
            clear hy19 hi019 hsz19 HO_1
            have HO397 := Aside0.mk hr19
            clear hr19
            replace q19 := eq_true q19
            go_wp2
            go_meet
            case rel => exact ⟨_, (y395), H', ⟨by have := HJ6.out; first | omega | exact Nat.le_refl _⟩, ⟨by (with_reducible repeat (first | apply Kd.N_alloc | apply Kd.N_drewN | apply Kd.N_drew)); first | exact HO_0.out | exact Kd.N_mono HO_0.out (fun _ hk => ⟨by cases Ao16 <;> first | (simp [Value.ownBlock]; done) | simpa [Value.ownBlock] using hk.1, hk.2⟩)⟩, ⟨by (with_reducible repeat (first | apply Kd.N_alloc | apply Kd.N_drewN | apply Kd.N_drew)); first | exact HO397.out | exact Kd.N_mono HO397.out (fun _ hk => ⟨by cases Ao16 <;> first | (simp [Value.ownBlock]; done) | simpa [Value.ownBlock] using hk.1, hk.2⟩)⟩, ⟨by (with_reducible repeat (first | apply Kd.R_alloc | apply Kd.R_drewN | apply Kd.R_drew)); first | exact HO_2.out | exact Kd.N_mono HO_2.out (fun _ hk => ⟨by cases Ao16 <;> first | (simp [Value.ownBlock]; done) | simpa [Value.ownBlock] using hk.1, hk.2⟩)⟩, ⟨by repeat (first | (with_reducible first | exact HB.out | apply below_alloc | apply pw_below_drewN | apply below_drew1) | exact HB.out)⟩⟩
          · rw [if_neg c18] at H
            exact absurd H (by simp)
        · rw [if_neg c17] at H
          have c17b0 : decide (4 < (t386.length : Int)) = false := decide_eq_false c17
          have c17b1 : decide (4 < t386.length) = false := decide_eq_false (by omega)
          clear c17
          (first | rw [c17b0] | (simp only [i64_w, i32_w]; rw [c17b0]) | skip)
          have H' := Aside0.mk H
          clear H
          go_wp2
          go_meet
          case rel => exact ⟨_, (t386), H', ⟨by have := HJ6.out; first | omega | exact Nat.le_refl _⟩, ⟨by (with_reducible repeat (first | apply Kd.N_alloc | apply Kd.N_drewN | apply Kd.N_drew)); first | exact HO_0.out | exact Kd.N_mono HO_0.out (fun _ hk => ⟨by cases Ao16 <;> first | (simp [Value.ownBlock]; done) | simpa [Value.ownBlock] using hk.1, hk.2⟩)⟩, ⟨by (with_reducible repeat (first | apply Kd.N_alloc | apply Kd.N_drewN | apply Kd.N_drew)); first | exact HO_1.out | exact Kd.N_mono HO_1.out (fun _ hk => ⟨by cases Ao16 <;> first | (simp [Value.ownBlock]; done) | simpa [Value.ownBlock] using hk.1, hk.2⟩)⟩, ⟨by (with_reducible repeat (first | apply Kd.R_alloc | apply Kd.R_drewN | apply Kd.R_drew)); first | exact HO_2.out | exact Kd.N_mono HO_2.out (fun _ hk => ⟨by cases Ao16 <;> first | (simp [Value.ownBlock]; done) | simpa [Value.ownBlock] using hk.1, hk.2⟩)⟩, ⟨by repeat (first | (with_reducible first | exact HB.out | apply below_alloc | apply pw_below_drewN | apply below_drew1) | exact HB.out)⟩⟩
      case rest =>
        clear HC15
        try clear c1
        try clear q1
        try clear c2
        try clear p2
        try clear c5
        try clear c12
        try clear c12b0
        try clear c12b1
        try clear c13
        try clear c13b0
        try clear c13b1
        try clear q14
        try clear c15
        try clear c17
        try clear c17b0
        try clear c17b1
        try clear c18
        try clear c18b0
        try clear c18b1
        try clear q19
        try clear p2
        try clear q1
        try clear q14
        try clear q19
        obtain ⟨kq, x1_14, HA, HJ14, HO_0, HO_1, HO_2, HB⟩ := hcut
        cases kq with
        | zero => exact absurd HA.out (by simp [tolllaw08_LabelMore.j1])
        | succ kj14 =>
          have H := HA.out
          clear HA
          simp only [tolllaw08_LabelMore.j1] at H
          obtain ⟨y398, hy398⟩ : ∃ y_ : List (S58), y_ = (([] : List (S58))) := ⟨_, rfl⟩
          replace H : (if y398.length + x0_6.length < 2932031007402 then ((some (y398 ++ x0_6 : List (S58))).bind fun y401 => (if y401.length + x1_14.length < 2932031007402 then ((some (y401 ++ x1_14 : List (S58))).bind fun y404 => ((some (([] : List (S58)) : List (S58))).bind fun y407 => (if y407.length + x1_14.length < 2932031007402 then ((some (y407 ++ x1_14 : List (S58))).bind fun y410 => (if y410.length + x0_6.length < 2932031007402 then ((some (y410 ++ x0_6 : List (S58))).bind fun y413 => ((label_All.f x0_6 t389).bind fun t416 => (if t416 = true then ((label_All.f x1_14 t389).bind fun t417 => (tolllaw08_LabelMore.j2 kj14 t389 y404 y413 t417)) else (tolllaw08_LabelMore.j2 kj14 t389 y404 y413 false)))) else (none))) else (none)))) else (none))) else (none)) = some r := by first | (rw [hy398]; with_reducible exact H) | (have H2_ := (Option.bind_some _ _).symm.trans H; rw [hy398]; with_reducible exact H2_) | (have H2_ := (Option.bind_some _ _).symm.trans H; with_reducible exact H2_) | with_reducible exact H | (rw [hy398]; exact H) | exact H
          have Ny398 := Aside0.mk hy398
          clear hy398
          by_cases c20 : y398.length + x0_6.length < 2932031007402
          · rw [if_pos c20] at H
            have LMc20 := Aside0.mk c20
            clear c20
            obtain ⟨y401, hy401⟩ : ∃ y_ : List (S58), y_ = (y398 ++ x0_6) := ⟨_, rfl⟩
            replace H : (if y401.length + x1_14.length < 2932031007402 then ((some (y401 ++ x1_14 : List (S58))).bind fun y404 => ((some (([] : List (S58)) : List (S58))).bind fun y407 => (if y407.length + x1_14.length < 2932031007402 then ((some (y407 ++ x1_14 : List (S58))).bind fun y410 => (if y410.length + x0_6.length < 2932031007402 then ((some (y410 ++ x0_6 : List (S58))).bind fun y413 => ((label_All.f x0_6 t389).bind fun t416 => (if t416 = true then ((label_All.f x1_14 t389).bind fun t417 => (tolllaw08_LabelMore.j2 kj14 t389 y404 y413 t417)) else (tolllaw08_LabelMore.j2 kj14 t389 y404 y413 false)))) else (none))) else (none)))) else (none)) = some r := by first | (rw [hy401]; with_reducible exact H) | (have H2_ := (Option.bind_some _ _).symm.trans H; rw [hy401]; with_reducible exact H2_) | (have H2_ := (Option.bind_some _ _).symm.trans H; with_reducible exact H2_) | with_reducible exact H | (rw [hy401]; exact H) | exact H
            have Ny401 := Aside0.mk hy401
            clear hy401
            by_cases c21 : y401.length + x1_14.length < 2932031007402
            · rw [if_pos c21] at H
              have LMc21 := Aside0.mk c21
              clear c21
              obtain ⟨y404, hy404⟩ : ∃ y_ : List (S58), y_ = (y401 ++ x1_14) := ⟨_, rfl⟩
              replace H : ((some (([] : List (S58)) : List (S58))).bind fun y407 => (if y407.length + x1_14.length < 2932031007402 then ((some (y407 ++ x1_14 : List (S58))).bind fun y410 => (if y410.length + x0_6.length < 2932031007402 then ((some (y410 ++ x0_6 : List (S58))).bind fun y413 => ((label_All.f x0_6 t389).bind fun t416 => (if t416 = true then ((label_All.f x1_14 t389).bind fun t417 => (tolllaw08_LabelMore.j2 kj14 t389 y404 y413 t417)) else (tolllaw08_LabelMore.j2 kj14 t389 y404 y413 false)))) else (none))) else (none))) = some r := by first | (rw [hy404]; with_reducible exact H) | (have H2_ := (Option.bind_some _ _).symm.trans H; rw [hy404]; with_reducible exact H2_) | (have H2_ := (Option.bind_some _ _).symm.trans H; with_reducible exact H2_) | with_reducible exact H | (rw [hy404]; exact H) | exact H
              have Ny404 := Aside0.mk hy404
              clear hy404
              obtain ⟨y407, hy407⟩ : ∃ y_ : List (S58), y_ = (([] : List (S58))) := ⟨_, rfl⟩
              replace H : (if y407.length + x1_14.length < 2932031007402 then ((some (y407 ++ x1_14 : List (S58))).bind fun y410 => (if y410.length + x0_6.length < 2932031007402 then ((some (y410 ++ x0_6 : List (S58))).bind fun y413 => ((label_All.f x0_6 t389).bind fun t416 => (if t416 = true then ((label_All.f x1_14 t389).bind fun t417 => (tolllaw08_LabelMore.j2 kj14 t389 y404 y413 t417)) else (tolllaw08_LabelMore.j2 kj14 t389 y404 y413 false)))) else (none))) else (none)) = some r := by first | (rw [hy407]; with_reducible exact H) | (have H2_ := (Option.bind_some _ _).symm.trans H; rw [hy407]; with_reducible exact H2_) | (have H2_ := (Option.bind_some _ _).symm.trans H; with_reducible exact H2_) | with_reducible exact H | (rw [hy407]; exact H) | exact H
              have Ny407 := Aside0.mk hy407
              clear hy407
              by_cases c22 : y407.length + x1_14.length < 2932031007402
              · rw [if_pos c22] at H
                have LMc22 := Aside0.mk c22
                clear c22
                obtain ⟨y410, hy410⟩ : ∃ y_ : List (S58), y_ = (y407 ++ x1_14) := ⟨_, rfl⟩
                replace H : (if y410.length + x0_6.length < 2932031007402 then ((some (y410 ++ x0_6 : List (S58))).bind fun y413 => ((label_All.f x0_6 t389).bind fun t416 => (if t416 = true then ((label_All.f x1_14 t389).bind fun t417 => (tolllaw08_LabelMore.j2 kj14 t389 y404 y413 t417)) else (tolllaw08_LabelMore.j2 kj14 t389 y404 y413 false)))) else (none)) = some r := by first | (rw [hy410]; with_reducible exact H) | (have H2_ := (Option.bind_some _ _).symm.trans H; rw [hy410]; with_reducible exact H2_) | (have H2_ := (Option.bind_some _ _).symm.trans H; with_reducible exact H2_) | with_reducible exact H | (rw [hy410]; exact H) | exact H
                have Ny410 := Aside0.mk hy410
                clear hy410
                by_cases c23 : y410.length + x0_6.length < 2932031007402
                · rw [if_pos c23] at H
                  have LMc23 := Aside0.mk c23
                  clear c23
                  obtain ⟨y413, hy413⟩ : ∃ y_ : List (S58), y_ = (y410 ++ x0_6) := ⟨_, rfl⟩
                  replace H : ((label_All.f x0_6 t389).bind fun t416 => (if t416 = true then ((label_All.f x1_14 t389).bind fun t417 => (tolllaw08_LabelMore.j2 kj14 t389 y404 y413 t417)) else (tolllaw08_LabelMore.j2 kj14 t389 y404 y413 false))) = some r := by first | (rw [hy413]; with_reducible exact H) | (have H2_ := (Option.bind_some _ _).symm.trans H; rw [hy413]; with_reducible exact H2_) | (have H2_ := (Option.bind_some _ _).symm.trans H; with_reducible exact H2_) | with_reducible exact H | (rw [hy413]; exact H) | exact H
                  have Ny413 := Aside0.mk hy413
                  clear hy413
                  have HC24 := Aside0.mk H
                  clear H
                  go_upto_region 8 with (first | ((with_reducible refine gate_dst (N := 26) rfl ?_); refine Kd.N_lit k58 _ 58 ?hg (N' := 26) ?hd (xs := ([] : List (S58))) (inner := []) (ok := (fun k_ => some k_ ≠ (u0 : Value).ownBlock ∧ some k_ ≠ (u1 : Value).ownBlock ∧ some k_ ≠ (v390 : Value).ownBlock)) (okp := (fun k_ => some k_ ≠ (u0 : Value).ownBlock ∧ some k_ ≠ (u1 : Value).ownBlock ∧ some k_ ≠ (v390 : Value).ownBlock)) ?hr ?hp (fun _ hk => hk) ((show ∀ k_, wc.heap.size ≤ k_ → (fun k_ => some k_ ≠ (u0 : Value).ownBlock ∧ some k_ ≠ (u1 : Value).ownBlock ∧ some k_ ≠ (v390 : Value).ownBlock) k_ from fun k_ hk => ⟨Kd.fresh' (Kd.N_lt (by (with_reducible repeat (first | apply Kd.N_alloc | apply Kd.N_drewN | apply Kd.N_drew)); exact HO_0.out)) k_ hk, Kd.fresh' (Kd.N_lt (by (with_reducible repeat (first | apply Kd.N_alloc | apply Kd.N_drewN | apply Kd.N_drew)); exact HO_1.out)) k_ hk, Kd.fresh' (Kd.R_lt (by (with_reducible repeat (first | apply Kd.R_alloc | apply Kd.R_drewN | apply Kd.R_drew)); exact HO_2.out)) k_ hk⟩) _ (Nat.le_refl _)) (Below.refl _ _) (Nat.le_refl _) (by simp) ?_; (case hd => rfl); (case hg => rfl); (case hr => first | (go_simp; done) | (go_simp; rfl)); (case hp => exact (Reps.none _ _)); intro v399 w25 ho26 hb hg_ hnew_; clear hg_ hnew_; (first | rw [← Ny398.out] at ho26 | (simp only [Int.reduceToNat] at ho26; rw [← Ny398.out] at ho26)); have n0_ := Aside0.mk (Kd.N_elder' (by (with_reducible repeat (first | apply Kd.N_alloc | apply Kd.N_drewN | apply Kd.N_drew)); exact HO_0.out) (Kd.N_base ho26) hb); have n1_ := Aside0.mk (Kd.N_elder' (by (with_reducible repeat (first | apply Kd.N_alloc | apply Kd.N_drewN | apply Kd.N_drew)); exact HO_1.out) (Kd.N_base ho26) hb); have n2_ := Aside0.mk (Kd.R_below (by (with_reducible repeat (first | apply Kd.R_alloc | apply Kd.R_drewN | apply Kd.R_drew)); exact HO_2.out) hb); have n3_ := Aside0.mk (Kd.N_lower ho26 (below_size (by repeat (first | (with_reducible first | exact HB.out | apply below_alloc | apply pw_below_drewN | apply below_drew1) | exact HB.out)))); have n4_ := Aside0.mk (below_step (by repeat (first | (with_reducible first | exact HB.out | apply below_alloc | apply pw_below_drewN | apply below_drew1) | exact HB.out)) hb); clear HO_0; clear HO_1; clear HO_2; clear HB; have HO_0 := n0_; have HO_1 := n1_; have HO_2 := n2_; have HO400 := n3_; have HB := n4_; clear n0_ n1_ n2_ n3_ n4_; clear hb ho26; obtain ⟨Ao28, co28, eo28⟩ := Kd.N_slice HO_0.out; subst eo28) | ((with_reducible refine _root_.Go.Proofs.YtcakednecmngdaaDoorW.PrintMore.gate_builtin (b := .append) (xs := #[.tmp 26, .tmp 27]) rfl ?_); at_builtin; refine Kd.N_append_rows k58 (w0 := w) w.heap.size rfl (.tmp 26) (.tmp 27) 60 58 (.agg #[(.int .i64 0), (.string ⟨#[]⟩), (.slice none 0 0)]) 48 rfl Tryd.underlying60 info58 rfl (by decide) (by omega) v399 y398 x0_6 _ _ _ (fun k_ => some k_ ≠ (u1 : Value).ownBlock ∧ some k_ ≠ (v390 : Value).ownBlock) (fun k_ => ((fun k_ => some k_ ≠ (u1 : Value).ownBlock ∧ some k_ ≠ (v390 : Value).ownBlock)) k_ ∧ some k_ ≠ (v399 : Value).ownBlock) rfl rfl ?aO ?aR (fun _ hk => hk) ?aF ?aB ?aS ?aL ?_; (case aR => exact (by skip; exact Kd.N_F (Kd.N_mono (ok' := (fun k_ => ((fun k_ => some k_ ≠ (u1 : Value).ownBlock ∧ some k_ ≠ (v390 : Value).ownBlock)) k_ ∧ some k_ ≠ (v399 : Value).ownBlock)) (HO_0.out) (fun k_ hk => ⟨⟨hk.1.1, hk.1.2⟩, hk.2⟩)))); (case aB => exact (by repeat (first | (with_reducible first | exact HB.out | apply below_alloc | apply pw_below_drewN | apply below_drew1) | exact HB.out))); (case aF => exact (fun k_ hk => ⟨Kd.fresh' (Kd.N_lt (by (with_reducible repeat (first | apply Kd.N_alloc | apply Kd.N_drewN | apply Kd.N_drew)); exact HO_1.out)) k_ hk, Kd.fresh' (Kd.R_lt (by (with_reducible repeat (first | apply Kd.R_alloc | apply Kd.R_drewN | apply Kd.R_drew)); exact HO_2.out)) k_ hk⟩)); (case aO => exact (by (with_reducible repeat (first | apply Kd.N_alloc | apply Kd.N_drewN | apply Kd.N_drew)); exact Kd.N_mono HO400.out (fun _ hk => ⟨hk.2.1, hk.2.2⟩))); (case aS => exact (below_size (by repeat (first | (with_reducible first | exact HB.out | apply below_alloc | apply pw_below_drewN | apply below_drew1) | exact HB.out)))); (case aL => have := LMc20.out; omega); intro v402 w27 ho hb hg hat; rw [← Ny401.out] at ho; have n0_ := Aside0.mk (Kd.N_afterv (ok := (fun k_ => some k_ ≠ (u1 : Value).ownBlock ∧ some k_ ≠ (v390 : Value).ownBlock)) (by (with_reducible repeat (first | apply Kd.N_alloc | apply Kd.N_drewN | apply Kd.N_drew)); exact HO_0.out) hg hat); have n1_ := Aside0.mk (Kd.N_afterv (ok := (fun k_ => some k_ ≠ (.slice Ao28 x0_6.length co28 : Value).ownBlock ∧ some k_ ≠ (v390 : Value).ownBlock)) (by (with_reducible repeat (first | apply Kd.N_alloc | apply Kd.N_drewN | apply Kd.N_drew)); exact HO_1.out) hg hat); have n2_ := Aside0.mk (Kd.R_over' (by (with_reducible repeat (first | apply Kd.R_alloc | apply Kd.R_drewN | apply Kd.R_drew)); exact HO_2.out) (Kd.N_typed (by (with_reducible repeat (first | apply Kd.N_alloc | apply Kd.N_drewN | apply Kd.N_drew)); exact HO400.out)) (by decide) hg); have n3_ := Aside0.mk (hb); have n4_ := Aside0.mk (ho); clear HO_0; clear HO_1; clear HO_2; clear HB; clear HO400; have HO_0 := n0_; have HO_1 := n1_; have HO_2 := n2_; have HB := n3_; have HO403 := n4_; clear n0_ n1_ n2_ n3_ n4_; clear ho hb hg hat; obtain ⟨Ao30, co30, eo30⟩ := Kd.N_slice HO_1.out; subst eo30) | ((with_reducible refine _root_.Go.Proofs.YtcakednecmngdaaDoorW.PrintMore.gate_builtin (b := .append) (xs := #[.tmp 28, .tmp 29]) rfl ?_); at_builtin; refine Kd.N_append_rows k58 (w0 := w) w.heap.size rfl (.tmp 28) (.tmp 29) 60 58 (.agg #[(.int .i64 0), (.string ⟨#[]⟩), (.slice none 0 0)]) 48 rfl Tryd.underlying60 info58 rfl (by decide) (by omega) v402 y401 x1_14 _ _ _ (fun k_ => some k_ ≠ (v390 : Value).ownBlock) (fun k_ => ((fun k_ => some k_ ≠ (v390 : Value).ownBlock)) k_ ∧ some k_ ≠ (v402 : Value).ownBlock) rfl rfl ?aO ?aR (fun _ hk => hk) ?aF ?aB ?aS ?aL ?_; (case aR => exact (by skip; exact Kd.N_F (Kd.N_mono (ok' := (fun k_ => ((fun k_ => some k_ ≠ (v390 : Value).ownBlock)) k_ ∧ some k_ ≠ (v402 : Value).ownBlock)) (HO_1.out) (fun k_ hk => ⟨hk.1.2, hk.2⟩)))); (case aB => exact (by repeat (first | (with_reducible first | exact HB.out | apply below_alloc | apply pw_below_drewN | apply below_drew1) | exact HB.out))); (case aF => exact (fun k_ hk => Kd.fresh' (Kd.R_lt (by (with_reducible repeat (first | apply Kd.R_alloc | apply Kd.R_drewN | apply Kd.R_drew)); exact HO_2.out)) k_ hk)); (case aO => exact (by (with_reducible repeat (first | apply Kd.N_alloc | apply Kd.N_drewN | apply Kd.N_drew)); exact Kd.N_mono HO403.out (fun _ hk => hk.2))); (case aS => exact (below_size (by repeat (first | (with_reducible first | exact HB.out | apply below_alloc | apply pw_below_drewN | apply below_drew1) | exact HB.out)))); (case aL => have := LMc21.out; omega); intro v405 w29 ho hb hg hat; rw [← Ny404.out] at ho; have n0_ := Aside0.mk (Kd.N_afterv (ok := (fun k_ => some k_ ≠ (.slice Ao30 x1_14.length co30 : Value).ownBlock ∧ some k_ ≠ (v390 : Value).ownBlock)) (by (with_reducible repeat (first | apply Kd.N_alloc | apply Kd.N_drewN | apply Kd.N_drew)); exact HO_0.out) hg hat); have n1_ := Aside0.mk (Kd.N_afterv (ok := (fun k_ => some k_ ≠ (.slice Ao28 x0_6.length co28 : Value).ownBlock ∧ some k_ ≠ (v390 : Value).ownBlock)) (by (with_reducible repeat (first | apply Kd.N_alloc | apply Kd.N_drewN | apply Kd.N_drew)); exact HO_1.out) hg hat); have n2_ := Aside0.mk (Kd.R_over' (by (with_reducible repeat (first | apply Kd.R_alloc | apply Kd.R_drewN | apply Kd.R_drew)); exact HO_2.out) (Kd.N_typed (by (with_reducible repeat (first | apply Kd.N_alloc | apply Kd.N_drewN | apply Kd.N_drew)); exact HO403.out)) (by decide) hg); have n3_ := Aside0.mk (hb); have n4_ := Aside0.mk (ho); clear HO_0; clear HO_1; clear HO_2; clear HB; clear HO403; have HO_0 := n0_; have HO_1 := n1_; have HO_2 := n2_; have HB := n3_; have HO406 := n4_; clear n0_ n1_ n2_ n3_ n4_; clear ho hb hg hat) | ((with_reducible refine gate_dst (N := 31) rfl ?_); refine Kd.N_lit k58 _ 58 ?hg (N' := 31) ?hd (xs := ([] : List (S58))) (inner := []) (ok := (fun k_ => some k_ ≠ (.slice Ao28 x0_6.length co28 : Value).ownBlock ∧ some k_ ≠ (.slice Ao30 x1_14.length co30 : Value).ownBlock ∧ some k_ ≠ (v390 : Value).ownBlock ∧ some k_ ≠ (v405 : Value).ownBlock)) (okp := (fun k_ => some k_ ≠ (.slice Ao28 x0_6.length co28 : Value).ownBlock ∧ some k_ ≠ (.slice Ao30 x1_14.length co30 : Value).ownBlock ∧ some k_ ≠ (v390 : Value).ownBlock ∧ some k_ ≠ (v405 : Value).ownBlock)) ?hr ?hp (fun _ hk => hk) ((show ∀ k_, w29.heap.size ≤ k_ → (fun k_ => some k_ ≠ (.slice Ao28 x0_6.length co28 : Value).ownBlock ∧ some k_ ≠ (.slice Ao30 x1_14.length co30 : Value).ownBlock ∧ some k_ ≠ (v390 : Value).ownBlock ∧ some k_ ≠ (v405 : Value).ownBlock) k_ from fun k_ hk => ⟨Kd.fresh' (Kd.N_lt (by (with_reducible repeat (first | apply Kd.N_alloc | apply Kd.N_drewN | apply Kd.N_drew)); exact HO_0.out)) k_ hk, Kd.fresh' (Kd.N_lt (by (with_reducible repeat (first | apply Kd.N_alloc | apply Kd.N_drewN | apply Kd.N_drew)); exact HO_1.out)) k_ hk, Kd.fresh' (Kd.R_lt (by (with_reducible repeat (first | apply Kd.R_alloc | apply Kd.R_drewN | apply Kd.R_drew)); exact HO_2.out)) k_ hk, Kd.fresh' (Kd.N_lt (by (with_reducible repeat (first | apply Kd.N_alloc | apply Kd.N_drewN | apply Kd.N_drew)); exact HO406.out)) k_ hk⟩) _ (Nat.le_refl _)) (Below.refl _ _) (Nat.le_refl _) (by simp) ?_; (case hd => rfl); (case hg => rfl); (case hr => first | (go_simp; done) | (go_simp; rfl)); (case hp => exact (Reps.none _ _)); intro v408 w31 ho32 hb hg_ hnew_; clear hg_ hnew_; (first | rw [← Ny407.out] at ho32 | (simp only [Int.reduceToNat] at ho32; rw [← Ny407.out] at ho32)); have n0_ := Aside0.mk (Kd.N_elder' (by (with_reducible repeat (first | apply Kd.N_alloc | apply Kd.N_drewN | apply Kd.N_drew)); exact HO_0.out) (Kd.N_base ho32) hb); have n1_ := Aside0.mk (Kd.N_elder' (by (with_reducible repeat (first | apply Kd.N_alloc | apply Kd.N_drewN | apply Kd.N_drew)); exact HO_1.out) (Kd.N_base ho32) hb); have n2_ := Aside0.mk (Kd.R_below (by (with_reducible repeat (first | apply Kd.R_alloc | apply Kd.R_drewN | apply Kd.R_drew)); exact HO_2.out) hb); have n3_ := Aside0.mk (Kd.N_elder' (by (with_reducible repeat (first | apply Kd.N_alloc | apply Kd.N_drewN | apply Kd.N_drew)); exact HO406.out) (Kd.N_base ho32) hb); have n4_ := Aside0.mk (Kd.N_lower ho32 (below_size (by repeat (first | (with_reducible first | exact HB.out | apply below_alloc | apply pw_below_drewN | apply below_drew1) | exact HB.out)))); have n5_ := Aside0.mk (below_step (by repeat (first | (with_reducible first | exact HB.out | apply below_alloc | apply pw_below_drewN | apply below_drew1) | exact HB.out)) hb); clear HO_0; clear HO_1; clear HO_2; clear HO406; clear HB; have HO_0 := n0_; have HO_1 := n1_; have HO_2 := n2_; have HO406 := n3_; have HO409 := n4_; have HB := n5_; clear n0_ n1_ n2_ n3_ n4_ n5_; clear hb ho32) | ((with_reducible refine _root_.Go.Proofs.YtcakednecmngdaaDoorW.PrintMore.gate_builtin (b := .append) (xs := #[.tmp 31, .tmp 32]) rfl ?_); at_builtin; refine Kd.N_append_rows k58 (w0 := w) w.heap.size rfl (.tmp 31) (.tmp 32) 60 58 (.agg #[(.int .i64 0), (.string ⟨#[]⟩), (.slice none 0 0)]) 48 rfl Tryd.underlying60 info58 rfl (by decide) (by omega) v408 y407 x1_14 _ _ _ (fun k_ => some k_ ≠ (.slice Ao28 x0_6.length co28 : Value).ownBlock ∧ some k_ ≠ (v390 : Value).ownBlock ∧ some k_ ≠ (v405 : Value).ownBlock) (fun k_ => ((fun k_ => some k_ ≠ (.slice Ao28 x0_6.length co28 : Value).ownBlock ∧ some k_ ≠ (v390 : Value).ownBlock ∧ some k_ ≠ (v405 : Value).ownBlock)) k_ ∧ some k_ ≠ (v408 : Value).ownBlock) rfl rfl ?aO ?aR (fun _ hk => hk) ?aF ?aB ?aS ?aL ?_; (case aR => exact (by skip; exact Kd.N_F (Kd.N_mono (ok' := (fun k_ => ((fun k_ => some k_ ≠ (.slice Ao28 x0_6.length co28 : Value).ownBlock ∧ some k_ ≠ (v390 : Value).ownBlock ∧ some k_ ≠ (v405 : Value).ownBlock)) k_ ∧ some k_ ≠ (v408 : Value).ownBlock)) (HO_1.out) (fun k_ hk => ⟨⟨hk.1.1.1, ⟨hk.1.1.2, hk.1.2⟩⟩, hk.2⟩)))); (case aB => exact (by repeat (first | (with_reducible first | exact HB.out | apply below_alloc | apply pw_below_drewN | apply below_drew1) | exact HB.out))); (case aF => exact (fun k_ hk => ⟨Kd.fresh' (Kd.N_lt (by (with_reducible repeat (first | apply Kd.N_alloc | apply Kd.N_drewN | apply Kd.N_drew)); exact HO_0.out)) k_ hk, Kd.fresh' (Kd.R_lt (by (with_reducible repeat (first | apply Kd.R_alloc | apply Kd.R_drewN | apply Kd.R_drew)); exact HO_2.out)) k_ hk, Kd.fresh' (Kd.N_lt (by (with_reducible repeat (first | apply Kd.N_alloc | apply Kd.N_drewN | apply Kd.N_drew)); exact HO406.out)) k_ hk⟩)); (case aO => exact (by (with_reducible repeat (first | apply Kd.N_alloc | apply Kd.N_drewN | apply Kd.N_drew)); exact Kd.N_mono HO409.out (fun _ hk => ⟨hk.1, ⟨hk.2.2.1, hk.2.2.2⟩⟩))); (case aS => exact (below_size (by repeat (first | (with_reducible first | exact HB.out | apply below_alloc | apply pw_below_drewN | apply below_drew1) | exact HB.out)))); (case aL => have := LMc22.out; omega); intro v411 w33 ho hb hg hat; rw [← Ny410.out] at ho; have n0_ := Aside0.mk (Kd.N_afterv (ok := (fun k_ => some k_ ≠ (.slice Ao30 x1_14.length co30 : Value).ownBlock ∧ some k_ ≠ (v390 : Value).ownBlock ∧ some k_ ≠ (v405 : Value).ownBlock)) (by (with_reducible repeat (first | apply Kd.N_alloc | apply Kd.N_drewN | apply Kd.N_drew)); exact Kd.N_mono HO_0.out (fun _ hk => ⟨⟨hk.1.1.1, ⟨hk.1.1.2, hk.1.2⟩⟩, hk.2⟩)) hg hat); have n1_ := Aside0.mk (Kd.N_afterv (ok := (fun k_ => some k_ ≠ (.slice Ao28 x0_6.length co28 : Value).ownBlock ∧ some k_ ≠ (v390 : Value).ownBlock ∧ some k_ ≠ (v405 : Value).ownBlock)) (by (with_reducible repeat (first | apply Kd.N_alloc | apply Kd.N_drewN | apply Kd.N_drew)); exact Kd.N_mono HO_1.out (fun _ hk => ⟨⟨hk.1.1.1, ⟨hk.1.1.2, hk.1.2⟩⟩, hk.2⟩)) hg hat); have n2_ := Aside0.mk (Kd.R_over' (by (with_reducible repeat (first | apply Kd.R_alloc | apply Kd.R_drewN | apply Kd.R_drew)); exact HO_2.out) (Kd.N_typed (by (with_reducible repeat (first | apply Kd.N_alloc | apply Kd.N_drewN | apply Kd.N_drew)); exact HO409.out)) (by decide) hg); have n3_ := Aside0.mk (Kd.N_afterv (ok := (fun k_ => some k_ ≠ (v390 : Value).ownBlock)) (by (with_reducible repeat (first | apply Kd.N_alloc | apply Kd.N_drewN | apply Kd.N_drew)); exact HO406.out) hg hat); have n4_ := Aside0.mk (hb); have n5_ := Aside0.mk (ho); clear HO_0; clear HO_1; clear HO_2; clear HO406; clear HB; clear HO409; have HO_0 := n0_; have HO_1 := n1_; have HO_2 := n2_; have HO406 := n3_; have HB := n4_; have HO412 := n5_; clear n0_ n1_ n2_ n3_ n4_ n5_; clear ho hb hg hat) | ((with_reducible refine _root_.Go.Proofs.YtcakednecmngdaaDoorW.PrintMore.gate_builtin (b := .append) (xs := #[.tmp 33, .tmp 34]) rfl ?_); at_builtin; refine Kd.N_append_rows k58 (w0 := w) w.heap.size rfl (.tmp 33) (.tmp 34) 60 58 (.agg #[(.int .i64 0), (.string ⟨#[]⟩), (.slice none 0 0)]) 48 rfl Tryd.underlying60 info58 rfl (by decide) (by omega) v411 y410 x0_6 _ _ _ (fun k_ => some k_ ≠ (v390 : Value).ownBlock ∧ some k_ ≠ (v405 : Value).ownBlock) (fun k_ => ((fun k_ => some k_ ≠ (v390 : Value).ownBlock ∧ some k_ ≠ (v405 : Value).ownBlock)) k_ ∧ some k_ ≠ (v411 : Value).ownBlock) rfl rfl ?aO ?aR (fun _ hk => hk) ?aF ?aB ?aS ?aL ?_; (case aR => exact (by skip; exact Kd.N_F (Kd.N_mono (ok' := (fun k_ => ((fun k_ => some k_ ≠ (v390 : Value).ownBlock ∧ some k_ ≠ (v405 : Value).ownBlock)) k_ ∧ some k_ ≠ (v411 : Value).ownBlock)) (HO_0.out) (fun k_ hk => ⟨⟨hk.1.2.1, hk.1.2.2⟩, hk.2⟩)))); (case aB => exact (by repeat (first | (with_reducible first | exact HB.out | apply below_alloc | apply pw_below_drewN | apply below_drew1) | exact HB.out))); (case aF => exact (fun k_ hk => ⟨Kd.fresh' (Kd.R_lt (by (with_reducible repeat (first | apply Kd.R_alloc | apply Kd.R_drewN | apply Kd.R_drew)); exact HO_2.out)) k_ hk, Kd.fresh' (Kd.N_lt (by (with_reducible repeat (first | apply Kd.N_alloc | apply Kd.N_drewN | apply Kd.N_drew)); exact HO406.out)) k_ hk⟩)); (case aO => exact (by (with_reducible repeat (first | apply Kd.N_alloc | apply Kd.N_drewN | apply Kd.N_drew)); exact Kd.N_mono HO412.out (fun _ hk => ⟨hk.2.1, hk.2.2⟩))); (case aS => exact (below_size (by repeat (first | (with_reducible first | exact HB.out | apply below_alloc | apply pw_below_drewN | apply below_drew1) | exact HB.out)))); (case aL => have := LMc23.out; omega); intro v414 w34 ho hb hg hat; rw [← Ny413.out] at ho; have n0_ := Aside0.mk (Kd.N_afterv (ok := (fun k_ => some k_ ≠ (.slice Ao30 x1_14.length co30 : Value).ownBlock ∧ some k_ ≠ (v390 : Value).ownBlock ∧ some k_ ≠ (v405 : Value).ownBlock)) (by (with_reducible repeat (first | apply Kd.N_alloc | apply Kd.N_drewN | apply Kd.N_drew)); exact HO_0.out) hg hat); have n1_ := Aside0.mk (Kd.N_afterv (ok := (fun k_ => some k_ ≠ (.slice Ao28 x0_6.length co28 : Value).ownBlock ∧ some k_ ≠ (v390 : Value).ownBlock ∧ some k_ ≠ (v405 : Value).ownBlock)) (by (with_reducible repeat (first | apply Kd.N_alloc | apply Kd.N_drewN | apply Kd.N_drew)); exact HO_1.out) hg hat); have n2_ := Aside0.mk (Kd.R_over' (by (with_reducible repeat (first | apply Kd.R_alloc | apply Kd.R_drewN | apply Kd.R_drew)); exact HO_2.out) (Kd.N_typed (by (with_reducible repeat (first | apply Kd.N_alloc | apply Kd.N_drewN | apply Kd.N_drew)); exact HO412.out)) (by decide) hg); have n3_ := Aside0.mk (Kd.N_afterv (ok := (fun k_ => some k_ ≠ (v390 : Value).ownBlock)) (by (with_reducible repeat (first | apply Kd.N_alloc | apply Kd.N_drewN | apply Kd.N_drew)); exact HO406.out) hg hat); have n4_ := Aside0.mk (hb); have n5_ := Aside0.mk (ho); clear HO_0; clear HO_1; clear HO_2; clear HO406; clear HB; clear HO412; have HO_0 := n0_; have HO_1 := n1_; have HO_2 := n2_; have HO406 := n3_; have HB := n4_; have HO415 := n5_; clear n0_ n1_ n2_ n3_ n4_ n5_; clear ho hb hg hat))
                  (try simp only [Act.put, List.setIfInBounds_toArray, List.set_cons_zero, List.set_cons_succ])
                  go_cut [9] (fun v9 wc => ∃ (kq : Nat) (x9_23 : Bool), v9 = .bool x9_23 ∧ Aside0 (tolllaw08_LabelMore.j2 kq t389 y404 y413 x9_23 = some r) ∧ Aside0 (kq ≤ kj14) ∧ Aside0 (Kd.R k55 55 wc w.heap.size (fun _ => True) v390 t389) ∧ Aside0 (Kd.N k58 58 wc w.heap.size (fun k_ => some k_ ≠ (v390 : Value).ownBlock ∧ some k_ ≠ (v414 : Value).ownBlock) v405 y404) ∧ Aside0 (Kd.N k58 58 wc w.heap.size (fun k_ => some k_ ≠ (v390 : Value).ownBlock ∧ some k_ ≠ (v405 : Value).ownBlock) v414 y413) ∧ Aside0 (Below w.heap.size w wc))
                  case first =>
                    have H := HC24.out
                    clear HC24
                    replace H := Option.bind_eq_some_iff.mp H
                    obtain ⟨t416, A350, H⟩ := H
                    replace H : (if t416 = true then ((label_All.f x1_14 t389).bind fun t417 => (tolllaw08_LabelMore.j2 kj14 t389 y404 y413 t417)) else (tolllaw08_LabelMore.j2 kj14 t389 y404 y413 false)) = some r := H
                    have A35 := Aside0.mk A350
                    clear A350
                    by_cases c36 : t416 = true
                    · subst c36
                      have H1 : ((label_All.f x1_14 t389).bind fun t417 => (tolllaw08_LabelMore.j2 kj14 t389 y404 y413 t417)) = some r := by rw [if_pos rfl] at H; exact H
                      clear H
                      have H := H1
                      clear H1
                      replace H := Option.bind_eq_some_iff.mp H
                      obtain ⟨t417, A370, H⟩ := H
                      replace H : (tolllaw08_LabelMore.j2 kj14 t389 y404 y413 t417) = some r := H
                      have A37 := Aside0.mk A370
                      clear A370
                      have H' := Aside0.mk H
                      clear H
                      obtain ⟨Ao38, co38, eo38⟩ := Kd.R_slice HO_2.out
                      subst eo38
                      go_wp2_with (first | ((with_reducible refine _root_.Go.Proofs.YtcakednecmngdaaDoorW.PrintMore.gate_callee (f := 61) rfl ?_); refine goesL_ (some 38) rfl rfl Tryd.func61 (by kernel_rfl) rfl #[.slice Ao28 x0_6.length co28, .slice Ao38 t389.length co38] rfl (by (try simp only [List.map_toArray, List.map_cons, List.map_nil]); first | done | rfl | (simp only [List.length_drop, List.length_take]; rfl)) ?_; (with_reducible refine (label_All.calls _ _ x0_6 _ _ t389 true _ ?side1 ?side2 ?side3 ?side4 A35.out).mono ?_); (case side1 => repeat (first | exact (Kd.N_reads' HO_0.out).2.2 | (with_reducible refine Kd.C_alloc ?_ _) | (with_reducible refine Kd.C_drewN ?_ _) | (with_reducible refine Kd.C_drew ?_))); (case side2 => exact (Kd.N_reads' HO_0.out).2.1); (case side3 => repeat (first | exact (Kd.R_reads' HO_2.out).2.2 | (with_reducible refine Kd.C_alloc ?_ _) | (with_reducible refine Kd.C_drewN ?_ _) | (with_reducible refine Kd.C_drew ?_))); (case side4 => exact (Kd.R_reads' HO_2.out).2.1); rintro e w39 ⟨rfl, hb⟩; refine ⟨_, rfl, ?_⟩; have n0_ := Aside0.mk (Kd.N_below (by (with_reducible repeat (first | apply Kd.N_alloc | apply Kd.N_drewN | apply Kd.N_drew)); exact HO_0.out) hb); have n1_ := Aside0.mk (Kd.N_below (by (with_reducible repeat (first | apply Kd.N_alloc | apply Kd.N_drewN | apply Kd.N_drew)); exact HO_1.out) hb); have n2_ := Aside0.mk (Kd.R_below (by (with_reducible repeat (first | apply Kd.R_alloc | apply Kd.R_drewN | apply Kd.R_drew)); exact HO_2.out) hb); have n3_ := Aside0.mk (Kd.N_below (by (with_reducible repeat (first | apply Kd.N_alloc | apply Kd.N_drewN | apply Kd.N_drew)); exact HO406.out) hb); have n4_ := Aside0.mk (Kd.N_below (by (with_reducible repeat (first | apply Kd.N_alloc | apply Kd.N_drewN | apply Kd.N_drew)); exact HO415.out) hb); have n5_ := Aside0.mk (below_step (by repeat (first | (with_reducible first | exact HB.out | apply below_alloc | apply pw_below_drewN | apply below_drew1) | exact HB.out)) hb); clear HO_0; clear HO_1; clear HO_2; clear HO406; clear HO415; clear HB; have HO_0 := n0_; have HO_1 := n1_; have HO_2 := n2_; have HO406 := n3_; have HO415 := n4_; have HB := n5_; clear n0_ n1_ n2_ n3_ n4_ n5_; (try clear hb); (try clear hb2); (try clear hk); (try clear hi)) | (go_at_call 61; (with_reducible refine (label_All.calls _ _ x1_14 _ _ t389 t417 _ ?side1 ?side2 ?side3 ?side4 A37.out).mono ?_); (case side1 => repeat (first | exact (Kd.N_reads' HO_1.out).2.2 | (with_reducible refine Kd.C_alloc ?_ _) | (with_reducible refine Kd.C_drewN ?_ _) | (with_reducible refine Kd.C_drew ?_))); (case side2 => exact (Kd.N_reads' HO_1.out).2.1); (case side3 => repeat (first | exact (Kd.R_reads' HO_2.out).2.2 | (with_reducible refine Kd.C_alloc ?_ _) | (with_reducible refine Kd.C_drewN ?_ _) | (with_reducible refine Kd.C_drew ?_))); (case side4 => exact (Kd.R_reads' HO_2.out).2.1); rintro e w40 ⟨rfl, hb⟩; have n0_ := Aside0.mk (Kd.N_below (by (with_reducible repeat (first | apply Kd.N_alloc | apply Kd.N_drewN | apply Kd.N_drew)); exact HO_0.out) hb); have n1_ := Aside0.mk (Kd.N_below (by (with_reducible repeat (first | apply Kd.N_alloc | apply Kd.N_drewN | apply Kd.N_drew)); exact HO_1.out) hb); have n2_ := Aside0.mk (Kd.R_below (by (with_reducible repeat (first | apply Kd.R_alloc | apply Kd.R_drewN | apply Kd.R_drew)); exact HO_2.out) hb); have n3_ := Aside0.mk (Kd.N_below (by (with_reducible repeat (first | apply Kd.N_alloc | apply Kd.N_drewN | apply Kd.N_drew)); exact HO406.out) hb); have n4_ := Aside0.mk (Kd.N_below (by (with_reducible repeat (first | apply Kd.N_alloc | apply Kd.N_drewN | apply Kd.N_drew)); exact HO415.out) hb); have n5_ := Aside0.mk (below_step (by repeat (first | (with_reducible first | exact HB.out | apply below_alloc | apply pw_below_drewN | apply below_drew1) | exact HB.out)) hb); clear HO_0; clear HO_1; clear HO_2; clear HO406; clear HO415; clear HB; have HO_0 := n0_; have HO_1 := n1_; have HO_2 := n2_; have HO406 := n3_; have HO415 := n4_; have HB := n5_; clear n0_ n1_ n2_ n3_ n4_ n5_; (try clear hb); (try clear hb2); (try clear hk); (try clear hi)))
                      go_meet
                      case rel => exact ⟨_, (t417), (by first | rfl | (simp; done) | (simp [*]; done)), H', ⟨by have := HJ6.out; have := HJ14.out; first | omega | exact Nat.le_refl _⟩, ⟨by (with_reducible repeat (first | apply Kd.R_alloc | apply Kd.R_drewN | apply Kd.R_drew)); exact HO_2.out⟩, ⟨by (with_reducible repeat (first | apply Kd.N_alloc | apply Kd.N_drewN | apply Kd.N_drew)); exact HO406.out⟩, ⟨by (with_reducible repeat (first | apply Kd.N_alloc | apply Kd.N_drewN | apply Kd.N_drew)); exact HO415.out⟩, ⟨by repeat (first | (with_reducible first | exact HB.out | apply below_alloc | apply pw_below_drewN | apply below_drew1) | exact HB.out)⟩⟩
                    · replace c36 := Bool.eq_false_iff.mpr c36
                      subst c36
                      have H1 : (tolllaw08_LabelMore.j2 kj14 t389 y404 y413 false) = some r := by rw [if_neg (show ¬ (false = true) by decide)] at H; exact H
                      clear H
                      have H := H1
                      clear H1
                      have H' := Aside0.mk H
                      clear H
                      obtain ⟨Ao41, co41, eo41⟩ := Kd.R_slice HO_2.out
                      subst eo41
                      go_wp2_with (first | ((with_reducible refine _root_.Go.Proofs.YtcakednecmngdaaDoorW.PrintMore.gate_callee (f := 61) rfl ?_); refine goesL_ (some 38) rfl rfl Tryd.func61 (by kernel_rfl) rfl #[.slice Ao28 x0_6.length co28, .slice Ao41 t389.length co41] rfl (by (try simp only [List.map_toArray, List.map_cons, List.map_nil]); first | done | rfl | (simp only [List.length_drop, List.length_take]; rfl)) ?_; (with_reducible refine (label_All.calls _ _ x0_6 _ _ t389 false _ ?side1 ?side2 ?side3 ?side4 A35.out).mono ?_); (case side1 => repeat (first | exact (Kd.N_reads' HO_0.out).2.2 | (with_reducible refine Kd.C_alloc ?_ _) | (with_reducible refine Kd.C_drewN ?_ _) | (with_reducible refine Kd.C_drew ?_))); (case side2 => exact (Kd.N_reads' HO_0.out).2.1); (case side3 => repeat (first | exact (Kd.R_reads' HO_2.out).2.2 | (with_reducible refine Kd.C_alloc ?_ _) | (with_reducible refine Kd.C_drewN ?_ _) | (with_reducible refine Kd.C_drew ?_))); (case side4 => exact (Kd.R_reads' HO_2.out).2.1); rintro e w42 ⟨rfl, hb⟩; refine ⟨_, rfl, ?_⟩; have n0_ := Aside0.mk (Kd.N_below (by (with_reducible repeat (first | apply Kd.N_alloc | apply Kd.N_drewN | apply Kd.N_drew)); exact HO_0.out) hb); have n1_ := Aside0.mk (Kd.N_below (by (with_reducible repeat (first | apply Kd.N_alloc | apply Kd.N_drewN | apply Kd.N_drew)); exact HO_1.out) hb); have n2_ := Aside0.mk (Kd.R_below (by (with_reducible repeat (first | apply Kd.R_alloc | apply Kd.R_drewN | apply Kd.R_drew)); exact HO_2.out) hb); have n3_ := Aside0.mk (Kd.N_below (by (with_reducible repeat (first | apply Kd.N_alloc | apply Kd.N_drewN | apply Kd.N_drew)); exact HO406.out) hb); have n4_ := Aside0.mk (Kd.N_below (by (with_reducible repeat (first | apply Kd.N_alloc | apply Kd.N_drewN | apply Kd.N_drew)); exact HO415.out) hb); have n5_ := Aside0.mk (below_step (by repeat (first | (with_reducible first | exact HB.out | apply below_alloc | apply pw_below_drewN | apply below_drew1) | exact HB.out)) hb); clear HO_0; clear HO_1; clear HO_2; clear HO406; clear HO415; clear HB; have HO_0 := n0_; have HO_1 := n1_; have HO_2 := n2_; have HO406 := n3_; have HO415 := n4_; have HB := n5_; clear n0_ n1_ n2_ n3_ n4_ n5_; (try clear hb); (try clear hb2); (try clear hk); (try clear hi)))
                      go_meet
                      case rel => exact ⟨_, (false), (by first | rfl | (simp; done) | (simp [*]; done)), H', ⟨by have := HJ6.out; have := HJ14.out; first | omega | exact Nat.le_refl _⟩, ⟨by (with_reducible repeat (first | apply Kd.R_alloc | apply Kd.R_drewN | apply Kd.R_drew)); exact HO_2.out⟩, ⟨by (with_reducible repeat (first | apply Kd.N_alloc | apply Kd.N_drewN | apply Kd.N_drew)); exact HO406.out⟩, ⟨by (with_reducible repeat (first | apply Kd.N_alloc | apply Kd.N_drewN | apply Kd.N_drew)); exact HO415.out⟩, ⟨by repeat (first | (with_reducible first | exact HB.out | apply below_alloc | apply pw_below_drewN | apply below_drew1) | exact HB.out)⟩⟩
                  case rest =>
                    clear HC24
                    try clear c1
                    try clear q1
                    try clear c2
                    try clear p2
                    try clear c3
                    try clear c5
                    try clear c6
                    try clear c12
                    try clear c12b0
                    try clear c12b1
                    try clear c13
                    try clear c13b0
                    try clear c13b1
                    try clear q14
                    try clear c15
                    try clear c17
                    try clear c17b0
                    try clear c17b1
                    try clear c18
                    try clear c18b0
                    try clear c18b1
                    try clear q19
                    try clear c20
                    try clear c21
                    try clear c22
                    try clear c23
                    try clear c36
                    try clear p2
                    try clear q1
                    try clear q14
                    try clear q19
                    obtain ⟨kq, x9_23, rfl, HA, HJ23, HO_2, HO_7, HO_8, HB⟩ := hcut
                    cases kq with
                    | zero => exact absurd HA.out (by simp [tolllaw08_LabelMore.j2])
                    | succ kj23 =>
                      have H := HA.out
                      clear HA
                      simp only [tolllaw08_LabelMore.j2] at H
                      replace H := Option.bind_eq_some_iff.mp H
                      obtain ⟨t418, A430, H⟩ := H
                      replace H : (if (t418 == x9_23) = true then ((label_All.f y413 t389).bind fun t419 => (if (t419 == x9_23) = true then ((label_All.f ([] : List (S58)) t389).bind fun t420 => ((label_May.f kj23 t389).bind fun t421 => (if (t420 == t421) = true then ((tolllaw08_awake.f).bind fun t422 => (some t422)) else (some false)))) else (some false))) else (some false)) = some r := H
                      have A43 := Aside0.mk A430
                      clear A430
                      by_cases c44 : (t418 == x9_23) = true
                      · rw [if_pos c44] at H
                        have c44b0 : (t418 == x9_23) = true := c44
                        (try (have c44b1 : decide (t418 = x9_23) = true := by simpa using c44))
                        (try (have c44b2 : (t418 == x9_23) = true := by simpa using c44))
                        clear c44
                        replace H := Option.bind_eq_some_iff.mp H
                        obtain ⟨t419, A450, H⟩ := H
                        replace H : (if (t419 == x9_23) = true then ((label_All.f ([] : List (S58)) t389).bind fun t420 => ((label_May.f kj23 t389).bind fun t421 => (if (t420 == t421) = true then ((tolllaw08_awake.f).bind fun t422 => (some t422)) else (some false)))) else (some false)) = some r := H
                        have A45 := Aside0.mk A450
                        clear A450
                        by_cases c46 : (t419 == x9_23) = true
                        · rw [if_pos c46] at H
                          have c46b0 : (t419 == x9_23) = true := c46
                          (try (have c46b1 : decide (t419 = x9_23) = true := by simpa using c46))
                          (try (have c46b2 : (t419 == x9_23) = true := by simpa using c46))
                          clear c46
                          replace H := Option.bind_eq_some_iff.mp H
                          obtain ⟨t420, A470, H⟩ := H
                          replace H : ((label_May.f kj23 t389).bind fun t421 => (if (t420 == t421) = true then ((tolllaw08_awake.f).bind fun t422 => (some t422)) else (some false))) = some r := H
                          have A47 := Aside0.mk A470
                          clear A470
                          replace H := Option.bind_eq_some_iff.mp H
                          obtain ⟨t421, A480, H⟩ := H
                          replace H : (if (t420 == t421) = true then ((tolllaw08_awake.f).bind fun t422 => (some t422)) else (some false)) = some r := H
                          have A48 := Aside0.mk A480
                          clear A480
                          by_cases c49 : (t420 == t421) = true
                          · rw [if_pos c49] at H
                            have c49b0 : (t420 == t421) = true := c49
                            (try (have c49b1 : decide (t420 = t421) = true := by simpa using c49))
                            (try (have c49b2 : (t420 == t421) = true := by simpa using c49))
                            clear c49
                            replace H := Option.bind_eq_some_iff.mp H
                            obtain ⟨t422, A500, H⟩ := H
                            replace H : (some t422) = some r := H
                            have A50 := Aside0.mk A500
                            clear A500
                            obtain rfl := Option.some.inj H
                            obtain ⟨Ao51, co51, eo51⟩ := Kd.N_slice HO_7.out
                            subst eo51
                            obtain ⟨Ao52, co52, eo52⟩ := Kd.R_slice HO_2.out
                            subst eo52
                            go_wp2_with (first | ((with_reducible refine _root_.Go.Proofs.YtcakednecmngdaaDoorW.PrintMore.gate_callee (f := 61) rfl ?_); refine goesL_ (some 46) rfl rfl Tryd.func61 (by kernel_rfl) rfl #[.slice Ao51 y404.length co51, .slice Ao52 t389.length co52] rfl (by (try simp only [List.map_toArray, List.map_cons, List.map_nil]); first | done | rfl | (simp only [List.length_drop, List.length_take]; rfl)) ?_; (with_reducible refine (label_All.calls _ _ y404 _ _ t389 t418 _ ?side1 ?side2 ?side3 ?side4 A43.out).mono ?_); (case side1 => repeat (first | exact (Kd.N_reads' HO_7.out).2.2 | (with_reducible refine Kd.C_alloc ?_ _) | (with_reducible refine Kd.C_drewN ?_ _) | (with_reducible refine Kd.C_drew ?_))); (case side2 => exact (Kd.N_reads' HO_7.out).2.1); (case side3 => repeat (first | exact (Kd.R_reads' HO_2.out).2.2 | (with_reducible refine Kd.C_alloc ?_ _) | (with_reducible refine Kd.C_drewN ?_ _) | (with_reducible refine Kd.C_drew ?_))); (case side4 => exact (Kd.R_reads' HO_2.out).2.1); rintro e w53 ⟨rfl, hb⟩; refine ⟨_, rfl, ?_⟩; have n0_ := Aside0.mk (Kd.R_below (by (with_reducible repeat (first | apply Kd.R_alloc | apply Kd.R_drewN | apply Kd.R_drew)); exact HO_2.out) hb); have n1_ := Aside0.mk (Kd.N_below (by (with_reducible repeat (first | apply Kd.N_alloc | apply Kd.N_drewN | apply Kd.N_drew)); exact HO_7.out) hb); have n2_ := Aside0.mk (Kd.N_below (by (with_reducible repeat (first | apply Kd.N_alloc | apply Kd.N_drewN | apply Kd.N_drew)); exact HO_8.out) hb); have n3_ := Aside0.mk (below_step (by repeat (first | (with_reducible first | exact HB.out | apply below_alloc | apply pw_below_drewN | apply below_drew1) | exact HB.out)) hb); clear HO_2; clear HO_7; clear HO_8; clear HB; have HO_2 := n0_; have HO_7 := n1_; have HO_8 := n2_; have HB := n3_; clear n0_ n1_ n2_ n3_; (try clear hb); (try clear hb2); (try clear hk); (try clear hi); obtain ⟨Ao54, co54, eo54⟩ := Kd.N_slice HO_8.out; subst eo54) | (go_at_call 61; (with_reducible refine (label_All.calls _ _ y413 _ _ t389 t419 _ ?side1 ?side2 ?side3 ?side4 A45.out).mono ?_); (case side1 => repeat (first | exact (Kd.N_reads' HO_8.out).2.2 | (with_reducible refine Kd.C_alloc ?_ _) | (with_reducible refine Kd.C_drewN ?_ _) | (with_reducible refine Kd.C_drew ?_))); (case side2 => exact (Kd.N_reads' HO_8.out).2.1); (case side3 => repeat (first | exact (Kd.R_reads' HO_2.out).2.2 | (with_reducible refine Kd.C_alloc ?_ _) | (with_reducible refine Kd.C_drewN ?_ _) | (with_reducible refine Kd.C_drew ?_))); (case side4 => exact (Kd.R_reads' HO_2.out).2.1); rintro e w55 ⟨rfl, hb⟩; have n0_ := Aside0.mk (Kd.R_below (by (with_reducible repeat (first | apply Kd.R_alloc | apply Kd.R_drewN | apply Kd.R_drew)); exact HO_2.out) hb); have n1_ := Aside0.mk (Kd.N_below (by (with_reducible repeat (first | apply Kd.N_alloc | apply Kd.N_drewN | apply Kd.N_drew)); exact HO_7.out) hb); have n2_ := Aside0.mk (Kd.N_below (by (with_reducible repeat (first | apply Kd.N_alloc | apply Kd.N_drewN | apply Kd.N_drew)); exact HO_8.out) hb); have n3_ := Aside0.mk (below_step (by repeat (first | (with_reducible first | exact HB.out | apply below_alloc | apply pw_below_drewN | apply below_drew1) | exact HB.out)) hb); clear HO_2; clear HO_7; clear HO_8; clear HB; have HO_2 := n0_; have HO_7 := n1_; have HO_8 := n2_; have HB := n3_; clear n0_ n1_ n2_ n3_; (try clear hb); (try clear hb2); (try clear hk); (try clear hi)) | (go_at_call 61; (refine (label_All.calls _ _ ([] : List (S58)) _ _ t389 t420 _ ?side1 ?side2 ?side3 ?side4 A47.out).mono ?_); (case side1 => exact Kd.C_nil _ _); (case side2 => exact Nat.le_refl _); (case side3 => repeat (first | exact (Kd.R_reads' HO_2.out).2.2 | (with_reducible refine Kd.C_alloc ?_ _) | (with_reducible refine Kd.C_drewN ?_ _) | (with_reducible refine Kd.C_drew ?_))); (case side4 => exact (Kd.R_reads' HO_2.out).2.1); rintro e w56 ⟨rfl, hb⟩; have n0_ := Aside0.mk (Kd.R_below (by (with_reducible repeat (first | apply Kd.R_alloc | apply Kd.R_drewN | apply Kd.R_drew)); exact HO_2.out) hb); have n1_ := Aside0.mk (Kd.N_below (by (with_reducible repeat (first | apply Kd.N_alloc | apply Kd.N_drewN | apply Kd.N_drew)); exact HO_7.out) hb); have n2_ := Aside0.mk (Kd.N_below (by (with_reducible repeat (first | apply Kd.N_alloc | apply Kd.N_drewN | apply Kd.N_drew)); exact HO_8.out) hb); have n3_ := Aside0.mk (below_step (by repeat (first | (with_reducible first | exact HB.out | apply below_alloc | apply pw_below_drewN | apply below_drew1) | exact HB.out)) hb); clear HO_2; clear HO_7; clear HO_8; clear HB; have HO_2 := n0_; have HO_7 := n1_; have HO_8 := n2_; have HB := n3_; clear n0_ n1_ n2_ n3_; (try clear hb); (try clear hb2); (try clear hk); (try clear hi)) | (go_at_call 52; (with_reducible refine (label_May.calls kj23 _ _ t389 t421 _ ?side1 ?side2 A48.out).mono ?_); (case side1 => repeat (first | exact (Kd.R_reads' HO_2.out).2.2 | (with_reducible refine Kd.C_alloc ?_ _) | (with_reducible refine Kd.C_drewN ?_ _) | (with_reducible refine Kd.C_drew ?_))); (case side2 => exact (Kd.R_reads' HO_2.out).2.1); rintro e w57 ⟨rfl, hb⟩; have n0_ := Aside0.mk (Kd.R_below (by (with_reducible repeat (first | apply Kd.R_alloc | apply Kd.R_drewN | apply Kd.R_drew)); exact HO_2.out) hb); have n1_ := Aside0.mk (Kd.N_below (by (with_reducible repeat (first | apply Kd.N_alloc | apply Kd.N_drewN | apply Kd.N_drew)); exact HO_7.out) hb); have n2_ := Aside0.mk (Kd.N_below (by (with_reducible repeat (first | apply Kd.N_alloc | apply Kd.N_drewN | apply Kd.N_drew)); exact HO_8.out) hb); have n3_ := Aside0.mk (below_step (by repeat (first | (with_reducible first | exact HB.out | apply below_alloc | apply pw_below_drewN | apply below_drew1) | exact HB.out)) hb); clear HO_2; clear HO_7; clear HO_8; clear HB; have HO_2 := n0_; have HO_7 := n1_; have HO_8 := n2_; have HB := n3_; clear n0_ n1_ n2_ n3_; (try clear hb); (try clear hb2); (try clear hk); (try clear hi)) | (go_at_call 53; (with_reducible refine (tolllaw08_awake.calls  t422 _ A50.out).mono ?_); rintro e w58 ⟨rfl, hb⟩; have n0_ := Aside0.mk (Kd.R_below (by (with_reducible repeat (first | apply Kd.R_alloc | apply Kd.R_drewN | apply Kd.R_drew)); exact HO_2.out) hb); have n1_ := Aside0.mk (Kd.N_below (by (with_reducible repeat (first | apply Kd.N_alloc | apply Kd.N_drewN | apply Kd.N_drew)); exact HO_7.out) hb); have n2_ := Aside0.mk (Kd.N_below (by (with_reducible repeat (first | apply Kd.N_alloc | apply Kd.N_drewN | apply Kd.N_drew)); exact HO_8.out) hb); have n3_ := Aside0.mk (below_step (by repeat (first | (with_reducible first | exact HB.out | apply below_alloc | apply pw_below_drewN | apply below_drew1) | exact HB.out)) hb); clear HO_2; clear HO_7; clear HO_8; clear HB; have HO_2 := n0_; have HO_7 := n1_; have HO_8 := n2_; have HB := n3_; clear n0_ n1_ n2_ n3_; (try clear hb); (try clear hb2); (try clear hk); (try clear hi)))
                            go_ret
                            exact ⟨by first | rfl | (simp [errW_none, errW_some] <;> rfl) | (simp [*, errW_none, errW_some] <;> rfl), by repeat (first | (with_reducible first | exact HB.out | apply below_alloc | apply pw_below_drewN | apply below_drew1) | exact HB.out)⟩
                          · rw [if_neg c49] at H
                            have c49b0 : (t420 == t421) = false := by simpa using c49
                            (try (have c49b1 : decide (t420 = t421) = false := by simpa using c49))
                            (try (have c49b2 : (t420 == t421) = false := by simpa using c49))
                            (try (have c49b3 : ¬ (t420 = t421) := by simpa using c49))
                            clear c49
                            obtain rfl := Option.some.inj H
                            obtain ⟨Ao59, co59, eo59⟩ := Kd.N_slice HO_7.out
                            subst eo59
                            obtain ⟨Ao60, co60, eo60⟩ := Kd.R_slice HO_2.out
                            subst eo60
                            go_wp2_with (first | ((with_reducible refine _root_.Go.Proofs.YtcakednecmngdaaDoorW.PrintMore.gate_callee (f := 61) rfl ?_); refine goesL_ (some 46) rfl rfl Tryd.func61 (by kernel_rfl) rfl #[.slice Ao59 y404.length co59, .slice Ao60 t389.length co60] rfl (by (try simp only [List.map_toArray, List.map_cons, List.map_nil]); first | done | rfl | (simp only [List.length_drop, List.length_take]; rfl)) ?_; (with_reducible refine (label_All.calls _ _ y404 _ _ t389 t418 _ ?side1 ?side2 ?side3 ?side4 A43.out).mono ?_); (case side1 => repeat (first | exact (Kd.N_reads' HO_7.out).2.2 | (with_reducible refine Kd.C_alloc ?_ _) | (with_reducible refine Kd.C_drewN ?_ _) | (with_reducible refine Kd.C_drew ?_))); (case side2 => exact (Kd.N_reads' HO_7.out).2.1); (case side3 => repeat (first | exact (Kd.R_reads' HO_2.out).2.2 | (with_reducible refine Kd.C_alloc ?_ _) | (with_reducible refine Kd.C_drewN ?_ _) | (with_reducible refine Kd.C_drew ?_))); (case side4 => exact (Kd.R_reads' HO_2.out).2.1); rintro e w61 ⟨rfl, hb⟩; refine ⟨_, rfl, ?_⟩; have n0_ := Aside0.mk (Kd.R_below (by (with_reducible repeat (first | apply Kd.R_alloc | apply Kd.R_drewN | apply Kd.R_drew)); exact HO_2.out) hb); have n1_ := Aside0.mk (Kd.N_below (by (with_reducible repeat (first | apply Kd.N_alloc | apply Kd.N_drewN | apply Kd.N_drew)); exact HO_7.out) hb); have n2_ := Aside0.mk (Kd.N_below (by (with_reducible repeat (first | apply Kd.N_alloc | apply Kd.N_drewN | apply Kd.N_drew)); exact HO_8.out) hb); have n3_ := Aside0.mk (below_step (by repeat (first | (with_reducible first | exact HB.out | apply below_alloc | apply pw_below_drewN | apply below_drew1) | exact HB.out)) hb); clear HO_2; clear HO_7; clear HO_8; clear HB; have HO_2 := n0_; have HO_7 := n1_; have HO_8 := n2_; have HB := n3_; clear n0_ n1_ n2_ n3_; (try clear hb); (try clear hb2); (try clear hk); (try clear hi); obtain ⟨Ao62, co62, eo62⟩ := Kd.N_slice HO_8.out; subst eo62) | (go_at_call 61; (with_reducible refine (label_All.calls _ _ y413 _ _ t389 t419 _ ?side1 ?side2 ?side3 ?side4 A45.out).mono ?_); (case side1 => repeat (first | exact (Kd.N_reads' HO_8.out).2.2 | (with_reducible refine Kd.C_alloc ?_ _) | (with_reducible refine Kd.C_drewN ?_ _) | (with_reducible refine Kd.C_drew ?_))); (case side2 => exact (Kd.N_reads' HO_8.out).2.1); (case side3 => repeat (first | exact (Kd.R_reads' HO_2.out).2.2 | (with_reducible refine Kd.C_alloc ?_ _) | (with_reducible refine Kd.C_drewN ?_ _) | (with_reducible refine Kd.C_drew ?_))); (case side4 => exact (Kd.R_reads' HO_2.out).2.1); rintro e w63 ⟨rfl, hb⟩; have n0_ := Aside0.mk (Kd.R_below (by (with_reducible repeat (first | apply Kd.R_alloc | apply Kd.R_drewN | apply Kd.R_drew)); exact HO_2.out) hb); have n1_ := Aside0.mk (Kd.N_below (by (with_reducible repeat (first | apply Kd.N_alloc | apply Kd.N_drewN | apply Kd.N_drew)); exact HO_7.out) hb); have n2_ := Aside0.mk (Kd.N_below (by (with_reducible repeat (first | apply Kd.N_alloc | apply Kd.N_drewN | apply Kd.N_drew)); exact HO_8.out) hb); have n3_ := Aside0.mk (below_step (by repeat (first | (with_reducible first | exact HB.out | apply below_alloc | apply pw_below_drewN | apply below_drew1) | exact HB.out)) hb); clear HO_2; clear HO_7; clear HO_8; clear HB; have HO_2 := n0_; have HO_7 := n1_; have HO_8 := n2_; have HB := n3_; clear n0_ n1_ n2_ n3_; (try clear hb); (try clear hb2); (try clear hk); (try clear hi)) | (go_at_call 61; (refine (label_All.calls _ _ ([] : List (S58)) _ _ t389 t420 _ ?side1 ?side2 ?side3 ?side4 A47.out).mono ?_); (case side1 => exact Kd.C_nil _ _); (case side2 => exact Nat.le_refl _); (case side3 => repeat (first | exact (Kd.R_reads' HO_2.out).2.2 | (with_reducible refine Kd.C_alloc ?_ _) | (with_reducible refine Kd.C_drewN ?_ _) | (with_reducible refine Kd.C_drew ?_))); (case side4 => exact (Kd.R_reads' HO_2.out).2.1); rintro e w64 ⟨rfl, hb⟩; have n0_ := Aside0.mk (Kd.R_below (by (with_reducible repeat (first | apply Kd.R_alloc | apply Kd.R_drewN | apply Kd.R_drew)); exact HO_2.out) hb); have n1_ := Aside0.mk (Kd.N_below (by (with_reducible repeat (first | apply Kd.N_alloc | apply Kd.N_drewN | apply Kd.N_drew)); exact HO_7.out) hb); have n2_ := Aside0.mk (Kd.N_below (by (with_reducible repeat (first | apply Kd.N_alloc | apply Kd.N_drewN | apply Kd.N_drew)); exact HO_8.out) hb); have n3_ := Aside0.mk (below_step (by repeat (first | (with_reducible first | exact HB.out | apply below_alloc | apply pw_below_drewN | apply below_drew1) | exact HB.out)) hb); clear HO_2; clear HO_7; clear HO_8; clear HB; have HO_2 := n0_; have HO_7 := n1_; have HO_8 := n2_; have HB := n3_; clear n0_ n1_ n2_ n3_; (try clear hb); (try clear hb2); (try clear hk); (try clear hi)) | (go_at_call 52; (with_reducible refine (label_May.calls kj23 _ _ t389 t421 _ ?side1 ?side2 A48.out).mono ?_); (case side1 => repeat (first | exact (Kd.R_reads' HO_2.out).2.2 | (with_reducible refine Kd.C_alloc ?_ _) | (with_reducible refine Kd.C_drewN ?_ _) | (with_reducible refine Kd.C_drew ?_))); (case side2 => exact (Kd.R_reads' HO_2.out).2.1); rintro e w65 ⟨rfl, hb⟩; have n0_ := Aside0.mk (Kd.R_below (by (with_reducible repeat (first | apply Kd.R_alloc | apply Kd.R_drewN | apply Kd.R_drew)); exact HO_2.out) hb); have n1_ := Aside0.mk (Kd.N_below (by (with_reducible repeat (first | apply Kd.N_alloc | apply Kd.N_drewN | apply Kd.N_drew)); exact HO_7.out) hb); have n2_ := Aside0.mk (Kd.N_below (by (with_reducible repeat (first | apply Kd.N_alloc | apply Kd.N_drewN | apply Kd.N_drew)); exact HO_8.out) hb); have n3_ := Aside0.mk (below_step (by repeat (first | (with_reducible first | exact HB.out | apply below_alloc | apply pw_below_drewN | apply below_drew1) | exact HB.out)) hb); clear HO_2; clear HO_7; clear HO_8; clear HB; have HO_2 := n0_; have HO_7 := n1_; have HO_8 := n2_; have HB := n3_; clear n0_ n1_ n2_ n3_; (try clear hb); (try clear hb2); (try clear hk); (try clear hi)))
                            go_ret
                            exact ⟨by first | rfl | (simp [errW_none, errW_some] <;> rfl) | (simp [*, errW_none, errW_some] <;> rfl), by repeat (first | (with_reducible first | exact HB.out | apply below_alloc | apply pw_below_drewN | apply below_drew1) | exact HB.out)⟩
                        · rw [if_neg c46] at H
                          have c46b0 : (t419 == x9_23) = false := by simpa using c46
                          (try (have c46b1 : decide (t419 = x9_23) = false := by simpa using c46))
                          (try (have c46b2 : (t419 == x9_23) = false := by simpa using c46))
                          (try (have c46b3 : ¬ (t419 = x9_23) := by simpa using c46))
                          clear c46
                          obtain rfl := Option.some.inj H
                          obtain ⟨Ao66, co66, eo66⟩ := Kd.N_slice HO_7.out
                          subst eo66
                          obtain ⟨Ao67, co67, eo67⟩ := Kd.R_slice HO_2.out
                          subst eo67
                          go_wp2_with (first | ((with_reducible refine _root_.Go.Proofs.YtcakednecmngdaaDoorW.PrintMore.gate_callee (f := 61) rfl ?_); refine goesL_ (some 46) rfl rfl Tryd.func61 (by kernel_rfl) rfl #[.slice Ao66 y404.length co66, .slice Ao67 t389.length co67] rfl (by (try simp only [List.map_toArray, List.map_cons, List.map_nil]); first | done | rfl | (simp only [List.length_drop, List.length_take]; rfl)) ?_; (with_reducible refine (label_All.calls _ _ y404 _ _ t389 t418 _ ?side1 ?side2 ?side3 ?side4 A43.out).mono ?_); (case side1 => repeat (first | exact (Kd.N_reads' HO_7.out).2.2 | (with_reducible refine Kd.C_alloc ?_ _) | (with_reducible refine Kd.C_drewN ?_ _) | (with_reducible refine Kd.C_drew ?_))); (case side2 => exact (Kd.N_reads' HO_7.out).2.1); (case side3 => repeat (first | exact (Kd.R_reads' HO_2.out).2.2 | (with_reducible refine Kd.C_alloc ?_ _) | (with_reducible refine Kd.C_drewN ?_ _) | (with_reducible refine Kd.C_drew ?_))); (case side4 => exact (Kd.R_reads' HO_2.out).2.1); rintro e w68 ⟨rfl, hb⟩; refine ⟨_, rfl, ?_⟩; have n0_ := Aside0.mk (Kd.R_below (by (with_reducible repeat (first | apply Kd.R_alloc | apply Kd.R_drewN | apply Kd.R_drew)); exact HO_2.out) hb); have n1_ := Aside0.mk (Kd.N_below (by (with_reducible repeat (first | apply Kd.N_alloc | apply Kd.N_drewN | apply Kd.N_drew)); exact HO_7.out) hb); have n2_ := Aside0.mk (Kd.N_below (by (with_reducible repeat (first | apply Kd.N_alloc | apply Kd.N_drewN | apply Kd.N_drew)); exact HO_8.out) hb); have n3_ := Aside0.mk (below_step (by repeat (first | (with_reducible first | exact HB.out | apply below_alloc | apply pw_below_drewN | apply below_drew1) | exact HB.out)) hb); clear HO_2; clear HO_7; clear HO_8; clear HB; have HO_2 := n0_; have HO_7 := n1_; have HO_8 := n2_; have HB := n3_; clear n0_ n1_ n2_ n3_; (try clear hb); (try clear hb2); (try clear hk); (try clear hi); obtain ⟨Ao69, co69, eo69⟩ := Kd.N_slice HO_8.out; subst eo69) | (go_at_call 61; (with_reducible refine (label_All.calls _ _ y413 _ _ t389 t419 _ ?side1 ?side2 ?side3 ?side4 A45.out).mono ?_); (case side1 => repeat (first | exact (Kd.N_reads' HO_8.out).2.2 | (with_reducible refine Kd.C_alloc ?_ _) | (with_reducible refine Kd.C_drewN ?_ _) | (with_reducible refine Kd.C_drew ?_))); (case side2 => exact (Kd.N_reads' HO_8.out).2.1); (case side3 => repeat (first | exact (Kd.R_reads' HO_2.out).2.2 | (with_reducible refine Kd.C_alloc ?_ _) | (with_reducible refine Kd.C_drewN ?_ _) | (with_reducible refine Kd.C_drew ?_))); (case side4 => exact (Kd.R_reads' HO_2.out).2.1); rintro e w70 ⟨rfl, hb⟩; have n0_ := Aside0.mk (Kd.R_below (by (with_reducible repeat (first | apply Kd.R_alloc | apply Kd.R_drewN | apply Kd.R_drew)); exact HO_2.out) hb); have n1_ := Aside0.mk (Kd.N_below (by (with_reducible repeat (first | apply Kd.N_alloc | apply Kd.N_drewN | apply Kd.N_drew)); exact HO_7.out) hb); have n2_ := Aside0.mk (Kd.N_below (by (with_reducible repeat (first | apply Kd.N_alloc | apply Kd.N_drewN | apply Kd.N_drew)); exact HO_8.out) hb); have n3_ := Aside0.mk (below_step (by repeat (first | (with_reducible first | exact HB.out | apply below_alloc | apply pw_below_drewN | apply below_drew1) | exact HB.out)) hb); clear HO_2; clear HO_7; clear HO_8; clear HB; have HO_2 := n0_; have HO_7 := n1_; have HO_8 := n2_; have HB := n3_; clear n0_ n1_ n2_ n3_; (try clear hb); (try clear hb2); (try clear hk); (try clear hi)))
                          go_ret
                          exact ⟨by first | rfl | (simp [errW_none, errW_some] <;> rfl) | (simp [*, errW_none, errW_some] <;> rfl), by repeat (first | (with_reducible first | exact HB.out | apply below_alloc | apply pw_below_drewN | apply below_drew1) | exact HB.out)⟩
                      · rw [if_neg c44] at H
                        have c44b0 : (t418 == x9_23) = false := by simpa using c44
                        (try (have c44b1 : decide (t418 = x9_23) = false := by simpa using c44))
                        (try (have c44b2 : (t418 == x9_23) = false := by simpa using c44))
                        (try (have c44b3 : ¬ (t418 = x9_23) := by simpa using c44))
                        clear c44
                        obtain rfl := Option.some.inj H
                        obtain ⟨Ao71, co71, eo71⟩ := Kd.N_slice HO_7.out
                        subst eo71
                        obtain ⟨Ao72, co72, eo72⟩ := Kd.R_slice HO_2.out
                        subst eo72
                        go_wp2_with (first | ((with_reducible refine _root_.Go.Proofs.YtcakednecmngdaaDoorW.PrintMore.gate_callee (f := 61) rfl ?_); refine goesL_ (some 46) rfl rfl Tryd.func61 (by kernel_rfl) rfl #[.slice Ao71 y404.length co71, .slice Ao72 t389.length co72] rfl (by (try simp only [List.map_toArray, List.map_cons, List.map_nil]); first | done | rfl | (simp only [List.length_drop, List.length_take]; rfl)) ?_; (with_reducible refine (label_All.calls _ _ y404 _ _ t389 t418 _ ?side1 ?side2 ?side3 ?side4 A43.out).mono ?_); (case side1 => repeat (first | exact (Kd.N_reads' HO_7.out).2.2 | (with_reducible refine Kd.C_alloc ?_ _) | (with_reducible refine Kd.C_drewN ?_ _) | (with_reducible refine Kd.C_drew ?_))); (case side2 => exact (Kd.N_reads' HO_7.out).2.1); (case side3 => repeat (first | exact (Kd.R_reads' HO_2.out).2.2 | (with_reducible refine Kd.C_alloc ?_ _) | (with_reducible refine Kd.C_drewN ?_ _) | (with_reducible refine Kd.C_drew ?_))); (case side4 => exact (Kd.R_reads' HO_2.out).2.1); rintro e w73 ⟨rfl, hb⟩; refine ⟨_, rfl, ?_⟩; have n0_ := Aside0.mk (Kd.R_below (by (with_reducible repeat (first | apply Kd.R_alloc | apply Kd.R_drewN | apply Kd.R_drew)); exact HO_2.out) hb); have n1_ := Aside0.mk (Kd.N_below (by (with_reducible repeat (first | apply Kd.N_alloc | apply Kd.N_drewN | apply Kd.N_drew)); exact HO_7.out) hb); have n2_ := Aside0.mk (Kd.N_below (by (with_reducible repeat (first | apply Kd.N_alloc | apply Kd.N_drewN | apply Kd.N_drew)); exact HO_8.out) hb); have n3_ := Aside0.mk (below_step (by repeat (first | (with_reducible first | exact HB.out | apply below_alloc | apply pw_below_drewN | apply below_drew1) | exact HB.out)) hb); clear HO_2; clear HO_7; clear HO_8; clear HB; have HO_2 := n0_; have HO_7 := n1_; have HO_8 := n2_; have HB := n3_; clear n0_ n1_ n2_ n3_; (try clear hb); (try clear hb2); (try clear hk); (try clear hi)))
                        go_ret
                        exact ⟨by first | rfl | (simp [errW_none, errW_some] <;> rfl) | (simp [*, errW_none, errW_some] <;> rfl), by repeat (first | (with_reducible first | exact HB.out | apply below_alloc | apply pw_below_drewN | apply below_drew1) | exact HB.out)⟩
                · rw [if_neg c23] at H
                  exact absurd H (by simp)
              · rw [if_neg c22] at H
                exact absurd H (by simp)
            · rw [if_neg c21] at H
              exact absurd H (by simp)
          · rw [if_neg c20] at H
            exact absurd H (by simp)

end Go.Proofs.YtcakednecmngdaaDoor.L
