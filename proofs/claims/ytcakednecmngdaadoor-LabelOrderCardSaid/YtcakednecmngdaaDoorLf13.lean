/- Functions of the program as plain functions, with proofs that the code comes to their answers; written by a program of this session. Conditions: as each theorem states them. -/
import Derived.Test.YtcakednecmngdaaDoorSwitch
import Derived.Test.YtcakednecmngdaaDoorWNEv
import Derived.Test.YtcakednecmngdaaDoorWMore
import Derived.Test.YtcakednecmngdaaDoorL0
import Derived.Test.YtcakednecmngdaaDoorLf52
import Derived.Test.YtcakednecmngdaaDoorLf51
import Derived.Test.YtcakednecmngdaaDoorLf53
import Derived.Test.YtcakednecmngdaaDoorLf55
import Derived.Test.YtcakednecmngdaaDoorLabelM
namespace Go.Proofs.YtcakednecmngdaaDoor.P
end Go.Proofs.YtcakednecmngdaaDoor.P
namespace Go.Proofs.YtcakednecmngdaaDoorW.PrintMore
end Go.Proofs.YtcakednecmngdaaDoorW.PrintMore
namespace Go.Proofs.YtcakednecmngdaaDoor.L
open Go.Proofs.YtcakednecmngdaaDoor.P
open Go.RowKit Go.Proofs.YtcakednecmngdaaDoorW.PrintWords Go.Proofs.YtcakednecmngdaaDoorW.PrintLast Go.Proofs.YtcakednecmngdaaDoorW.PrintMore
set_option linter.unusedVariables false
set_option linter.unusedSimpArgs false

/-! ### tolllaw08_LabelOrder: function 13 -/
mutual
def tolllaw08_LabelOrder.l0 : Nat → List (S55) → Int → Int → Int → ByteArray → List ByteArray → Int → ByteArray → List ByteArray → Option (Bool)
  | 0, _, _, _, _, _, _, _, _, _ => none
  | k + 1, x1, x2, x8, x207000, x207001, x207002, x218000, x218001, x218002 => if x8 ≥ 0 then (if 0 ≤ x8 then (if x8 < (x207002.length : Int) then (if x218002.length < 8796093022208 then (tolllaw08_LabelOrder.l0 k x1 x2 (wrap64 (x8 - 1)) x207000 x207001 x207002 x218000 x218001 (x218002 ++ [rdOf ByteArray.empty x207002 x8])) else (none)) else (none)) else (none)) else ((label_Met.f x218000 x218001 x218002 x1).bind fun t222 => ((label_Met.f x207000 x207001 x207002 x1).bind fun t223 => (if (t222 != t223) = true then (some false) else (if (x1.length : Int) = 0 then (tolllaw08_LabelOrder.j1 k x1 x2 true x207000 x207001 x207002) else ((label_May.f k x1).bind fun t224 => (tolllaw08_LabelOrder.j1 k x1 x2 (!t224) x207000 x207001 x207002))))))
def tolllaw08_LabelOrder.j1 : Nat → List (S55) → Int → Bool → Int → ByteArray → List ByteArray → Option (Bool)
  | 0, _, _, _, _, _, _ => none
  | k + 1, x1, x2, x52, x207000, x207001, x207002 => if x52 = true then ((tolllaw08_awake.f).bind fun t225 => (some t225)) else (if (x1.length : Int) = 0 then (none) else (if 0 ≤ (Int.tmod (wrap64 (x2)) (x1.length : Int)) then (if (Int.tmod (wrap64 (x2)) (x1.length : Int)) < (x1.length : Int) then (if ((rd_T55 x1 (Int.tmod (wrap64 (x2)) (x1.length : Int))).f0).toList = x207001.toList then ((tolllaw08_awake.f).bind fun t227 => (some t227)) else ((some (([] : List (S55)) : List (S55))).bind fun y228 => (if (Int.tmod (wrap64 (x2)) (x1.length : Int)) ≤ (x1.length : Int) then ((some (x1.take ((Int.tmod (wrap64 (x2)) (x1.length : Int)) : Int).toNat : List (S55))).bind fun y231 => (if y228.length + y231.length < 4398046511104 then ((some (y228 ++ y231 : List (S55))).bind fun y236 => (if 0 ≤ (wrap64 ((Int.tmod (wrap64 (x2)) (x1.length : Int)) + 1)) then (if (wrap64 ((Int.tmod (wrap64 (x2)) (x1.length : Int)) + 1)) ≤ (x1.length : Int) then ((some (x1.drop ((wrap64 ((Int.tmod (wrap64 (x2)) (x1.length : Int)) + 1)) : Int).toNat : List (S55))).bind fun y239 => (if y236.length + y239.length < 4398046511104 then ((label_Met.f x207000 x207001 x207002 (y236 ++ y239)).bind fun t247 => ((label_Met.f x207000 x207001 x207002 x1).bind fun t248 => (if (t247 == t248) = true then ((tolllaw08_awake.f).bind fun t249 => (some t249)) else (some false)))) else (none))) else (none)) else (none))) else (none))) else (none)))) else (none)) else (none)))
end
def tolllaw08_LabelOrder.f (k : Nat) (a0_0 : Int) (a0_1 : ByteArray) (l0_2 : List ByteArray) (l1 : List (S55)) (a2 : Int) : Option (Bool) := (tolllaw08_Few.f k (([(⟨a0_0, a0_1, l0_2⟩ : S58)] : List (S58)))).bind fun t210 => (if 0 < (t210.length : Int) then ((tolllaw05_Few.f k l1).bind fun t214 => (tolllaw08_LabelOrder.l0 k t214 a2 (wrap64 ((((rd_T58 t210 0).f2).length : Int) - 1)) ((rd_T58 t210 0).f0) ((rd_T58 t210 0).f1) ((rd_T58 t210 0).f2) ((rd_T58 t210 0).f0) ((rd_T58 t210 0).f1) ([] : List ByteArray))) else (none))
theorem tolllaw08_LabelOrder.mono_l : ∀ k, (∀ y0 y1 y2 y3 y4 y5 y6 y7 y8, LeO (tolllaw08_LabelOrder.l0 k y0 y1 y2 y3 y4 y5 y6 y7 y8) (tolllaw08_LabelOrder.l0 (k + 1) y0 y1 y2 y3 y4 y5 y6 y7 y8)) ∧ (∀ y0 y1 y2 y3 y4 y5, LeO (tolllaw08_LabelOrder.j1 k y0 y1 y2 y3 y4 y5) (tolllaw08_LabelOrder.j1 (k + 1) y0 y1 y2 y3 y4 y5))
  | 0 => ⟨fun _ _ _ _ _ _ _ _ _ r h => by simp [tolllaw08_LabelOrder.l0] at h, fun _ _ _ _ _ _ r h => by simp [tolllaw08_LabelOrder.j1] at h⟩
  | k + 1 => by
    obtain ⟨ih0, ih1⟩ := tolllaw08_LabelOrder.mono_l k
    refine ⟨?_, ?_⟩
    · intro y0 y1 y2 y3 y4 y5 y6 y7 y8
      unfold tolllaw08_LabelOrder.l0
      repeat' first
      | (with_reducible exact ih0 _ _ _ _ _ _ _ _ _)
      | (with_reducible exact ih1 _ _ _ _ _ _)
      | (with_reducible exact label_May.mono _ _)
      | (with_reducible exact tolllaw05_Few.mono _ _)
      | (with_reducible exact tolllaw08_Few.mono _ _)
      | (with_reducible exact LeO.refl _)
      | (with_reducible exact LeO.none _)
      | (with_reducible refine LeO.ite ?_ ?_)
      | (with_reducible refine LeO.bind ?_ (fun _ => ?_))
      | exact ih0 _ _ _ _ _ _ _ _ _
      | exact ih1 _ _ _ _ _ _
      | exact label_May.mono _ _
      | exact tolllaw05_Few.mono _ _
      | exact tolllaw08_Few.mono _ _
      | exact LeO.none _
      | refine LeO.ite ?_ ?_
      | refine LeO.bind ?_ (fun _ => ?_)
    · intro y0 y1 y2 y3 y4 y5
      unfold tolllaw08_LabelOrder.j1
      repeat' first
      | (with_reducible exact ih0 _ _ _ _ _ _ _ _ _)
      | (with_reducible exact ih1 _ _ _ _ _ _)
      | (with_reducible exact label_May.mono _ _)
      | (with_reducible exact tolllaw05_Few.mono _ _)
      | (with_reducible exact tolllaw08_Few.mono _ _)
      | (with_reducible exact LeO.refl _)
      | (with_reducible exact LeO.none _)
      | (with_reducible refine LeO.ite ?_ ?_)
      | (with_reducible refine LeO.bind ?_ (fun _ => ?_))
      | exact ih0 _ _ _ _ _ _ _ _ _
      | exact ih1 _ _ _ _ _ _
      | exact label_May.mono _ _
      | exact tolllaw05_Few.mono _ _
      | exact tolllaw08_Few.mono _ _
      | exact LeO.none _
      | refine LeO.ite ?_ ?_
      | refine LeO.bind ?_ (fun _ => ?_)
theorem tolllaw08_LabelOrder.mono : ∀ a0 a1 a2 a3 a4 k, LeO (tolllaw08_LabelOrder.f k a0 a1 a2 a3 a4) (tolllaw08_LabelOrder.f (k + 1) a0 a1 a2 a3 a4) := by
  intro a0 a1 a2 a3 a4 k
  obtain ⟨ih0, ih1⟩ := tolllaw08_LabelOrder.mono_l k
  unfold tolllaw08_LabelOrder.f
  repeat' first
      | (with_reducible exact ih0 _ _ _ _ _ _ _ _ _)
      | (with_reducible exact ih1 _ _ _ _ _ _)
      | (with_reducible exact label_May.mono _ _)
      | (with_reducible exact tolllaw05_Few.mono _ _)
      | (with_reducible exact tolllaw08_Few.mono _ _)
      | (with_reducible exact LeO.refl _)
      | (with_reducible exact LeO.none _)
      | (with_reducible refine LeO.ite ?_ ?_)
      | (with_reducible refine LeO.bind ?_ (fun _ => ?_))
      | exact ih0 _ _ _ _ _ _ _ _ _
      | exact ih1 _ _ _ _ _ _
      | exact label_May.mono _ _
      | exact tolllaw05_Few.mono _ _
      | exact tolllaw08_Few.mono _ _
      | exact LeO.none _
      | refine LeO.ite ?_ ?_
      | refine LeO.bind ?_ (fun _ => ?_)
def tolllaw08_LabelOrder.T1 : Bool × List (List Nat × List Nat) := (true, [([], []), ([0], [0]), ([1], [1]), ([2], [2]), ([3], [3]), ([], []), ([5, 2], [5]), ([4, 6, 0, 1, 2, 3, 4], [4]), ([6, 7, 0, 1, 2, 3, 4, 5, 6, 7], [5, 6])])
def tolllaw08_LabelOrder.B1 : List Nat := [0, 1, 3, 7, 15, 0, 39, 127, 255]
theorem tolllaw08_LabelOrder.tab1 : rtab .any (opsOf Tryd.f13 1) = tolllaw08_LabelOrder.T1 := by kernel_rfl
theorem tolllaw08_LabelOrder.bits1 : waitsOk tolllaw08_LabelOrder.T1.2 tolllaw08_LabelOrder.B1 = true := by kernel_rfl
def tolllaw08_LabelOrder.T7 : Bool × List (List Nat × List Nat) := (true, [([], []), ([0], [0]), ([], []), ([2], [2]), ([], []), ([3, 4], [3, 4]), ([5], [5]), ([6], [6]), ([1, 7], [1, 7]), ([0, 1, 2, 3, 4, 5, 6, 7, 8], []), ([9, 8, 8, 0, 1, 2, 3, 4, 5, 6, 7, 8], [8, 9])])
def tolllaw08_LabelOrder.B7 : List Nat := [0, 1, 0, 4, 0, 28, 60, 124, 255, 511, 1023]
theorem tolllaw08_LabelOrder.tab7 : rtab .any (opsOf Tryd.f13 7) = tolllaw08_LabelOrder.T7 := by kernel_rfl
theorem tolllaw08_LabelOrder.bits7 : waitsOk tolllaw08_LabelOrder.T7.2 tolllaw08_LabelOrder.B7 = true := by kernel_rfl
def tolllaw08_LabelOrder.T13 : Bool × List (List Nat × List Nat) := (true, [([], []), ([], []), ([0, 1], [0, 1]), ([2], [2]), ([3], [3]), ([], []), ([5], [5]), ([4, 6], [4, 6])])
def tolllaw08_LabelOrder.B13 : List Nat := [0, 0, 3, 7, 15, 0, 32, 127]
theorem tolllaw08_LabelOrder.tab13 : rtab .any (opsOf Tryd.f13 13) = tolllaw08_LabelOrder.T13 := by kernel_rfl
theorem tolllaw08_LabelOrder.bits13 : waitsOk tolllaw08_LabelOrder.T13.2 tolllaw08_LabelOrder.B13 = true := by kernel_rfl
def tolllaw08_LabelOrder.T15 : Bool × List (List Nat × List Nat) := (true, [([], []), ([], []), ([], []), ([1, 2], [1, 2]), ([0, 3], [0, 3]), ([], []), ([], []), ([6], [6]), ([5, 7], [5, 7]), ([4, 8, 4], [4, 8]), ([9, 9, 0, 1, 2, 3, 4, 5, 6, 7, 8, 9], [9])])
def tolllaw08_LabelOrder.B15 : List Nat := [0, 0, 0, 6, 15, 0, 0, 64, 224, 511, 1023]
theorem tolllaw08_LabelOrder.tab15 : rtab .any (opsOf Tryd.f13 15) = tolllaw08_LabelOrder.T15 := by kernel_rfl
theorem tolllaw08_LabelOrder.bits15 : waitsOk tolllaw08_LabelOrder.T15.2 tolllaw08_LabelOrder.B15 = true := by kernel_rfl
def tolllaw08_LabelOrder.T16 : Bool × List (List Nat × List Nat) := (true, [([], []), ([], []), ([0, 1], [0, 1]), ([], []), ([], []), ([3, 4, 2], [3, 4]), ([2, 5], [2, 5]), ([6, 5], [6]), ([7, 7], [7]), ([7, 8], [7, 8]), ([9, 8, 0, 1, 2, 3, 4, 5, 6, 7, 8, 9], [9])])
def tolllaw08_LabelOrder.B16 : List Nat := [0, 0, 3, 0, 0, 31, 63, 127, 255, 511, 1023]
theorem tolllaw08_LabelOrder.tab16 : rtab .any (opsOf Tryd.f13 16) = tolllaw08_LabelOrder.T16 := by kernel_rfl
theorem tolllaw08_LabelOrder.bits16 : waitsOk tolllaw08_LabelOrder.T16.2 tolllaw08_LabelOrder.B16 = true := by kernel_rfl
set_option maxHeartbeats 8000000 in
set_option maxRecDepth 100000 in
theorem tolllaw08_LabelOrder.calls (k : Nat) (a0_0 : Int) (a0_1 : ByteArray) (P0_2_ : Nat → Prop) (A0_2 : Option Addr) (c0_2 : Nat) (l0_2 : List ByteArray) (A1 : Option Addr) (c1 : Nat) (l1 : List (S55)) (a2 : Int) (w : World) (hs0_2 : Kd.V Kd.string 9 w w.heap.size (fun k_ => P0_2_ k_) (.slice A0_2 l0_2.length c0_2) l0_2) (hr1 : Kd.C k55 w A1 l1.length l1) (hc1 : l1.length ≤ c1) (h : tolllaw08_LabelOrder.f k a0_0 a0_1 l0_2 l1 a2 = some true) :
    Calls Tryd.prog 13 #[.agg #[.int .i64 a0_0, .string a0_1, .slice A0_2 l0_2.length c0_2], .slice A1 l1.length c1, .int .u8 a2] w fun e w' => e = .returned (.bool true) ∧ Below w.heap.size w w' := by
  have hu58 := Tryd.underlying58
  have HO0_2 := Aside0.mk (show Kd.V Kd.string 9 w w.heap.size (fun k_ => (P0_2_ k_ ∨ w.heap.size ≤ k_)) (.slice A0_2 l0_2.length c0_2) l0_2 from Kd.V_mono hs0_2 (fun k_ hk => .inl hk))
  have HR1 := Aside0.mk hr1
  have HC1 := Aside0.mk hc1
  clear hr1 hc1
  have HB := Aside0.mk (Below.refl w.heap.size w)
  have H : ((tolllaw08_Few.f k (([(⟨a0_0, a0_1, l0_2⟩ : S58)] : List (S58)))).bind fun t210 => (if 0 < (t210.length : Int) then ((tolllaw05_Few.f k l1).bind fun t214 => (tolllaw08_LabelOrder.l0 k t214 a2 (wrap64 ((((rd_T58 t210 0).f2).length : Int) - 1)) ((rd_T58 t210 0).f0) ((rd_T58 t210 0).f1) ((rd_T58 t210 0).f2) ((rd_T58 t210 0).f0) ((rd_T58 t210 0).f1) ([] : List ByteArray))) else (none))) = some true := h
  clear h
  obtain ⟨y207, hy207⟩ : ∃ y_ : List (S58), y_ = (([(⟨a0_0, a0_1, l0_2⟩ : S58)] : List (S58))) := ⟨_, rfl⟩
  replace H : ((tolllaw08_Few.f k y207).bind fun t210 => (if 0 < (t210.length : Int) then ((tolllaw05_Few.f k l1).bind fun t214 => (tolllaw08_LabelOrder.l0 k t214 a2 (wrap64 ((((rd_T58 t210 0).f2).length : Int) - 1)) ((rd_T58 t210 0).f0) ((rd_T58 t210 0).f1) ((rd_T58 t210 0).f2) ((rd_T58 t210 0).f0) ((rd_T58 t210 0).f1) ([] : List ByteArray))) else (none))) = some true := by first | (rw [hy207]; with_reducible exact H) | (have H2_ := (Option.bind_some _ _).symm.trans H; rw [hy207]; with_reducible exact H2_) | (have H2_ := (Option.bind_some _ _).symm.trans H; with_reducible exact H2_) | with_reducible exact H | (rw [hy207]; exact H) | exact H
  have Ny207 := Aside0.mk hy207
  clear hy207
  replace H := Option.bind_eq_some_iff.mp H
  obtain ⟨t210, A40, H⟩ := H
  replace H : (if 0 < (t210.length : Int) then ((tolllaw05_Few.f k l1).bind fun t214 => (tolllaw08_LabelOrder.l0 k t214 a2 (wrap64 ((((rd_T58 t210 0).f2).length : Int) - 1)) ((rd_T58 t210 0).f0) ((rd_T58 t210 0).f1) ((rd_T58 t210 0).f2) ((rd_T58 t210 0).f0) ((rd_T58 t210 0).f1) ([] : List ByteArray))) else (none)) = some true := H
  have A4 := Aside0.mk A40
  clear A40
  by_cases c5 : 0 < (t210.length : Int)
  · rw [if_pos c5] at H
    have c5b0 : decide (0 < (t210.length : Int)) = true := decide_eq_true c5
    have c5b1 : decide (0 < t210.length) = true := decide_eq_true (by omega)
    clear c5
    replace H := Option.bind_eq_some_iff.mp H
    obtain ⟨t214, A60, H⟩ := H
    replace H : (tolllaw08_LabelOrder.l0 k t214 a2 (wrap64 ((((rd_T58 t210 0).f2).length : Int) - 1)) ((rd_T58 t210 0).f0) ((rd_T58 t210 0).f1) ((rd_T58 t210 0).f2) ((rd_T58 t210 0).f0) ((rd_T58 t210 0).f1) ([] : List ByteArray)) = some true := H
    have A6 := Aside0.mk A60
    clear A60
    have H' := Aside0.mk H
    clear H
    go_enter Tryd.func13, Tryd.ntmps13
    try go_wp2_with (first | ((with_reducible refine gate_dst (N := 3) rfl ?_); refine box_event ?hg (N := 3) ?hd (cs := #[.int .i64 a0_0, .string a0_1, .slice A0_2 l0_2.length c0_2]) (t := 58) ?hr ?_; (case hd => rfl); (case hg => rfl); (case hr => first | (go_simp; done) | (go_simp; rfl)); intro gb206 hg w7 hbox hb; have n0_ := Aside0.mk (Kd.V_below (Kd.V_elderB (by (with_reducible repeat (first | apply Kd.V_alloc | apply Kd.V_drewN | apply Kd.V_drew)); exact HO0_2.out) gb206 (Nat.le_of_eq hg.symm)) hb); have n1_ := Aside0.mk (below_step (by repeat (first | (with_reducible first | exact HB.out | apply below_alloc | apply pw_below_drewN | apply below_drew1) | exact HB.out)) hb); have n2_ := Aside0.mk (hbox); have n3_ := Aside0.mk ((by rw [hg]; exact (below_size (by repeat (first | (with_reducible first | exact HB.out | apply below_alloc | apply pw_below_drewN | apply below_drew1) | exact HB.out))) : w.heap.size ≤ gb206)); have n4_ := Aside0.mk ((by rw [hg]; exact (below_size (by repeat (first | (with_reducible first | exact HB.out | apply below_alloc | apply pw_below_drewN | apply below_drew1) | exact HB.out))) : w.heap.size ≤ gb206)); clear HO0_2; clear HB; have HO0_2 := n0_; have HB := n1_; have BK206 := n2_; have GW206 := n3_; have GE206 := n4_; clear n0_ n1_ n2_ n3_ n4_; clear hb hbox hg))
    have n0_ := Aside0.mk (Kd.V_drew HO0_2.out)
    have n1_ := Aside0.mk (blk_drew BK206.out)
    have n2_ := Aside0.mk (below_drew1 HB.out)
    clear HO0_2
    clear BK206
    clear HB
    have HO0_2 := n0_
    have BK206 := n1_
    have HB := n2_
    clear n0_ n1_ n2_
    refine start_ (n := 9) (S := fun w' => w'.cell? ⟨gb206, 0, none⟩ = some (.int .i64 a0_0) ∧ w'.cell? ⟨gb206, 1, none⟩ = some (.string a0_1) ∧ w'.cell? ⟨gb206, 2, none⟩ = some (.slice A0_2 l0_2.length c0_2)) (ds := [3, 4, 6, 7, 8]) #[false, false, false, false, false, false, false, false, false] (by kernel_rfl) rfl rfl ⟨(blk_cell BK206.out 0).trans rfl, (blk_cell BK206.out 1).trans rfl, (blk_cell BK206.out 2).trans rfl⟩ (fun hHeld => ?_); refine with_tabW tolllaw08_LabelOrder.tab1 tolllaw08_LabelOrder.bits1 (fun HT_ HW_ => ?_)
    generalize w7.drew = w8 at HO0_2 BK206 HB hHeld ⊢
    refine pure_ (i := 5) (N := some 16) (v := ?_) (a' := ?_) #[false, false, false, false, false, true, false, false, false] rfl rfl (any_of HT_.out (by kernel_rfl)) (fun _ _ _ h => h) (Or.inl ⟨by rfl, ?_⟩) ?_ ?_
    rotate_left
    · intro w'
      go_simp
      with_reducible rfl
    rotate_left
    · simp only [Act.put, List.setIfInBounds_toArray, List.set_cons_zero, List.set_cons_succ, i64_w, i32_w]
      rfl
    refine take_ (i := 0) (N := some 11) (v := ?_) (a' := ?_) #[true, false, false, false, false, true, false, false, false] rfl rfl (take_ofW HT_.out HW_.out (by kernel_rfl)) (fun _ _ _ h => h) (Or.inl ⟨by rfl, ?_⟩) hHeld ?_ ?_
    rotate_left
    · rintro w' ⟨s0, s1, s2⟩
      go_simp
      with_reducible rfl
    rotate_left
    · simp only [Act.put, List.setIfInBounds_toArray, List.set_cons_zero, List.set_cons_succ, i64_w, i32_w]
      rfl
    refine one_ (i := 1) (N := some 12) #[true, true, false, false, false, true, false, false, false] rfl rfl (one_of HT_.out (by kernel_rfl)) (by decide) (fun K hK => ?_)
    refine Kd.N_lit_step k58 _ 58 ?hg (N' := 12) ?hd (xs := ([(⟨a0_0, a0_1, l0_2⟩ : S58)] : List (S58))) (inner := [.int .i64 a0_0, .string a0_1, .slice A0_2 l0_2.length c0_2]) (ok := (fun k_ => (P0_2_ k_ ∨ w.heap.size ≤ k_) ∧ k_ ≠ gb206)) (okp := (fun k_ => (P0_2_ k_ ∨ w.heap.size ≤ k_) ∧ k_ ≠ gb206)) ?hr ?hp (fun _ hk => hk) ((show ∀ k_, w8.heap.size ≤ k_ → (fun k_ => (P0_2_ k_ ∨ w.heap.size ≤ k_) ∧ k_ ≠ gb206) k_ from fun k_ hk => ⟨(.inr (Nat.le_trans (below_size (by repeat (first | (with_reducible first | exact HB.out | apply below_alloc | apply pw_below_drewN | apply below_drew1 | refine below_set ?_ GE206.out) | exact HB.out))) hk)), Kd.freshB (g := gb206) (o := .cells #[.int .i64 a0_0, .string a0_1, .slice A0_2 l0_2.length c0_2] 58 (0, 0)) (by (with_reducible repeat (first | refine blk_drewN ?_ _ | refine blk_drew ?_ | refine blk_alloc ?_ _)); exact BK206.out) k_ hk⟩) _ (Nat.le_refl _)) (Below.refl _ _) (Nat.le_refl _) (by simp) ?_; (case hd => rfl); (case hg => rfl); (case hr => first | (go_simp; done) | (go_simp; rfl)); (case hp => exact (Reps.c3 (show Kd.FK k58 _ _ (⟨a0_0, a0_1, l0_2⟩ : S58) [.int .i64 a0_0, .string a0_1, .slice A0_2 l0_2.length c0_2] from (k58_mkF _ _ (⟨a0_0, a0_1, l0_2⟩ : S58) (Kd.V_reads' (Kd.V_mono (ok' := (fun k_ => (P0_2_ k_ ∨ w.heap.size ≤ k_) ∧ k_ ≠ gb206)) (HO0_2.out) (fun k_ hk => ⟨hk.1, hk.2⟩))).2.1 (Kd.V_F (Kd.V_mono (ok' := (fun k_ => (P0_2_ k_ ∨ w.heap.size ≤ k_) ∧ k_ ≠ gb206)) (HO0_2.out) (fun k_ hk => ⟨hk.1, hk.2⟩))))) (Reps.none _ _)))
    intro v208 w9 ho10 hb hg_ hnew_
    clear hg_ hnew_
    (first | rw [← Ny207.out] at ho10 | (simp only [Int.reduceToNat] at ho10; rw [← Ny207.out] at ho10))
    have n0_ := Aside0.mk (Kd.V_elder' (by (with_reducible repeat (first | apply Kd.V_alloc | apply Kd.V_drewN | apply Kd.V_drew)); exact HO0_2.out) (Kd.N_base ho10) hb)
    have n1_ := Aside0.mk (Kd.N_lower ho10 (below_size (by repeat (first | (with_reducible first | exact HB.out | apply below_alloc | apply pw_below_drewN | apply below_drew1 | refine below_set ?_ GE206.out) | exact HB.out))))
    have n2_ := Aside0.mk (blk_below (g := gb206) (o := .cells #[.int .i64 a0_0, .string a0_1, .slice A0_2 l0_2.length c0_2] 58 (0, 0)) (by (with_reducible repeat (first | refine blk_drewN ?_ _ | refine blk_drew ?_ | refine blk_alloc ?_ _)); exact BK206.out) hb)
    have n3_ := Aside0.mk (below_step (by repeat (first | (with_reducible first | exact HB.out | apply below_alloc | apply pw_below_drewN | apply below_drew1 | refine below_set ?_ GE206.out) | exact HB.out)) hb)
    clear HO0_2
    clear BK206
    clear HB
    have HO0_2 := n0_
    have HO209 := n1_
    have BK206 := n2_
    have HB := n3_
    clear n0_ n1_ n2_ n3_
    clear hb ho10
    obtain ⟨Ao11, co11, eo11⟩ := Kd.N_slice HO209.out
    (first | subst eo11 | (injection eo11 with f1_ f2_ f3_; have f4_ := f1_.symm; have f5_ := f3_.symm; clear f1_ f2_ f3_; subst f4_; subst f5_))
    refine hK.out _ _ ⟨(blk_cell BK206.out 0).trans rfl, (blk_cell BK206.out 1).trans rfl, (blk_cell BK206.out 2).trans rfl⟩ (fun hHeld => ?_)
    clear hK K
    refine norm_ (a' := ?_) ?_ ?_
    rotate_left
    · show Act.put _ (some 12) _ = _
      simp only [Act.put, List.setIfInBounds_toArray, List.set_cons_zero, List.set_cons_succ, i64_w, i32_w]
      rfl
    refine one_ (i := 2) (N := some 13) #[true, true, true, false, false, true, false, false, false] rfl rfl (one_of HT_.out (by kernel_rfl)) (by decide) (fun K hK => ?_)
    refine goes_ Tryd.func55 (by kernel_rfl) rfl #[.slice Ao11 y207.length co11] (by rfl) rfl rfl (by (try simp only [List.map_toArray, List.map_cons, List.map_nil]); first | done | rfl | (simp only [List.length_drop, List.length_take]; rfl)) ?_
    with_reducible refine (tolllaw08_Few.calls k _ _ y207 t210 _ ?side1 ?side2 A4.out).mono ?_
    (case side1 => repeat (first | exact (Kd.N_reads' HO209.out).2.2 | (with_reducible refine Kd.C_alloc ?_ _) | (with_reducible refine Kd.C_drewN ?_ _) | (with_reducible refine Kd.C_drew ?_)))
    (case side2 => exact (Kd.N_reads' HO209.out).2.1)
    rintro e w12 ⟨v211, rfl, ho0, hb⟩
    refine ⟨_, rfl, ?_⟩
    have n0_ := Aside0.mk (Kd.V_elder' (by (with_reducible repeat (first | apply Kd.V_alloc | apply Kd.V_drewN | apply Kd.V_drew)); exact HO0_2.out) (by first | exact Kd.N_base ho0 | exact Kd.N_base (Kd.S_N ho0)) hb)
    have n1_ := Aside0.mk (Kd.N_elder' (by (with_reducible repeat (first | apply Kd.N_alloc | apply Kd.N_drewN | apply Kd.N_drew)); exact HO209.out) (by first | exact Kd.N_base ho0 | exact Kd.N_base (Kd.S_N ho0)) hb)
    have n2_ := Aside0.mk (Kd.N_lower (Kd.N_mono (ok' := fun k_ => (P0_2_ k_ ∨ w.heap.size ≤ k_) ∧ some k_ ≠ (.slice Ao11 y207.length co11 : Value).ownBlock ∧ k_ ≠ gb206) (Kd.S_N (Kd.S_bound ho0)) (fun k_ hk_ => ⟨(.inr (Nat.le_trans (below_size (by repeat (first | (with_reducible first | exact HB.out | apply below_alloc | apply pw_below_drewN | apply below_drew1 | refine below_set ?_ GE206.out) | exact HB.out))) hk_.2.1)), (Kd.fresh' (Kd.N_lt (by (with_reducible repeat (first | apply Kd.N_alloc | apply Kd.N_drewN | apply Kd.N_drew)); exact HO209.out)) k_ hk_.2.1), (Kd.freshB (g := gb206) (o := .cells #[.int .i64 a0_0, .string a0_1, .slice A0_2 l0_2.length c0_2] 58 (0, 0)) (by (with_reducible repeat (first | refine blk_drewN ?_ _ | refine blk_drew ?_ | refine blk_alloc ?_ _)); exact BK206.out) k_ hk_.2.1)⟩)) (below_size (by repeat (first | (with_reducible first | exact HB.out | apply below_alloc | apply pw_below_drewN | apply below_drew1 | refine below_set ?_ GE206.out) | exact HB.out))))
    have n3_ := Aside0.mk (blk_below (g := gb206) (o := .cells #[.int .i64 a0_0, .string a0_1, .slice A0_2 l0_2.length c0_2] 58 (0, 0)) (by (with_reducible repeat (first | refine blk_drewN ?_ _ | refine blk_drew ?_ | refine blk_alloc ?_ _)); exact BK206.out) hb)
    have n4_ := Aside0.mk (below_step (by repeat (first | (with_reducible first | exact HB.out | apply below_alloc | apply pw_below_drewN | apply below_drew1 | refine below_set ?_ GE206.out) | exact HB.out)) hb)
    clear HO0_2
    clear HO209
    clear BK206
    clear HB
    have HO0_2 := n0_
    have HO209 := n1_
    have HO212 := n2_
    have BK206 := n3_
    have HB := n4_
    clear n0_ n1_ n2_ n3_ n4_
    (try clear hb)
    (try clear hb2)
    (try clear hk)
    (try clear hi)
    (try clear ho0)
    obtain ⟨Ao13, co13, eo13⟩ := Kd.N_slice HO212.out
    (first | subst eo13 | (injection eo13 with f1_ f2_ f3_; have f4_ := f1_.symm; have f5_ := f3_.symm; clear f1_ f2_ f3_; subst f4_; subst f5_))
    have p213 : 0 ≤ (0 : Int) := (by omega)
    have q213 : 0 < (t210.length : Int) := of_decide_eq_true (by first | (with_reducible assumption) | assumption)
    obtain ⟨ad213, A213_2, c213_2, e213, hx213_0, hx213_1, hx213_2, hl213_2, hi213_2⟩ := at_T58 (Kd.N_reads' HO212.out).2.2 0 p213 q213
    cases e213
    obtain ⟨ce213, hce213, hMe213, hcc213⟩ := Kd.N_get HO212.out z58 0 p213 (by first | exact q213 | exact of_decide_eq_true (by first | (with_reducible assumption) | assumption) | (have e_ := (Kd.N_reads' HO212.out).1; omega))
    obtain ⟨ua213_2, uc213_2, rfl, ul213_2, ge213_2⟩ := k58_openF hMe213
    have hv213_2 := hcc213 2 _ rfl
    rw [add_field _ _ 2 (by omega)] at hv213_2
    replace hv213_2 := Option.some.inj (hv213_2.symm.trans hx213_2)
    injection hv213_2 with hva_ hvn_ hvc_
    rw [hva_] at ge213_2
    rw [hvc_] at ul213_2
    have HL213_2 := Aside0.mk (show Kd.V Kd.string 9 _ w.heap.size _ _ ((rd_T58 t210 0).f2) from Kd.V_mk ul213_2 ge213_2)
    clear hva_ hvn_ hvc_ ge213_2 ul213_2
    clear hcc213 hce213
    have qi213 : (0 < t210.length) = True := eq_true (by omega)
    (try rw [show ((0 : Int)).toNat = 0 from rfl] at hx213_0)
    (try rw [show 0 * 3 = 0 from rfl] at hx213_0)
    (try rw [Addr.add_zero'] at hx213_0)
    (try rw [show ((0 : Int)).toNat = 0 from rfl] at hx213_1)
    (try rw [show 0 * 3 = 0 from rfl] at hx213_1)
    (try rw [Addr.add_zero'] at hx213_1)
    (try rw [show ((0 : Int)).toNat = 0 from rfl] at hx213_2)
    (try rw [show 0 * 3 = 0 from rfl] at hx213_2)
    (try rw [Addr.add_zero'] at hx213_2)
    have HR213_2 := Aside0.mk hi213_2
    have HC213_2 := Aside0.mk hl213_2
    clear hi213_2 hl213_2
    replace p213 := eq_true p213
    replace q213 := eq_true q213
    refine hK.out _ _ ⟨(blk_cell BK206.out 0).trans rfl, (blk_cell BK206.out 1).trans rfl, (blk_cell BK206.out 2).trans rfl⟩ (fun _ => ?_)
    clear hK K
    refine switch_ (S2 := fun w' => w'.cell? ⟨gb206, 0, none⟩ = some (.int .i64 a0_0) ∧ w'.cell? ⟨gb206, 1, none⟩ = some (.string a0_1) ∧ w'.cell? ⟨gb206, 2, none⟩ = some (.slice A0_2 l0_2.length c0_2) ∧ w'.cell? ad213 = some (.int .i64 ((rd_T58 t210 0).f0)) ∧ w'.cell? ⟨ad213.block, ad213.off + 1, none⟩ = some (.string ((rd_T58 t210 0).f1)) ∧ w'.cell? ⟨ad213.block, ad213.off + 2, none⟩ = some (.slice A213_2 ((rd_T58 t210 0).f2).length c213_2)) (ds2 := [7]) (by kernel_rfl) ⟨(blk_cell BK206.out 0).trans rfl, (blk_cell BK206.out 1).trans rfl, (blk_cell BK206.out 2).trans rfl, hx213_0, hx213_1, hx213_2⟩ (fun hHeld => ?_)
    refine norm_ (a' := ?_) ?_ ?_
    rotate_left
    · show Act.put _ (some 13) _ = _
      simp only [Act.put, List.setIfInBounds_toArray, List.set_cons_zero, List.set_cons_succ, i64_w, i32_w]
      rfl
    refine pure_ (i := 3) (N := some 14) (v := ?_) (a' := ?_) #[true, true, true, true, false, true, false, false, false] rfl rfl (any_of HT_.out (by kernel_rfl)) (fun _ _ _ h => h) (Or.inl ⟨by rfl, ?_⟩) ?_ ?_
    rotate_left
    · intro w'
      go_simp
      with_reducible rfl
    rotate_left
    · simp only [Act.put, List.setIfInBounds_toArray, List.set_cons_zero, List.set_cons_succ, i64_w, i32_w]
      rfl
    refine take_ (i := 4) (N := some 15) (v := ?_) (a' := ?_) #[true, true, true, true, true, true, false, false, false] rfl rfl (take_ofW HT_.out HW_.out (by kernel_rfl)) (fun _ _ _ h => h) (Or.inl ⟨by rfl, ?_⟩) hHeld ?_ ?_
    rotate_left
    · rintro w' ⟨s0, s1, s2, s3, s4, s5⟩
      go_simp
      with_reducible rfl
    rotate_left
    · simp only [Act.put, List.setIfInBounds_toArray, List.set_cons_zero, List.set_cons_succ, i64_w, i32_w]
      rfl
    refine one_ (i := 6) (N := some 17) #[true, true, true, true, true, true, true, false, false] rfl rfl (one_of HT_.out (by kernel_rfl)) (by decide) (fun K hK => ?_)
    refine goes_ Tryd.func51 (by kernel_rfl) rfl #[.slice A1 l1.length c1] (by rfl) rfl rfl (by (try simp only [List.map_toArray, List.map_cons, List.map_nil]); first | done | rfl | (simp only [List.length_drop, List.length_take]; rfl)) ?_
    with_reducible refine (tolllaw05_Few.calls k _ _ l1 t214 _ ?side1 ?side2 A6.out).mono ?_
    (case side1 => repeat (first | exact (Kd.C_below HR1.out HB.out) | (with_reducible refine Kd.C_alloc ?_ _) | (with_reducible refine Kd.C_drewN ?_ _) | (with_reducible refine Kd.C_drew ?_)))
    (case side2 => exact HC1.out)
    rintro e w14 ⟨v215, rfl, ho0, hb⟩
    have HS3_ := (hb.cell (World.block_lt_of_cell? _ _ (hHeld.2.2.2.1))).trans (hHeld.2.2.2.1)
    have HS4_ := (hb.cell (World.block_lt_of_cell? _ _ (hHeld.2.2.2.2.1))).trans (hHeld.2.2.2.2.1)
    have HS5_ := (hb.cell (World.block_lt_of_cell? _ _ (hHeld.2.2.2.2.2))).trans (hHeld.2.2.2.2.2)
    refine ⟨_, rfl, ?_⟩
    have n0_ := Aside0.mk (Kd.V_elder' (by (with_reducible repeat (first | apply Kd.V_alloc | apply Kd.V_drewN | apply Kd.V_drew)); exact HO0_2.out) (Kd.R_base ho0) hb)
    have n1_ := Aside0.mk (Kd.N_elder' (by (with_reducible repeat (first | apply Kd.N_alloc | apply Kd.N_drewN | apply Kd.N_drew)); exact HO209.out) (Kd.R_base ho0) hb)
    have n2_ := Aside0.mk (Kd.N_elder' (by (with_reducible repeat (first | apply Kd.N_alloc | apply Kd.N_drewN | apply Kd.N_drew)); exact HO212.out) (Kd.R_base ho0) hb)
    have n3_ := Aside0.mk (Kd.V_elder' (by (with_reducible repeat (first | apply Kd.V_alloc | apply Kd.V_drewN | apply Kd.V_drew)); exact HL213_2.out) (Kd.R_base ho0) hb)
    have n4_ := Aside0.mk (Kd.R_lower (Kd.R_newM (M := fun k_ => (w.heap.size ≤ k_)) ho0 (below_size (by repeat (first | (with_reducible first | exact HB.out | apply below_alloc | apply pw_below_drewN | apply below_drew1 | refine below_set ?_ GE206.out) | exact HB.out))) (fun k_ h_ => h_)) (below_size (by repeat (first | (with_reducible first | exact HB.out | apply below_alloc | apply pw_below_drewN | apply below_drew1 | refine below_set ?_ GE206.out) | exact HB.out))))
    have n5_ := Aside0.mk (blk_below (g := gb206) (o := .cells #[.int .i64 a0_0, .string a0_1, .slice A0_2 l0_2.length c0_2] 58 (0, 0)) (by (with_reducible repeat (first | refine blk_drewN ?_ _ | refine blk_drew ?_ | refine blk_alloc ?_ _)); exact BK206.out) hb)
    have n6_ := Aside0.mk (Kd.C_below (by repeat (first | (with_reducible exact HR213_2.out) | (with_reducible refine Kd.C_alloc ?_ _) | (with_reducible refine Kd.C_drewN ?_ _) | (with_reducible refine Kd.C_drew ?_) | exact HR213_2.out | exact (Kd.V_reads' HL213_2.out).2.2)) hb)
    have n7_ := Aside0.mk (below_step (by repeat (first | (with_reducible first | exact HB.out | apply below_alloc | apply pw_below_drewN | apply below_drew1 | refine below_set ?_ GE206.out) | exact HB.out)) hb)
    clear HO0_2
    clear HO209
    clear HO212
    clear HL213_2
    clear BK206
    clear HR213_2
    clear HB
    have HO0_2 := n0_
    have HO209 := n1_
    have HO212 := n2_
    have HL213_2 := n3_
    have HO216 := n4_
    have BK206 := n5_
    have HR213_2 := n6_
    have HB := n7_
    clear n0_ n1_ n2_ n3_ n4_ n5_ n6_ n7_
    (try clear hb)
    (try clear hb2)
    (try clear hk)
    (try clear hi)
    (try clear ho0)
    refine hK.out _ _ ⟨(blk_cell BK206.out 0).trans rfl, (blk_cell BK206.out 1).trans rfl, (blk_cell BK206.out 2).trans rfl, HS3_, HS4_, HS5_⟩ (fun hHeld => ?_)
    clear hK K
    refine norm_ (a' := ?_) ?_ ?_
    rotate_left
    · show Act.put _ (some 17) _ = _
      simp only [Act.put, List.setIfInBounds_toArray, List.set_cons_zero, List.set_cons_succ, i64_w, i32_w]
      rfl
    refine last_ (i := 7) (N := none) #[true, true, true, true, true, true, true, true, false] rfl rfl (one_of HT_.out (by kernel_rfl)) (by decide) (fun K hK => ?_)
    have hs15 : w14.cell? ⟨gb206, 0, none⟩ = some (.int .i64 a0_0) := (blk_cell BK206.out 0).trans rfl
    have hfs15 := blk_frozen BK206.out 0
    have hs16 : w14.cell? ⟨gb206, 1, none⟩ = some (.string a0_1) := (blk_cell BK206.out 1).trans rfl
    have hfs16 := blk_frozen BK206.out 1
    have hs17 : w14.cell? ⟨gb206, 2, none⟩ = some (.slice A0_2 l0_2.length c0_2) := (blk_cell BK206.out 2).trans rfl
    have hfs17 := blk_frozen BK206.out 2
    refine skip_ (w1 := ?_) (by rfl) rfl ?_ ?_
    rotate_left
    · go_simp
      rfl
    refine hK.out _ _ ?_
    clear hK K
    refine pure_ (i := 8) (N := some 1) (v := ?_) (a' := ?_) #[true, true, true, true, true, true, true, true, true] rfl rfl (any_of HT_.out (by kernel_rfl)) (fun _ _ _ h => h) (Or.inl ⟨by rfl, ?_⟩) ?_ ?_
    rotate_left
    · intro w'
      go_simp
      with_reducible rfl
    rotate_left
    · simp only [Act.put, List.setIfInBounds_toArray, List.set_cons_zero, List.set_cons_succ, i64_w, i32_w]
      rfl
    refine done_ (done_of HT_.out (by kernel_rfl)) ?_
    have hcz18_0 : w14.cell? ⟨gb206, 0, none⟩ = some (.int .i64 a0_0) := (blk_cell BK206.out 0).trans rfl
    have hcz18_1 : w14.cell? ⟨gb206, 1, none⟩ = some (.string a0_1) := (blk_cell BK206.out 1).trans rfl
    have hcz18_2 : w14.cell? ⟨gb206, 2, none⟩ = some (.slice A0_2 l0_2.length c0_2) := (blk_cell BK206.out 2).trans rfl
    have hfz18_0 := blk_frozen BK206.out 0
    have hfz18_1 := blk_frozen BK206.out 1
    have hfz18_2 := blk_frozen BK206.out 2
    try go_wp2_with (first | ((with_reducible refine gate_dst (N := 7) rfl ?_); refine box_event ?hg (N := 7) ?hd (cs := #[.int .i64 0, .string (⟨#[]⟩ : ByteArray), .slice none 0 0]) (t := 58) ?hr ?_; (case hd => rfl); (case hg => rfl); (case hr => first | (go_simp; done) | (go_simp; rfl)); intro gb217 hg w19 hbox hb; have n0_ := Aside0.mk (Kd.V_below (Kd.V_elderB (by (with_reducible repeat (first | apply Kd.V_alloc | apply Kd.V_drewN | apply Kd.V_drew)); exact (Kd.V_mono (Kd.V_far (p := ⟨gb206, 2, none⟩) (Kd.V_far (p := ⟨gb206, 1, none⟩) (Kd.V_far (p := ⟨gb206, 0, none⟩) (Kd.V_mono HO0_2.out (fun k_ hk => (⟨hk, hk.1.1.1.2⟩ : _ ∧ k_ ≠ gb206))) (fun _ hk => hk.2) (.int .i64 ((rd_T58 t210 0).f0))) (fun _ hk => hk.2) (.string ((rd_T58 t210 0).f1))) (fun _ hk => hk.2) (.slice A213_2 ((rd_T58 t210 0).f2).length c213_2)) (fun _ h_ => h_.1))) gb217 (Nat.le_of_eq hg.symm)) hb); have n1_ := Aside0.mk (Kd.N_below (Kd.N_elderB (by (with_reducible repeat (first | apply Kd.N_alloc | apply Kd.N_drewN | apply Kd.N_drew)); exact (Kd.N_mono (Kd.N_far (p := ⟨gb206, 2, none⟩) (Kd.N_far (p := ⟨gb206, 1, none⟩) (Kd.N_far (p := ⟨gb206, 0, none⟩) (Kd.N_mono HO209.out (fun k_ hk => (⟨hk, hk.1.1.2⟩ : _ ∧ k_ ≠ gb206))) (fun _ hk => hk.2) (.int .i64 ((rd_T58 t210 0).f0))) (fun _ hk => hk.2) (.string ((rd_T58 t210 0).f1))) (fun _ hk => hk.2) (.slice A213_2 ((rd_T58 t210 0).f2).length c213_2)) (fun _ h_ => h_.1))) gb217 (Nat.le_of_eq hg.symm)) hb); have n2_ := Aside0.mk (Kd.N_below (Kd.N_elderB (by (with_reducible repeat (first | apply Kd.N_alloc | apply Kd.N_drewN | apply Kd.N_drew)); exact (Kd.N_mono (Kd.N_far (p := ⟨gb206, 2, none⟩) (Kd.N_far (p := ⟨gb206, 1, none⟩) (Kd.N_far (p := ⟨gb206, 0, none⟩) (Kd.N_mono HO212.out (fun k_ hk => (⟨hk, hk.1.2.2⟩ : _ ∧ k_ ≠ gb206))) (fun _ hk => hk.2) (.int .i64 ((rd_T58 t210 0).f0))) (fun _ hk => hk.2) (.string ((rd_T58 t210 0).f1))) (fun _ hk => hk.2) (.slice A213_2 ((rd_T58 t210 0).f2).length c213_2)) (fun _ h_ => h_.1))) gb217 (Nat.le_of_eq hg.symm)) hb); have n3_ := Aside0.mk (Kd.V_below (Kd.V_elderB (by (with_reducible repeat (first | apply Kd.V_alloc | apply Kd.V_drewN | apply Kd.V_drew)); exact (Kd.V_mono (Kd.V_far (p := ⟨gb206, 2, none⟩) (Kd.V_far (p := ⟨gb206, 1, none⟩) (Kd.V_far (p := ⟨gb206, 0, none⟩) (Kd.V_mono HL213_2.out (fun k_ hk => (⟨hk, hk.1.1.2.2⟩ : _ ∧ k_ ≠ gb206))) (fun _ hk => hk.2) (.int .i64 ((rd_T58 t210 0).f0))) (fun _ hk => hk.2) (.string ((rd_T58 t210 0).f1))) (fun _ hk => hk.2) (.slice A213_2 ((rd_T58 t210 0).f2).length c213_2)) (fun _ h_ => h_.1))) gb217 (Nat.le_of_eq hg.symm)) hb); have n4_ := Aside0.mk (Kd.R_below (by (with_reducible repeat (first | apply Kd.R_alloc | apply Kd.R_drewN | apply Kd.R_drew)); exact (Kd.R_mono (Kd.R_far (p := ⟨gb206, 2, none⟩) (Kd.R_far (p := ⟨gb206, 1, none⟩) (Kd.R_far (p := ⟨gb206, 0, none⟩) (Kd.R_types HO216.out BK206.out (by decide)) (fun _ hk => hk.2) (.int .i64 ((rd_T58 t210 0).f0))) (fun _ hk => hk.2) (.string ((rd_T58 t210 0).f1))) (fun _ hk => hk.2) (.slice A213_2 ((rd_T58 t210 0).f2).length c213_2)) (fun _ h_ => h_.1))) hb); have n5_ := Aside0.mk (blk_below (g := gb206) (o := .cells #[.int .i64 ((rd_T58 t210 0).f0), .string ((rd_T58 t210 0).f1), .slice A213_2 ((rd_T58 t210 0).f2).length c213_2] 58 (0, 0)) (by (with_reducible repeat (first | refine blk_drewN ?_ _ | refine blk_drew ?_ | refine blk_alloc ?_ _)); refine blk_put (cs := #[.int .i64 ((rd_T58 t210 0).f0), .string ((rd_T58 t210 0).f1), .slice A0_2 l0_2.length c0_2]) ?_ 2 _ rfl; (with_reducible repeat (first | refine blk_drewN ?_ _ | refine blk_drew ?_ | refine blk_alloc ?_ _)); refine blk_put (cs := #[.int .i64 ((rd_T58 t210 0).f0), .string a0_1, .slice A0_2 l0_2.length c0_2]) ?_ 1 _ rfl; (with_reducible repeat (first | refine blk_drewN ?_ _ | refine blk_drew ?_ | refine blk_alloc ?_ _)); refine blk_put (cs := #[.int .i64 a0_0, .string a0_1, .slice A0_2 l0_2.length c0_2]) ?_ 0 _ rfl; (with_reducible repeat (first | refine blk_drewN ?_ _ | refine blk_drew ?_ | refine blk_alloc ?_ _)); exact BK206.out) hb); have n6_ := Aside0.mk (Kd.C_below ((Kd.V_reads' (by (with_reducible repeat (first | apply Kd.V_alloc | apply Kd.V_drewN | apply Kd.V_drew)); exact (Kd.V_mono (Kd.V_far (p := ⟨gb206, 2, none⟩) (Kd.V_far (p := ⟨gb206, 1, none⟩) (Kd.V_far (p := ⟨gb206, 0, none⟩) (Kd.V_mono HL213_2.out (fun k_ hk => (⟨hk, hk.1.1.2.2⟩ : _ ∧ k_ ≠ gb206))) (fun _ hk => hk.2) (.int .i64 ((rd_T58 t210 0).f0))) (fun _ hk => hk.2) (.string ((rd_T58 t210 0).f1))) (fun _ hk => hk.2) (.slice A213_2 ((rd_T58 t210 0).f2).length c213_2)) (fun _ h_ => h_.1)))).2.2) hb); have n7_ := Aside0.mk (below_step (by repeat (first | (with_reducible first | exact HB.out | apply below_alloc | apply pw_below_drewN | apply below_drew1 | refine below_set ?_ GE206.out) | exact HB.out)) hb); have n8_ := Aside0.mk (hbox); have n9_ := Aside0.mk ((by rw [hg]; exact (below_size (by repeat (first | (with_reducible first | exact HB.out | apply below_alloc | apply pw_below_drewN | apply below_drew1 | refine below_set ?_ GE206.out) | exact HB.out))) : w.heap.size ≤ gb217)); have n10_ := Aside0.mk ((by rw [hg]; exact (below_size (by repeat (first | (with_reducible first | exact HB.out | apply below_alloc | apply pw_below_drewN | apply below_drew1 | refine below_set ?_ GE206.out) | exact HB.out))) : w.heap.size ≤ gb217)); have n11_ := Aside0.mk ((by rw [hg]; exact Nat.ne_of_lt (blk_lt (g := gb206) (o := .cells #[.int .i64 ((rd_T58 t210 0).f0), .string ((rd_T58 t210 0).f1), .slice A213_2 ((rd_T58 t210 0).f2).length c213_2] 58 (0, 0)) (by (with_reducible repeat (first | refine blk_drewN ?_ _ | refine blk_drew ?_ | refine blk_alloc ?_ _)); refine blk_put (cs := #[.int .i64 ((rd_T58 t210 0).f0), .string ((rd_T58 t210 0).f1), .slice A0_2 l0_2.length c0_2]) ?_ 2 _ rfl; (with_reducible repeat (first | refine blk_drewN ?_ _ | refine blk_drew ?_ | refine blk_alloc ?_ _)); refine blk_put (cs := #[.int .i64 ((rd_T58 t210 0).f0), .string a0_1, .slice A0_2 l0_2.length c0_2]) ?_ 1 _ rfl; (with_reducible repeat (first | refine blk_drewN ?_ _ | refine blk_drew ?_ | refine blk_alloc ?_ _)); refine blk_put (cs := #[.int .i64 a0_0, .string a0_1, .slice A0_2 l0_2.length c0_2]) ?_ 0 _ rfl; (with_reducible repeat (first | refine blk_drewN ?_ _ | refine blk_drew ?_ | refine blk_alloc ?_ _)); exact BK206.out)) : gb206 ≠ gb217)); have n12_ := Aside0.mk ((by rw [hg]; exact Nat.ne_of_gt (blk_lt (g := gb206) (o := .cells #[.int .i64 ((rd_T58 t210 0).f0), .string ((rd_T58 t210 0).f1), .slice A213_2 ((rd_T58 t210 0).f2).length c213_2] 58 (0, 0)) (by (with_reducible repeat (first | refine blk_drewN ?_ _ | refine blk_drew ?_ | refine blk_alloc ?_ _)); refine blk_put (cs := #[.int .i64 ((rd_T58 t210 0).f0), .string ((rd_T58 t210 0).f1), .slice A0_2 l0_2.length c0_2]) ?_ 2 _ rfl; (with_reducible repeat (first | refine blk_drewN ?_ _ | refine blk_drew ?_ | refine blk_alloc ?_ _)); refine blk_put (cs := #[.int .i64 ((rd_T58 t210 0).f0), .string a0_1, .slice A0_2 l0_2.length c0_2]) ?_ 1 _ rfl; (with_reducible repeat (first | refine blk_drewN ?_ _ | refine blk_drew ?_ | refine blk_alloc ?_ _)); refine blk_put (cs := #[.int .i64 a0_0, .string a0_1, .slice A0_2 l0_2.length c0_2]) ?_ 0 _ rfl; (with_reducible repeat (first | refine blk_drewN ?_ _ | refine blk_drew ?_ | refine blk_alloc ?_ _)); exact BK206.out)) : gb217 ≠ gb206)); clear HO0_2; clear HO209; clear HO212; clear HL213_2; clear HO216; clear BK206; clear HR213_2; clear HB; have HO0_2 := n0_; have HO209 := n1_; have HO212 := n2_; have HL213_2 := n3_; have HO216 := n4_; have BK206 := n5_; have HR213_2 := n6_; have HB := n7_; have BK217 := n8_; have GW217 := n9_; have GE217 := n10_; have NB206_217 := n11_; have NB217_206 := n12_; clear n0_ n1_ n2_ n3_ n4_ n5_ n6_ n7_ n8_ n9_ n10_ n11_ n12_; clear hb hbox hg; have hnb20 := NB217_206.out; have hnc20 := NB206_217.out; have hcz21_0 : w19.cell? ⟨gb217, 0, none⟩ = some (.int .i64 0) := (blk_cell BK217.out 0).trans rfl; have hcz21_1 : w19.cell? ⟨gb217, 1, none⟩ = some (.string (⟨#[]⟩ : ByteArray)) := (blk_cell BK217.out 1).trans rfl; have hcz21_2 : w19.cell? ⟨gb217, 2, none⟩ = some (.slice none 0 0) := (blk_cell BK217.out 2).trans rfl; have hfz21_0 := blk_frozen BK217.out 0; have hfz21_1 := blk_frozen BK217.out 1; have hfz21_2 := blk_frozen BK217.out 2; have hcz22_0 : w19.cell? ⟨gb206, 0, none⟩ = some (.int .i64 ((rd_T58 t210 0).f0)) := (blk_cell BK206.out 0).trans rfl; have hcz22_1 : w19.cell? ⟨gb206, 1, none⟩ = some (.string ((rd_T58 t210 0).f1)) := (blk_cell BK206.out 1).trans rfl; have hcz22_2 : w19.cell? ⟨gb206, 2, none⟩ = some (.slice A213_2 ((rd_T58 t210 0).f2).length c213_2) := (blk_cell BK206.out 2).trans rfl; have hfz22_0 := blk_frozen BK206.out 0; have hfz22_1 := blk_frozen BK206.out 1; have hfz22_2 := blk_frozen BK206.out 2))
    go_loopg [8] k (fun kq v8 w' => ∃ (x8_1 : Int) (x218002_1 : List ByteArray) (u218002 : Value), v8 = .int .i64 x8_1 ∧ Aside0 (tolllaw08_LabelOrder.l0 kq t214 a2 x8_1 ((rd_T58 t210 0).f0) ((rd_T58 t210 0).f1) ((rd_T58 t210 0).f2) ((rd_T58 t210 0).f0) ((rd_T58 t210 0).f1) x218002_1 = some true) ∧ Aside0 (kq ≤ k) ∧ Aside0 (Kd.R k55 55 w' w.heap.size (fun k_ => (w.heap.size ≤ k_)) v215 t214) ∧ Aside0 (Kd.V Kd.string 9 w' w.heap.size (fun k_ => (P0_2_ k_ ∨ w.heap.size ≤ k_) ∧ some k_ ≠ (v215 : Value).ownBlock ∧ some k_ ≠ (u218002 : Value).ownBlock ∧ k_ ≠ gb206 ∧ k_ ≠ gb217) (.slice A213_2 ((rd_T58 t210 0).f2).length c213_2) ((rd_T58 t210 0).f2)) ∧ Aside0 (Kd.R Kd.string 9 w' w.heap.size (fun k_ => (w.heap.size ≤ k_)) u218002 x218002_1) ∧ Aside0 (w'.heap[gb206]? = some (.cells #[.int .i64 ((rd_T58 t210 0).f0), .string ((rd_T58 t210 0).f1), (.slice A213_2 ((rd_T58 t210 0).f2).length c213_2)] 58 (0, 0))) ∧ Aside0 (w'.heap[gb217]? = some (.cells #[.int .i64 ((rd_T58 t210 0).f0), .string ((rd_T58 t210 0).f1), u218002] 58 (0, 0))) ∧ Aside0 (Below w.heap.size w w'))
    case atStart => exact ⟨(wrap64 ((((rd_T58 t210 0).f2).length : Int) - 1)), (([] : List ByteArray)), (.slice none 0 0), (by first | rfl | (simp; done) | (simp [*]; done)), H', ⟨Nat.le_refl _⟩, ⟨by (with_reducible repeat (first | apply Kd.R_alloc | apply Kd.R_drewN | apply Kd.R_drew)); exact Kd.R_mono (Kd.R_far (p := ⟨gb217, 2, none⟩) (Kd.R_far (p := ⟨gb217, 2, none⟩) (Kd.R_far (p := ⟨gb217, 1, none⟩) (Kd.R_far (p := ⟨gb217, 0, none⟩) (Kd.R_types HO216.out BK217.out (by decide)) (fun _ hk => hk.2) (.int .i64 ((rd_T58 t210 0).f0))) (fun _ hk => hk.2) (.string ((rd_T58 t210 0).f1))) (fun _ hk => hk.2) (.slice A213_2 ((rd_T58 t210 0).f2).length c213_2)) (fun _ hk => hk.2) (.slice none 0 0)) (fun _ hk => hk.1.1)⟩, ⟨by (with_reducible repeat (first | apply Kd.V_alloc | apply Kd.V_drewN | apply Kd.V_drew)); exact Kd.V_mono (Kd.V_far (p := ⟨gb217, 2, none⟩) (Kd.V_far (p := ⟨gb217, 2, none⟩) (Kd.V_far (p := ⟨gb217, 1, none⟩) (Kd.V_far (p := ⟨gb217, 0, none⟩) (Kd.V_mono HL213_2.out (fun k_ hk => (⟨hk, hk.2⟩ : _ ∧ k_ ≠ gb217))) (fun _ hk => hk.2) (.int .i64 ((rd_T58 t210 0).f0))) (fun _ hk => hk.2) (.string ((rd_T58 t210 0).f1))) (fun _ hk => hk.2) (.slice A213_2 ((rd_T58 t210 0).f2).length c213_2)) (fun _ hk => hk.2) (.slice none 0 0)) (fun _ hk => ⟨hk.1.1.1.1.1, ⟨hk.1.1.2, ⟨(by simp [Value.ownBlock]), ⟨hk.1.1.1.1.2.2, hk.1.2⟩⟩⟩⟩)⟩, ⟨by first | exact Kd.R_nil _ _ _ _ _ | exact Kd.N_nil _ _ _ _ _ | exact Kd.V_nil _ _ _ _ _ | exact Kd.Q_nil _ _ _ _ _ | exact Kd.S_nil _ _ _ _ _⟩, ⟨by (with_reducible repeat (first | refine blk_drewN ?_ _ | refine blk_drew ?_ | refine blk_alloc ?_ _)); refine blk_far ?_ NB206_217.out _; (with_reducible repeat (first | refine blk_drewN ?_ _ | refine blk_drew ?_ | refine blk_alloc ?_ _)); refine blk_far ?_ NB206_217.out _; (with_reducible repeat (first | refine blk_drewN ?_ _ | refine blk_drew ?_ | refine blk_alloc ?_ _)); refine blk_far ?_ NB206_217.out _; (with_reducible repeat (first | refine blk_drewN ?_ _ | refine blk_drew ?_ | refine blk_alloc ?_ _)); refine blk_far ?_ NB206_217.out _; (with_reducible repeat (first | refine blk_drewN ?_ _ | refine blk_drew ?_ | refine blk_alloc ?_ _)); exact BK206.out⟩, ⟨by (with_reducible repeat (first | refine blk_drewN ?_ _ | refine blk_drew ?_ | refine blk_alloc ?_ _)); refine blk_put (cs := #[.int .i64 ((rd_T58 t210 0).f0), .string ((rd_T58 t210 0).f1), .slice A213_2 ((rd_T58 t210 0).f2).length c213_2]) ?_ 2 _ rfl; (with_reducible repeat (first | refine blk_drewN ?_ _ | refine blk_drew ?_ | refine blk_alloc ?_ _)); refine blk_put (cs := #[.int .i64 ((rd_T58 t210 0).f0), .string ((rd_T58 t210 0).f1), .slice none 0 0]) ?_ 2 _ rfl; (with_reducible repeat (first | refine blk_drewN ?_ _ | refine blk_drew ?_ | refine blk_alloc ?_ _)); refine blk_put (cs := #[.int .i64 ((rd_T58 t210 0).f0), .string (⟨#[]⟩ : ByteArray), .slice none 0 0]) ?_ 1 _ rfl; (with_reducible repeat (first | refine blk_drewN ?_ _ | refine blk_drew ?_ | refine blk_alloc ?_ _)); refine blk_put (cs := #[.int .i64 0, .string (⟨#[]⟩ : ByteArray), .slice none 0 0]) ?_ 0 _ rfl; (with_reducible repeat (first | refine blk_drewN ?_ _ | refine blk_drew ?_ | refine blk_alloc ?_ _)); exact BK217.out⟩, ⟨by repeat (first | (with_reducible first | exact HB.out | apply below_alloc | apply pw_below_drewN | apply below_drew1 | refine below_set ?_ GE206.out | refine below_set ?_ GE217.out) | exact HB.out)⟩⟩
    case round =>
      clear H'
      try clear c1
      try clear c2
      try clear p2
      try clear q2
      try clear hx2
      try clear qi2
      try clear c3
      try clear c5
      try clear c5b0
      try clear c5b1
      try clear p6
      try clear c13
      try clear c20
      try clear c21
      try clear p21
      try clear q21
      try clear hx21
      try clear qi21
      try clear hcz18_0
      try clear hcz18_1
      try clear hcz18_2
      try clear hcz21_0
      try clear hcz21_1
      try clear hcz21_2
      try clear hcz22_0
      try clear hcz22_1
      try clear hcz22_2
      try clear hfz18_0
      try clear hfz18_1
      try clear hfz18_2
      try clear hfz21_0
      try clear hfz21_1
      try clear hfz21_2
      try clear hfz22_0
      try clear hfz22_1
      try clear hfz22_2
      try clear hx213_0
      try clear hx213_1
      try clear hx213_2
      try clear p213
      try clear q213
      obtain ⟨x8_1, x218002_1, u218002, rfl, HA, HK1, HO_1, HO_207002, HO_218002, BK206, BK217, HB⟩ := hrel
      cases gk with
      | zero => exact absurd HA.out (by simp [tolllaw08_LabelOrder.l0])
      | succ k1 =>
        have H := HA.out
        clear HA
        simp only [tolllaw08_LabelOrder.l0] at H
        by_cases c23 : x8_1 ≥ 0
        · rw [if_pos c23] at H
          have c23b0 : decide (0 ≤ x8_1) = true := decide_eq_true c23
          clear c23
          by_cases c24 : 0 ≤ x8_1
          · rw [if_pos c24] at H
            have c24b0 : decide (0 ≤ x8_1) = true := decide_eq_true c24
            clear c24
            by_cases c25 : x8_1 < (((rd_T58 t210 0).f2).length : Int)
            · rw [if_pos c25] at H
              have c25b0 : decide (x8_1 < (((rd_T58 t210 0).f2).length : Int)) = true := decide_eq_true c25
              clear c25
              by_cases c26 : x218002_1.length < 8796093022208
              · rw [if_pos c26] at H
                have LMc26 := Aside0.mk c26
                clear c26
                obtain ⟨y219, hy219⟩ : ∃ y_ : List ByteArray, y_ = (x218002_1 ++ [rdOf ByteArray.empty ((rd_T58 t210 0).f2) x8_1]) := ⟨_, rfl⟩
                replace H : (tolllaw08_LabelOrder.l0 k1 t214 a2 (wrap64 (x8_1 - 1)) ((rd_T58 t210 0).f0) ((rd_T58 t210 0).f1) ((rd_T58 t210 0).f2) ((rd_T58 t210 0).f0) ((rd_T58 t210 0).f1) y219) = some true := by first | (rw [hy219]; with_reducible exact H) | (have H2_ := (Option.bind_some _ _).symm.trans H; rw [hy219]; with_reducible exact H2_) | (have H2_ := (Option.bind_some _ _).symm.trans H; with_reducible exact H2_) | with_reducible exact H | (rw [hy219]; exact H) | exact H
                have Ny219 := Aside0.mk hy219
                clear hy219
                have H' := Aside0.mk H
                clear H
                try go_wp2
                have n0_ := Aside0.mk (Kd.R_drew HO_1.out)
                have n1_ := Aside0.mk (Kd.V_drew HO_207002.out)
                have n2_ := Aside0.mk (Kd.R_drew HO_218002.out)
                have n3_ := Aside0.mk (blk_drew BK206.out)
                have n4_ := Aside0.mk (blk_drew BK217.out)
                have n5_ := Aside0.mk (below_drew1 HB.out)
                clear HO_1
                clear HO_207002
                clear HO_218002
                clear BK206
                clear BK217
                clear HB
                have HO_1 := n0_
                have HO_207002 := n1_
                have HO_218002 := n2_
                have BK206 := n3_
                have BK217 := n4_
                have HB := n5_
                clear n0_ n1_ n2_ n3_ n4_ n5_
                have p218 : 0 ≤ (x8_1 : Int) := of_decide_eq_true (by first | (with_reducible assumption) | assumption)
                have q218 : x8_1 < (((rd_T58 t210 0).f2).length : Int) := of_decide_eq_true (by first | (with_reducible assumption) | assumption)
                obtain ⟨ad218, e218, hx218_0⟩ := Kd.at_string (Kd.V_reads' HO_207002.out).2.2 x8_1 p218 q218
                cases e218
                replace p218 := eq_true p218
                replace q218 := eq_true q218
                refine start_ (n := 11) (S := fun w' => w'.cell? ⟨gb217, 0, none⟩ = some (.int .i64 ((rd_T58 t210 0).f0)) ∧ w'.cell? ⟨gb217, 1, none⟩ = some (.string ((rd_T58 t210 0).f1)) ∧ w'.cell? ⟨gb217, 2, none⟩ = some (u218002) ∧ w'.cell? ⟨gb206, 0, none⟩ = some (.int .i64 ((rd_T58 t210 0).f0)) ∧ w'.cell? ⟨gb206, 1, none⟩ = some (.string ((rd_T58 t210 0).f1)) ∧ w'.cell? ⟨gb206, 2, none⟩ = some (.slice (some ad218) ((rd_T58 t210 0).f2).length c213_2) ∧ w'.cell? (ad218.add (x8_1).toNat) = some (.string (rdOf ByteArray.empty ((rd_T58 t210 0).f2) x8_1))) (ds := [8, 10]) #[false, false, false, false, false, false, false, false, false, false, false] (by kernel_rfl) rfl rfl ⟨(blk_cell BK217.out 0).trans rfl, (blk_cell BK217.out 1).trans rfl, (blk_cell BK217.out 2).trans rfl, (blk_cell BK206.out 0).trans rfl, (blk_cell BK206.out 1).trans rfl, (blk_cell BK206.out 2).trans rfl, hx218_0⟩ (fun hHeld => ?_); refine with_tabW tolllaw08_LabelOrder.tab7 tolllaw08_LabelOrder.bits7 (fun HT_ HW_ => ?_)
                generalize wr.drew = w27 at HO_1 HO_207002 HO_218002 BK206 BK217 HB hx218_0 hHeld ⊢
                refine pure_ (i := 0) (N := some 28) (v := ?_) (a' := ?_) #[true, false, false, false, false, false, false, false, false, false, false] rfl rfl (any_of HT_.out (by kernel_rfl)) (fun _ _ _ h => h) (Or.inl ⟨by rfl, ?_⟩) ?_ ?_
                rotate_left
                · intro w'
                  go_simp
                  with_reducible rfl
                rotate_left
                · simp only [Act.put, List.setIfInBounds_toArray, List.set_cons_zero, List.set_cons_succ, i64_w, i32_w]
                  rfl
                refine pure_ (i := 2) (N := some 30) (v := ?_) (a' := ?_) #[true, false, true, false, false, false, false, false, false, false, false] rfl rfl (any_of HT_.out (by kernel_rfl)) (fun _ _ _ h => h) (Or.inl ⟨by rfl, ?_⟩) ?_ ?_
                rotate_left
                · intro w'
                  go_simp
                  with_reducible rfl
                rotate_left
                · simp only [Act.put, List.setIfInBounds_toArray, List.set_cons_zero, List.set_cons_succ, i64_w, i32_w]
                  rfl
                refine pure_ (i := 4) (N := some 32) (v := ?_) (a' := ?_) #[true, false, true, false, true, false, false, false, false, false, false] rfl rfl (any_of HT_.out (by kernel_rfl)) (fun _ _ _ h => h) (Or.inl ⟨by rfl, ?_⟩) ?_ ?_
                rotate_left
                · intro w'
                  go_simp
                  with_reducible rfl
                rotate_left
                · simp only [Act.put, List.setIfInBounds_toArray, List.set_cons_zero, List.set_cons_succ, i64_w, i32_w]
                  rfl
                refine take_ (i := 1) (N := some 29) (v := ?_) (a' := ?_) #[true, true, true, false, true, false, false, false, false, false, false] rfl rfl (take_ofW HT_.out HW_.out (by kernel_rfl)) (fun _ _ _ h => h) (Or.inl ⟨by rfl, ?_⟩) hHeld ?_ ?_
                rotate_left
                · rintro w' ⟨s0, s1, s2, s3, s4, s5, s6⟩
                  go_simp
                  with_reducible rfl
                rotate_left
                · simp only [Act.put, List.setIfInBounds_toArray, List.set_cons_zero, List.set_cons_succ, i64_w, i32_w]
                  rfl
                refine take_ (i := 3) (N := some 31) (v := ?_) (a' := ?_) #[true, true, true, true, true, false, false, false, false, false, false] rfl rfl (take_ofW HT_.out HW_.out (by kernel_rfl)) (fun _ _ _ h => h) (Or.inl ⟨by rfl, ?_⟩) hHeld ?_ ?_
                rotate_left
                · rintro w' ⟨s0, s1, s2, s3, s4, s5, s6⟩
                  go_simp
                  with_reducible rfl
                rotate_left
                · simp only [Act.put, List.setIfInBounds_toArray, List.set_cons_zero, List.set_cons_succ, i64_w, i32_w]
                  rfl
                refine pure_ (i := 5) (N := some 33) (v := ?_) (a' := ?_) #[true, true, true, true, true, true, false, false, false, false, false] rfl rfl (any_of HT_.out (by kernel_rfl)) (fun _ _ _ h => h) (Or.inl ⟨by rfl, ?_⟩) ?_ ?_
                rotate_left
                · intro w'
                  go_simp
                  with_reducible rfl
                rotate_left
                · simp only [Act.put, List.setIfInBounds_toArray, List.set_cons_zero, List.set_cons_succ, i64_w, i32_w]
                  rfl
                refine take_ (i := 6) (N := some 34) (v := ?_) (a' := ?_) #[true, true, true, true, true, true, true, false, false, false, false] rfl rfl (take_ofW HT_.out HW_.out (by kernel_rfl)) (fun _ _ _ h => h) (Or.inl ⟨by rfl, ?_⟩) hHeld ?_ ?_
                rotate_left
                · rintro w' ⟨s0, s1, s2, s3, s4, s5, s6⟩
                  go_simp
                  with_reducible rfl
                rotate_left
                · simp only [Act.put, List.setIfInBounds_toArray, List.set_cons_zero, List.set_cons_succ, i64_w, i32_w]
                  rfl
                refine one_ (i := 7) (N := some 35) #[true, true, true, true, true, true, true, true, false, false, false] rfl rfl (one_of HT_.out (by kernel_rfl)) (by decide) (fun K hK => ?_)
                refine value_ (w1 := ?_) (v := ?_) (by rfl) rfl ?_ ?_
                rotate_left 2
                · go_simp
                  constructor
                  · rfl
                  · rfl
                refine hK.out _ _ ⟨(blk_cell (blk_alloc BK217.out _) 0).trans rfl, (blk_cell (blk_alloc BK217.out _) 1).trans rfl, (blk_cell (blk_alloc BK217.out _) 2).trans rfl, (blk_cell (blk_alloc BK206.out _) 0).trans rfl, (blk_cell (blk_alloc BK206.out _) 1).trans rfl, (blk_cell (blk_alloc BK206.out _) 2).trans rfl, (World.cell?_alloc_lt _ _ _ (World.block_lt_of_cell? _ _ (hHeld.2.2.2.2.2.2))).trans (hHeld.2.2.2.2.2.2)⟩ (fun hHeld => ?_)
                clear hK K
                refine norm_ (a' := ?_) ?_ ?_
                rotate_left
                · show Act.put _ (some 35) _ = _
                  simp only [Act.put, List.setIfInBounds_toArray, List.set_cons_zero, List.set_cons_succ, i64_w, i32_w]
                  rfl
                refine last_ (i := 8) (N := some 36) #[true, true, true, true, true, true, true, true, true, false, false] rfl rfl (one_of HT_.out (by kernel_rfl)) (by decide) (fun K hK => ?_)
                refine Kd.R_append_step Kd.string (w0 := w) w.heap.size (by rfl) (.tmp 29) (.tmp 35) 27 9 (.string ⟨#[]⟩) 16 rfl Tryd.underlying27 info9 rfl (by decide) (by omega) u218002 x218002_1 (rdOf ByteArray.empty ((rd_T58 t210 0).f2) x8_1) [.string (rdOf ByteArray.empty ((rd_T58 t210 0).f2) x8_1)] (fun k_ => (w.heap.size ≤ k_)) (fun _ => False) rfl rfl ?aP (fun _ hk => hk.elim) ?aF ?aO ?aB ?aS ?aL ?_
                (case aP => exact rfl)
                (case aB => exact (by repeat (first | (with_reducible first | exact HB.out | apply below_alloc | apply pw_below_drewN | apply below_drew1 | refine below_set ?_ GE206.out | refine below_set ?_ GE217.out) | exact HB.out)))
                (case aF => exact (fun k_ hk => (Nat.le_trans (below_size (by repeat (first | (with_reducible first | exact HB.out | apply below_alloc | apply pw_below_drewN | apply below_drew1 | refine below_set ?_ GE206.out | refine below_set ?_ GE217.out) | exact HB.out))) hk)))
                (case aO => exact (by (with_reducible repeat (first | apply Kd.R_alloc | apply Kd.R_drewN | apply Kd.R_drew)); exact HO_218002.out))
                (case aS => exact (below_size (by repeat (first | (with_reducible first | exact HB.out | apply below_alloc | apply pw_below_drewN | apply below_drew1 | refine below_set ?_ GE206.out | refine below_set ?_ GE217.out) | exact HB.out))))
                (case aL => have := LMc26.out; omega)
                intro v220 w28 ho hb hg hat
                rw [← Ny219.out] at ho
                have n0_ := Aside0.mk (Kd.R_over' (by (with_reducible repeat (first | apply Kd.R_alloc | apply Kd.R_drewN | apply Kd.R_drew)); exact HO_1.out) (Kd.R_typed (by (with_reducible repeat (first | apply Kd.R_alloc | apply Kd.R_drewN | apply Kd.R_drew)); exact HO_218002.out)) (by decide) hg)
                have n1_ := Aside0.mk (Kd.V_afterv (ok := (fun k_ => (P0_2_ k_ ∨ w.heap.size ≤ k_) ∧ some k_ ≠ (v215 : Value).ownBlock ∧ k_ ≠ gb206 ∧ k_ ≠ gb217)) (by (with_reducible repeat (first | apply Kd.V_alloc | apply Kd.V_drewN | apply Kd.V_drew)); exact Kd.V_mono HO_207002.out (fun _ hk => ⟨⟨hk.1, ⟨hk.2.1, ⟨hk.2.2.2.1, hk.2.2.2.2⟩⟩⟩, hk.2.2.1⟩)) hg hat)
                have n2_ := Aside0.mk (blk_grown (g := gb206) (o := .cells #[.int .i64 ((rd_T58 t210 0).f0), .string ((rd_T58 t210 0).f1), .slice (some ad218) ((rd_T58 t210 0).f2).length c213_2] 58 (0, 0)) (by (with_reducible repeat (first | refine blk_drewN ?_ _ | refine blk_drew ?_ | refine blk_alloc ?_ _)); exact BK206.out) hg (Kd.R_ne HO_218002.out BK206.out (by decide)))
                have n3_ := Aside0.mk (blk_grown (g := gb217) (o := .cells #[.int .i64 ((rd_T58 t210 0).f0), .string ((rd_T58 t210 0).f1), u218002] 58 (0, 0)) (by (with_reducible repeat (first | refine blk_drewN ?_ _ | refine blk_drew ?_ | refine blk_alloc ?_ _)); exact BK217.out) hg (Kd.R_ne HO_218002.out BK217.out (by decide)))
                have n4_ := Aside0.mk (hb)
                have n5_ := Aside0.mk (ho)
                clear HO_1
                clear HO_207002
                clear BK206
                clear BK217
                clear HB
                clear HO_218002
                have HO_1 := n0_
                have HO_207002 := n1_
                have BK206 := n2_
                have BK217 := n3_
                have HB := n4_
                have HO221 := n5_
                clear n0_ n1_ n2_ n3_ n4_ n5_
                clear ho hb hg hat
                obtain ⟨Ao29, co29, eo29⟩ := Kd.R_slice HO221.out
                (first | subst eo29 | (injection eo29 with f1_ f2_ f3_; have f4_ := f1_.symm; have f5_ := f3_.symm; clear f1_ f2_ f3_; subst f4_; subst f5_))
                refine hK.out _ _ ?_
                clear hK K
                refine norm_ (a' := ?_) ?_ ?_
                rotate_left
                · show Act.put _ (some 36) _ = _
                  simp only [Act.put, List.setIfInBounds_toArray, List.set_cons_zero, List.set_cons_succ, i64_w, i32_w]
                  rfl
                refine pure_ (i := 9) (N := some 37) (v := ?_) (a' := ?_) #[true, true, true, true, true, true, true, true, true, true, false] rfl rfl (any_of HT_.out (by kernel_rfl)) (fun _ _ _ h => h) (Or.inl ⟨by rfl, ?_⟩) ?_ ?_
                rotate_left
                · intro w'
                  go_simp
                  with_reducible rfl
                rotate_left
                · simp only [Act.put, List.setIfInBounds_toArray, List.set_cons_zero, List.set_cons_succ, i64_w, i32_w]
                  rfl
                refine last_ (i := 10) (N := none) #[true, true, true, true, true, true, true, true, true, true, true] rfl rfl (one_of HT_.out (by kernel_rfl)) (by decide) (fun K hK => ?_)
                have hs30 : w28.cell? ⟨gb217, 2, none⟩ = some (u218002) := (blk_cell BK217.out 2).trans rfl
                have hfs30 := blk_frozen BK217.out 2
                have hns30_0 := NB206_217.out
                have hms30_0 := NB217_206.out
                refine skip_ (w1 := ?_) (by rfl) rfl ?_ ?_
                rotate_left
                · go_simp
                  rfl
                refine hK.out _ _ ?_
                clear hK K
                refine done_ (done_of HT_.out (by kernel_rfl)) ?_
                try go_wp2
                go_roundg k1
                case measure => have := HK1.out; omega
                case rel => exact ⟨(wrap64 (x8_1 - 1)), (y219), (.slice Ao29 y219.length co29), (by first | rfl | (simp; done) | (simp [*]; done)), H', ⟨by have := HK1.out; omega⟩, ⟨by (with_reducible repeat (first | apply Kd.R_alloc | apply Kd.R_drewN | apply Kd.R_drew)); exact Kd.R_mono (Kd.R_far (p := ⟨gb217, 2, none⟩) (Kd.R_types HO_1.out BK217.out (by decide)) (fun _ hk => hk.2) (.slice Ao29 y219.length co29)) (fun _ hk => hk.1)⟩, ⟨by (with_reducible repeat (first | apply Kd.V_alloc | apply Kd.V_drewN | apply Kd.V_drew)); exact Kd.V_mono (Kd.V_far (p := ⟨gb217, 2, none⟩) (Kd.V_mono HO_207002.out (fun k_ hk => (⟨hk, hk.1.2.2.2⟩ : _ ∧ k_ ≠ gb217))) (fun _ hk => hk.2) (.slice Ao29 y219.length co29)) (fun _ hk => ⟨hk.1.1.1, ⟨hk.1.1.2.1, ⟨hk.1.2, ⟨hk.1.1.2.2.1, hk.1.1.2.2.2⟩⟩⟩⟩)⟩, ⟨by (with_reducible repeat (first | apply Kd.R_alloc | apply Kd.R_drewN | apply Kd.R_drew)); exact Kd.R_mono (Kd.R_far (p := ⟨gb217, 2, none⟩) (Kd.R_types HO221.out BK217.out (by decide)) (fun _ hk => hk.2) (.slice Ao29 y219.length co29)) (fun _ hk => hk.1)⟩, ⟨by (with_reducible repeat (first | refine blk_drewN ?_ _ | refine blk_drew ?_ | refine blk_alloc ?_ _)); refine blk_far ?_ NB206_217.out _; (with_reducible repeat (first | refine blk_drewN ?_ _ | refine blk_drew ?_ | refine blk_alloc ?_ _)); exact BK206.out⟩, ⟨by (with_reducible repeat (first | refine blk_drewN ?_ _ | refine blk_drew ?_ | refine blk_alloc ?_ _)); refine blk_put (cs := #[.int .i64 ((rd_T58 t210 0).f0), .string ((rd_T58 t210 0).f1), u218002]) ?_ 2 _ rfl; (with_reducible repeat (first | refine blk_drewN ?_ _ | refine blk_drew ?_ | refine blk_alloc ?_ _)); exact BK217.out⟩, ⟨by repeat (first | (with_reducible first | exact HB.out | apply below_alloc | apply pw_below_drewN | apply below_drew1 | refine below_set ?_ GE206.out | refine below_set ?_ GE217.out) | exact HB.out)⟩⟩
              · rw [if_neg c26] at H
                exact absurd H (by simp)
            · rw [if_neg c25] at H
              exact absurd H (by simp)
          · rw [if_neg c24] at H
            exact absurd H (by simp)
        · rw [if_neg c23] at H
          have c23b0 : decide (0 ≤ x8_1) = false := decide_eq_false c23
          clear c23
          replace H := Option.bind_eq_some_iff.mp H
          obtain ⟨t222, A310, H⟩ := H
          replace H : ((label_Met.f ((rd_T58 t210 0).f0) ((rd_T58 t210 0).f1) ((rd_T58 t210 0).f2) t214).bind fun t223 => (if (t222 != t223) = true then (some false) else (if (t214.length : Int) = 0 then (tolllaw08_LabelOrder.j1 k1 t214 a2 true ((rd_T58 t210 0).f0) ((rd_T58 t210 0).f1) ((rd_T58 t210 0).f2)) else ((label_May.f k1 t214).bind fun t224 => (tolllaw08_LabelOrder.j1 k1 t214 a2 (!t224) ((rd_T58 t210 0).f0) ((rd_T58 t210 0).f1) ((rd_T58 t210 0).f2)))))) = some true := H
          have A31 := Aside0.mk A310
          clear A310
          replace H := Option.bind_eq_some_iff.mp H
          obtain ⟨t223, A320, H⟩ := H
          replace H : (if (t222 != t223) = true then (some false) else (if (t214.length : Int) = 0 then (tolllaw08_LabelOrder.j1 k1 t214 a2 true ((rd_T58 t210 0).f0) ((rd_T58 t210 0).f1) ((rd_T58 t210 0).f2)) else ((label_May.f k1 t214).bind fun t224 => (tolllaw08_LabelOrder.j1 k1 t214 a2 (!t224) ((rd_T58 t210 0).f0) ((rd_T58 t210 0).f1) ((rd_T58 t210 0).f2))))) = some true := H
          have A32 := Aside0.mk A320
          clear A320
          by_cases c33 : (t222 != t223) = true
          · rw [if_pos c33] at H
            exact absurd H (by simp)
          · rw [if_neg c33] at H
            have c33b0 : (t222 != t223) = false := by simpa using c33
            (try (have c33b1 : decide (t222 = t223) = true := by simpa using c33))
            (try (have c33b2 : (t222 == t223) = true := by simpa using c33))
            clear c33
            have HC39 := Aside0.mk H
            clear H
            try go_wp2
            have n0_ := Aside0.mk (Kd.R_drew HO_1.out)
            have n1_ := Aside0.mk (Kd.V_drew HO_207002.out)
            have n2_ := Aside0.mk (Kd.R_drew HO_218002.out)
            have n3_ := Aside0.mk (blk_drew BK206.out)
            have n4_ := Aside0.mk (blk_drew BK217.out)
            have n5_ := Aside0.mk (below_drew1 HB.out)
            clear HO_1
            clear HO_207002
            clear HO_218002
            clear BK206
            clear BK217
            clear HB
            have HO_1 := n0_
            have HO_207002 := n1_
            have HO_218002 := n2_
            have BK206 := n3_
            have BK217 := n4_
            have HB := n5_
            clear n0_ n1_ n2_ n3_ n4_ n5_
            obtain ⟨Ao41, co41, eo41⟩ := Kd.R_slice HO_218002.out
            (first | subst eo41 | (injection eo41 with f1_ f2_ f3_; have f4_ := f1_.symm; have f5_ := f3_.symm; clear f1_ f2_ f3_; subst f4_; subst f5_))
            obtain ⟨Ao42, co42, eo42⟩ := Kd.R_slice HO_1.out
            (first | subst eo42 | (injection eo42 with f1_ f2_ f3_; have f4_ := f1_.symm; have f5_ := f3_.symm; clear f1_ f2_ f3_; subst f4_; subst f5_))
            refine start_ (n := 7) (S := fun w' => w'.cell? ⟨gb217, 0, none⟩ = some (.int .i64 ((rd_T58 t210 0).f0)) ∧ w'.cell? ⟨gb217, 1, none⟩ = some (.string ((rd_T58 t210 0).f1)) ∧ w'.cell? ⟨gb217, 2, none⟩ = some (.slice Ao41 x218002_1.length co41) ∧ w'.cell? ⟨gb206, 0, none⟩ = some (.int .i64 ((rd_T58 t210 0).f0)) ∧ w'.cell? ⟨gb206, 1, none⟩ = some (.string ((rd_T58 t210 0).f1)) ∧ w'.cell? ⟨gb206, 2, none⟩ = some (.slice A213_2 ((rd_T58 t210 0).f2).length c213_2)) (ds := []) #[false, false, false, false, false, false, false] (by kernel_rfl) rfl rfl ⟨(blk_cell BK217.out 0).trans rfl, (blk_cell BK217.out 1).trans rfl, (blk_cell BK217.out 2).trans rfl, (blk_cell BK206.out 0).trans rfl, (blk_cell BK206.out 1).trans rfl, (blk_cell BK206.out 2).trans rfl⟩ (fun hHeld => ?_)
            generalize wr.drew = w40 at HO_1 HO_207002 HO_218002 BK206 BK217 HB hHeld ⊢
            refine pure_ (i := 1) (N := some 39) (v := ?_) (a' := ?_) #[false, true, false, false, false, false, false] rfl rfl (by kernel_rfl) (fun _ _ _ h => h) (Or.inl ⟨by rfl, ?_⟩) ?_ ?_
            rotate_left
            · intro w'
              go_simp
              with_reducible rfl
            rotate_left
            · simp only [Act.put, List.setIfInBounds_toArray, List.set_cons_zero, List.set_cons_succ, i64_w, i32_w]
              rfl
            refine pure_ (i := 4) (N := some 42) (v := ?_) (a' := ?_) #[false, true, false, false, true, false, false] rfl rfl (by kernel_rfl) (fun _ _ _ h => h) (Or.inl ⟨by rfl, ?_⟩) ?_ ?_
            rotate_left
            · intro w'
              go_simp
              with_reducible rfl
            rotate_left
            · simp only [Act.put, List.setIfInBounds_toArray, List.set_cons_zero, List.set_cons_succ, i64_w, i32_w]
              rfl
            refine take_ (i := 0) (N := some 38) (v := ?_) (a' := ?_) #[true, true, false, false, true, false, false] rfl rfl (by kernel_rfl) (fun _ _ _ h => h) (Or.inl ⟨by rfl, ?_⟩) hHeld ?_ ?_
            rotate_left
            · rintro w' ⟨s0, s1, s2, s3, s4, s5⟩
              go_simp
              with_reducible rfl
            rotate_left
            · simp only [Act.put, List.setIfInBounds_toArray, List.set_cons_zero, List.set_cons_succ, i64_w, i32_w]
              rfl
            refine take_ (i := 3) (N := some 41) (v := ?_) (a' := ?_) #[true, true, false, true, true, false, false] rfl rfl (by kernel_rfl) (fun _ _ _ h => h) (Or.inl ⟨by rfl, ?_⟩) hHeld ?_ ?_
            rotate_left
            · rintro w' ⟨s0, s1, s2, s3, s4, s5⟩
              go_simp
              with_reducible rfl
            rotate_left
            · simp only [Act.put, List.setIfInBounds_toArray, List.set_cons_zero, List.set_cons_succ, i64_w, i32_w]
              rfl
            refine one_ (i := 2) (N := some 40) #[true, true, true, true, true, false, false] rfl rfl (by kernel_rfl) (by decide) (fun K hK => ?_)
            refine goes_ Tryd.func54 (by kernel_rfl) rfl #[.agg #[.int .i64 ((rd_T58 t210 0).f0), .string ((rd_T58 t210 0).f1), .slice Ao41 x218002_1.length co41], .slice Ao42 t214.length co42] (by rfl) rfl rfl (by (try simp only [List.map_toArray, List.map_cons, List.map_nil]); first | done | rfl | (simp only [List.length_drop, List.length_take]; rfl)) ?_
            with_reducible refine (label_Met.calls ((rd_T58 t210 0).f0) ((rd_T58 t210 0).f1) _ _ x218002_1 _ _ t214 t222 _ ?side1 ?side2 ?side3 ?side4 A31.out).mono ?_
            (case side1 => repeat (first | exact (Kd.R_reads' HO_218002.out).2.2 | (with_reducible refine Kd.C_alloc ?_ _) | (with_reducible refine Kd.C_drewN ?_ _) | (with_reducible refine Kd.C_drew ?_)))
            (case side2 => exact (Kd.R_reads' HO_218002.out).2.1)
            (case side3 => repeat (first | exact (Kd.R_reads' HO_1.out).2.2 | (with_reducible refine Kd.C_alloc ?_ _) | (with_reducible refine Kd.C_drewN ?_ _) | (with_reducible refine Kd.C_drew ?_)))
            (case side4 => exact (Kd.R_reads' HO_1.out).2.1)
            rintro e w43 ⟨rfl, hb⟩
            refine ⟨_, rfl, ?_⟩
            have n0_ := Aside0.mk (Kd.R_below (by (with_reducible repeat (first | apply Kd.R_alloc | apply Kd.R_drewN | apply Kd.R_drew)); exact HO_1.out) hb)
            have n1_ := Aside0.mk (Kd.V_below (by (with_reducible repeat (first | apply Kd.V_alloc | apply Kd.V_drewN | apply Kd.V_drew)); exact HO_207002.out) hb)
            have n2_ := Aside0.mk (Kd.R_below (by (with_reducible repeat (first | apply Kd.R_alloc | apply Kd.R_drewN | apply Kd.R_drew)); exact HO_218002.out) hb)
            have n3_ := Aside0.mk (blk_below (g := gb206) (o := .cells #[.int .i64 ((rd_T58 t210 0).f0), .string ((rd_T58 t210 0).f1), .slice A213_2 ((rd_T58 t210 0).f2).length c213_2] 58 (0, 0)) (by (with_reducible repeat (first | refine blk_drewN ?_ _ | refine blk_drew ?_ | refine blk_alloc ?_ _)); exact BK206.out) hb)
            have n4_ := Aside0.mk (blk_below (g := gb217) (o := .cells #[.int .i64 ((rd_T58 t210 0).f0), .string ((rd_T58 t210 0).f1), .slice Ao41 x218002_1.length co41] 58 (0, 0)) (by (with_reducible repeat (first | refine blk_drewN ?_ _ | refine blk_drew ?_ | refine blk_alloc ?_ _)); exact BK217.out) hb)
            have n5_ := Aside0.mk (below_step (by repeat (first | (with_reducible first | exact HB.out | apply below_alloc | apply pw_below_drewN | apply below_drew1 | refine below_set ?_ GE206.out | refine below_set ?_ GE217.out) | exact HB.out)) hb)
            clear HO_1
            clear HO_207002
            clear HO_218002
            clear BK206
            clear BK217
            clear HB
            have HO_1 := n0_
            have HO_207002 := n1_
            have HO_218002 := n2_
            have BK206 := n3_
            have BK217 := n4_
            have HB := n5_
            clear n0_ n1_ n2_ n3_ n4_ n5_
            (try clear hb)
            (try clear hb2)
            (try clear hk)
            (try clear hi)
            refine hK.out _ _ ⟨(blk_cell BK217.out 0).trans rfl, (blk_cell BK217.out 1).trans rfl, (blk_cell BK217.out 2).trans rfl, (blk_cell BK206.out 0).trans rfl, (blk_cell BK206.out 1).trans rfl, (blk_cell BK206.out 2).trans rfl⟩ (fun hHeld => ?_)
            clear hK K
            refine norm_ (a' := ?_) ?_ ?_
            rotate_left
            · show Act.put _ (some 40) _ = _
              simp only [Act.put, List.setIfInBounds_toArray, List.set_cons_zero, List.set_cons_succ, i64_w, i32_w]
              rfl
            refine one_ (i := 5) (N := some 43) #[true, true, true, true, true, true, false] rfl rfl (by kernel_rfl) (by decide) (fun K hK => ?_)
            refine goes_ Tryd.func54 (by kernel_rfl) rfl #[.agg #[.int .i64 ((rd_T58 t210 0).f0), .string ((rd_T58 t210 0).f1), .slice A213_2 ((rd_T58 t210 0).f2).length c213_2], .slice Ao42 t214.length co42] (by rfl) rfl rfl (by (try simp only [List.map_toArray, List.map_cons, List.map_nil]); first | done | rfl | (simp only [List.length_drop, List.length_take]; rfl)) ?_
            with_reducible refine (label_Met.calls ((rd_T58 t210 0).f0) ((rd_T58 t210 0).f1) _ _ ((rd_T58 t210 0).f2) _ _ t214 t223 _ ?side1 ?side2 ?side3 ?side4 A32.out).mono ?_
            (case side1 => repeat (first | exact (Kd.V_reads' HO_207002.out).2.2 | (with_reducible refine Kd.C_alloc ?_ _) | (with_reducible refine Kd.C_drewN ?_ _) | (with_reducible refine Kd.C_drew ?_)))
            (case side2 => exact (Kd.V_reads' HO_207002.out).2.1)
            (case side3 => repeat (first | exact (Kd.R_reads' HO_1.out).2.2 | (with_reducible refine Kd.C_alloc ?_ _) | (with_reducible refine Kd.C_drewN ?_ _) | (with_reducible refine Kd.C_drew ?_)))
            (case side4 => exact (Kd.R_reads' HO_1.out).2.1)
            rintro e w44 ⟨rfl, hb⟩
            refine ⟨_, rfl, ?_⟩
            have n0_ := Aside0.mk (Kd.R_below (by (with_reducible repeat (first | apply Kd.R_alloc | apply Kd.R_drewN | apply Kd.R_drew)); exact HO_1.out) hb)
            have n1_ := Aside0.mk (Kd.V_below (by (with_reducible repeat (first | apply Kd.V_alloc | apply Kd.V_drewN | apply Kd.V_drew)); exact HO_207002.out) hb)
            have n2_ := Aside0.mk (Kd.R_below (by (with_reducible repeat (first | apply Kd.R_alloc | apply Kd.R_drewN | apply Kd.R_drew)); exact HO_218002.out) hb)
            have n3_ := Aside0.mk (blk_below (g := gb206) (o := .cells #[.int .i64 ((rd_T58 t210 0).f0), .string ((rd_T58 t210 0).f1), .slice A213_2 ((rd_T58 t210 0).f2).length c213_2] 58 (0, 0)) (by (with_reducible repeat (first | refine blk_drewN ?_ _ | refine blk_drew ?_ | refine blk_alloc ?_ _)); exact BK206.out) hb)
            have n4_ := Aside0.mk (blk_below (g := gb217) (o := .cells #[.int .i64 ((rd_T58 t210 0).f0), .string ((rd_T58 t210 0).f1), .slice Ao41 x218002_1.length co41] 58 (0, 0)) (by (with_reducible repeat (first | refine blk_drewN ?_ _ | refine blk_drew ?_ | refine blk_alloc ?_ _)); exact BK217.out) hb)
            have n5_ := Aside0.mk (below_step (by repeat (first | (with_reducible first | exact HB.out | apply below_alloc | apply pw_below_drewN | apply below_drew1 | refine below_set ?_ GE206.out | refine below_set ?_ GE217.out) | exact HB.out)) hb)
            clear HO_1
            clear HO_207002
            clear HO_218002
            clear BK206
            clear BK217
            clear HB
            have HO_1 := n0_
            have HO_207002 := n1_
            have HO_218002 := n2_
            have BK206 := n3_
            have BK217 := n4_
            have HB := n5_
            clear n0_ n1_ n2_ n3_ n4_ n5_
            (try clear hb)
            (try clear hb2)
            (try clear hk)
            (try clear hi)
            refine hK.out _ _ ⟨(blk_cell BK217.out 0).trans rfl, (blk_cell BK217.out 1).trans rfl, (blk_cell BK217.out 2).trans rfl, (blk_cell BK206.out 0).trans rfl, (blk_cell BK206.out 1).trans rfl, (blk_cell BK206.out 2).trans rfl⟩ (fun hHeld => ?_)
            clear hK K
            refine norm_ (a' := ?_) ?_ ?_
            rotate_left
            · show Act.put _ (some 43) _ = _
              simp only [Act.put, List.setIfInBounds_toArray, List.set_cons_zero, List.set_cons_succ, i64_w, i32_w]
              rfl
            refine pure_ (i := 6) (N := some 44) (v := ?_) (a' := ?_) #[true, true, true, true, true, true, true] rfl rfl (by kernel_rfl) (fun _ _ _ h => h) (Or.inl ⟨by rfl, ?_⟩) ?_ ?_
            rotate_left
            · intro w'
              go_simp
              with_reducible rfl
            rotate_left
            · simp only [Act.put, List.setIfInBounds_toArray, List.set_cons_zero, List.set_cons_succ, i64_w, i32_w]
              rfl
            refine done_ (by kernel_rfl) ?_
            go_upto_region 10 with (fail)
            go_cut [52] (fun v52 wc => ∃ (kq : Nat) (x52_38 : Bool), v52 = .bool x52_38 ∧ Aside0 (tolllaw08_LabelOrder.j1 kq t214 a2 x52_38 ((rd_T58 t210 0).f0) ((rd_T58 t210 0).f1) ((rd_T58 t210 0).f2) = some true) ∧ Aside0 (kq ≤ k1) ∧ Aside0 (Kd.R k55 55 wc w.heap.size (fun k_ => (w.heap.size ≤ k_)) (.slice Ao42 t214.length co42) t214) ∧ Aside0 (Kd.V Kd.string 9 wc w.heap.size (fun k_ => (P0_2_ k_ ∨ w.heap.size ≤ k_) ∧ some k_ ≠ ((.slice Ao42 t214.length co42) : Value).ownBlock ∧ some k_ ≠ ((.slice Ao41 x218002_1.length co41) : Value).ownBlock ∧ k_ ≠ gb206 ∧ k_ ≠ gb217) (.slice A213_2 ((rd_T58 t210 0).f2).length c213_2) ((rd_T58 t210 0).f2)) ∧ Aside0 (Kd.R Kd.string 9 wc w.heap.size (fun k_ => (w.heap.size ≤ k_)) (.slice Ao41 x218002_1.length co41) x218002_1) ∧ Aside0 (wc.heap[gb206]? = some (.cells #[.int .i64 ((rd_T58 t210 0).f0), .string ((rd_T58 t210 0).f1), (.slice A213_2 ((rd_T58 t210 0).f2).length c213_2)] 58 (0, 0))) ∧ Aside0 (wc.heap[gb217]? = some (.cells #[.int .i64 ((rd_T58 t210 0).f0), .string ((rd_T58 t210 0).f1), (.slice Ao41 x218002_1.length co41)] 58 (0, 0))) ∧ Aside0 (Below w.heap.size w wc))
            case first =>
              have H := HC39.out
              clear HC39
              by_cases c45 : (t214.length : Int) = 0
              · rw [if_pos c45] at H
                have c45b0 : ((t214.length : Int) == 0) = true := beq_iff_eq.mpr c45
                have c45b1 : ((t214.length : Int) != 0) = false := bne_eq_false_iff_eq.mpr c45
                clear c45
                (first | rw [c45b0] | (simp only [i64_w, i32_w]; rw [c45b0]) | skip)
                have H' := Aside0.mk H
                clear H
                go_wp2
                go_meet
                case rel => exact ⟨_, (true), (by first | rfl | (simp; done) | (simp [*]; done)), H', ⟨by have := HK1.out; first | omega | exact Nat.le_refl _⟩, ⟨by (with_reducible repeat (first | apply Kd.R_alloc | apply Kd.R_drewN | apply Kd.R_drew)); exact HO_1.out⟩, ⟨by (with_reducible repeat (first | apply Kd.V_alloc | apply Kd.V_drewN | apply Kd.V_drew)); exact HO_207002.out⟩, ⟨by (with_reducible repeat (first | apply Kd.R_alloc | apply Kd.R_drewN | apply Kd.R_drew)); exact HO_218002.out⟩, ⟨by (with_reducible repeat (first | refine blk_drewN ?_ _ | refine blk_drew ?_ | refine blk_alloc ?_ _)); exact BK206.out⟩, ⟨by (with_reducible repeat (first | refine blk_drewN ?_ _ | refine blk_drew ?_ | refine blk_alloc ?_ _)); exact BK217.out⟩, ⟨by repeat (first | (with_reducible first | exact HB.out | apply below_alloc | apply pw_below_drewN | apply below_drew1 | refine below_set ?_ GE206.out | refine below_set ?_ GE217.out) | exact HB.out)⟩⟩
              · rw [if_neg c45] at H
                have c45b0 : ((t214.length : Int) == 0) = false := beq_eq_false_iff_ne.mpr c45
                have c45b1 : ((t214.length : Int) != 0) = true := bne_iff_ne.mpr c45
                have c45b2 : ¬ (t214 = []) := fun h_ => c45 (by rw [h_]; rfl)
                (first | rw [c45b0] | (simp only [i64_w, i32_w]; rw [c45b0]) | skip)
                replace H := Option.bind_eq_some_iff.mp H
                obtain ⟨t224, A460, H⟩ := H
                replace H : (tolllaw08_LabelOrder.j1 k1 t214 a2 (!t224) ((rd_T58 t210 0).f0) ((rd_T58 t210 0).f1) ((rd_T58 t210 0).f2)) = some true := H
                have A46 := Aside0.mk A460
                clear A460
                have H' := Aside0.mk H
                clear H
                go_wp2_with (first | (go_at_call 52; (with_reducible refine (label_May.calls k1 _ _ t214 t224 _ ?side1 ?side2 A46.out).mono ?_); (case side1 => repeat (first | exact (Kd.R_reads' HO_1.out).2.2 | (with_reducible refine Kd.C_alloc ?_ _) | (with_reducible refine Kd.C_drewN ?_ _) | (with_reducible refine Kd.C_drew ?_))); (case side2 => exact (Kd.R_reads' HO_1.out).2.1); rintro e w47 ⟨rfl, hb⟩; have n0_ := Aside0.mk (Kd.R_below (by (with_reducible repeat (first | apply Kd.R_alloc | apply Kd.R_drewN | apply Kd.R_drew)); exact HO_1.out) hb); have n1_ := Aside0.mk (Kd.V_below (by (with_reducible repeat (first | apply Kd.V_alloc | apply Kd.V_drewN | apply Kd.V_drew)); exact HO_207002.out) hb); have n2_ := Aside0.mk (Kd.R_below (by (with_reducible repeat (first | apply Kd.R_alloc | apply Kd.R_drewN | apply Kd.R_drew)); exact HO_218002.out) hb); have n3_ := Aside0.mk (blk_below (g := gb206) (o := .cells #[.int .i64 ((rd_T58 t210 0).f0), .string ((rd_T58 t210 0).f1), .slice A213_2 ((rd_T58 t210 0).f2).length c213_2] 58 (0, 0)) (by (with_reducible repeat (first | refine blk_drewN ?_ _ | refine blk_drew ?_ | refine blk_alloc ?_ _)); exact BK206.out) hb); have n4_ := Aside0.mk (blk_below (g := gb217) (o := .cells #[.int .i64 ((rd_T58 t210 0).f0), .string ((rd_T58 t210 0).f1), .slice Ao41 x218002_1.length co41] 58 (0, 0)) (by (with_reducible repeat (first | refine blk_drewN ?_ _ | refine blk_drew ?_ | refine blk_alloc ?_ _)); exact BK217.out) hb); have n5_ := Aside0.mk (below_step (by repeat (first | (with_reducible first | exact HB.out | apply below_alloc | apply pw_below_drewN | apply below_drew1 | refine below_set ?_ GE206.out | refine below_set ?_ GE217.out) | exact HB.out)) hb); clear HO_1; clear HO_207002; clear HO_218002; clear BK206; clear BK217; clear HB; have HO_1 := n0_; have HO_207002 := n1_; have HO_218002 := n2_; have BK206 := n3_; have BK217 := n4_; have HB := n5_; clear n0_ n1_ n2_ n3_ n4_ n5_; (try clear hb); (try clear hb2); (try clear hk); (try clear hi)))
                go_meet
                case rel => exact ⟨_, (!t224), (by first | rfl | (simp; done) | (simp [*]; done)), H', ⟨by have := HK1.out; first | omega | exact Nat.le_refl _⟩, ⟨by (with_reducible repeat (first | apply Kd.R_alloc | apply Kd.R_drewN | apply Kd.R_drew)); exact HO_1.out⟩, ⟨by (with_reducible repeat (first | apply Kd.V_alloc | apply Kd.V_drewN | apply Kd.V_drew)); exact HO_207002.out⟩, ⟨by (with_reducible repeat (first | apply Kd.R_alloc | apply Kd.R_drewN | apply Kd.R_drew)); exact HO_218002.out⟩, ⟨by (with_reducible repeat (first | refine blk_drewN ?_ _ | refine blk_drew ?_ | refine blk_alloc ?_ _)); exact BK206.out⟩, ⟨by (with_reducible repeat (first | refine blk_drewN ?_ _ | refine blk_drew ?_ | refine blk_alloc ?_ _)); exact BK217.out⟩, ⟨by repeat (first | (with_reducible first | exact HB.out | apply below_alloc | apply pw_below_drewN | apply below_drew1 | refine below_set ?_ GE206.out | refine below_set ?_ GE217.out) | exact HB.out)⟩⟩
            case rest =>
              clear HC39
              try clear c1
              try clear c2
              try clear p2
              try clear q2
              try clear hx2
              try clear qi2
              try clear c3
              try clear c4
              try clear c5
              try clear c5b0
              try clear c5b1
              try clear p6
              try clear c13
              try clear c20
              try clear c21
              try clear p21
              try clear q21
              try clear hx21
              try clear qi21
              try clear c23
              try clear c23b0
              try clear c24
              try clear c24b0
              try clear c25
              try clear c25b0
              try clear c26
              try clear c33
              try clear c33b0
              try clear c33b1
              try clear c33b2
              try clear c45
              try clear c45b0
              try clear c45b1
              try clear c45b2
              try clear hcz18_0
              try clear hcz18_1
              try clear hcz18_2
              try clear hcz21_0
              try clear hcz21_1
              try clear hcz21_2
              try clear hcz22_0
              try clear hcz22_1
              try clear hcz22_2
              try clear hfz18_0
              try clear hfz18_1
              try clear hfz18_2
              try clear hfz21_0
              try clear hfz21_1
              try clear hfz21_2
              try clear hfz22_0
              try clear hfz22_1
              try clear hfz22_2
              try clear hx213_0
              try clear hx213_1
              try clear hx213_2
              try clear hx218_0
              try clear p2
              try clear p21
              try clear p213
              try clear p218
              try clear p6
              try clear q2
              try clear q21
              try clear q213
              try clear q218
              obtain ⟨kq, x52_38, rfl, HA, HJ38, HO_1, HO_207002, HO_218002, BK206, BK217, HB⟩ := hcut
              cases kq with
              | zero => exact absurd HA.out (by simp [tolllaw08_LabelOrder.j1])
              | succ kj38 =>
                have H := HA.out
                clear HA
                simp only [tolllaw08_LabelOrder.j1] at H
                by_cases c48 : x52_38 = true
                · subst c48
                  have H1 : ((tolllaw08_awake.f).bind fun t225 => (some t225)) = some true := by rw [if_pos rfl] at H; exact H
                  clear H
                  have H := H1
                  clear H1
                  replace H := Option.bind_eq_some_iff.mp H
                  obtain ⟨t225, A490, H⟩ := H
                  replace H : (some t225) = some true := H
                  have A49 := Aside0.mk A490
                  clear A490
                  obtain rfl := Option.some.inj H
                  go_wp2_with (first | ((with_reducible refine _root_.Go.Proofs.YtcakednecmngdaaDoorW.PrintMore.gate_callee (f := 53) rfl ?_); refine goesL_ (some 53) rfl rfl Tryd.func53 (by kernel_rfl) rfl #[] rfl (by (try simp only [List.map_toArray, List.map_cons, List.map_nil]); first | done | rfl | (simp only [List.length_drop, List.length_take]; rfl)) ?_; (with_reducible refine (tolllaw08_awake.calls  true _ A49.out).mono ?_); rintro e w50 ⟨rfl, hb⟩; refine ⟨_, rfl, ?_⟩; have n0_ := Aside0.mk (Kd.R_below (by (with_reducible repeat (first | apply Kd.R_alloc | apply Kd.R_drewN | apply Kd.R_drew)); exact HO_1.out) hb); have n1_ := Aside0.mk (Kd.V_below (by (with_reducible repeat (first | apply Kd.V_alloc | apply Kd.V_drewN | apply Kd.V_drew)); exact HO_207002.out) hb); have n2_ := Aside0.mk (Kd.R_below (by (with_reducible repeat (first | apply Kd.R_alloc | apply Kd.R_drewN | apply Kd.R_drew)); exact HO_218002.out) hb); have n3_ := Aside0.mk (blk_below (g := gb206) (o := .cells #[.int .i64 ((rd_T58 t210 0).f0), .string ((rd_T58 t210 0).f1), .slice A213_2 ((rd_T58 t210 0).f2).length c213_2] 58 (0, 0)) (by (with_reducible repeat (first | refine blk_drewN ?_ _ | refine blk_drew ?_ | refine blk_alloc ?_ _)); exact BK206.out) hb); have n4_ := Aside0.mk (blk_below (g := gb217) (o := .cells #[.int .i64 ((rd_T58 t210 0).f0), .string ((rd_T58 t210 0).f1), .slice Ao41 x218002_1.length co41] 58 (0, 0)) (by (with_reducible repeat (first | refine blk_drewN ?_ _ | refine blk_drew ?_ | refine blk_alloc ?_ _)); exact BK217.out) hb); have n5_ := Aside0.mk (below_step (by repeat (first | (with_reducible first | exact HB.out | apply below_alloc | apply pw_below_drewN | apply below_drew1 | refine below_set ?_ GE206.out | refine below_set ?_ GE217.out) | exact HB.out)) hb); clear HO_1; clear HO_207002; clear HO_218002; clear BK206; clear BK217; clear HB; have HO_1 := n0_; have HO_207002 := n1_; have HO_218002 := n2_; have BK206 := n3_; have BK217 := n4_; have HB := n5_; clear n0_ n1_ n2_ n3_ n4_ n5_; (try clear hb); (try clear hb2); (try clear hk); (try clear hi)))
                  go_ret
                  exact ⟨by first | rfl | (simp [errW_none, errW_some] <;> rfl) | (simp [*, errW_none, errW_some] <;> rfl), by repeat (first | (with_reducible first | exact HB.out | apply below_alloc | apply pw_below_drewN | apply below_drew1 | refine below_set ?_ GE206.out | refine below_set ?_ GE217.out) | exact HB.out)⟩
                · replace c48 := Bool.eq_false_iff.mpr c48
                  subst c48
                  have H1 : (if (t214.length : Int) = 0 then (none) else (if 0 ≤ (Int.tmod (wrap64 (a2)) (t214.length : Int)) then (if (Int.tmod (wrap64 (a2)) (t214.length : Int)) < (t214.length : Int) then (if ((rd_T55 t214 (Int.tmod (wrap64 (a2)) (t214.length : Int))).f0).toList = ((rd_T58 t210 0).f1).toList then ((tolllaw08_awake.f).bind fun t227 => (some t227)) else ((some (([] : List (S55)) : List (S55))).bind fun y228 => (if (Int.tmod (wrap64 (a2)) (t214.length : Int)) ≤ (t214.length : Int) then ((some (t214.take ((Int.tmod (wrap64 (a2)) (t214.length : Int)) : Int).toNat : List (S55))).bind fun y231 => (if y228.length + y231.length < 4398046511104 then ((some (y228 ++ y231 : List (S55))).bind fun y236 => (if 0 ≤ (wrap64 ((Int.tmod (wrap64 (a2)) (t214.length : Int)) + 1)) then (if (wrap64 ((Int.tmod (wrap64 (a2)) (t214.length : Int)) + 1)) ≤ (t214.length : Int) then ((some (t214.drop ((wrap64 ((Int.tmod (wrap64 (a2)) (t214.length : Int)) + 1)) : Int).toNat : List (S55))).bind fun y239 => (if y236.length + y239.length < 4398046511104 then ((label_Met.f ((rd_T58 t210 0).f0) ((rd_T58 t210 0).f1) ((rd_T58 t210 0).f2) (y236 ++ y239)).bind fun t247 => ((label_Met.f ((rd_T58 t210 0).f0) ((rd_T58 t210 0).f1) ((rd_T58 t210 0).f2) t214).bind fun t248 => (if (t247 == t248) = true then ((tolllaw08_awake.f).bind fun t249 => (some t249)) else (some false)))) else (none))) else (none)) else (none))) else (none))) else (none)))) else (none)) else (none))) = some true := by rw [if_neg (show ¬ (false = true) by decide)] at H; exact H
                  clear H
                  have H := H1
                  clear H1
                  by_cases c51 : (t214.length : Int) = 0
                  · rw [if_pos c51] at H
                    exact absurd H (by simp)
                  · rw [if_neg c51] at H
                    have c51b0 : ((t214.length : Int) == 0) = false := beq_eq_false_iff_ne.mpr c51
                    have c51b1 : ((t214.length : Int) != 0) = true := bne_iff_ne.mpr c51
                    have c51b2 : ¬ (t214 = []) := fun h_ => c51 (by rw [h_]; rfl)
                    obtain ⟨ji52, hji52⟩ : ∃ j_ : Int, (Int.tmod (wrap64 (a2)) (t214.length : Int)) = j_ := ⟨_, rfl⟩
                    replace H : (if 0 ≤ (ji52) then (if (ji52) < (t214.length : Int) then (if ((rd_T55 t214 (ji52)).f0).toList = ((rd_T58 t210 0).f1).toList then ((tolllaw08_awake.f).bind fun t227 => (some t227)) else ((some (([] : List (S55)) : List (S55))).bind fun y228 => (if (ji52) ≤ (t214.length : Int) then ((some (t214.take ((ji52) : Int).toNat : List (S55))).bind fun y231 => (if y228.length + y231.length < 4398046511104 then ((some (y228 ++ y231 : List (S55))).bind fun y236 => (if 0 ≤ (wrap64 ((ji52) + 1)) then (if (wrap64 ((ji52) + 1)) ≤ (t214.length : Int) then ((some (t214.drop ((wrap64 ((ji52) + 1)) : Int).toNat : List (S55))).bind fun y239 => (if y236.length + y239.length < 4398046511104 then ((label_Met.f ((rd_T58 t210 0).f0) ((rd_T58 t210 0).f1) ((rd_T58 t210 0).f2) (y236 ++ y239)).bind fun t247 => ((label_Met.f ((rd_T58 t210 0).f0) ((rd_T58 t210 0).f1) ((rd_T58 t210 0).f2) t214).bind fun t248 => (if (t247 == t248) = true then ((tolllaw08_awake.f).bind fun t249 => (some t249)) else (some false)))) else (none))) else (none)) else (none))) else (none))) else (none)))) else (none)) else (none)) = some true := by first | (rw [hji52] at H; exact H) | (simp only [hji52] at H ⊢; exact H)
                    by_cases c53 : 0 ≤ (ji52)
                    · rw [if_pos c53] at H
                      have c53b0 : decide (0 ≤ (ji52)) = true := decide_eq_true c53
                      clear c53
                      by_cases c54 : (ji52) < (t214.length : Int)
                      · rw [if_pos c54] at H
                        have c54b0 : decide ((ji52) < (t214.length : Int)) = true := decide_eq_true c54
                        clear c54
                        by_cases c55 : ((rd_T55 t214 (ji52)).f0).toList = ((rd_T58 t210 0).f1).toList
                        · rw [if_pos c55] at H
                          have c55b0 : (((rd_T55 t214 (ji52)).f0).toList == ((rd_T58 t210 0).f1).toList) = true := beq_iff_eq.mpr c55
                          have c55b1 : (((rd_T55 t214 (ji52)).f0).toList != ((rd_T58 t210 0).f1).toList) = false := bne_eq_false_iff_eq.mpr c55
                          clear c55
                          replace H := Option.bind_eq_some_iff.mp H
                          obtain ⟨t227, A560, H⟩ := H
                          replace H : (some t227) = some true := H
                          have A56 := Aside0.mk A560
                          clear A560
                          obtain rfl := Option.some.inj H
                          try go_wp2
                          have n0_ := Aside0.mk (Kd.R_drew HO_1.out)
                          have n1_ := Aside0.mk (Kd.V_drew HO_207002.out)
                          have n2_ := Aside0.mk (Kd.R_drew HO_218002.out)
                          have n3_ := Aside0.mk (blk_drew BK206.out)
                          have n4_ := Aside0.mk (blk_drew BK217.out)
                          have n5_ := Aside0.mk (below_drew1 HB.out)
                          clear HO_1
                          clear HO_207002
                          clear HO_218002
                          clear BK206
                          clear BK217
                          clear HB
                          have HO_1 := n0_
                          have HO_207002 := n1_
                          have HO_218002 := n2_
                          have BK206 := n3_
                          have BK217 := n4_
                          have HB := n5_
                          clear n0_ n1_ n2_ n3_ n4_ n5_
                          have p226 : 0 ≤ ((ji52) : Int) := of_decide_eq_true (by first | (with_reducible assumption) | assumption)
                          have q226 : (ji52) < (t214.length : Int) := of_decide_eq_true (by first | (with_reducible assumption) | assumption)
                          obtain ⟨ad226, e226, hx226_0, hx226_1⟩ := at_T55 (Kd.R_reads' HO_1.out).2.2 (ji52) p226 q226
                          cases e226
                          replace p226 := eq_true p226
                          replace q226 := eq_true q226
                          refine start_ (n := 8) (S := fun w' => w'.cell? ⟨gb206, 0, none⟩ = some (.int .i64 ((rd_T58 t210 0).f0)) ∧ w'.cell? ⟨gb206, 1, none⟩ = some (.string ((rd_T58 t210 0).f1)) ∧ w'.cell? ⟨gb206, 2, none⟩ = some (.slice A213_2 ((rd_T58 t210 0).f2).length c213_2) ∧ w'.cell? (ad226.add (((ji52)).toNat * 2)) = some (.string ((rd_T55 t214 (ji52)).f0)) ∧ w'.cell? ⟨(ad226.add (((ji52)).toNat * 2)).block, (ad226.add (((ji52)).toNat * 2)).off + 1, none⟩ = some (.string ((rd_T55 t214 (ji52)).f1))) (ds := []) #[false, false, false, false, false, false, false, false] (by kernel_rfl) rfl rfl ⟨(blk_cell BK206.out 0).trans rfl, (blk_cell BK206.out 1).trans rfl, (blk_cell BK206.out 2).trans rfl, hx226_0, hx226_1⟩ (fun hHeld => ?_); refine with_tabW tolllaw08_LabelOrder.tab13 tolllaw08_LabelOrder.bits13 (fun HT_ HW_ => ?_)
                          generalize wc.drew = w57 at HO_1 HO_207002 HO_218002 BK206 BK217 HB hx226_0 hx226_1 hHeld ⊢
                          refine pure_ (i := 0) (N := some 59) (v := ?_) (a' := ?_) #[true, false, false, false, false, false, false, false] rfl rfl (any_of HT_.out (by kernel_rfl)) (fun _ _ _ h => h) (Or.inl ⟨by rfl, ?_⟩) ?_ ?_
                          rotate_left
                          · intro w'
                            go_simp
                            with_reducible rfl
                          rotate_left
                          · simp only [Act.put, List.setIfInBounds_toArray, List.set_cons_zero, List.set_cons_succ, i64_w, i32_w]
                            rfl
                          refine pure_ (i := 1) (N := some 60) (v := ?_) (a' := ?_) #[true, true, false, false, false, false, false, false] rfl rfl (any_of HT_.out (by kernel_rfl)) (fun _ _ _ h => h) (Or.inl ⟨by rfl, ?_⟩) ?_ ?_
                          rotate_left
                          · intro w'
                            go_simp
                            with_reducible rfl
                          rotate_left
                          · simp only [Act.put, List.setIfInBounds_toArray, List.set_cons_zero, List.set_cons_succ, i64_w, i32_w]
                            rfl
                          refine pure_ (i := 2) (N := some 61) (v := ?_) (a' := ?_) #[true, true, true, false, false, false, false, false] rfl rfl (any_of HT_.out (by kernel_rfl)) (fun _ _ _ h => h) (Or.inl ⟨by rfl, ?_⟩) ?_ ?_
                          rotate_left
                          · intro w'
                            go_simp
                            with_reducible rfl
                          rotate_left
                          · simp only [Act.put, List.setIfInBounds_toArray, List.set_cons_zero, List.set_cons_succ, i64_w, i32_w]
                            rfl
                          refine pure_ (i := 3) (N := some 62) (v := ?_) (a' := ?_) #[true, true, true, true, false, false, false, false] rfl rfl (any_of HT_.out (by kernel_rfl)) (fun _ _ _ h => h) (Or.inl ⟨by rfl, ?_⟩) ?_ ?_
                          rotate_left
                          · intro w'
                            go_simp
                            with_reducible rfl
                          rotate_left
                          · simp only [Act.put, List.setIfInBounds_toArray, List.set_cons_zero, List.set_cons_succ, i64_w, i32_w]
                            rfl
                          refine pure_ (i := 5) (N := some 64) (v := ?_) (a' := ?_) #[true, true, true, true, false, true, false, false] rfl rfl (any_of HT_.out (by kernel_rfl)) (fun _ _ _ h => h) (Or.inl ⟨by rfl, ?_⟩) ?_ ?_
                          rotate_left
                          · intro w'
                            go_simp
                            with_reducible rfl
                          rotate_left
                          · simp only [Act.put, List.setIfInBounds_toArray, List.set_cons_zero, List.set_cons_succ, i64_w, i32_w]
                            rfl
                          refine take_ (i := 4) (N := some 63) (v := ?_) (a' := ?_) #[true, true, true, true, true, true, false, false] rfl rfl (take_ofW HT_.out HW_.out (by kernel_rfl)) (fun _ _ _ h => h) (Or.inl ⟨by rfl, ?_⟩) hHeld ?_ ?_
                          rotate_left
                          · rintro w' ⟨s0, s1, s2, s3, s4⟩
                            go_simp
                            with_reducible rfl
                          rotate_left
                          · simp only [Act.put, List.setIfInBounds_toArray, List.set_cons_zero, List.set_cons_succ, i64_w, i32_w]
                            rfl
                          refine take_ (i := 6) (N := some 65) (v := ?_) (a' := ?_) #[true, true, true, true, true, true, true, false] rfl rfl (take_ofW HT_.out HW_.out (by kernel_rfl)) (fun _ _ _ h => h) (Or.inl ⟨by rfl, ?_⟩) hHeld ?_ ?_
                          rotate_left
                          · rintro w' ⟨s0, s1, s2, s3, s4⟩
                            go_simp
                            with_reducible rfl
                          rotate_left
                          · simp only [Act.put, List.setIfInBounds_toArray, List.set_cons_zero, List.set_cons_succ, i64_w, i32_w]
                            rfl
                          refine pure_ (i := 7) (N := some 66) (v := ?_) (a' := ?_) #[true, true, true, true, true, true, true, true] rfl rfl (any_of HT_.out (by kernel_rfl)) (fun _ _ _ h => h) (Or.inl ⟨by rfl, ?_⟩) ?_ ?_
                          rotate_left
                          · intro w'
                            go_simp
                            with_reducible rfl
                          rotate_left
                          · simp only [Act.put, List.setIfInBounds_toArray, List.set_cons_zero, List.set_cons_succ, i64_w, i32_w]
                            rfl
                          refine done_ (done_of HT_.out (by kernel_rfl)) ?_
                          try go_wp2_with (first | ((with_reducible refine _root_.Go.Proofs.YtcakednecmngdaaDoorW.PrintMore.gate_callee (f := 53) rfl ?_); refine goesL_ (some 67) rfl rfl Tryd.func53 (by kernel_rfl) rfl #[] rfl (by (try simp only [List.map_toArray, List.map_cons, List.map_nil]); first | done | rfl | (simp only [List.length_drop, List.length_take]; rfl)) ?_; (with_reducible refine (tolllaw08_awake.calls  true _ A56.out).mono ?_); rintro e w58 ⟨rfl, hb⟩; refine ⟨_, rfl, ?_⟩; have n0_ := Aside0.mk (Kd.R_below (by (with_reducible repeat (first | apply Kd.R_alloc | apply Kd.R_drewN | apply Kd.R_drew)); exact HO_1.out) hb); have n1_ := Aside0.mk (Kd.V_below (by (with_reducible repeat (first | apply Kd.V_alloc | apply Kd.V_drewN | apply Kd.V_drew)); exact HO_207002.out) hb); have n2_ := Aside0.mk (Kd.R_below (by (with_reducible repeat (first | apply Kd.R_alloc | apply Kd.R_drewN | apply Kd.R_drew)); exact HO_218002.out) hb); have n3_ := Aside0.mk (blk_below (g := gb206) (o := .cells #[.int .i64 ((rd_T58 t210 0).f0), .string ((rd_T58 t210 0).f1), .slice A213_2 ((rd_T58 t210 0).f2).length c213_2] 58 (0, 0)) (by (with_reducible repeat (first | refine blk_drewN ?_ _ | refine blk_drew ?_ | refine blk_alloc ?_ _)); exact BK206.out) hb); have n4_ := Aside0.mk (blk_below (g := gb217) (o := .cells #[.int .i64 ((rd_T58 t210 0).f0), .string ((rd_T58 t210 0).f1), .slice Ao41 x218002_1.length co41] 58 (0, 0)) (by (with_reducible repeat (first | refine blk_drewN ?_ _ | refine blk_drew ?_ | refine blk_alloc ?_ _)); exact BK217.out) hb); have n5_ := Aside0.mk (below_step (by repeat (first | (with_reducible first | exact HB.out | apply below_alloc | apply pw_below_drewN | apply below_drew1 | refine below_set ?_ GE206.out | refine below_set ?_ GE217.out) | exact HB.out)) hb); clear HO_1; clear HO_207002; clear HO_218002; clear BK206; clear BK217; clear HB; have HO_1 := n0_; have HO_207002 := n1_; have HO_218002 := n2_; have BK206 := n3_; have BK217 := n4_; have HB := n5_; clear n0_ n1_ n2_ n3_ n4_ n5_; (try clear hb); (try clear hb2); (try clear hk); (try clear hi)))
                          go_ret
                          exact ⟨by first | rfl | (simp [errW_none, errW_some] <;> rfl) | (simp only [← hji52]; first | rfl | (simp [errW_none, errW_some] <;> rfl)) | (simp [*, errW_none, errW_some] <;> rfl), by repeat (first | (with_reducible first | exact HB.out | apply below_alloc | apply pw_below_drewN | apply below_drew1 | refine below_set ?_ GE206.out | refine below_set ?_ GE217.out) | exact HB.out)⟩
                        · rw [if_neg c55] at H
                          have c55b0 : (((rd_T55 t214 (ji52)).f0).toList == ((rd_T58 t210 0).f1).toList) = false := beq_eq_false_iff_ne.mpr c55
                          have c55b1 : (((rd_T55 t214 (ji52)).f0).toList != ((rd_T58 t210 0).f1).toList) = true := bne_iff_ne.mpr c55
                          obtain ⟨y228, hy228⟩ : ∃ y_ : List (S55), y_ = (([] : List (S55))) := ⟨_, rfl⟩
                          replace H : (if (ji52) ≤ (t214.length : Int) then ((some (t214.take ((ji52) : Int).toNat : List (S55))).bind fun y231 => (if y228.length + y231.length < 4398046511104 then ((some (y228 ++ y231 : List (S55))).bind fun y236 => (if 0 ≤ (wrap64 ((ji52) + 1)) then (if (wrap64 ((ji52) + 1)) ≤ (t214.length : Int) then ((some (t214.drop ((wrap64 ((ji52) + 1)) : Int).toNat : List (S55))).bind fun y239 => (if y236.length + y239.length < 4398046511104 then ((label_Met.f ((rd_T58 t210 0).f0) ((rd_T58 t210 0).f1) ((rd_T58 t210 0).f2) (y236 ++ y239)).bind fun t247 => ((label_Met.f ((rd_T58 t210 0).f0) ((rd_T58 t210 0).f1) ((rd_T58 t210 0).f2) t214).bind fun t248 => (if (t247 == t248) = true then ((tolllaw08_awake.f).bind fun t249 => (some t249)) else (some false)))) else (none))) else (none)) else (none))) else (none))) else (none)) = some true := by first | (rw [hy228]; with_reducible exact H) | (have H2_ := (Option.bind_some _ _).symm.trans H; rw [hy228]; with_reducible exact H2_) | (have H2_ := (Option.bind_some _ _).symm.trans H; with_reducible exact H2_) | with_reducible exact H | (rw [hy228]; exact H) | exact H
                          have Ny228 := Aside0.mk hy228
                          clear hy228
                          have c59b0 := eq_true (of_decide_eq_true (by first | (with_reducible assumption) | assumption) : 0 ≤ (ji52))
                          by_cases c60 : (ji52) ≤ (t214.length : Int)
                          · rw [if_pos c60] at H
                            have c60b0 := eq_true c60
                            have c60b1 : decide ((ji52) ≤ (t214.length : Int)) = true := decide_eq_true c60
                            clear c60
                            obtain ⟨y231, hy231⟩ : ∃ y_ : List (S55), y_ = (t214.take ((ji52) : Int).toNat) := ⟨_, rfl⟩
                            replace H : (if y228.length + y231.length < 4398046511104 then ((some (y228 ++ y231 : List (S55))).bind fun y236 => (if 0 ≤ (wrap64 ((ji52) + 1)) then (if (wrap64 ((ji52) + 1)) ≤ (t214.length : Int) then ((some (t214.drop ((wrap64 ((ji52) + 1)) : Int).toNat : List (S55))).bind fun y239 => (if y236.length + y239.length < 4398046511104 then ((label_Met.f ((rd_T58 t210 0).f0) ((rd_T58 t210 0).f1) ((rd_T58 t210 0).f2) (y236 ++ y239)).bind fun t247 => ((label_Met.f ((rd_T58 t210 0).f0) ((rd_T58 t210 0).f1) ((rd_T58 t210 0).f2) t214).bind fun t248 => (if (t247 == t248) = true then ((tolllaw08_awake.f).bind fun t249 => (some t249)) else (some false)))) else (none))) else (none)) else (none))) else (none)) = some true := by first | (rw [hy231]; with_reducible exact H) | (have H2_ := (Option.bind_some _ _).symm.trans H; rw [hy231]; with_reducible exact H2_) | (have H2_ := (Option.bind_some _ _).symm.trans H; with_reducible exact H2_) | with_reducible exact H | (rw [hy231]; exact H) | exact H
                            have Ny231 := Aside0.mk hy231
                            clear hy231
                            by_cases c61 : y228.length + y231.length < 4398046511104
                            · rw [if_pos c61] at H
                              have LMc61 := Aside0.mk c61
                              clear c61
                              obtain ⟨y236, hy236⟩ : ∃ y_ : List (S55), y_ = (y228 ++ y231) := ⟨_, rfl⟩
                              replace H : (if 0 ≤ (wrap64 ((ji52) + 1)) then (if (wrap64 ((ji52) + 1)) ≤ (t214.length : Int) then ((some (t214.drop ((wrap64 ((ji52) + 1)) : Int).toNat : List (S55))).bind fun y239 => (if y236.length + y239.length < 4398046511104 then ((label_Met.f ((rd_T58 t210 0).f0) ((rd_T58 t210 0).f1) ((rd_T58 t210 0).f2) (y236 ++ y239)).bind fun t247 => ((label_Met.f ((rd_T58 t210 0).f0) ((rd_T58 t210 0).f1) ((rd_T58 t210 0).f2) t214).bind fun t248 => (if (t247 == t248) = true then ((tolllaw08_awake.f).bind fun t249 => (some t249)) else (some false)))) else (none))) else (none)) else (none)) = some true := by first | (rw [hy236]; with_reducible exact H) | (have H2_ := (Option.bind_some _ _).symm.trans H; rw [hy236]; with_reducible exact H2_) | (have H2_ := (Option.bind_some _ _).symm.trans H; with_reducible exact H2_) | with_reducible exact H | (rw [hy236]; exact H) | exact H
                              have Ny236 := Aside0.mk hy236
                              clear hy236
                              obtain ⟨ji62, hji62⟩ : ∃ j_ : Int, (wrap64 ((ji52) + 1)) = j_ := ⟨_, rfl⟩
                              replace H : (if 0 ≤ (ji62) then (if (ji62) ≤ (t214.length : Int) then ((some (t214.drop ((ji62) : Int).toNat : List (S55))).bind fun y239 => (if y236.length + y239.length < 4398046511104 then ((label_Met.f ((rd_T58 t210 0).f0) ((rd_T58 t210 0).f1) ((rd_T58 t210 0).f2) (y236 ++ y239)).bind fun t247 => ((label_Met.f ((rd_T58 t210 0).f0) ((rd_T58 t210 0).f1) ((rd_T58 t210 0).f2) t214).bind fun t248 => (if (t247 == t248) = true then ((tolllaw08_awake.f).bind fun t249 => (some t249)) else (some false)))) else (none))) else (none)) else (none)) = some true := by first | (rw [hji62] at H; exact H) | (simp only [hji62] at H ⊢; exact H)
                              have hji62w : (IntKind.i64.wrap ((ji52) + 1)) = ji62 := (i64_w _).trans hji62
                              by_cases c63 : 0 ≤ (ji62)
                              · rw [if_pos c63] at H
                                have c63b0 := eq_true c63
                                have c63b1 : decide (0 ≤ (ji62)) = true := decide_eq_true c63
                                clear c63
                                by_cases c64 : (ji62) ≤ (t214.length : Int)
                                · rw [if_pos c64] at H
                                  have c64b0 := eq_true c64
                                  have c64b1 : decide ((ji62) ≤ (t214.length : Int)) = true := decide_eq_true c64
                                  clear c64
                                  obtain ⟨y239, hy239⟩ : ∃ y_ : List (S55), y_ = (t214.drop ((ji62) : Int).toNat) := ⟨_, rfl⟩
                                  replace H : (if y236.length + y239.length < 4398046511104 then ((label_Met.f ((rd_T58 t210 0).f0) ((rd_T58 t210 0).f1) ((rd_T58 t210 0).f2) (y236 ++ y239)).bind fun t247 => ((label_Met.f ((rd_T58 t210 0).f0) ((rd_T58 t210 0).f1) ((rd_T58 t210 0).f2) t214).bind fun t248 => (if (t247 == t248) = true then ((tolllaw08_awake.f).bind fun t249 => (some t249)) else (some false)))) else (none)) = some true := by first | (rw [hy239]; with_reducible exact H) | (have H2_ := (Option.bind_some _ _).symm.trans H; rw [hy239]; with_reducible exact H2_) | (have H2_ := (Option.bind_some _ _).symm.trans H; with_reducible exact H2_) | with_reducible exact H | (rw [hy239]; exact H) | exact H
                                  have Ny239 := Aside0.mk hy239
                                  clear hy239
                                  by_cases c65 : y236.length + y239.length < 4398046511104
                                  · rw [if_pos c65] at H
                                    have LMc65 := Aside0.mk c65
                                    clear c65
                                    obtain ⟨y244, hy244⟩ : ∃ y_ : List (S55), y_ = (y236 ++ y239) := ⟨_, rfl⟩
                                    replace H : ((label_Met.f ((rd_T58 t210 0).f0) ((rd_T58 t210 0).f1) ((rd_T58 t210 0).f2) y244).bind fun t247 => ((label_Met.f ((rd_T58 t210 0).f0) ((rd_T58 t210 0).f1) ((rd_T58 t210 0).f2) t214).bind fun t248 => (if (t247 == t248) = true then ((tolllaw08_awake.f).bind fun t249 => (some t249)) else (some false)))) = some true := by first | (rw [hy244]; with_reducible exact H) | (have H2_ := (Option.bind_some _ _).symm.trans H; rw [hy244]; with_reducible exact H2_) | (have H2_ := (Option.bind_some _ _).symm.trans H; with_reducible exact H2_) | with_reducible exact H | (rw [hy244]; exact H) | exact H
                                    have Ny244 := Aside0.mk hy244
                                    clear hy244
                                    replace H := Option.bind_eq_some_iff.mp H
                                    obtain ⟨t247, A660, H⟩ := H
                                    replace H : ((label_Met.f ((rd_T58 t210 0).f0) ((rd_T58 t210 0).f1) ((rd_T58 t210 0).f2) t214).bind fun t248 => (if (t247 == t248) = true then ((tolllaw08_awake.f).bind fun t249 => (some t249)) else (some false))) = some true := H
                                    have A66 := Aside0.mk A660
                                    clear A660
                                    replace H := Option.bind_eq_some_iff.mp H
                                    obtain ⟨t248, A670, H⟩ := H
                                    replace H : (if (t247 == t248) = true then ((tolllaw08_awake.f).bind fun t249 => (some t249)) else (some false)) = some true := H
                                    have A67 := Aside0.mk A670
                                    clear A670
                                    by_cases c68 : (t247 == t248) = true
                                    · rw [if_pos c68] at H
                                      have c68b0 : (t247 == t248) = true := c68
                                      (try (have c68b1 : decide (t247 = t248) = true := by simpa using c68))
                                      (try (have c68b2 : (t247 == t248) = true := by simpa using c68))
                                      clear c68
                                      replace H := Option.bind_eq_some_iff.mp H
                                      obtain ⟨t249, A690, H⟩ := H
                                      replace H : (some t249) = some true := H
                                      have A69 := Aside0.mk A690
                                      clear A690
                                      obtain rfl := Option.some.inj H
                                      try go_wp2
                                      have n0_ := Aside0.mk (Kd.R_drew HO_1.out)
                                      have n1_ := Aside0.mk (Kd.V_drew HO_207002.out)
                                      have n2_ := Aside0.mk (Kd.R_drew HO_218002.out)
                                      have n3_ := Aside0.mk (blk_drew BK206.out)
                                      have n4_ := Aside0.mk (blk_drew BK217.out)
                                      have n5_ := Aside0.mk (below_drew1 HB.out)
                                      clear HO_1
                                      clear HO_207002
                                      clear HO_218002
                                      clear BK206
                                      clear BK217
                                      clear HB
                                      have HO_1 := n0_
                                      have HO_207002 := n1_
                                      have HO_218002 := n2_
                                      have BK206 := n3_
                                      have BK217 := n4_
                                      have HB := n5_
                                      clear n0_ n1_ n2_ n3_ n4_ n5_
                                      have p226 : 0 ≤ ((ji52) : Int) := of_decide_eq_true (by first | (with_reducible assumption) | assumption)
                                      have q226 : (ji52) < (t214.length : Int) := of_decide_eq_true (by first | (with_reducible assumption) | assumption)
                                      obtain ⟨ad226, e226, hx226_0, hx226_1⟩ := at_T55 (Kd.R_reads' HO_1.out).2.2 (ji52) p226 q226
                                      cases e226
                                      replace p226 := eq_true p226
                                      replace q226 := eq_true q226
                                      refine start_ (n := 8) (S := fun w' => w'.cell? ⟨gb206, 0, none⟩ = some (.int .i64 ((rd_T58 t210 0).f0)) ∧ w'.cell? ⟨gb206, 1, none⟩ = some (.string ((rd_T58 t210 0).f1)) ∧ w'.cell? ⟨gb206, 2, none⟩ = some (.slice A213_2 ((rd_T58 t210 0).f2).length c213_2) ∧ w'.cell? (ad226.add (((ji52)).toNat * 2)) = some (.string ((rd_T55 t214 (ji52)).f0)) ∧ w'.cell? ⟨(ad226.add (((ji52)).toNat * 2)).block, (ad226.add (((ji52)).toNat * 2)).off + 1, none⟩ = some (.string ((rd_T55 t214 (ji52)).f1))) (ds := []) #[false, false, false, false, false, false, false, false] (by kernel_rfl) rfl rfl ⟨(blk_cell BK206.out 0).trans rfl, (blk_cell BK206.out 1).trans rfl, (blk_cell BK206.out 2).trans rfl, hx226_0, hx226_1⟩ (fun hHeld => ?_); refine with_tabW tolllaw08_LabelOrder.tab13 tolllaw08_LabelOrder.bits13 (fun HT_ HW_ => ?_)
                                      generalize wc.drew = w70 at HO_1 HO_207002 HO_218002 BK206 BK217 HB hx226_0 hx226_1 hHeld ⊢
                                      refine pure_ (i := 0) (N := some 59) (v := ?_) (a' := ?_) #[true, false, false, false, false, false, false, false] rfl rfl (any_of HT_.out (by kernel_rfl)) (fun _ _ _ h => h) (Or.inl ⟨by rfl, ?_⟩) ?_ ?_
                                      rotate_left
                                      · intro w'
                                        go_simp
                                        with_reducible rfl
                                      rotate_left
                                      · simp only [Act.put, List.setIfInBounds_toArray, List.set_cons_zero, List.set_cons_succ, i64_w, i32_w]
                                        rfl
                                      refine pure_ (i := 1) (N := some 60) (v := ?_) (a' := ?_) #[true, true, false, false, false, false, false, false] rfl rfl (any_of HT_.out (by kernel_rfl)) (fun _ _ _ h => h) (Or.inl ⟨by rfl, ?_⟩) ?_ ?_
                                      rotate_left
                                      · intro w'
                                        go_simp
                                        with_reducible rfl
                                      rotate_left
                                      · simp only [Act.put, List.setIfInBounds_toArray, List.set_cons_zero, List.set_cons_succ, i64_w, i32_w]
                                        rfl
                                      refine pure_ (i := 2) (N := some 61) (v := ?_) (a' := ?_) #[true, true, true, false, false, false, false, false] rfl rfl (any_of HT_.out (by kernel_rfl)) (fun _ _ _ h => h) (Or.inl ⟨by rfl, ?_⟩) ?_ ?_
                                      rotate_left
                                      · intro w'
                                        go_simp
                                        with_reducible rfl
                                      rotate_left
                                      · simp only [Act.put, List.setIfInBounds_toArray, List.set_cons_zero, List.set_cons_succ, i64_w, i32_w]
                                        rfl
                                      refine pure_ (i := 3) (N := some 62) (v := ?_) (a' := ?_) #[true, true, true, true, false, false, false, false] rfl rfl (any_of HT_.out (by kernel_rfl)) (fun _ _ _ h => h) (Or.inl ⟨by rfl, ?_⟩) ?_ ?_
                                      rotate_left
                                      · intro w'
                                        go_simp
                                        with_reducible rfl
                                      rotate_left
                                      · simp only [Act.put, List.setIfInBounds_toArray, List.set_cons_zero, List.set_cons_succ, i64_w, i32_w]
                                        rfl
                                      refine pure_ (i := 5) (N := some 64) (v := ?_) (a' := ?_) #[true, true, true, true, false, true, false, false] rfl rfl (any_of HT_.out (by kernel_rfl)) (fun _ _ _ h => h) (Or.inl ⟨by rfl, ?_⟩) ?_ ?_
                                      rotate_left
                                      · intro w'
                                        go_simp
                                        with_reducible rfl
                                      rotate_left
                                      · simp only [Act.put, List.setIfInBounds_toArray, List.set_cons_zero, List.set_cons_succ, i64_w, i32_w]
                                        rfl
                                      refine take_ (i := 4) (N := some 63) (v := ?_) (a' := ?_) #[true, true, true, true, true, true, false, false] rfl rfl (take_ofW HT_.out HW_.out (by kernel_rfl)) (fun _ _ _ h => h) (Or.inl ⟨by rfl, ?_⟩) hHeld ?_ ?_
                                      rotate_left
                                      · rintro w' ⟨s0, s1, s2, s3, s4⟩
                                        go_simp
                                        with_reducible rfl
                                      rotate_left
                                      · simp only [Act.put, List.setIfInBounds_toArray, List.set_cons_zero, List.set_cons_succ, i64_w, i32_w]
                                        rfl
                                      refine take_ (i := 6) (N := some 65) (v := ?_) (a' := ?_) #[true, true, true, true, true, true, true, false] rfl rfl (take_ofW HT_.out HW_.out (by kernel_rfl)) (fun _ _ _ h => h) (Or.inl ⟨by rfl, ?_⟩) hHeld ?_ ?_
                                      rotate_left
                                      · rintro w' ⟨s0, s1, s2, s3, s4⟩
                                        go_simp
                                        with_reducible rfl
                                      rotate_left
                                      · simp only [Act.put, List.setIfInBounds_toArray, List.set_cons_zero, List.set_cons_succ, i64_w, i32_w]
                                        rfl
                                      refine pure_ (i := 7) (N := some 66) (v := ?_) (a' := ?_) #[true, true, true, true, true, true, true, true] rfl rfl (any_of HT_.out (by kernel_rfl)) (fun _ _ _ h => h) (Or.inl ⟨by rfl, ?_⟩) ?_ ?_
                                      rotate_left
                                      · intro w'
                                        go_simp
                                        with_reducible rfl
                                      rotate_left
                                      · simp only [Act.put, List.setIfInBounds_toArray, List.set_cons_zero, List.set_cons_succ, i64_w, i32_w]
                                        rfl
                                      refine done_ (done_of HT_.out (by kernel_rfl)) ?_
                                      try go_wp2
                                      have n0_ := Aside0.mk (Kd.R_drew HO_1.out)
                                      have n1_ := Aside0.mk (Kd.V_drew HO_207002.out)
                                      have n2_ := Aside0.mk (Kd.R_drew HO_218002.out)
                                      have n3_ := Aside0.mk (blk_drew BK206.out)
                                      have n4_ := Aside0.mk (blk_drew BK217.out)
                                      have n5_ := Aside0.mk (below_drew1 HB.out)
                                      clear HO_1
                                      clear HO_207002
                                      clear HO_218002
                                      clear BK206
                                      clear BK217
                                      clear HB
                                      have HO_1 := n0_
                                      have HO_207002 := n1_
                                      have HO_218002 := n2_
                                      have BK206 := n3_
                                      have BK217 := n4_
                                      have HB := n5_
                                      clear n0_ n1_ n2_ n3_ n4_ n5_
                                      have q72 : ((ji52) : Int) ≤ ((t214.length : Int) : Int) := of_decide_eq_true (by first | (with_reducible assumption) | assumption)
                                      obtain ⟨i072, hi072, _, hsz72, _⟩ := info_parts info55
                                      have hroom72 : t214.length ≤ co42 := (Kd.R_reads' HO_1.out).2.1
                                      have hC72 : Kd.F k55 _ _ (some ad226) t214.length t214 := (Kd.V_at (base := w.heap.size) (Kd.V_mono (ok' := (fun k_ => ((((P0_2_ k_ ∨ w.heap.size ≤ k_) ∧ some k_ ≠ (.slice Ao41 x218002_1.length co41 : Value).ownBlock) ∧ k_ ≠ gb206) ∧ k_ ≠ gb217))) (Kd.R_V (Kd.R_types (Kd.R_types (Kd.R_apart' (HO_1.out) (Kd.R_typed HO_218002.out) (by decide)) BK206.out (by decide)) BK217.out (by decide))) (fun k_ hk => ⟨⟨⟨(.inr (hk.1.1.1)), hk.1.1.2⟩, hk.1.2⟩, hk.2⟩))).2.2
                                      have hcut72 := cut_to (P := Tryd.prog) 51 55 .i64 Tryd.underlying51 hi072 (some ad226) t214.length co42 (ji52) (of_decide_eq_true (by first | (with_reducible assumption) | assumption)) q72 hroom72
                                      have hr72 := Kd.F_take (m := ((ji52) : Int).toNat) hC72 (by omega)
                                      have hy72 : y231.length = ((ji52) : Int).toNat := (by rw [Ny231.out, List.length_take]; omega)
                                      rw [← Ny231.out] at hr72
                                      rw [← hy72] at hcut72
                                      have HO235 := Aside0.mk (show Kd.V k55 55 _ w.heap.size _ (.slice (some ad226) y231.length co42) y231 from Kd.V_mk (by omega) hr72)
                                      have HC235 := Aside0.mk (show y231.length ≤ co42 from by omega)
                                      clear hr72 hC72 hroom72 hi072 hsz72
                                      have KY72 := Aside0.mk hy72
                                      clear hy72
                                      replace q72 := eq_true q72
                                      have q73 : ((ji62) : Int) ≤ ((t214.length : Int) : Int) := of_decide_eq_true (by first | (with_reducible assumption) | assumption)
                                      obtain ⟨i073, hi073, _, hsz73, _⟩ := info_parts info55
                                      have hroom73 : t214.length ≤ co42 := (Kd.R_reads' HO_1.out).2.1
                                      have hC73 : Kd.F k55 _ _ (some ad226) t214.length t214 := (Kd.V_at (base := w.heap.size) (Kd.V_mono (ok' := (fun k_ => ((((P0_2_ k_ ∨ w.heap.size ≤ k_) ∧ some k_ ≠ (.slice Ao41 x218002_1.length co41 : Value).ownBlock) ∧ k_ ≠ gb206) ∧ k_ ≠ gb217))) (Kd.R_V (Kd.R_types (Kd.R_types (Kd.R_apart' (HO_1.out) (Kd.R_typed HO_218002.out) (by decide)) BK206.out (by decide)) BK217.out (by decide))) (fun k_ hk => ⟨⟨⟨(.inr (hk.1.1.1)), hk.1.1.2⟩, hk.1.2⟩, hk.2⟩))).2.2
                                      have q073 : (0 : Int) ≤ ((ji62) : Int) := of_decide_eq_true (by first | (with_reducible assumption) | assumption)
                                      have hcut73 := cut_from (P := Tryd.prog) 51 55 .i64 Tryd.underlying51 hi073 2 hsz73 (some ad226) t214.length co42 (ji62) q073 q73
                                      have hr73 := Kd.F_cut (m := ((ji62) : Int).toNat) (c := co42) hC73 (by omega) hroom73
                                      obtain ⟨A73, hA73⟩ : ∃ A1, A1 = (if co42 = ((ji62) : Int).toNat then (some ad226) else ((some ad226) : Option Addr).map (·.add (((ji62) : Int).toNat * 2))) := ⟨_, rfl⟩
                                      obtain ⟨c73, hc73⟩ : ∃ c1, c1 = co42 - ((ji62) : Int).toNat := ⟨_, rfl⟩
                                      have hy73 : y239.length = t214.length - ((ji62) : Int).toNat := (by rw [Ny239.out, List.length_drop] <;> omega)
                                      rw [show (t214).drop ((ji62) : Int).toNat = y239 from Ny239.out.symm] at hr73
                                      replace hr73 : Kd.F k55 _ _ A73 y239.length y239 := (by rw [hA73]; exact hr73)
                                      rw [← hy73, ← hA73, ← hc73] at hcut73
                                      have HO243 := Aside0.mk (show Kd.V k55 55 _ w.heap.size _ (.slice A73 y239.length c73) y239 from Kd.V_mk (by rw [hy73, hc73]; exact Nat.sub_le_sub_right hroom73 _) hr73)
                                      have HC243 := Aside0.mk (show y239.length ≤ c73 from by rw [hy73, hc73]; exact Nat.sub_le_sub_right hroom73 _)
                                      clear hr73 hC73 hroom73 hi073 hsz73 hc73
                                      have KY73 := Aside0.mk hy73
                                      have KA73 := Aside0.mk hA73
                                      clear hy73 hA73
                                      replace q73 := eq_true q73
                                      refine start_ (n := 11) (S := fun w' => True) (ds := []) #[false, false, false, false, false, false, false, false, false, false, false] (by kernel_rfl) rfl rfl trivial (fun hHeld => ?_); refine with_tabW tolllaw08_LabelOrder.tab15 tolllaw08_LabelOrder.bits15 (fun HT_ HW_ => ?_)
                                      generalize w70.drew = w71 at HO_1 HO_207002 HO_218002 BK206 BK217 HB HO235 HO243 hHeld ⊢
                                      refine pure_ (i := 1) (N := some 69) (v := ?_) (a' := ?_) #[false, true, false, false, false, false, false, false, false, false, false] rfl rfl (any_of HT_.out (by kernel_rfl)) (fun _ _ _ h => h) (Or.inl ⟨by rfl, ?_⟩) ?_ ?_
                                      rotate_left
                                      · intro w'
                                        go_simp
                                        with_reducible rfl
                                      rotate_left
                                      · simp only [Act.put, List.setIfInBounds_toArray, List.set_cons_zero, List.set_cons_succ, i64_w, i32_w]
                                        rfl
                                      refine pure_ (i := 2) (N := some 70) (v := ?_) (a' := ?_) #[false, true, true, false, false, false, false, false, false, false, false] rfl rfl (any_of HT_.out (by kernel_rfl)) (fun _ _ _ h => h) (Or.inl ⟨by rfl, ?_⟩) ?_ ?_
                                      rotate_left
                                      · intro w'
                                        go_simp
                                        with_reducible rfl
                                      rotate_left
                                      · simp only [Act.put, List.setIfInBounds_toArray, List.set_cons_zero, List.set_cons_succ, i64_w, i32_w]
                                        rfl
                                      refine pure_ (i := 3) (N := some 71) (v := ?_) (a' := ?_) #[false, true, true, true, false, false, false, false, false, false, false] rfl rfl (any_of HT_.out (by kernel_rfl)) (fun _ _ _ h => h) (Or.inl ⟨by rfl, ?_⟩) ?_ ?_
                                      rotate_left
                                      · intro w'
                                        go_simp
                                        with_reducible rfl
                                      rotate_left
                                      · simp only [Act.put, List.setIfInBounds_toArray, List.set_cons_zero, List.set_cons_succ, i64_w, i32_w]
                                        rfl
                                      refine pure_ (i := 5) (N := some 73) (v := ?_) (a' := ?_) #[false, true, true, true, false, true, false, false, false, false, false] rfl rfl (any_of HT_.out (by kernel_rfl)) (fun _ _ _ h => h) (Or.inl ⟨by rfl, ?_⟩) ?_ ?_
                                      rotate_left
                                      · intro w'
                                        go_simp
                                        with_reducible rfl
                                      rotate_left
                                      · simp only [Act.put, List.setIfInBounds_toArray, List.set_cons_zero, List.set_cons_succ, i64_w, i32_w]
                                        rfl
                                      refine pure_ (i := 6) (N := some 74) (v := ?_) (a' := ?_) #[false, true, true, true, false, true, true, false, false, false, false] rfl rfl (any_of HT_.out (by kernel_rfl)) (fun _ _ _ h => h) (Or.inl ⟨by rfl, ?_⟩) ?_ ?_
                                      rotate_left
                                      · intro w'
                                        go_simp
                                        with_reducible rfl
                                      rotate_left
                                      · simp only [Act.put, List.setIfInBounds_toArray, List.set_cons_zero, List.set_cons_succ, i64_w, i32_w]
                                        rfl
                                      refine pure_ (i := 7) (N := some 75) (v := ?_) (a' := ?_) #[false, true, true, true, false, true, true, true, false, false, false] rfl rfl (any_of HT_.out (by kernel_rfl)) (fun _ _ _ h => h) (Or.inl ⟨by rfl, ?_⟩) ?_ ?_
                                      rotate_left
                                      · intro w'
                                        go_simp
                                        with_reducible rfl
                                      rotate_left
                                      · simp only [Act.put, List.setIfInBounds_toArray, List.set_cons_zero, List.set_cons_succ, i64_w, i32_w]
                                        rfl
                                      refine pure_ (i := 8) (N := some 76) (v := ?_) (a' := ?_) #[false, true, true, true, false, true, true, true, true, false, false] rfl rfl (any_of HT_.out (by kernel_rfl)) (fun _ _ _ h => h) (Or.inl ⟨by rfl, ?_⟩) ?_ ?_
                                      rotate_left
                                      · intro w'
                                        go_simp
                                        with_reducible rfl
                                      rotate_left
                                      · simp only [Act.put, List.setIfInBounds_toArray, List.set_cons_zero, List.set_cons_succ, i64_w, i32_w]
                                        rfl
                                      refine one_ (i := 0) (N := some 68) #[true, true, true, true, false, true, true, true, true, false, false] rfl rfl (one_of HT_.out (by kernel_rfl)) (by decide) (fun K hK => ?_)
                                      refine Kd.R_lit_step k55 _ 55 ?hg (N := 68) ?hd (xs := ([] : List (S55))) (inner := []) (ok := fun _ => True) (okp := fun _ => True) ?hr ?hp (fun _ hk => hk) trivial (Below.refl _ _) (Nat.le_refl _) (by simp) ?_; (case hd => rfl); (case hg => rfl); (case hr => first | (go_simp; done) | (go_simp; rfl)); (case hp => exact (Reps.none _ _))
                                      intro v229 w74 ho75 hb hg_ hnew_
                                      clear hg_ hnew_
                                      (first | rw [← Ny228.out] at ho75 | (simp only [Int.reduceToNat] at ho75; rw [← Ny228.out] at ho75))
                                      have n0_ := Aside0.mk (Kd.R_elder' (by (with_reducible repeat (first | apply Kd.R_alloc | apply Kd.R_drewN | apply Kd.R_drew)); exact HO_1.out) (Kd.R_base ho75) hb)
                                      have n1_ := Aside0.mk (Kd.V_elder' (by (with_reducible repeat (first | apply Kd.V_alloc | apply Kd.V_drewN | apply Kd.V_drew)); exact HO_207002.out) (Kd.R_base ho75) hb)
                                      have n2_ := Aside0.mk (Kd.R_below (by (with_reducible repeat (first | apply Kd.R_alloc | apply Kd.R_drewN | apply Kd.R_drew)); exact HO_218002.out) hb)
                                      have n3_ := Aside0.mk (Kd.V_elder' (by (with_reducible repeat (first | apply Kd.V_alloc | apply Kd.V_drewN | apply Kd.V_drew)); exact HO235.out) (Kd.R_base ho75) hb)
                                      have n4_ := Aside0.mk (Kd.V_elder' (by (with_reducible repeat (first | apply Kd.V_alloc | apply Kd.V_drewN | apply Kd.V_drew)); exact HO243.out) (Kd.R_base ho75) hb)
                                      have n5_ := Aside0.mk (Kd.R_lower (Kd.R_new' (Kd.R_newM (M := fun k_ => (w.heap.size ≤ k_)) ho75 (below_size (by repeat (first | (with_reducible first | exact HB.out | apply below_alloc | apply pw_below_drewN | apply below_drew1 | refine below_set ?_ GE206.out | refine below_set ?_ GE217.out) | exact HB.out))) (fun k_ h_ => h_)) (Kd.R_lt (by (with_reducible repeat (first | apply Kd.R_alloc | apply Kd.R_drewN | apply Kd.R_drew)); exact HO_1.out))) (below_size (by repeat (first | (with_reducible first | exact HB.out | apply below_alloc | apply pw_below_drewN | apply below_drew1 | refine below_set ?_ GE206.out | refine below_set ?_ GE217.out) | exact HB.out))))
                                      have n6_ := Aside0.mk (blk_below (g := gb206) (o := .cells #[.int .i64 ((rd_T58 t210 0).f0), .string ((rd_T58 t210 0).f1), .slice A213_2 ((rd_T58 t210 0).f2).length c213_2] 58 (0, 0)) (by (with_reducible repeat (first | refine blk_drewN ?_ _ | refine blk_drew ?_ | refine blk_alloc ?_ _)); exact BK206.out) hb)
                                      have n7_ := Aside0.mk (blk_below (g := gb217) (o := .cells #[.int .i64 ((rd_T58 t210 0).f0), .string ((rd_T58 t210 0).f1), .slice Ao41 x218002_1.length co41] 58 (0, 0)) (by (with_reducible repeat (first | refine blk_drewN ?_ _ | refine blk_drew ?_ | refine blk_alloc ?_ _)); exact BK217.out) hb)
                                      have n8_ := Aside0.mk (below_step (by repeat (first | (with_reducible first | exact HB.out | apply below_alloc | apply pw_below_drewN | apply below_drew1 | refine below_set ?_ GE206.out | refine below_set ?_ GE217.out) | exact HB.out)) hb)
                                      clear HO_1
                                      clear HO_207002
                                      clear HO_218002
                                      clear HO235
                                      clear HO243
                                      clear BK206
                                      clear BK217
                                      clear HB
                                      have HO_1 := n0_
                                      have HO_207002 := n1_
                                      have HO_218002 := n2_
                                      have HO235 := n3_
                                      have HO243 := n4_
                                      have HO230 := n5_
                                      have BK206 := n6_
                                      have BK217 := n7_
                                      have HB := n8_
                                      clear n0_ n1_ n2_ n3_ n4_ n5_ n6_ n7_ n8_
                                      clear hb ho75
                                      refine hK.out _ _ trivial (fun hHeld => ?_)
                                      clear hK K
                                      refine norm_ (a' := ?_) ?_ ?_
                                      rotate_left
                                      · show Act.put _ (some 68) _ = _
                                        simp only [Act.put, List.setIfInBounds_toArray, List.set_cons_zero, List.set_cons_succ, i64_w, i32_w]
                                        rfl
                                      refine one_ (i := 4) (N := some 72) #[true, true, true, true, true, true, true, true, true, false, false] rfl rfl (one_of HT_.out (by kernel_rfl)) (by decide) (fun K hK => ?_)
                                      refine Kd.R_append_rows_step k55 (w0 := w) w.heap.size (by rfl) (.tmp 68) (.tmp 71) 51 55 (.agg #[(.string ⟨#[]⟩), (.string ⟨#[]⟩)]) 32 rfl Tryd.underlying51 info55 rfl (by decide) (by omega) v229 y228 y231 _ _ _ (fun k_ => (w.heap.size ≤ k_) ∧ some k_ ≠ (.slice (some ad226) t214.length co42 : Value).ownBlock) (fun _ => False) rfl rfl ?aO ?aR (fun _ _ h => h) (fun _ h => h.elim) ?aF ?aB ?aS ?aL ?_
                                      (case aR => repeat (first | exact (Kd.V_reads' HO235.out).2.2 | (with_reducible refine Kd.C_alloc ?_ _) | (with_reducible refine Kd.C_drewN ?_ _) | (with_reducible refine Kd.C_drew ?_)))
                                      (case aB => exact (by repeat (first | (with_reducible first | exact HB.out | apply below_alloc | apply pw_below_drewN | apply below_drew1 | refine below_set ?_ GE206.out | refine below_set ?_ GE217.out) | exact HB.out)))
                                      (case aF => exact (fun k_ hk => ⟨(Nat.le_trans (below_size (by repeat (first | (with_reducible first | exact HB.out | apply below_alloc | apply pw_below_drewN | apply below_drew1 | refine below_set ?_ GE206.out | refine below_set ?_ GE217.out) | exact HB.out))) hk), Kd.fresh' (Kd.R_lt (by (with_reducible repeat (first | apply Kd.R_alloc | apply Kd.R_drewN | apply Kd.R_drew)); exact HO_1.out)) k_ hk⟩))
                                      (case aO => exact (by (with_reducible repeat (first | apply Kd.R_alloc | apply Kd.R_drewN | apply Kd.R_drew)); exact Kd.R_mono HO230.out (fun _ hk => ⟨hk.1.1, hk.2⟩)))
                                      (case aS => exact (below_size (by repeat (first | (with_reducible first | exact HB.out | apply below_alloc | apply pw_below_drewN | apply below_drew1 | refine below_set ?_ GE206.out | refine below_set ?_ GE217.out) | exact HB.out))))
                                      (case aL => have := LMc61.out; omega)
                                      intro v237 w76 ho hb hg hat
                                      rw [← Ny236.out] at ho
                                      have n0_ := Aside0.mk (Kd.R_after (ok := (fun k_ => (w.heap.size ≤ k_))) (by (with_reducible repeat (first | apply Kd.R_alloc | apply Kd.R_drewN | apply Kd.R_drew)); exact HO_1.out) hg hat)
                                      have n1_ := Aside0.mk (Kd.V_afterv (ok := (fun k_ => (P0_2_ k_ ∨ w.heap.size ≤ k_) ∧ some k_ ≠ (.slice (some ad226) t214.length co42 : Value).ownBlock ∧ some k_ ≠ (.slice Ao41 x218002_1.length co41 : Value).ownBlock ∧ k_ ≠ gb206 ∧ k_ ≠ gb217)) (by (with_reducible repeat (first | apply Kd.V_alloc | apply Kd.V_drewN | apply Kd.V_drew)); exact HO_207002.out) hg hat)
                                      have n2_ := Aside0.mk (Kd.R_over' (by (with_reducible repeat (first | apply Kd.R_alloc | apply Kd.R_drewN | apply Kd.R_drew)); exact HO_218002.out) (Kd.R_typed (by (with_reducible repeat (first | apply Kd.R_alloc | apply Kd.R_drewN | apply Kd.R_drew)); exact HO230.out)) (by decide) hg)
                                      have n3_ := Aside0.mk (blk_grown (g := gb206) (o := .cells #[.int .i64 ((rd_T58 t210 0).f0), .string ((rd_T58 t210 0).f1), .slice A213_2 ((rd_T58 t210 0).f2).length c213_2] 58 (0, 0)) (by (with_reducible repeat (first | refine blk_drewN ?_ _ | refine blk_drew ?_ | refine blk_alloc ?_ _)); exact BK206.out) hg (Kd.R_ne HO230.out BK206.out (by decide)))
                                      have n4_ := Aside0.mk (blk_grown (g := gb217) (o := .cells #[.int .i64 ((rd_T58 t210 0).f0), .string ((rd_T58 t210 0).f1), .slice Ao41 x218002_1.length co41] 58 (0, 0)) (by (with_reducible repeat (first | refine blk_drewN ?_ _ | refine blk_drew ?_ | refine blk_alloc ?_ _)); exact BK217.out) hg (Kd.R_ne HO230.out BK217.out (by decide)))
                                      have n5_ := Aside0.mk (Kd.V_afterv (ok := (fun k_ => (P0_2_ k_ ∨ w.heap.size ≤ k_) ∧ some k_ ≠ (.slice Ao41 x218002_1.length co41 : Value).ownBlock ∧ k_ ≠ gb206 ∧ k_ ≠ gb217)) (by (with_reducible repeat (first | apply Kd.V_alloc | apply Kd.V_drewN | apply Kd.V_drew)); exact Kd.V_mono HO235.out (fun _ hk => ⟨⟨hk.1.1.1.1, ⟨hk.1.1.1.2, ⟨hk.1.1.2, hk.1.2⟩⟩⟩, hk.2⟩)) hg hat)
                                      have n6_ := Aside0.mk (Kd.V_afterv (ok := (fun k_ => (P0_2_ k_ ∨ w.heap.size ≤ k_) ∧ some k_ ≠ (.slice Ao41 x218002_1.length co41 : Value).ownBlock ∧ k_ ≠ gb206 ∧ k_ ≠ gb217)) (by (with_reducible repeat (first | apply Kd.V_alloc | apply Kd.V_drewN | apply Kd.V_drew)); exact Kd.V_mono HO243.out (fun _ hk => ⟨⟨hk.1.1.1.1, ⟨hk.1.1.1.2, ⟨hk.1.1.2, hk.1.2⟩⟩⟩, hk.2⟩)) hg hat)
                                      have n7_ := Aside0.mk (hb)
                                      have n8_ := Aside0.mk (ho)
                                      clear HO_1
                                      clear HO_207002
                                      clear HO_218002
                                      clear BK206
                                      clear BK217
                                      clear HO235
                                      clear HO243
                                      clear HB
                                      clear HO230
                                      have HO_1 := n0_
                                      have HO_207002 := n1_
                                      have HO_218002 := n2_
                                      have BK206 := n3_
                                      have BK217 := n4_
                                      have HO235 := n5_
                                      have HO243 := n6_
                                      have HB := n7_
                                      have HO238 := n8_
                                      clear n0_ n1_ n2_ n3_ n4_ n5_ n6_ n7_ n8_
                                      clear ho hb hg hat
                                      refine hK.out _ _ trivial (fun hHeld => ?_)
                                      clear hK K
                                      refine norm_ (a' := ?_) ?_ ?_
                                      rotate_left
                                      · show Act.put _ (some 72) _ = _
                                        simp only [Act.put, List.setIfInBounds_toArray, List.set_cons_zero, List.set_cons_succ, i64_w, i32_w]
                                        rfl
                                      refine one_ (i := 9) (N := some 77) #[true, true, true, true, true, true, true, true, true, true, false] rfl rfl (one_of HT_.out (by kernel_rfl)) (by decide) (fun K hK => ?_)
                                      refine Kd.R_append_rows_step k55 (w0 := w) w.heap.size (by rfl) (.tmp 72) (.tmp 76) 51 55 (.agg #[(.string ⟨#[]⟩), (.string ⟨#[]⟩)]) 32 rfl Tryd.underlying51 info55 rfl (by decide) (by omega) v237 y236 y239 _ _ _ (fun k_ => (w.heap.size ≤ k_) ∧ some k_ ≠ (.slice (some ad226) t214.length co42 : Value).ownBlock) (fun _ => False) rfl rfl ?aO ?aR (fun _ _ h => h) (fun _ h => h.elim) ?aF ?aB ?aS ?aL ?_
                                      (case aR => repeat (first | exact (Kd.V_reads' HO243.out).2.2 | (with_reducible refine Kd.C_alloc ?_ _) | (with_reducible refine Kd.C_drewN ?_ _) | (with_reducible refine Kd.C_drew ?_)))
                                      (case aB => exact (by repeat (first | (with_reducible first | exact HB.out | apply below_alloc | apply pw_below_drewN | apply below_drew1 | refine below_set ?_ GE206.out | refine below_set ?_ GE217.out) | exact HB.out)))
                                      (case aF => exact (fun k_ hk => ⟨(Nat.le_trans (below_size (by repeat (first | (with_reducible first | exact HB.out | apply below_alloc | apply pw_below_drewN | apply below_drew1 | refine below_set ?_ GE206.out | refine below_set ?_ GE217.out) | exact HB.out))) hk), Kd.fresh' (Kd.R_lt (by (with_reducible repeat (first | apply Kd.R_alloc | apply Kd.R_drewN | apply Kd.R_drew)); exact HO_1.out)) k_ hk⟩))
                                      (case aO => exact (by (with_reducible repeat (first | apply Kd.R_alloc | apply Kd.R_drewN | apply Kd.R_drew)); exact HO238.out))
                                      (case aS => exact (below_size (by repeat (first | (with_reducible first | exact HB.out | apply below_alloc | apply pw_below_drewN | apply below_drew1 | refine below_set ?_ GE206.out | refine below_set ?_ GE217.out) | exact HB.out))))
                                      (case aL => have := LMc65.out; omega)
                                      intro v245 w77 ho hb hg hat
                                      rw [← Ny244.out] at ho
                                      have n0_ := Aside0.mk (Kd.R_after (ok := (fun k_ => (w.heap.size ≤ k_))) (by (with_reducible repeat (first | apply Kd.R_alloc | apply Kd.R_drewN | apply Kd.R_drew)); exact HO_1.out) hg hat)
                                      have n1_ := Aside0.mk (Kd.V_afterv (ok := (fun k_ => (P0_2_ k_ ∨ w.heap.size ≤ k_) ∧ some k_ ≠ (.slice (some ad226) t214.length co42 : Value).ownBlock ∧ some k_ ≠ (.slice Ao41 x218002_1.length co41 : Value).ownBlock ∧ k_ ≠ gb206 ∧ k_ ≠ gb217)) (by (with_reducible repeat (first | apply Kd.V_alloc | apply Kd.V_drewN | apply Kd.V_drew)); exact HO_207002.out) hg hat)
                                      have n2_ := Aside0.mk (Kd.R_over' (by (with_reducible repeat (first | apply Kd.R_alloc | apply Kd.R_drewN | apply Kd.R_drew)); exact HO_218002.out) (Kd.R_typed (by (with_reducible repeat (first | apply Kd.R_alloc | apply Kd.R_drewN | apply Kd.R_drew)); exact HO238.out)) (by decide) hg)
                                      have n3_ := Aside0.mk (blk_grown (g := gb206) (o := .cells #[.int .i64 ((rd_T58 t210 0).f0), .string ((rd_T58 t210 0).f1), .slice A213_2 ((rd_T58 t210 0).f2).length c213_2] 58 (0, 0)) (by (with_reducible repeat (first | refine blk_drewN ?_ _ | refine blk_drew ?_ | refine blk_alloc ?_ _)); exact BK206.out) hg (Kd.R_ne HO238.out BK206.out (by decide)))
                                      have n4_ := Aside0.mk (blk_grown (g := gb217) (o := .cells #[.int .i64 ((rd_T58 t210 0).f0), .string ((rd_T58 t210 0).f1), .slice Ao41 x218002_1.length co41] 58 (0, 0)) (by (with_reducible repeat (first | refine blk_drewN ?_ _ | refine blk_drew ?_ | refine blk_alloc ?_ _)); exact BK217.out) hg (Kd.R_ne HO238.out BK217.out (by decide)))
                                      have n5_ := Aside0.mk (Kd.V_afterv (ok := (fun k_ => (P0_2_ k_ ∨ w.heap.size ≤ k_) ∧ some k_ ≠ (.slice Ao41 x218002_1.length co41 : Value).ownBlock ∧ k_ ≠ gb206 ∧ k_ ≠ gb217)) (by (with_reducible repeat (first | apply Kd.V_alloc | apply Kd.V_drewN | apply Kd.V_drew)); exact HO235.out) hg hat)
                                      have n6_ := Aside0.mk (Kd.V_afterv (ok := (fun k_ => (P0_2_ k_ ∨ w.heap.size ≤ k_) ∧ some k_ ≠ (.slice Ao41 x218002_1.length co41 : Value).ownBlock ∧ k_ ≠ gb206 ∧ k_ ≠ gb217)) (by (with_reducible repeat (first | apply Kd.V_alloc | apply Kd.V_drewN | apply Kd.V_drew)); exact HO243.out) hg hat)
                                      have n7_ := Aside0.mk (hb)
                                      have n8_ := Aside0.mk (ho)
                                      clear HO_1
                                      clear HO_207002
                                      clear HO_218002
                                      clear BK206
                                      clear BK217
                                      clear HO235
                                      clear HO243
                                      clear HB
                                      clear HO238
                                      have HO_1 := n0_
                                      have HO_207002 := n1_
                                      have HO_218002 := n2_
                                      have BK206 := n3_
                                      have BK217 := n4_
                                      have HO235 := n5_
                                      have HO243 := n6_
                                      have HB := n7_
                                      have HO246 := n8_
                                      clear n0_ n1_ n2_ n3_ n4_ n5_ n6_ n7_ n8_
                                      clear ho hb hg hat
                                      refine hK.out _ _ trivial (fun hHeld => ?_)
                                      clear hK K
                                      refine norm_ (a' := ?_) ?_ ?_
                                      rotate_left
                                      · show Act.put _ (some 77) _ = _
                                        simp only [Act.put, List.setIfInBounds_toArray, List.set_cons_zero, List.set_cons_succ, i64_w, i32_w]
                                        rfl
                                      refine pure_ (i := 10) (N := some 10) (v := ?_) (a' := ?_) #[true, true, true, true, true, true, true, true, true, true, true] rfl rfl (any_of HT_.out (by kernel_rfl)) (fun _ _ _ h => h) (Or.inl ⟨by rfl, ?_⟩) ?_ ?_
                                      rotate_left
                                      · intro w'
                                        go_simp
                                        with_reducible rfl
                                      rotate_left
                                      · simp only [Act.put, List.setIfInBounds_toArray, List.set_cons_zero, List.set_cons_succ, i64_w, i32_w]
                                        rfl
                                      refine done_ (done_of HT_.out (by kernel_rfl)) ?_
                                      try go_wp2
                                      have n0_ := Aside0.mk (Kd.R_drew HO_1.out)
                                      have n1_ := Aside0.mk (Kd.V_drew HO_207002.out)
                                      have n2_ := Aside0.mk (Kd.R_drew HO_218002.out)
                                      have n3_ := Aside0.mk (Kd.V_drew HO235.out)
                                      have n4_ := Aside0.mk (Kd.V_drew HO243.out)
                                      have n5_ := Aside0.mk (Kd.R_drew HO246.out)
                                      have n6_ := Aside0.mk (blk_drew BK206.out)
                                      have n7_ := Aside0.mk (blk_drew BK217.out)
                                      have n8_ := Aside0.mk (below_drew1 HB.out)
                                      clear HO_1
                                      clear HO_207002
                                      clear HO_218002
                                      clear HO235
                                      clear HO243
                                      clear HO246
                                      clear BK206
                                      clear BK217
                                      clear HB
                                      have HO_1 := n0_
                                      have HO_207002 := n1_
                                      have HO_218002 := n2_
                                      have HO235 := n3_
                                      have HO243 := n4_
                                      have HO246 := n5_
                                      have BK206 := n6_
                                      have BK217 := n7_
                                      have HB := n8_
                                      clear n0_ n1_ n2_ n3_ n4_ n5_ n6_ n7_ n8_
                                      obtain ⟨Ao79, co79, eo79⟩ := Kd.R_slice HO246.out
                                      (first | subst eo79 | (injection eo79 with f1_ f2_ f3_; have f4_ := f1_.symm; have f5_ := f3_.symm; clear f1_ f2_ f3_; subst f4_; subst f5_))
                                      refine start_ (n := 11) (S := fun w' => w'.cell? ⟨gb206, 0, none⟩ = some (.int .i64 ((rd_T58 t210 0).f0)) ∧ w'.cell? ⟨gb206, 1, none⟩ = some (.string ((rd_T58 t210 0).f1)) ∧ w'.cell? ⟨gb206, 2, none⟩ = some (.slice A213_2 ((rd_T58 t210 0).f2).length c213_2)) (ds := []) #[false, false, false, false, false, false, false, false, false, false, false] (by kernel_rfl) rfl rfl ⟨(blk_cell BK206.out 0).trans rfl, (blk_cell BK206.out 1).trans rfl, (blk_cell BK206.out 2).trans rfl⟩ (fun hHeld => ?_); refine with_tabW tolllaw08_LabelOrder.tab16 tolllaw08_LabelOrder.bits16 (fun HT_ HW_ => ?_)
                                      generalize w77.drew = w78 at HO_1 HO_207002 HO_218002 HO235 HO243 HO246 BK206 BK217 HB hHeld ⊢
                                      refine pure_ (i := 1) (N := some 79) (v := ?_) (a' := ?_) #[false, true, false, false, false, false, false, false, false, false, false] rfl rfl (any_of HT_.out (by kernel_rfl)) (fun _ _ _ h => h) (Or.inl ⟨by rfl, ?_⟩) ?_ ?_
                                      rotate_left
                                      · intro w'
                                        go_simp
                                        with_reducible rfl
                                      rotate_left
                                      · simp only [Act.put, List.setIfInBounds_toArray, List.set_cons_zero, List.set_cons_succ, i64_w, i32_w]
                                        rfl
                                      refine pure_ (i := 4) (N := some 82) (v := ?_) (a' := ?_) #[false, true, false, false, true, false, false, false, false, false, false] rfl rfl (any_of HT_.out (by kernel_rfl)) (fun _ _ _ h => h) (Or.inl ⟨by rfl, ?_⟩) ?_ ?_
                                      rotate_left
                                      · intro w'
                                        go_simp
                                        with_reducible rfl
                                      rotate_left
                                      · simp only [Act.put, List.setIfInBounds_toArray, List.set_cons_zero, List.set_cons_succ, i64_w, i32_w]
                                        rfl
                                      refine take_ (i := 0) (N := some 78) (v := ?_) (a' := ?_) #[true, true, false, false, true, false, false, false, false, false, false] rfl rfl (take_ofW HT_.out HW_.out (by kernel_rfl)) (fun _ _ _ h => h) (Or.inl ⟨by rfl, ?_⟩) hHeld ?_ ?_
                                      rotate_left
                                      · rintro w' ⟨s0, s1, s2⟩
                                        go_simp
                                        with_reducible rfl
                                      rotate_left
                                      · simp only [Act.put, List.setIfInBounds_toArray, List.set_cons_zero, List.set_cons_succ, i64_w, i32_w]
                                        rfl
                                      refine take_ (i := 3) (N := some 81) (v := ?_) (a' := ?_) #[true, true, false, true, true, false, false, false, false, false, false] rfl rfl (take_ofW HT_.out HW_.out (by kernel_rfl)) (fun _ _ _ h => h) (Or.inl ⟨by rfl, ?_⟩) hHeld ?_ ?_
                                      rotate_left
                                      · rintro w' ⟨s0, s1, s2⟩
                                        go_simp
                                        with_reducible rfl
                                      rotate_left
                                      · simp only [Act.put, List.setIfInBounds_toArray, List.set_cons_zero, List.set_cons_succ, i64_w, i32_w]
                                        rfl
                                      refine one_ (i := 2) (N := some 80) #[true, true, true, true, true, false, false, false, false, false, false] rfl rfl (one_of HT_.out (by kernel_rfl)) (by decide) (fun K hK => ?_)
                                      refine goes_ Tryd.func54 (by kernel_rfl) rfl #[.agg #[.int .i64 ((rd_T58 t210 0).f0), .string ((rd_T58 t210 0).f1), .slice A213_2 ((rd_T58 t210 0).f2).length c213_2], .slice Ao79 y244.length co79] (by rfl) rfl rfl (by (try simp only [List.map_toArray, List.map_cons, List.map_nil]); first | done | rfl | (simp only [List.length_drop, List.length_take]; rfl)) ?_
                                      with_reducible refine (label_Met.calls ((rd_T58 t210 0).f0) ((rd_T58 t210 0).f1) _ _ ((rd_T58 t210 0).f2) _ _ y244 t247 _ ?side1 ?side2 ?side3 ?side4 A66.out).mono ?_
                                      (case side1 => repeat (first | exact (Kd.V_reads' HO_207002.out).2.2 | (with_reducible refine Kd.C_alloc ?_ _) | (with_reducible refine Kd.C_drewN ?_ _) | (with_reducible refine Kd.C_drew ?_)))
                                      (case side2 => exact (Kd.V_reads' HO_207002.out).2.1)
                                      (case side3 => repeat (first | exact (Kd.R_reads' HO246.out).2.2 | (with_reducible refine Kd.C_alloc ?_ _) | (with_reducible refine Kd.C_drewN ?_ _) | (with_reducible refine Kd.C_drew ?_)))
                                      (case side4 => exact (Kd.R_reads' HO246.out).2.1)
                                      rintro e w80 ⟨rfl, hb⟩
                                      refine ⟨_, rfl, ?_⟩
                                      have n0_ := Aside0.mk (Kd.R_below (by (with_reducible repeat (first | apply Kd.R_alloc | apply Kd.R_drewN | apply Kd.R_drew)); exact HO_1.out) hb)
                                      have n1_ := Aside0.mk (Kd.V_below (by (with_reducible repeat (first | apply Kd.V_alloc | apply Kd.V_drewN | apply Kd.V_drew)); exact HO_207002.out) hb)
                                      have n2_ := Aside0.mk (Kd.R_below (by (with_reducible repeat (first | apply Kd.R_alloc | apply Kd.R_drewN | apply Kd.R_drew)); exact HO_218002.out) hb)
                                      have n3_ := Aside0.mk (Kd.V_below (by (with_reducible repeat (first | apply Kd.V_alloc | apply Kd.V_drewN | apply Kd.V_drew)); exact HO235.out) hb)
                                      have n4_ := Aside0.mk (Kd.V_below (by (with_reducible repeat (first | apply Kd.V_alloc | apply Kd.V_drewN | apply Kd.V_drew)); exact HO243.out) hb)
                                      have n5_ := Aside0.mk (Kd.R_below (by (with_reducible repeat (first | apply Kd.R_alloc | apply Kd.R_drewN | apply Kd.R_drew)); exact HO246.out) hb)
                                      have n6_ := Aside0.mk (blk_below (g := gb206) (o := .cells #[.int .i64 ((rd_T58 t210 0).f0), .string ((rd_T58 t210 0).f1), .slice A213_2 ((rd_T58 t210 0).f2).length c213_2] 58 (0, 0)) (by (with_reducible repeat (first | refine blk_drewN ?_ _ | refine blk_drew ?_ | refine blk_alloc ?_ _)); exact BK206.out) hb)
                                      have n7_ := Aside0.mk (blk_below (g := gb217) (o := .cells #[.int .i64 ((rd_T58 t210 0).f0), .string ((rd_T58 t210 0).f1), .slice Ao41 x218002_1.length co41] 58 (0, 0)) (by (with_reducible repeat (first | refine blk_drewN ?_ _ | refine blk_drew ?_ | refine blk_alloc ?_ _)); exact BK217.out) hb)
                                      have n8_ := Aside0.mk (below_step (by repeat (first | (with_reducible first | exact HB.out | apply below_alloc | apply pw_below_drewN | apply below_drew1 | refine below_set ?_ GE206.out | refine below_set ?_ GE217.out) | exact HB.out)) hb)
                                      clear HO_1
                                      clear HO_207002
                                      clear HO_218002
                                      clear HO235
                                      clear HO243
                                      clear HO246
                                      clear BK206
                                      clear BK217
                                      clear HB
                                      have HO_1 := n0_
                                      have HO_207002 := n1_
                                      have HO_218002 := n2_
                                      have HO235 := n3_
                                      have HO243 := n4_
                                      have HO246 := n5_
                                      have BK206 := n6_
                                      have BK217 := n7_
                                      have HB := n8_
                                      clear n0_ n1_ n2_ n3_ n4_ n5_ n6_ n7_ n8_
                                      (try clear hb)
                                      (try clear hb2)
                                      (try clear hk)
                                      (try clear hi)
                                      refine hK.out _ _ ⟨(blk_cell BK206.out 0).trans rfl, (blk_cell BK206.out 1).trans rfl, (blk_cell BK206.out 2).trans rfl⟩ (fun hHeld => ?_)
                                      clear hK K
                                      refine norm_ (a' := ?_) ?_ ?_
                                      rotate_left
                                      · show Act.put _ (some 80) _ = _
                                        simp only [Act.put, List.setIfInBounds_toArray, List.set_cons_zero, List.set_cons_succ, i64_w, i32_w]
                                        rfl
                                      refine one_ (i := 5) (N := some 83) #[true, true, true, true, true, true, false, false, false, false, false] rfl rfl (one_of HT_.out (by kernel_rfl)) (by decide) (fun K hK => ?_)
                                      refine goes_ Tryd.func54 (by kernel_rfl) rfl #[.agg #[.int .i64 ((rd_T58 t210 0).f0), .string ((rd_T58 t210 0).f1), .slice A213_2 ((rd_T58 t210 0).f2).length c213_2], .slice (some ad226) t214.length co42] (by rfl) rfl rfl (by (try simp only [List.map_toArray, List.map_cons, List.map_nil]); first | done | rfl | (simp only [List.length_drop, List.length_take]; rfl)) ?_
                                      with_reducible refine (label_Met.calls ((rd_T58 t210 0).f0) ((rd_T58 t210 0).f1) _ _ ((rd_T58 t210 0).f2) _ _ t214 t248 _ ?side1 ?side2 ?side3 ?side4 A67.out).mono ?_
                                      (case side1 => repeat (first | exact (Kd.V_reads' HO_207002.out).2.2 | (with_reducible refine Kd.C_alloc ?_ _) | (with_reducible refine Kd.C_drewN ?_ _) | (with_reducible refine Kd.C_drew ?_)))
                                      (case side2 => exact (Kd.V_reads' HO_207002.out).2.1)
                                      (case side3 => repeat (first | exact (Kd.R_reads' HO_1.out).2.2 | (with_reducible refine Kd.C_alloc ?_ _) | (with_reducible refine Kd.C_drewN ?_ _) | (with_reducible refine Kd.C_drew ?_)))
                                      (case side4 => exact (Kd.R_reads' HO_1.out).2.1)
                                      rintro e w81 ⟨rfl, hb⟩
                                      refine ⟨_, rfl, ?_⟩
                                      have n0_ := Aside0.mk (Kd.R_below (by (with_reducible repeat (first | apply Kd.R_alloc | apply Kd.R_drewN | apply Kd.R_drew)); exact HO_1.out) hb)
                                      have n1_ := Aside0.mk (Kd.V_below (by (with_reducible repeat (first | apply Kd.V_alloc | apply Kd.V_drewN | apply Kd.V_drew)); exact HO_207002.out) hb)
                                      have n2_ := Aside0.mk (Kd.R_below (by (with_reducible repeat (first | apply Kd.R_alloc | apply Kd.R_drewN | apply Kd.R_drew)); exact HO_218002.out) hb)
                                      have n3_ := Aside0.mk (Kd.V_below (by (with_reducible repeat (first | apply Kd.V_alloc | apply Kd.V_drewN | apply Kd.V_drew)); exact HO235.out) hb)
                                      have n4_ := Aside0.mk (Kd.V_below (by (with_reducible repeat (first | apply Kd.V_alloc | apply Kd.V_drewN | apply Kd.V_drew)); exact HO243.out) hb)
                                      have n5_ := Aside0.mk (Kd.R_below (by (with_reducible repeat (first | apply Kd.R_alloc | apply Kd.R_drewN | apply Kd.R_drew)); exact HO246.out) hb)
                                      have n6_ := Aside0.mk (blk_below (g := gb206) (o := .cells #[.int .i64 ((rd_T58 t210 0).f0), .string ((rd_T58 t210 0).f1), .slice A213_2 ((rd_T58 t210 0).f2).length c213_2] 58 (0, 0)) (by (with_reducible repeat (first | refine blk_drewN ?_ _ | refine blk_drew ?_ | refine blk_alloc ?_ _)); exact BK206.out) hb)
                                      have n7_ := Aside0.mk (blk_below (g := gb217) (o := .cells #[.int .i64 ((rd_T58 t210 0).f0), .string ((rd_T58 t210 0).f1), .slice Ao41 x218002_1.length co41] 58 (0, 0)) (by (with_reducible repeat (first | refine blk_drewN ?_ _ | refine blk_drew ?_ | refine blk_alloc ?_ _)); exact BK217.out) hb)
                                      have n8_ := Aside0.mk (below_step (by repeat (first | (with_reducible first | exact HB.out | apply below_alloc | apply pw_below_drewN | apply below_drew1 | refine below_set ?_ GE206.out | refine below_set ?_ GE217.out) | exact HB.out)) hb)
                                      clear HO_1
                                      clear HO_207002
                                      clear HO_218002
                                      clear HO235
                                      clear HO243
                                      clear HO246
                                      clear BK206
                                      clear BK217
                                      clear HB
                                      have HO_1 := n0_
                                      have HO_207002 := n1_
                                      have HO_218002 := n2_
                                      have HO235 := n3_
                                      have HO243 := n4_
                                      have HO246 := n5_
                                      have BK206 := n6_
                                      have BK217 := n7_
                                      have HB := n8_
                                      clear n0_ n1_ n2_ n3_ n4_ n5_ n6_ n7_ n8_
                                      (try clear hb)
                                      (try clear hb2)
                                      (try clear hk)
                                      (try clear hi)
                                      refine hK.out _ _ ⟨(blk_cell BK206.out 0).trans rfl, (blk_cell BK206.out 1).trans rfl, (blk_cell BK206.out 2).trans rfl⟩ (fun hHeld => ?_)
                                      clear hK K
                                      refine norm_ (a' := ?_) ?_ ?_
                                      rotate_left
                                      · show Act.put _ (some 83) _ = _
                                        simp only [Act.put, List.setIfInBounds_toArray, List.set_cons_zero, List.set_cons_succ, i64_w, i32_w]
                                        rfl
                                      refine pure_ (i := 6) (N := some 84) (v := ?_) (a' := ?_) #[true, true, true, true, true, true, true, false, false, false, false] rfl rfl (any_of HT_.out (by kernel_rfl)) (fun _ _ _ h => h) (Or.inl ⟨by rfl, ?_⟩) ?_ ?_
                                      rotate_left
                                      · intro w'
                                        go_simp
                                        with_reducible rfl
                                      rotate_left
                                      · simp only [Act.put, List.setIfInBounds_toArray, List.set_cons_zero, List.set_cons_succ, i64_w, i32_w]
                                        rfl
                                      refine pure_ (i := 7) (N := some 85) (v := ?_) (a' := ?_) #[true, true, true, true, true, true, true, true, false, false, false] rfl rfl (any_of HT_.out (by kernel_rfl)) (fun _ _ _ h => h) (Or.inl ⟨by rfl, ?_⟩) ?_ ?_
                                      rotate_left
                                      · intro w'
                                        go_simp
                                        with_reducible rfl
                                      rotate_left
                                      · simp only [Act.put, List.setIfInBounds_toArray, List.set_cons_zero, List.set_cons_succ, i64_w, i32_w]
                                        rfl
                                      refine one_ (i := 8) (N := some 86) #[true, true, true, true, true, true, true, true, true, false, false] rfl rfl (one_of HT_.out (by kernel_rfl)) (by decide) (fun K hK => ?_)
                                      refine goes_ Tryd.func53 (by kernel_rfl) rfl #[] (by rfl) rfl rfl (by (try simp only [List.map_toArray, List.map_cons, List.map_nil]); first | done | rfl | (simp only [List.length_drop, List.length_take]; rfl)) ?_
                                      with_reducible refine (tolllaw08_awake.calls  true _ A69.out).mono ?_
                                      rintro e w82 ⟨rfl, hb⟩
                                      refine ⟨_, rfl, ?_⟩
                                      have n0_ := Aside0.mk (Kd.R_below (by (with_reducible repeat (first | apply Kd.R_alloc | apply Kd.R_drewN | apply Kd.R_drew)); exact HO_1.out) hb)
                                      have n1_ := Aside0.mk (Kd.V_below (by (with_reducible repeat (first | apply Kd.V_alloc | apply Kd.V_drewN | apply Kd.V_drew)); exact HO_207002.out) hb)
                                      have n2_ := Aside0.mk (Kd.R_below (by (with_reducible repeat (first | apply Kd.R_alloc | apply Kd.R_drewN | apply Kd.R_drew)); exact HO_218002.out) hb)
                                      have n3_ := Aside0.mk (Kd.V_below (by (with_reducible repeat (first | apply Kd.V_alloc | apply Kd.V_drewN | apply Kd.V_drew)); exact HO235.out) hb)
                                      have n4_ := Aside0.mk (Kd.V_below (by (with_reducible repeat (first | apply Kd.V_alloc | apply Kd.V_drewN | apply Kd.V_drew)); exact HO243.out) hb)
                                      have n5_ := Aside0.mk (Kd.R_below (by (with_reducible repeat (first | apply Kd.R_alloc | apply Kd.R_drewN | apply Kd.R_drew)); exact HO246.out) hb)
                                      have n6_ := Aside0.mk (blk_below (g := gb206) (o := .cells #[.int .i64 ((rd_T58 t210 0).f0), .string ((rd_T58 t210 0).f1), .slice A213_2 ((rd_T58 t210 0).f2).length c213_2] 58 (0, 0)) (by (with_reducible repeat (first | refine blk_drewN ?_ _ | refine blk_drew ?_ | refine blk_alloc ?_ _)); exact BK206.out) hb)
                                      have n7_ := Aside0.mk (blk_below (g := gb217) (o := .cells #[.int .i64 ((rd_T58 t210 0).f0), .string ((rd_T58 t210 0).f1), .slice Ao41 x218002_1.length co41] 58 (0, 0)) (by (with_reducible repeat (first | refine blk_drewN ?_ _ | refine blk_drew ?_ | refine blk_alloc ?_ _)); exact BK217.out) hb)
                                      have n8_ := Aside0.mk (below_step (by repeat (first | (with_reducible first | exact HB.out | apply below_alloc | apply pw_below_drewN | apply below_drew1 | refine below_set ?_ GE206.out | refine below_set ?_ GE217.out) | exact HB.out)) hb)
                                      clear HO_1
                                      clear HO_207002
                                      clear HO_218002
                                      clear HO235
                                      clear HO243
                                      clear HO246
                                      clear BK206
                                      clear BK217
                                      clear HB
                                      have HO_1 := n0_
                                      have HO_207002 := n1_
                                      have HO_218002 := n2_
                                      have HO235 := n3_
                                      have HO243 := n4_
                                      have HO246 := n5_
                                      have BK206 := n6_
                                      have BK217 := n7_
                                      have HB := n8_
                                      clear n0_ n1_ n2_ n3_ n4_ n5_ n6_ n7_ n8_
                                      (try clear hb)
                                      (try clear hb2)
                                      (try clear hk)
                                      (try clear hi)
                                      refine hK.out _ _ ⟨(blk_cell BK206.out 0).trans rfl, (blk_cell BK206.out 1).trans rfl, (blk_cell BK206.out 2).trans rfl⟩ (fun hHeld => ?_)
                                      clear hK K
                                      refine norm_ (a' := ?_) ?_ ?_
                                      rotate_left
                                      · show Act.put _ (some 86) _ = _
                                        simp only [Act.put, List.setIfInBounds_toArray, List.set_cons_zero, List.set_cons_succ, i64_w, i32_w]
                                        rfl
                                      refine pure_ (i := 9) (N := some 87) (v := ?_) (a' := ?_) #[true, true, true, true, true, true, true, true, true, true, false] rfl rfl (any_of HT_.out (by kernel_rfl)) (fun _ _ _ h => h) (Or.inl ⟨by rfl, ?_⟩) ?_ ?_
                                      rotate_left
                                      · intro w'
                                        go_simp
                                        with_reducible rfl
                                      rotate_left
                                      · simp only [Act.put, List.setIfInBounds_toArray, List.set_cons_zero, List.set_cons_succ, i64_w, i32_w]
                                        rfl
                                      refine pure_ (i := 10) (N := some 6) (v := ?_) (a' := ?_) #[true, true, true, true, true, true, true, true, true, true, true] rfl rfl (any_of HT_.out (by kernel_rfl)) (fun _ _ _ h => h) (Or.inl ⟨by rfl, ?_⟩) ?_ ?_
                                      rotate_left
                                      · intro w'
                                        go_simp
                                        with_reducible rfl
                                      rotate_left
                                      · simp only [Act.put, List.setIfInBounds_toArray, List.set_cons_zero, List.set_cons_succ, i64_w, i32_w]
                                        rfl
                                      refine done_ (done_of HT_.out (by kernel_rfl)) ?_
                                      try go_wp2
                                      go_ret
                                      exact ⟨by first | rfl | (simp [errW_none, errW_some] <;> rfl) | (simp only [← hji52, ← hji62]; first | rfl | (simp [errW_none, errW_some] <;> rfl)) | (simp [*, errW_none, errW_some] <;> rfl), by repeat (first | (with_reducible first | exact HB.out | apply below_alloc | apply pw_below_drewN | apply below_drew1 | refine below_set ?_ GE206.out | refine below_set ?_ GE217.out) | exact HB.out)⟩
                                    · rw [if_neg c68] at H
                                      exact absurd H (by simp)
                                  · rw [if_neg c65] at H
                                    exact absurd H (by simp)
                                · rw [if_neg c64] at H
                                  exact absurd H (by simp)
                              · rw [if_neg c63] at H
                                exact absurd H (by simp)
                            · rw [if_neg c61] at H
                              exact absurd H (by simp)
                          · rw [if_neg c60] at H
                            exact absurd H (by simp)
                      · rw [if_neg c54] at H
                        exact absurd H (by simp)
                    · rw [if_neg c53] at H
                      exact absurd H (by simp)
  · rw [if_neg c5] at H
    exact absurd H (by simp)

end Go.Proofs.YtcakednecmngdaaDoor.L
