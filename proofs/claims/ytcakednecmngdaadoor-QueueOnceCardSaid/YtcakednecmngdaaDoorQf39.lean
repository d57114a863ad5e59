/- Functions of the program as plain functions, with proofs that the code comes to their answers; written by a program of this session. Conditions: as each theorem states them. -/
import Derived.Test.YtcakednecmngdaaDoorQ0
import Derived.Test.YtcakednecmngdaaDoorQe1
import Derived.Test.YtcakednecmngdaaDoorQf44
import Derived.Test.YtcakednecmngdaaDoorQf43
import Derived.Test.YtcakednecmngdaaDoorQf37
import Derived.Test.YtcakednecmngdaaDoorQf40
namespace Go.Proofs.YtcakednecmngdaaDoor.P
end Go.Proofs.YtcakednecmngdaaDoor.P
namespace Go.Proofs.YtcakednecmngdaaDoorW.PrintMore
end Go.Proofs.YtcakednecmngdaaDoorW.PrintMore
namespace Go.Proofs.YtcakednecmngdaaDoor.Q
open Go.Proofs.YtcakednecmngdaaDoor.P
open Go.RowKit Go.Proofs.YtcakednecmngdaaDoorW.PrintWords Go.Proofs.YtcakednecmngdaaDoorW.PrintLast Go.Proofs.YtcakednecmngdaaDoorW.PrintMore
set_option linter.unusedVariables false
set_option linter.unusedSimpArgs false

attribute [local go_sem high] eqA37
/-! ### tolllaw19_awake: function 39 -/
def tolllaw19_awake.f (k : Nat)  : Option (Bool) := (tolllaw19_class.f (⟨#[97]⟩ : ByteArray)).bind fun bt154 => ((tolllaw19_class.f (⟨#[98]⟩ : ByteArray)).bind fun bt157 => ((tolllaw19_class.f (⟨#[97]⟩ : ByteArray)).bind fun bt160 => ((queue_Add.f k ([] : List (S37)) (([(⟨bt154.1, bt154.2.1, bt154.2.2⟩ : S37), (⟨bt157.1, bt157.2.1, bt157.2.2⟩ : S37), (⟨bt160.1, bt160.2.1, bt160.2.2⟩ : S37)] : List (S37)))).bind fun bt166 => ((queue_Take.f bt166.1 3).bind fun bt170 => ((queue_Take.f ([] : List (S37)) 0).bind fun bt178 => ((tolllaw19_class.f (⟨#[97]⟩ : ByteArray)).bind fun bt186 => ((tolllaw19_class.f (⟨#[98]⟩ : ByteArray)).bind fun bt189 => ((tollref09_SameRefs.f k bt166.1 (([(⟨bt186.1, bt186.2.1, bt186.2.2⟩ : S37), (⟨bt189.1, bt189.2.1, bt189.2.2⟩ : S37)] : List (S37)))).bind fun t195 => (if t195 = true then (if bt166.2 = 0 then ((tolllaw19_class.f (⟨#[98]⟩ : ByteArray)).bind fun bt196 => (if (bt170.1 == bt196.1 && (bt170.2.1.toList == bt196.2.1.toList && (bt170.2.2.1.toList == bt196.2.2.toList))) = true then (if (bt170.2.2.2.1.length : Int) = 1 then (if bt170.2.2.2.2 = 0 then (if bt178.2.2.2.2 = 3 then (some true) else (some false)) else (some false)) else (some false)) else (some false))) else (some false)) else (some false))))))))))
theorem tolllaw19_awake.mono : ∀ k, LeO (tolllaw19_awake.f k ) (tolllaw19_awake.f (k + 1) ) := by
  intro  k
  unfold tolllaw19_awake.f
  repeat' first
      | (with_reducible exact queue_Add.mono _ _ _)
      | (with_reducible exact tollref09_SameRefs.mono _ _ _)
      | (with_reducible exact LeO.refl _)
      | (with_reducible exact LeO.none _)
      | (with_reducible refine LeO.ite ?_ ?_)
      | (with_reducible refine LeO.bind ?_ (fun _ => ?_))
      | exact queue_Add.mono _ _ _
      | exact tollref09_SameRefs.mono _ _ _
      | exact LeO.none _
      | refine LeO.ite ?_ ?_
      | refine LeO.bind ?_ (fun _ => ?_)
def tolllaw19_awake.T4 : Bool × List (List Nat × List Nat) := (true, [([], []), ([], []), ([1], []), ([1, 2], [1, 2]), ([0, 3, 2], [0, 3]), ([4, 4], [4]), ([5], [5]), ([6, 5], [5, 6]), ([5, 7], [5, 7]), ([8, 5], [8]), ([9], [9]), ([9, 9], [9]), ([10, 11, 9], [9, 10, 11]), ([9, 12], [9, 12]), ([13, 11], [13]), ([14], [14]), ([15, 14], [14, 15]), ([16, 14], [14, 16]), ([14, 17], [14, 17]), ([18, 14], [18]), ([19], [19]), ([20, 19], [19, 20]), ([19, 21], [19, 21]), ([22, 19], [22]), ([23], [23]), ([24, 23], [23, 24]), ([23, 25], [23, 25]), ([26, 23], [26]), ([27], [27]), ([28, 27, 0, 1, 2, 3, 4, 5, 6, 7, 8, 9, 10, 11, 12, 13, 14, 15, 16, 17, 18, 19, 20, 21, 22, 23, 24, 25, 26, 27, 28], [28])])
def tolllaw19_awake.B4 : List Nat := [0, 0, 2, 6, 15, 31, 63, 127, 255, 511, 1023, 1023, 4095, 8191, 16383, 32767, 65535, 131071, 262143, 524287, 1048575, 2097151, 4194303, 8388607, 16777215, 33554431, 67108863, 134217727, 268435455, 536870911]
theorem tolllaw19_awake.tab4 : rtab .any (opsOf Tryd.f39 4) = tolllaw19_awake.T4 := by kernel_rfl
theorem tolllaw19_awake.bits4 : waitsOk tolllaw19_awake.T4.2 tolllaw19_awake.B4 = true := by kernel_rfl
theorem tolllaw19_awake.at60 : tolllaw19_awake.f 60 = some true := by kernel_rfl
theorem tolllaw19_awake.only (k : Nat) (r : Bool) (h : tolllaw19_awake.f k = some r) : r = true := by
  have h1 := at_rounds (g := fun k => tolllaw19_awake.f k) tolllaw19_awake.mono (Nat.le_add_right k 60) h
  have h2 := at_rounds (g := fun k => tolllaw19_awake.f k) tolllaw19_awake.mono (Nat.le_add_left 60 k) tolllaw19_awake.at60
  exact Option.some.inj (h1.symm.trans h2)
set_option maxHeartbeats 8000000 in
set_option maxRecDepth 100000 in
theorem tolllaw19_awake.calls (k : Nat)  (r : Bool) (w : World) (h : tolllaw19_awake.f k  = some r) :
    Calls Tryd.prog 39 #[] w fun e w' => e = .returned (.bool r) ∧ Below w.heap.size w w' := by
  obtain rfl : r = true := tolllaw19_awake.only k r h
  have hu37 := Tryd.underlying37
  have HB := Aside0.mk (Below.refl w.heap.size w)
  have H : ((tolllaw19_class.f (⟨#[97]⟩ : ByteArray)).bind fun bt154 => ((tolllaw19_class.f (⟨#[98]⟩ : ByteArray)).bind fun bt157 => ((tolllaw19_class.f (⟨#[97]⟩ : ByteArray)).bind fun bt160 => ((queue_Add.f k ([] : List (S37)) (([(⟨bt154.1, bt154.2.1, bt154.2.2⟩ : S37), (⟨bt157.1, bt157.2.1, bt157.2.2⟩ : S37), (⟨bt160.1, bt160.2.1, bt160.2.2⟩ : S37)] : List (S37)))).bind fun bt166 => ((queue_Take.f bt166.1 3).bind fun bt170 => ((queue_Take.f ([] : List (S37)) 0).bind fun bt178 => ((tolllaw19_class.f (⟨#[97]⟩ : ByteArray)).bind fun bt186 => ((tolllaw19_class.f (⟨#[98]⟩ : ByteArray)).bind fun bt189 => ((tollref09_SameRefs.f k bt166.1 (([(⟨bt186.1, bt186.2.1, bt186.2.2⟩ : S37), (⟨bt189.1, bt189.2.1, bt189.2.2⟩ : S37)] : List (S37)))).bind fun t195 => (if t195 = true then (if bt166.2 = 0 then ((tolllaw19_class.f (⟨#[98]⟩ : ByteArray)).bind fun bt196 => (if (bt170.1 == bt196.1 && (bt170.2.1.toList == bt196.2.1.toList && (bt170.2.2.1.toList == bt196.2.2.toList))) = true then (if (bt170.2.2.2.1.length : Int) = 1 then (if bt170.2.2.2.2 = 0 then (if bt178.2.2.2.2 = 3 then (some true) else (some false)) else (some false)) else (some false)) else (some false))) else (some false)) else (some false))))))))))) = some true := h
  clear h
  replace H := Option.bind_eq_some_iff.mp H
  obtain ⟨⟨t154, t155, t156⟩, A10, H⟩ := H
  replace H : ((tolllaw19_class.f (⟨#[98]⟩ : ByteArray)).bind fun bt157 => ((tolllaw19_class.f (⟨#[97]⟩ : ByteArray)).bind fun bt160 => ((queue_Add.f k ([] : List (S37)) (([(⟨t154, t155, t156⟩ : S37), (⟨bt157.1, bt157.2.1, bt157.2.2⟩ : S37), (⟨bt160.1, bt160.2.1, bt160.2.2⟩ : S37)] : List (S37)))).bind fun bt166 => ((queue_Take.f bt166.1 3).bind fun bt170 => ((queue_Take.f ([] : List (S37)) 0).bind fun bt178 => ((tolllaw19_class.f (⟨#[97]⟩ : ByteArray)).bind fun bt186 => ((tolllaw19_class.f (⟨#[98]⟩ : ByteArray)).bind fun bt189 => ((tollref09_SameRefs.f k bt166.1 (([(⟨bt186.1, bt186.2.1, bt186.2.2⟩ : S37), (⟨bt189.1, bt189.2.1, bt189.2.2⟩ : S37)] : List (S37)))).bind fun t195 => (if t195 = true then (if bt166.2 = 0 then ((tolllaw19_class.f (⟨#[98]⟩ : ByteArray)).bind fun bt196 => (if (bt170.1 == bt196.1 && (bt170.2.1.toList == bt196.2.1.toList && (bt170.2.2.1.toList == bt196.2.2.toList))) = true then (if (bt170.2.2.2.1.length : Int) = 1 then (if bt170.2.2.2.2 = 0 then (if bt178.2.2.2.2 = 3 then (some true) else (some false)) else (some false)) else (some false)) else (some false))) else (some false)) else (some false)))))))))) = some true := H
  have A1 := Aside0.mk A10
  clear A10
  replace H := Option.bind_eq_some_iff.mp H
  obtain ⟨⟨t157, t158, t159⟩, A20, H⟩ := H
  replace H : ((tolllaw19_class.f (⟨#[97]⟩ : ByteArray)).bind fun bt160 => ((queue_Add.f k ([] : List (S37)) (([(⟨t154, t155, t156⟩ : S37), (⟨t157, t158, t159⟩ : S37), (⟨bt160.1, bt160.2.1, bt160.2.2⟩ : S37)] : List (S37)))).bind fun bt166 => ((queue_Take.f bt166.1 3).bind fun bt170 => ((queue_Take.f ([] : List (S37)) 0).bind fun bt178 => ((tolllaw19_class.f (⟨#[97]⟩ : ByteArray)).bind fun bt186 => ((tolllaw19_class.f (⟨#[98]⟩ : ByteArray)).bind fun bt189 => ((tollref09_SameRefs.f k bt166.1 (([(⟨bt186.1, bt186.2.1, bt186.2.2⟩ : S37), (⟨bt189.1, bt189.2.1, bt189.2.2⟩ : S37)] : List (S37)))).bind fun t195 => (if t195 = true then (if bt166.2 = 0 then ((tolllaw19_class.f (⟨#[98]⟩ : ByteArray)).bind fun bt196 => (if (bt170.1 == bt196.1 && (bt170.2.1.toList == bt196.2.1.toList && (bt170.2.2.1.toList == bt196.2.2.toList))) = true then (if (bt170.2.2.2.1.length : Int) = 1 then (if bt170.2.2.2.2 = 0 then (if bt178.2.2.2.2 = 3 then (some true) else (some false)) else (some false)) else (some false)) else (some false))) else (some false)) else (some false))))))))) = some true := H
  have A2 := Aside0.mk A20
  clear A20
  replace H := Option.bind_eq_some_iff.mp H
  obtain ⟨⟨t160, t161, t162⟩, A30, H⟩ := H
  replace H : ((queue_Add.f k ([] : List (S37)) (([(⟨t154, t155, t156⟩ : S37), (⟨t157, t158, t159⟩ : S37), (⟨t160, t161, t162⟩ : S37)] : List (S37)))).bind fun bt166 => ((queue_Take.f bt166.1 3).bind fun bt170 => ((queue_Take.f ([] : List (S37)) 0).bind fun bt178 => ((tolllaw19_class.f (⟨#[97]⟩ : ByteArray)).bind fun bt186 => ((tolllaw19_class.f (⟨#[98]⟩ : ByteArray)).bind fun bt189 => ((tollref09_SameRefs.f k bt166.1 (([(⟨bt186.1, bt186.2.1, bt186.2.2⟩ : S37), (⟨bt189.1, bt189.2.1, bt189.2.2⟩ : S37)] : List (S37)))).bind fun t195 => (if t195 = true then (if bt166.2 = 0 then ((tolllaw19_class.f (⟨#[98]⟩ : ByteArray)).bind fun bt196 => (if (bt170.1 == bt196.1 && (bt170.2.1.toList == bt196.2.1.toList && (bt170.2.2.1.toList == bt196.2.2.toList))) = true then (if (bt170.2.2.2.1.length : Int) = 1 then (if bt170.2.2.2.2 = 0 then (if bt178.2.2.2.2 = 3 then (some true) else (some false)) else (some false)) else (some false)) else (some false))) else (some false)) else (some false)))))))) = some true := H
  have A3 := Aside0.mk A30
  clear A30
  obtain ⟨y163, hy163⟩ : ∃ y_ : List (S37), y_ = (([(⟨t154, t155, t156⟩ : S37), (⟨t157, t158, t159⟩ : S37), (⟨t160, t161, t162⟩ : S37)] : List (S37))) := ⟨_, rfl⟩
  replace H : ((queue_Add.f k ([] : List (S37)) y163).bind fun bt166 => ((queue_Take.f bt166.1 3).bind fun bt170 => ((queue_Take.f ([] : List (S37)) 0).bind fun bt178 => ((tolllaw19_class.f (⟨#[97]⟩ : ByteArray)).bind fun bt186 => ((tolllaw19_class.f (⟨#[98]⟩ : ByteArray)).bind fun bt189 => ((tollref09_SameRefs.f k bt166.1 (([(⟨bt186.1, bt186.2.1, bt186.2.2⟩ : S37), (⟨bt189.1, bt189.2.1, bt189.2.2⟩ : S37)] : List (S37)))).bind fun t195 => (if t195 = true then (if bt166.2 = 0 then ((tolllaw19_class.f (⟨#[98]⟩ : ByteArray)).bind fun bt196 => (if (bt170.1 == bt196.1 && (bt170.2.1.toList == bt196.2.1.toList && (bt170.2.2.1.toList == bt196.2.2.toList))) = true then (if (bt170.2.2.2.1.length : Int) = 1 then (if bt170.2.2.2.2 = 0 then (if bt178.2.2.2.2 = 3 then (some true) else (some false)) else (some false)) else (some false)) else (some false))) else (some false)) else (some false)))))))) = some true := by first | (rw [hy163]; with_reducible exact H) | (have H2_ := (Option.bind_some _ _).symm.trans H; rw [hy163]; with_reducible exact H2_) | (have H2_ := (Option.bind_some _ _).symm.trans H; with_reducible exact H2_) | with_reducible exact H | (rw [hy163]; exact H) | exact H
  have Ny163 := Aside0.mk hy163
  clear hy163
  replace H := Option.bind_eq_some_iff.mp H
  obtain ⟨⟨t166, t167⟩, A40, H⟩ := H
  replace H : ((queue_Take.f t166 3).bind fun bt170 => ((queue_Take.f ([] : List (S37)) 0).bind fun bt178 => ((tolllaw19_class.f (⟨#[97]⟩ : ByteArray)).bind fun bt186 => ((tolllaw19_class.f (⟨#[98]⟩ : ByteArray)).bind fun bt189 => ((tollref09_SameRefs.f k t166 (([(⟨bt186.1, bt186.2.1, bt186.2.2⟩ : S37), (⟨bt189.1, bt189.2.1, bt189.2.2⟩ : S37)] : List (S37)))).bind fun t195 => (if t195 = true then (if t167 = 0 then ((tolllaw19_class.f (⟨#[98]⟩ : ByteArray)).bind fun bt196 => (if (bt170.1 == bt196.1 && (bt170.2.1.toList == bt196.2.1.toList && (bt170.2.2.1.toList == bt196.2.2.toList))) = true then (if (bt170.2.2.2.1.length : Int) = 1 then (if bt170.2.2.2.2 = 0 then (if bt178.2.2.2.2 = 3 then (some true) else (some false)) else (some false)) else (some false)) else (some false))) else (some false)) else (some false))))))) = some true := H
  have A4 := Aside0.mk A40
  clear A40
  replace H := Option.bind_eq_some_iff.mp H
  obtain ⟨⟨t170, t171, t172, t173, t176⟩, A50, H⟩ := H
  replace H : ((queue_Take.f ([] : List (S37)) 0).bind fun bt178 => ((tolllaw19_class.f (⟨#[97]⟩ : ByteArray)).bind fun bt186 => ((tolllaw19_class.f (⟨#[98]⟩ : ByteArray)).bind fun bt189 => ((tollref09_SameRefs.f k t166 (([(⟨bt186.1, bt186.2.1, bt186.2.2⟩ : S37), (⟨bt189.1, bt189.2.1, bt189.2.2⟩ : S37)] : List (S37)))).bind fun t195 => (if t195 = true then (if t167 = 0 then ((tolllaw19_class.f (⟨#[98]⟩ : ByteArray)).bind fun bt196 => (if (t170 == bt196.1 && (t171.toList == bt196.2.1.toList && (t172.toList == bt196.2.2.toList))) = true then (if (t173.length : Int) = 1 then (if t176 = 0 then (if bt178.2.2.2.2 = 3 then (some true) else (some false)) else (some false)) else (some false)) else (some false))) else (some false)) else (some false)))))) = some true := H
  have A5 := Aside0.mk A50
  clear A50
  replace H := Option.bind_eq_some_iff.mp H
  obtain ⟨⟨t178, t179, t180, t181, t184⟩, A60, H⟩ := H
  replace H : ((tolllaw19_class.f (⟨#[97]⟩ : ByteArray)).bind fun bt186 => ((tolllaw19_class.f (⟨#[98]⟩ : ByteArray)).bind fun bt189 => ((tollref09_SameRefs.f k t166 (([(⟨bt186.1, bt186.2.1, bt186.2.2⟩ : S37), (⟨bt189.1, bt189.2.1, bt189.2.2⟩ : S37)] : List (S37)))).bind fun t195 => (if t195 = true then (if t167 = 0 then ((tolllaw19_class.f (⟨#[98]⟩ : ByteArray)).bind fun bt196 => (if (t170 == bt196.1 && (t171.toList == bt196.2.1.toList && (t172.toList == bt196.2.2.toList))) = true then (if (t173.length : Int) = 1 then (if t176 = 0 then (if t184 = 3 then (some true) else (some false)) else (some false)) else (some false)) else (some false))) else (some false)) else (some false))))) = some true := H
  have A6 := Aside0.mk A60
  clear A60
  replace H := Option.bind_eq_some_iff.mp H
  obtain ⟨⟨t186, t187, t188⟩, A70, H⟩ := H
  replace H : ((tolllaw19_class.f (⟨#[98]⟩ : ByteArray)).bind fun bt189 => ((tollref09_SameRefs.f k t166 (([(⟨t186, t187, t188⟩ : S37), (⟨bt189.1, bt189.2.1, bt189.2.2⟩ : S37)] : List (S37)))).bind fun t195 => (if t195 = true then (if t167 = 0 then ((tolllaw19_class.f (⟨#[98]⟩ : ByteArray)).bind fun bt196 => (if (t170 == bt196.1 && (t171.toList == bt196.2.1.toList && (t172.toList == bt196.2.2.toList))) = true then (if (t173.length : Int) = 1 then (if t176 = 0 then (if t184 = 3 then (some true) else (some false)) else (some false)) else (some false)) else (some false))) else (some false)) else (some false)))) = some true := H
  have A7 := Aside0.mk A70
  clear A70
  replace H := Option.bind_eq_some_iff.mp H
  obtain ⟨⟨t189, t190, t191⟩, A80, H⟩ := H
  replace H : ((tollref09_SameRefs.f k t166 (([(⟨t186, t187, t188⟩ : S37), (⟨t189, t190, t191⟩ : S37)] : List (S37)))).bind fun t195 => (if t195 = true then (if t167 = 0 then ((tolllaw19_class.f (⟨#[98]⟩ : ByteArray)).bind fun bt196 => (if (t170 == bt196.1 && (t171.toList == bt196.2.1.toList && (t172.toList == bt196.2.2.toList))) = true then (if (t173.length : Int) = 1 then (if t176 = 0 then (if t184 = 3 then (some true) else (some false)) else (some false)) else (some false)) else (some false))) else (some false)) else (some false))) = some true := H
  have A8 := Aside0.mk A80
  clear A80
  obtain ⟨y192, hy192⟩ : ∃ y_ : List (S37), y_ = (([(⟨t186, t187, t188⟩ : S37), (⟨t189, t190, t191⟩ : S37)] : List (S37))) := ⟨_, rfl⟩
  replace H : ((tollref09_SameRefs.f k t166 y192).bind fun t195 => (if t195 = true then (if t167 = 0 then ((tolllaw19_class.f (⟨#[98]⟩ : ByteArray)).bind fun bt196 => (if (t170 == bt196.1 && (t171.toList == bt196.2.1.toList && (t172.toList == bt196.2.2.toList))) = true then (if (t173.length : Int) = 1 then (if t176 = 0 then (if t184 = 3 then (some true) else (some false)) else (some false)) else (some false)) else (some false))) else (some false)) else (some false))) = some true := by first | (rw [hy192]; with_reducible exact H) | (have H2_ := (Option.bind_some _ _).symm.trans H; rw [hy192]; with_reducible exact H2_) | (have H2_ := (Option.bind_some _ _).symm.trans H; with_reducible exact H2_) | with_reducible exact H | (rw [hy192]; exact H) | exact H
  have Ny192 := Aside0.mk hy192
  clear hy192
  replace H := Option.bind_eq_some_iff.mp H
  obtain ⟨t195, A90, H⟩ := H
  replace H : (if t195 = true then (if t167 = 0 then ((tolllaw19_class.f (⟨#[98]⟩ : ByteArray)).bind fun bt196 => (if (t170 == bt196.1 && (t171.toList == bt196.2.1.toList && (t172.toList == bt196.2.2.toList))) = true then (if (t173.length : Int) = 1 then (if t176 = 0 then (if t184 = 3 then (some true) else (some false)) else (some false)) else (some false)) else (some false))) else (some false)) else (some false)) = some true := H
  have A9 := Aside0.mk A90
  clear A90
  by_cases c10 : t195 = true
  · subst c10
    have H1 : (if t167 = 0 then ((tolllaw19_class.f (⟨#[98]⟩ : ByteArray)).bind fun bt196 => (if (t170 == bt196.1 && (t171.toList == bt196.2.1.toList && (t172.toList == bt196.2.2.toList))) = true then (if (t173.length : Int) = 1 then (if t176 = 0 then (if t184 = 3 then (some true) else (some false)) else (some false)) else (some false)) else (some false))) else (some false)) = some true := by rw [if_pos rfl] at H; exact H
    clear H
    have H := H1
    clear H1
    by_cases c11 : t167 = 0
    · rw [if_pos c11] at H
      have c11b0 : (t167 == 0) = true := beq_iff_eq.mpr c11
      have c11b1 : (t167 != 0) = false := bne_eq_false_iff_eq.mpr c11
      clear c11
      replace H := Option.bind_eq_some_iff.mp H
      obtain ⟨⟨t196, t197, t198⟩, A120, H⟩ := H
      replace H : (if (t170 == t196 && (t171.toList == t197.toList && (t172.toList == t198.toList))) = true then (if (t173.length : Int) = 1 then (if t176 = 0 then (if t184 = 3 then (some true) else (some false)) else (some false)) else (some false)) else (some false)) = some true := H
      have A12 := Aside0.mk A120
      clear A120
      by_cases c13 : (t170 == t196 && (t171.toList == t197.toList && (t172.toList == t198.toList))) = true
      · rw [if_pos c13] at H
        have c13b0 : (t170 == t196 && (t171.toList == t197.toList && (t172.toList == t198.toList))) = true := c13
        (try (have c13b1 : decide (t170 = t196 && (t171.toList == t197.toList && (t172.toList == t198.toList))) = true := by simpa using c13))
        (try (have c13b2 : (t170 == t196 && (t171.toList == t197.toList && (t172.toList == t198.toList))) = true := by simpa using c13))
        clear c13
        by_cases c14 : (t173.length : Int) = 1
        · rw [if_pos c14] at H
          have c14b0 : ((t173.length : Int) == 1) = true := beq_iff_eq.mpr c14
          have c14b1 : ((t173.length : Int) != 1) = false := bne_eq_false_iff_eq.mpr c14
          clear c14
          by_cases c15 : t176 = 0
          · rw [if_pos c15] at H
            have c15b0 : (t176 == 0) = true := beq_iff_eq.mpr c15
            have c15b1 : (t176 != 0) = false := bne_eq_false_iff_eq.mpr c15
            clear c15
            by_cases c16 : t184 = 3
            · rw [if_pos c16] at H
              have c16b0 : (t184 == 3) = true := beq_iff_eq.mpr c16
              have c16b1 : (t184 != 3) = false := bne_eq_false_iff_eq.mpr c16
              clear c16
              (first | (obtain rfl := Option.some.inj H) | clear H)
              go_enter Tryd.func39, Tryd.ntmps39
              try go_wp2_with (first | ((with_reducible refine gate_callee (f := 43) rfl ?_); refine goesL_ (some 10) rfl rfl Tryd.func43 (by kernel_rfl) rfl #[.string (⟨#[97]⟩ : ByteArray)] rfl (by (try simp only [List.map_toArray, List.map_cons, List.map_nil]); first | done | rfl | (simp only [List.length_drop, List.length_take]; rfl)) ?_; (with_reducible refine (tolllaw19_class.calls (⟨#[97]⟩ : ByteArray) t154 t155 t156 _ A1.out).mono ?_); rintro e w17 ⟨rfl, hb⟩; refine ⟨_, rfl, ?_⟩; have n0_ := Aside0.mk (below_step (by repeat (first | (with_reducible first | exact HB.out | apply below_alloc | apply pw_below_drewN | apply below_drew1) | exact HB.out)) hb); clear HB; have HB := n0_; clear n0_; (try clear hb); (try clear hb2); (try clear hk); (try clear hi)) | ((with_reducible refine gate_callee (f := 43) rfl ?_); refine goesL_ (some 11) rfl rfl Tryd.func43 (by kernel_rfl) rfl #[.string (⟨#[98]⟩ : ByteArray)] rfl (by (try simp only [List.map_toArray, List.map_cons, List.map_nil]); first | done | rfl | (simp only [List.length_drop, List.length_take]; rfl)) ?_; (with_reducible refine (tolllaw19_class.calls (⟨#[98]⟩ : ByteArray) t157 t158 t159 _ A2.out).mono ?_); rintro e w18 ⟨rfl, hb⟩; refine ⟨_, rfl, ?_⟩; have n0_ := Aside0.mk (below_step (by repeat (first | (with_reducible first | exact HB.out | apply below_alloc | apply pw_below_drewN | apply below_drew1) | exact HB.out)) hb); clear HB; have HB := n0_; clear n0_; (try clear hb); (try clear hb2); (try clear hk); (try clear hi)) | ((with_reducible refine gate_callee (f := 43) rfl ?_); refine goesL_ (some 12) rfl rfl Tryd.func43 (by kernel_rfl) rfl #[.string (⟨#[97]⟩ : ByteArray)] rfl (by (try simp only [List.map_toArray, List.map_cons, List.map_nil]); first | done | rfl | (simp only [List.length_drop, List.length_take]; rfl)) ?_; (with_reducible refine (tolllaw19_class.calls (⟨#[97]⟩ : ByteArray) t160 t161 t162 _ A3.out).mono ?_); rintro e w19 ⟨rfl, hb⟩; refine ⟨_, rfl, ?_⟩; have n0_ := Aside0.mk (below_step (by repeat (first | (with_reducible first | exact HB.out | apply below_alloc | apply pw_below_drewN | apply below_drew1) | exact HB.out)) hb); clear HB; have HB := n0_; clear n0_; (try clear hb); (try clear hb2); (try clear hk); (try clear hi)) | ((with_reducible refine gate_dst (N := 13) rfl ?_); (try (refine gate_guard (by rfl) ?_; dsimp only)); refine Kd.R_lit k37 _ 37 ?hg (N := 13) ?hd (xs := ([(⟨t154, t155, t156⟩ : S37), (⟨t157, t158, t159⟩ : S37), (⟨t160, t161, t162⟩ : S37)] : List (S37))) (inner := [.int .i64 t154, .string t155, .string t156, .int .i64 t157, .string t158, .string t159, .int .i64 t160, .string t161, .string t162]) (ok := fun _ => True) (okp := fun _ => True) ?hr ?hp (fun _ hk => hk) trivial (Below.refl _ _) (Nat.le_refl _) (by simp) ?_; (case hd => rfl); (case hg => rfl); (case hr => first | (go_simp; done) | (go_simp; rfl)); (case hp => exact (Reps.c3 (show Kd.M k37 _ _ _ (⟨t154, t155, t156⟩ : S37) [.int .i64 t154, .string t155, .string t156] from (k37_mkM _ _ _ (⟨t154, t155, t156⟩ : S37) )) (Reps.c3 (show Kd.M k37 _ _ _ (⟨t157, t158, t159⟩ : S37) [.int .i64 t157, .string t158, .string t159] from (k37_mkM _ _ _ (⟨t157, t158, t159⟩ : S37) )) (Reps.c3 (show Kd.M k37 _ _ _ (⟨t160, t161, t162⟩ : S37) [.int .i64 t160, .string t161, .string t162] from (k37_mkM _ _ _ (⟨t160, t161, t162⟩ : S37) )) (Reps.none _ _))))); intro v164 w20 ho21 hb hg_ hnew_; clear hg_ hnew_; (first | rw [← Ny163.out] at ho21 | (simp only [Int.reduceToNat] at ho21; rw [← Ny163.out] at ho21)); have n0_ := Aside0.mk (Kd.R_lower ho21 (below_size (by repeat (first | (with_reducible first | exact HB.out | apply below_alloc | apply pw_below_drewN | apply below_drew1) | exact HB.out)))); have n1_ := Aside0.mk (below_step (by repeat (first | (with_reducible first | exact HB.out | apply below_alloc | apply pw_below_drewN | apply below_drew1) | exact HB.out)) hb); clear HB; have HO165 := n0_; have HB := n1_; clear n0_ n1_; clear hb ho21; obtain ⟨Ao22, co22, eo22⟩ := Kd.R_slice HO165.out; subst eo22) | ((with_reducible refine gate_callee (f := 37) rfl ?_); refine goesL_ (some 14) rfl rfl Tryd.func37 (by kernel_rfl) rfl #[.slice none 0 0, .slice Ao22 y163.length co22] rfl (by (try simp only [List.map_toArray, List.map_cons, List.map_nil]); first | done | rfl | (simp only [List.length_drop, List.length_take]; rfl)) ?_; (refine (queue_Add.calls k _ _ ([] : List (S37)) _ _ y163 t166 t167 _ ?side1 ?side2 ?side3 ?side4 A4.out).mono ?_); (case side1 => exact Kd.C_nil _ _); (case side2 => exact Nat.le_refl _); (case side3 => repeat (first | exact (Kd.R_reads' HO165.out).2.2 | (with_reducible refine Kd.C_alloc ?_ _) | (with_reducible refine Kd.C_drewN ?_ _) | (with_reducible refine Kd.C_drew ?_))); (case side4 => exact (Kd.R_reads' HO165.out).2.1); rintro e w23 ⟨v168, rfl, ho0, hb⟩; refine ⟨_, rfl, ?_⟩; have n0_ := Aside0.mk (Kd.R_elder' (by (with_reducible repeat (first | apply Kd.R_alloc | apply Kd.R_drewN | apply Kd.R_drew)); exact HO165.out) (Kd.R_base ho0) hb); have n1_ := Aside0.mk (Kd.R_lower (Kd.R_new' ho0 (Kd.R_lt (by (with_reducible repeat (first | apply Kd.R_alloc | apply Kd.R_drewN | apply Kd.R_drew)); exact HO165.out))) (below_size (by repeat (first | (with_reducible first | exact HB.out | apply below_alloc | apply pw_below_drewN | apply below_drew1) | exact HB.out)))); have n2_ := Aside0.mk (below_step (by repeat (first | (with_reducible first | exact HB.out | apply below_alloc | apply pw_below_drewN | apply below_drew1) | exact HB.out)) hb); clear HO165; clear HB; have HO165 := n0_; have HO169 := n1_; have HB := n2_; clear n0_ n1_ n2_; (try clear hb); (try clear hb2); (try clear hk); (try clear hi); (try clear ho0); obtain ⟨Ao24, co24, eo24⟩ := Kd.R_slice HO169.out; subst eo24) | ((with_reducible refine gate_callee (f := 40) rfl ?_); refine goesL_ (some 19) rfl rfl Tryd.func40 (by kernel_rfl) rfl #[.slice Ao24 t166.length co24, .int .i64 3] rfl (by (try simp only [List.map_toArray, List.map_cons, List.map_nil]); first | done | rfl | (simp only [List.length_drop, List.length_take]; rfl)) ?_; (with_reducible refine (queue_Take.calls _ _ t166 3 t170 t171 t172 t173 t176 _ ?side1 ?side2 A5.out).mono ?_); (case side1 => repeat (first | exact (Kd.R_reads' HO169.out).2.2 | (with_reducible refine Kd.C_alloc ?_ _) | (with_reducible refine Kd.C_drewN ?_ _) | (with_reducible refine Kd.C_drew ?_))); (case side2 => exact (Kd.R_reads' HO169.out).2.1); rintro e w25 ⟨v174, rfl, ho0, hb⟩; refine ⟨_, rfl, ?_⟩; have n0_ := Aside0.mk (Kd.R_elder' (by (with_reducible repeat (first | apply Kd.R_alloc | apply Kd.R_drewN | apply Kd.R_drew)); exact HO165.out) (Kd.R_base ho0) hb); have n1_ := Aside0.mk (Kd.R_elder' (by (with_reducible repeat (first | apply Kd.R_alloc | apply Kd.R_drewN | apply Kd.R_drew)); exact HO169.out) (Kd.R_base ho0) hb); have n2_ := Aside0.mk (Kd.R_lower (Kd.R_new' (Kd.R_new' ho0 (Kd.R_lt (by (with_reducible repeat (first | apply Kd.R_alloc | apply Kd.R_drewN | apply Kd.R_drew)); exact HO165.out))) (Kd.R_lt (by (with_reducible repeat (first | apply Kd.R_alloc | apply Kd.R_drewN | apply Kd.R_drew)); exact HO169.out))) (below_size (by repeat (first | (with_reducible first | exact HB.out | apply below_alloc | apply pw_below_drewN | apply below_drew1) | exact HB.out)))); have n3_ := Aside0.mk (below_step (by repeat (first | (with_reducible first | exact HB.out | apply below_alloc | apply pw_below_drewN | apply below_drew1) | exact HB.out)) hb); clear HO165; clear HO169; clear HB; have HO165 := n0_; have HO169 := n1_; have HO175 := n2_; have HB := n3_; clear n0_ n1_ n2_ n3_; (try clear hb); (try clear hb2); (try clear hk); (try clear hi); (try clear ho0)) | ((with_reducible refine gate_dst (N := 3) rfl ?_); (try (refine gate_guard (by rfl) ?_; dsimp only)); refine box_event ?hg (N := 3) ?hd (cs := #[.int .i64 0, .string (⟨#[]⟩ : ByteArray), .string (⟨#[]⟩ : ByteArray)]) (t := 37) ?hr ?_; (case hd => rfl); (case hg => rfl); (case hr => first | (go_simp; done) | (go_simp; rfl)); intro gb177 hg w26 hbox hb; have n0_ := Aside0.mk (Kd.R_below (Kd.R_elderB (by (with_reducible repeat (first | apply Kd.R_alloc | apply Kd.R_drewN | apply Kd.R_drew)); exact HO165.out) gb177 (Nat.le_of_eq hg.symm)) hb); have n1_ := Aside0.mk (Kd.R_below (Kd.R_elderB (by (with_reducible repeat (first | apply Kd.R_alloc | apply Kd.R_drewN | apply Kd.R_drew)); exact HO169.out) gb177 (Nat.le_of_eq hg.symm)) hb); have n2_ := Aside0.mk (Kd.R_below (Kd.R_elderB (by (with_reducible repeat (first | apply Kd.R_alloc | apply Kd.R_drewN | apply Kd.R_drew)); exact HO175.out) gb177 (Nat.le_of_eq hg.symm)) hb); have n3_ := Aside0.mk (below_step (by repeat (first | (with_reducible first | exact HB.out | apply below_alloc | apply pw_below_drewN | apply below_drew1) | exact HB.out)) hb); have n4_ := Aside0.mk (hbox); have n5_ := Aside0.mk ((by rw [hg]; exact (below_size (by repeat (first | (with_reducible first | exact HB.out | apply below_alloc | apply pw_below_drewN | apply below_drew1) | exact HB.out))) : w.heap.size ≤ gb177)); have n6_ := Aside0.mk ((by rw [hg]; exact (below_size (by repeat (first | (with_reducible first | exact HB.out | apply below_alloc | apply pw_below_drewN | apply below_drew1) | exact HB.out))) : w.heap.size ≤ gb177)); clear HO165; clear HO169; clear HO175; clear HB; have HO165 := n0_; have HO169 := n1_; have HO175 := n2_; have HB := n3_; have BK177 := n4_; have GW177 := n5_; have GE177 := n6_; clear n0_ n1_ n2_ n3_ n4_ n5_ n6_; clear hb hbox hg; have hcz27_0 : w26.cell? ⟨gb177, 0, none⟩ = some (.int .i64 0) := (blk_cell BK177.out 0).trans rfl; have hcz27_1 : w26.cell? ⟨gb177, 1, none⟩ = some (.string (⟨#[]⟩ : ByteArray)) := (blk_cell BK177.out 1).trans rfl; have hcz27_2 : w26.cell? ⟨gb177, 2, none⟩ = some (.string (⟨#[]⟩ : ByteArray)) := (blk_cell BK177.out 2).trans rfl; have hfz27_0 := blk_frozen BK177.out 0; have hfz27_1 := blk_frozen BK177.out 1; have hfz27_2 := blk_frozen BK177.out 2) | ((with_reducible refine gate_callee (f := 40) rfl ?_); refine goesL_ (some 24) rfl rfl Tryd.func40 (by kernel_rfl) rfl #[.slice none 0 0, .int .i64 0] rfl (by (try simp only [List.map_toArray, List.map_cons, List.map_nil]); first | done | rfl | (simp only [List.length_drop, List.length_take]; rfl)) ?_; (refine (queue_Take.calls _ _ ([] : List (S37)) 0 t178 t179 t180 t181 t184 _ ?side1 ?side2 A6.out).mono ?_); (case side1 => exact Kd.C_nil _ _); (case side2 => exact Nat.le_refl _); rintro e w28 ⟨v182, rfl, ho0, hb⟩; refine ⟨_, rfl, ?_⟩; have n0_ := Aside0.mk (Kd.R_elder' (by (with_reducible repeat (first | apply Kd.R_alloc | apply Kd.R_drewN | apply Kd.R_drew)); exact (Kd.R_mono (Kd.R_far (p := ⟨gb177, 2, none⟩) (Kd.R_far (p := ⟨gb177, 1, none⟩) (Kd.R_far (p := ⟨gb177, 0, none⟩) (Kd.R_mono HO165.out (fun k_ hk => (⟨hk, hk.2⟩ : _ ∧ k_ ≠ gb177))) (fun _ hk => hk.2) (.int .i64 t170)) (fun _ hk => hk.2) (.string t171)) (fun _ hk => hk.2) (.string t172)) (fun _ h_ => h_.1))) (Kd.R_base ho0) hb); have n1_ := Aside0.mk (Kd.R_elder' (by (with_reducible repeat (first | apply Kd.R_alloc | apply Kd.R_drewN | apply Kd.R_drew)); exact (Kd.R_mono (Kd.R_far (p := ⟨gb177, 2, none⟩) (Kd.R_far (p := ⟨gb177, 1, none⟩) (Kd.R_far (p := ⟨gb177, 0, none⟩) (Kd.R_mono HO169.out (fun k_ hk => (⟨hk, hk.2⟩ : _ ∧ k_ ≠ gb177))) (fun _ hk => hk.2) (.int .i64 t170)) (fun _ hk => hk.2) (.string t171)) (fun _ hk => hk.2) (.string t172)) (fun _ h_ => h_.1))) (Kd.R_base ho0) hb); have n2_ := Aside0.mk (Kd.R_elder' (by (with_reducible repeat (first | apply Kd.R_alloc | apply Kd.R_drewN | apply Kd.R_drew)); exact (Kd.R_mono (Kd.R_far (p := ⟨gb177, 2, none⟩) (Kd.R_far (p := ⟨gb177, 1, none⟩) (Kd.R_far (p := ⟨gb177, 0, none⟩) (Kd.R_mono HO175.out (fun k_ hk => (⟨hk, hk.2⟩ : _ ∧ k_ ≠ gb177))) (fun _ hk => hk.2) (.int .i64 t170)) (fun _ hk => hk.2) (.string t171)) (fun _ hk => hk.2) (.string t172)) (fun _ h_ => h_.1))) (Kd.R_base ho0) hb); have n3_ := Aside0.mk (Kd.R_lower (Kd.R_newB (Kd.R_new' (Kd.R_new' (Kd.R_new' ho0 (Kd.R_lt (by (with_reducible repeat (first | apply Kd.R_alloc | apply Kd.R_drewN | apply Kd.R_drew)); exact (Kd.R_mono (Kd.R_far (p := ⟨gb177, 2, none⟩) (Kd.R_far (p := ⟨gb177, 1, none⟩) (Kd.R_far (p := ⟨gb177, 0, none⟩) (Kd.R_mono HO165.out (fun k_ hk => (⟨hk, hk.2⟩ : _ ∧ k_ ≠ gb177))) (fun _ hk => hk.2) (.int .i64 t170)) (fun _ hk => hk.2) (.string t171)) (fun _ hk => hk.2) (.string t172)) (fun _ h_ => h_.1))))) (Kd.R_lt (by (with_reducible repeat (first | apply Kd.R_alloc | apply Kd.R_drewN | apply Kd.R_drew)); exact (Kd.R_mono (Kd.R_far (p := ⟨gb177, 2, none⟩) (Kd.R_far (p := ⟨gb177, 1, none⟩) (Kd.R_far (p := ⟨gb177, 0, none⟩) (Kd.R_mono HO169.out (fun k_ hk => (⟨hk, hk.2⟩ : _ ∧ k_ ≠ gb177))) (fun _ hk => hk.2) (.int .i64 t170)) (fun _ hk => hk.2) (.string t171)) (fun _ hk => hk.2) (.string t172)) (fun _ h_ => h_.1))))) (Kd.R_lt (by (with_reducible repeat (first | apply Kd.R_alloc | apply Kd.R_drewN | apply Kd.R_drew)); exact (Kd.R_mono (Kd.R_far (p := ⟨gb177, 2, none⟩) (Kd.R_far (p := ⟨gb177, 1, none⟩) (Kd.R_far (p := ⟨gb177, 0, none⟩) (Kd.R_mono HO175.out (fun k_ hk => (⟨hk, hk.2⟩ : _ ∧ k_ ≠ gb177))) (fun _ hk => hk.2) (.int .i64 t170)) (fun _ hk => hk.2) (.string t171)) (fun _ hk => hk.2) (.string t172)) (fun _ h_ => h_.1))))) (g := gb177) (o := .cells #[.int .i64 t170, .string t171, .string t172] 37 (0, 0)) (by (with_reducible repeat (first | refine blk_drewN ?_ _ | refine blk_drew ?_ | refine blk_alloc ?_ _)); refine blk_put (cs := #[.int .i64 t170, .string t171, .string (⟨#[]⟩ : ByteArray)]) ?_ 2 _ rfl; (with_reducible repeat (first | refine blk_drewN ?_ _ | refine blk_drew ?_ | refine blk_alloc ?_ _)); refine blk_put (cs := #[.int .i64 t170, .string (⟨#[]⟩ : ByteArray), .string (⟨#[]⟩ : ByteArray)]) ?_ 1 _ rfl; (with_reducible repeat (first | refine blk_drewN ?_ _ | refine blk_drew ?_ | refine blk_alloc ?_ _)); refine blk_put (cs := #[.int .i64 0, .string (⟨#[]⟩ : ByteArray), .string (⟨#[]⟩ : ByteArray)]) ?_ 0 _ rfl; (with_reducible repeat (first | refine blk_drewN ?_ _ | refine blk_drew ?_ | refine blk_alloc ?_ _)); exact BK177.out)) (below_size (by repeat (first | (with_reducible first | exact HB.out | apply below_alloc | apply pw_below_drewN | apply below_drew1 | refine below_set ?_ GE177.out) | exact HB.out)))); have n4_ := Aside0.mk (blk_below (g := gb177) (o := .cells #[.int .i64 t170, .string t171, .string t172] 37 (0, 0)) (by (with_reducible repeat (first | refine blk_drewN ?_ _ | refine blk_drew ?_ | refine blk_alloc ?_ _)); refine blk_put (cs := #[.int .i64 t170, .string t171, .string (⟨#[]⟩ : ByteArray)]) ?_ 2 _ rfl; (with_reducible repeat (first | refine blk_drewN ?_ _ | refine blk_drew ?_ | refine blk_alloc ?_ _)); refine blk_put (cs := #[.int .i64 t170, .string (⟨#[]⟩ : ByteArray), .string (⟨#[]⟩ : ByteArray)]) ?_ 1 _ rfl; (with_reducible repeat (first | refine blk_drewN ?_ _ | refine blk_drew ?_ | refine blk_alloc ?_ _)); refine blk_put (cs := #[.int .i64 0, .string (⟨#[]⟩ : ByteArray), .string (⟨#[]⟩ : ByteArray)]) ?_ 0 _ rfl; (with_reducible repeat (first | refine blk_drewN ?_ _ | refine blk_drew ?_ | refine blk_alloc ?_ _)); exact BK177.out) hb); have n5_ := Aside0.mk (below_step (by repeat (first | (with_reducible first | exact HB.out | apply below_alloc | apply pw_below_drewN | apply below_drew1 | refine below_set ?_ GE177.out) | exact HB.out)) hb); clear HO165; clear HO169; clear HO175; clear BK177; clear HB; have HO165 := n0_; have HO169 := n1_; have HO175 := n2_; have HO183 := n3_; have BK177 := n4_; have HB := n5_; clear n0_ n1_ n2_ n3_ n4_ n5_; (try clear hb); (try clear hb2); (try clear hk); (try clear hi); (try clear ho0)) | ((with_reducible refine gate_dst (N := 6) rfl ?_); (try (refine gate_guard (by rfl) ?_; dsimp only)); refine box_event ?hg (N := 6) ?hd (cs := #[.int .i64 0, .string (⟨#[]⟩ : ByteArray), .string (⟨#[]⟩ : ByteArray)]) (t := 37) ?hr ?_; (case hd => rfl); (case hg => rfl); (case hr => first | (go_simp; done) | (go_simp; rfl)); intro gb185 hg w29 hbox hb; have n0_ := Aside0.mk (Kd.R_below (Kd.R_elderB (by (with_reducible repeat (first | apply Kd.R_alloc | apply Kd.R_drewN | apply Kd.R_drew)); exact HO165.out) gb185 (Nat.le_of_eq hg.symm)) hb); have n1_ := Aside0.mk (Kd.R_below (Kd.R_elderB (by (with_reducible repeat (first | apply Kd.R_alloc | apply Kd.R_drewN | apply Kd.R_drew)); exact HO169.out) gb185 (Nat.le_of_eq hg.symm)) hb); have n2_ := Aside0.mk (Kd.R_below (Kd.R_elderB (by (with_reducible repeat (first | apply Kd.R_alloc | apply Kd.R_drewN | apply Kd.R_drew)); exact HO175.out) gb185 (Nat.le_of_eq hg.symm)) hb); have n3_ := Aside0.mk (Kd.R_below (Kd.R_elderB (by (with_reducible repeat (first | apply Kd.R_alloc | apply Kd.R_drewN | apply Kd.R_drew)); exact HO183.out) gb185 (Nat.le_of_eq hg.symm)) hb); have n4_ := Aside0.mk (blk_below (g := gb177) (o := .cells #[.int .i64 t170, .string t171, .string t172] 37 (0, 0)) (by (with_reducible repeat (first | refine blk_drewN ?_ _ | refine blk_drew ?_ | refine blk_alloc ?_ _)); exact BK177.out) hb); have n5_ := Aside0.mk (below_step (by repeat (first | (with_reducible first | exact HB.out | apply below_alloc | apply pw_below_drewN | apply below_drew1 | refine below_set ?_ GE177.out) | exact HB.out)) hb); have n6_ := Aside0.mk (hbox); have n7_ := Aside0.mk ((by rw [hg]; exact (below_size (by repeat (first | (with_reducible first | exact HB.out | apply below_alloc | apply pw_below_drewN | apply below_drew1 | refine below_set ?_ GE177.out) | exact HB.out))) : w.heap.size ≤ gb185)); have n8_ := Aside0.mk ((by rw [hg]; exact (below_size (by repeat (first | (with_reducible first | exact HB.out | apply below_alloc | apply pw_below_drewN | apply below_drew1 | refine below_set ?_ GE177.out) | exact HB.out))) : w.heap.size ≤ gb185)); have n9_ := Aside0.mk ((by rw [hg]; exact Nat.ne_of_lt (blk_lt (g := gb177) (o := .cells #[.int .i64 t170, .string t171, .string t172] 37 (0, 0)) (by (with_reducible repeat (first | refine blk_drewN ?_ _ | refine blk_drew ?_ | refine blk_alloc ?_ _)); exact BK177.out)) : gb177 ≠ gb185)); have n10_ := Aside0.mk ((by rw [hg]; exact Nat.ne_of_gt (blk_lt (g := gb177) (o := .cells #[.int .i64 t170, .string t171, .string t172] 37 (0, 0)) (by (with_reducible repeat (first | refine blk_drewN ?_ _ | refine blk_drew ?_ | refine blk_alloc ?_ _)); exact BK177.out)) : gb185 ≠ gb177)); clear HO165; clear HO169; clear HO175; clear HO183; clear BK177; clear HB; have HO165 := n0_; have HO169 := n1_; have HO175 := n2_; have HO183 := n3_; have BK177 := n4_; have HB := n5_; have BK185 := n6_; have GW185 := n7_; have GE185 := n8_; have NB177_185 := n9_; have NB185_177 := n10_; clear n0_ n1_ n2_ n3_ n4_ n5_ n6_ n7_ n8_ n9_ n10_; clear hb hbox hg; have hnb30 := NB185_177.out; have hnc30 := NB177_185.out; have hcz31_0 : w29.cell? ⟨gb185, 0, none⟩ = some (.int .i64 0) := (blk_cell BK185.out 0).trans rfl; have hcz31_1 : w29.cell? ⟨gb185, 1, none⟩ = some (.string (⟨#[]⟩ : ByteArray)) := (blk_cell BK185.out 1).trans rfl; have hcz31_2 : w29.cell? ⟨gb185, 2, none⟩ = some (.string (⟨#[]⟩ : ByteArray)) := (blk_cell BK185.out 2).trans rfl; have hfz31_0 := blk_frozen BK185.out 0; have hfz31_1 := blk_frozen BK185.out 1; have hfz31_2 := blk_frozen BK185.out 2))
              have n0_ : Aside0 (Kd.R k37 37 (((w29.setCell ⟨gb185, 0, none⟩ (.int .i64 t178)).setCell ⟨gb185, 1, none⟩ (.string t179)).setCell ⟨gb185, 2, none⟩ (.string t180)) w.heap.size (fun k_ => some k_ ≠ (.slice Ao24 t166.length co24 : Value).ownBlock ∧ some k_ ≠ (v174 : Value).ownBlock ∧ some k_ ≠ (v182 : Value).ownBlock ∧ k_ ≠ gb177 ∧ k_ ≠ gb185) (.slice Ao22 y163.length co22) y163) := ⟨by (with_reducible repeat (first | apply Kd.R_alloc | apply Kd.R_drewN | apply Kd.R_drew)); exact Kd.R_mono (Kd.R_far (p := ⟨gb185, 2, none⟩) (Kd.R_far (p := ⟨gb185, 1, none⟩) (Kd.R_far (p := ⟨gb185, 0, none⟩) (Kd.R_mono HO165.out (fun k_ hk => (⟨hk, hk.2⟩ : _ ∧ k_ ≠ gb185))) (fun _ hk => hk.2) (.int .i64 t178)) (fun _ hk => hk.2) (.string t179)) (fun _ hk => hk.2) (.string t180)) (fun _ hk => ⟨hk.1.1.1.1.1.2, ⟨hk.1.1.1.1.2, ⟨hk.1.1.2, ⟨hk.1.1.1.2, hk.1.2⟩⟩⟩⟩)⟩
              have n1_ : Aside0 (Kd.R k37 37 (((w29.setCell ⟨gb185, 0, none⟩ (.int .i64 t178)).setCell ⟨gb185, 1, none⟩ (.string t179)).setCell ⟨gb185, 2, none⟩ (.string t180)) w.heap.size (fun k_ => some k_ ≠ (.slice Ao22 y163.length co22 : Value).ownBlock ∧ some k_ ≠ (v174 : Value).ownBlock ∧ some k_ ≠ (v182 : Value).ownBlock ∧ k_ ≠ gb177 ∧ k_ ≠ gb185) (.slice Ao24 t166.length co24) t166) := ⟨by (with_reducible repeat (first | apply Kd.R_alloc | apply Kd.R_drewN | apply Kd.R_drew)); exact Kd.R_mono (Kd.R_far (p := ⟨gb185, 2, none⟩) (Kd.R_far (p := ⟨gb185, 1, none⟩) (Kd.R_far (p := ⟨gb185, 0, none⟩) (Kd.R_mono HO169.out (fun k_ hk => (⟨hk, hk.2⟩ : _ ∧ k_ ≠ gb185))) (fun _ hk => hk.2) (.int .i64 t178)) (fun _ hk => hk.2) (.string t179)) (fun _ hk => hk.2) (.string t180)) (fun _ hk => ⟨hk.1.1.1.1.1.2, ⟨hk.1.1.1.1.2, ⟨hk.1.1.2, ⟨hk.1.1.1.2, hk.1.2⟩⟩⟩⟩)⟩
              have n2_ : Aside0 (Kd.R k37 37 (((w29.setCell ⟨gb185, 0, none⟩ (.int .i64 t178)).setCell ⟨gb185, 1, none⟩ (.string t179)).setCell ⟨gb185, 2, none⟩ (.string t180)) w.heap.size (fun k_ => some k_ ≠ (.slice Ao22 y163.length co22 : Value).ownBlock ∧ some k_ ≠ (.slice Ao24 t166.length co24 : Value).ownBlock ∧ some k_ ≠ (v182 : Value).ownBlock ∧ k_ ≠ gb177 ∧ k_ ≠ gb185) v174 t173) := ⟨by (with_reducible repeat (first | apply Kd.R_alloc | apply Kd.R_drewN | apply Kd.R_drew)); exact Kd.R_mono (Kd.R_far (p := ⟨gb185, 2, none⟩) (Kd.R_far (p := ⟨gb185, 1, none⟩) (Kd.R_far (p := ⟨gb185, 0, none⟩) (Kd.R_mono HO175.out (fun k_ hk => (⟨hk, hk.2⟩ : _ ∧ k_ ≠ gb185))) (fun _ hk => hk.2) (.int .i64 t178)) (fun _ hk => hk.2) (.string t179)) (fun _ hk => hk.2) (.string t180)) (fun _ hk => ⟨hk.1.1.1.1.1.2, ⟨hk.1.1.1.1.2, ⟨hk.1.1.2, ⟨hk.1.1.1.2, hk.1.2⟩⟩⟩⟩)⟩
              have n3_ : Aside0 (Kd.R k37 37 (((w29.setCell ⟨gb185, 0, none⟩ (.int .i64 t178)).setCell ⟨gb185, 1, none⟩ (.string t179)).setCell ⟨gb185, 2, none⟩ (.string t180)) w.heap.size (fun k_ => some k_ ≠ (.slice Ao22 y163.length co22 : Value).ownBlock ∧ some k_ ≠ (.slice Ao24 t166.length co24 : Value).ownBlock ∧ some k_ ≠ (v174 : Value).ownBlock ∧ k_ ≠ gb177 ∧ k_ ≠ gb185) v182 t181) := ⟨by (with_reducible repeat (first | apply Kd.R_alloc | apply Kd.R_drewN | apply Kd.R_drew)); exact Kd.R_mono (Kd.R_far (p := ⟨gb185, 2, none⟩) (Kd.R_far (p := ⟨gb185, 1, none⟩) (Kd.R_far (p := ⟨gb185, 0, none⟩) (Kd.R_mono HO183.out (fun k_ hk => (⟨hk, hk.2⟩ : _ ∧ k_ ≠ gb185))) (fun _ hk => hk.2) (.int .i64 t178)) (fun _ hk => hk.2) (.string t179)) (fun _ hk => hk.2) (.string t180)) (fun _ hk => ⟨hk.1.1.1.1.1.2, ⟨hk.1.1.1.1.2, ⟨hk.1.1.1.2, ⟨hk.1.1.2, hk.1.2⟩⟩⟩⟩)⟩
              have n4_ : Aside0 ((((w29.setCell ⟨gb185, 0, none⟩ (.int .i64 t178)).setCell ⟨gb185, 1, none⟩ (.string t179)).setCell ⟨gb185, 2, none⟩ (.string t180)).heap[gb177]? = some (.cells #[.int .i64 t170, .string t171, .string t172] 37 (0, 0))) := ⟨by (with_reducible repeat (first | refine blk_drewN ?_ _ | refine blk_drew ?_ | refine blk_alloc ?_ _)); refine blk_far ?_ NB177_185.out _; (with_reducible repeat (first | refine blk_drewN ?_ _ | refine blk_drew ?_ | refine blk_alloc ?_ _)); refine blk_far ?_ NB177_185.out _; (with_reducible repeat (first | refine blk_drewN ?_ _ | refine blk_drew ?_ | refine blk_alloc ?_ _)); refine blk_far ?_ NB177_185.out _; (with_reducible repeat (first | refine blk_drewN ?_ _ | refine blk_drew ?_ | refine blk_alloc ?_ _)); exact BK177.out⟩
              have n5_ : Aside0 ((((w29.setCell ⟨gb185, 0, none⟩ (.int .i64 t178)).setCell ⟨gb185, 1, none⟩ (.string t179)).setCell ⟨gb185, 2, none⟩ (.string t180)).heap[gb185]? = some (.cells #[.int .i64 t178, .string t179, .string t180] 37 (0, 0))) := ⟨by (with_reducible repeat (first | refine blk_drewN ?_ _ | refine blk_drew ?_ | refine blk_alloc ?_ _)); refine blk_put (cs := #[.int .i64 t178, .string t179, .string (⟨#[]⟩ : ByteArray)]) ?_ 2 _ rfl; (with_reducible repeat (first | refine blk_drewN ?_ _ | refine blk_drew ?_ | refine blk_alloc ?_ _)); refine blk_put (cs := #[.int .i64 t178, .string (⟨#[]⟩ : ByteArray), .string (⟨#[]⟩ : ByteArray)]) ?_ 1 _ rfl; (with_reducible repeat (first | refine blk_drewN ?_ _ | refine blk_drew ?_ | refine blk_alloc ?_ _)); refine blk_put (cs := #[.int .i64 0, .string (⟨#[]⟩ : ByteArray), .string (⟨#[]⟩ : ByteArray)]) ?_ 0 _ rfl; (with_reducible repeat (first | refine blk_drewN ?_ _ | refine blk_drew ?_ | refine blk_alloc ?_ _)); exact BK185.out⟩
              have n6_ : Aside0 (Below w.heap.size w (((w29.setCell ⟨gb185, 0, none⟩ (.int .i64 t178)).setCell ⟨gb185, 1, none⟩ (.string t179)).setCell ⟨gb185, 2, none⟩ (.string t180))) := ⟨by repeat (first | (with_reducible first | exact HB.out | apply below_alloc | apply pw_below_drewN | apply below_drew1 | refine below_set ?_ GE177.out | refine below_set ?_ GE185.out) | exact HB.out)⟩
              (try clear HO165)
              (try clear HO169)
              (try clear HO175)
              (try clear HO183)
              (try clear BK177)
              (try clear BK185)
              (try clear HB)
              generalize (((w29.setCell ⟨gb185, 0, none⟩ (.int .i64 t178)).setCell ⟨gb185, 1, none⟩ (.string t179)).setCell ⟨gb185, 2, none⟩ (.string t180)) = w32 at n0_ n1_ n2_ n3_ n4_ n5_ n6_ ⊢
              have HO165 := n0_
              have HO169 := n1_
              have HO175 := n2_
              have HO183 := n3_
              have BK177 := n4_
              have BK185 := n5_
              have HB := n6_
              clear n0_ n1_ n2_ n3_ n4_ n5_ n6_
              have n0_ := Aside0.mk (Kd.R_drew HO165.out)
              have n1_ := Aside0.mk (Kd.R_drew HO169.out)
              have n2_ := Aside0.mk (Kd.R_drew HO175.out)
              have n3_ := Aside0.mk (Kd.R_drew HO183.out)
              have n4_ := Aside0.mk (blk_drew BK177.out)
              have n5_ := Aside0.mk (blk_drew BK185.out)
              have n6_ := Aside0.mk (below_drew1 HB.out)
              clear HO165
              clear HO169
              clear HO175
              clear HO183
              clear BK177
              clear BK185
              clear HB
              have HO165 := n0_
              have HO169 := n1_
              have HO175 := n2_
              have HO183 := n3_
              have BK177 := n4_
              have BK185 := n5_
              have HB := n6_
              clear n0_ n1_ n2_ n3_ n4_ n5_ n6_
              refine start_ (n := 30) (S := fun w' => w'.cell? ⟨gb177, 0, none⟩ = some (.int .i64 t170) ∧ w'.cell? ⟨gb177, 1, none⟩ = some (.string t171) ∧ w'.cell? ⟨gb177, 2, none⟩ = some (.string t172)) (ds := []) #[false, false, false, false, false, false, false, false, false, false, false, false, false, false, false, false, false, false, false, false, false, false, false, false, false, false, false, false, false, false] (by kernel_rfl) rfl rfl ⟨(blk_cell BK177.out 0).trans rfl, (blk_cell BK177.out 1).trans rfl, (blk_cell BK177.out 2).trans rfl⟩ (fun hHeld => ?_); refine with_tabW tolllaw19_awake.tab4 tolllaw19_awake.bits4 (fun HT_ HW_ => ?_)
              generalize w32.drew = w33 at HO165 HO169 HO175 HO183 BK177 BK185 HB hHeld ⊢
              refine pure_ (i := 0) (N := some 28) (v := ?_) (a' := ?_) #[true, false, false, false, false, false, false, false, false, false, false, false, false, false, false, false, false, false, false, false, false, false, false, false, false, false, false, false, false, false] rfl rfl (any_of HT_.out (by kernel_rfl)) (fun _ _ _ h => h) (Or.inl ⟨by rfl, ?_⟩) ?_ ?_
              rotate_left
              · intro w'
                go_simp
                with_reducible rfl
              rotate_left
              · simp only [Act.put, List.setIfInBounds_toArray, List.set_cons_zero, List.set_cons_succ, i64_w, i32_w]
                rfl
              refine one_ (i := 1) (N := some 29) #[true, true, false, false, false, false, false, false, false, false, false, false, false, false, false, false, false, false, false, false, false, false, false, false, false, false, false, false, false, false] rfl rfl (one_of HT_.out (by kernel_rfl)) (by decide) (fun K hK => ?_)
              refine goes_ Tryd.func43 (by kernel_rfl) rfl #[.string (⟨#[97]⟩ : ByteArray)] (by rfl) rfl rfl (by (try simp only [List.map_toArray, List.map_cons, List.map_nil]); first | done | rfl | (simp only [List.length_drop, List.length_take]; rfl)) ?_
              with_reducible refine (tolllaw19_class.calls (⟨#[97]⟩ : ByteArray) t186 t187 t188 _ A7.out).mono ?_
              rintro e w34 ⟨rfl, hb⟩
              refine ⟨_, rfl, ?_⟩
              have n0_ := Aside0.mk (Kd.R_below (by (with_reducible repeat (first | apply Kd.R_alloc | apply Kd.R_drewN | apply Kd.R_drew)); exact HO165.out) hb)
              have n1_ := Aside0.mk (Kd.R_below (by (with_reducible repeat (first | apply Kd.R_alloc | apply Kd.R_drewN | apply Kd.R_drew)); exact HO169.out) hb)
              have n2_ := Aside0.mk (Kd.R_below (by (with_reducible repeat (first | apply Kd.R_alloc | apply Kd.R_drewN | apply Kd.R_drew)); exact HO175.out) hb)
              have n3_ := Aside0.mk (Kd.R_below (by (with_reducible repeat (first | apply Kd.R_alloc | apply Kd.R_drewN | apply Kd.R_drew)); exact HO183.out) hb)
              have n4_ := Aside0.mk (blk_below (g := gb177) (o := .cells #[.int .i64 t170, .string t171, .string t172] 37 (0, 0)) (by (with_reducible repeat (first | refine blk_drewN ?_ _ | refine blk_drew ?_ | refine blk_alloc ?_ _)); exact BK177.out) hb)
              have n5_ := Aside0.mk (blk_below (g := gb185) (o := .cells #[.int .i64 t178, .string t179, .string t180] 37 (0, 0)) (by (with_reducible repeat (first | refine blk_drewN ?_ _ | refine blk_drew ?_ | refine blk_alloc ?_ _)); exact BK185.out) hb)
              have n6_ := Aside0.mk (below_step (by repeat (first | (with_reducible first | exact HB.out | apply below_alloc | apply pw_below_drewN | apply below_drew1 | refine below_set ?_ GE177.out | refine below_set ?_ GE185.out) | exact HB.out)) hb)
              clear HO165
              clear HO169
              clear HO175
              clear HO183
              clear BK177
              clear BK185
              clear HB
              have HO165 := n0_
              have HO169 := n1_
              have HO175 := n2_
              have HO183 := n3_
              have BK177 := n4_
              have BK185 := n5_
              have HB := n6_
              clear n0_ n1_ n2_ n3_ n4_ n5_ n6_
              (try clear hb)
              (try clear hb2)
              (try clear hk)
              (try clear hi)
              refine hK.out _ _ ⟨(blk_cell BK177.out 0).trans rfl, (blk_cell BK177.out 1).trans rfl, (blk_cell BK177.out 2).trans rfl⟩ (fun hHeld => ?_)
              clear hK K
              refine norm_ (a' := ?_) ?_ ?_
              rotate_left
              · show Act.put _ (some 29) _ = _
                simp only [Act.put, List.setIfInBounds_toArray, List.set_cons_zero, List.set_cons_succ, i64_w, i32_w]
                rfl
              refine one_ (i := 2) (N := some 30) #[true, true, true, false, false, false, false, false, false, false, false, false, false, false, false, false, false, false, false, false, false, false, false, false, false, false, false, false, false, false] rfl rfl (one_of HT_.out (by kernel_rfl)) (by decide) (fun K hK => ?_)
              refine goes_ Tryd.func43 (by kernel_rfl) rfl #[.string (⟨#[98]⟩ : ByteArray)] (by rfl) rfl rfl (by (try simp only [List.map_toArray, List.map_cons, List.map_nil]); first | done | rfl | (simp only [List.length_drop, List.length_take]; rfl)) ?_
              with_reducible refine (tolllaw19_class.calls (⟨#[98]⟩ : ByteArray) t189 t190 t191 _ A8.out).mono ?_
              rintro e w35 ⟨rfl, hb⟩
              refine ⟨_, rfl, ?_⟩
              have n0_ := Aside0.mk (Kd.R_below (by (with_reducible repeat (first | apply Kd.R_alloc | apply Kd.R_drewN | apply Kd.R_drew)); exact HO165.out) hb)
              have n1_ := Aside0.mk (Kd.R_below (by (with_reducible repeat (first | apply Kd.R_alloc | apply Kd.R_drewN | apply Kd.R_drew)); exact HO169.out) hb)
              have n2_ := Aside0.mk (Kd.R_below (by (with_reducible repeat (first | apply Kd.R_alloc | apply Kd.R_drewN | apply Kd.R_drew)); exact HO175.out) hb)
              have n3_ := Aside0.mk (Kd.R_below (by (with_reducible repeat (first | apply Kd.R_alloc | apply Kd.R_drewN | apply Kd.R_drew)); exact HO183.out) hb)
              have n4_ := Aside0.mk (blk_below (g := gb177) (o := .cells #[.int .i64 t170, .string t171, .string t172] 37 (0, 0)) (by (with_reducible repeat (first | refine blk_drewN ?_ _ | refine blk_drew ?_ | refine blk_alloc ?_ _)); exact BK177.out) hb)
              have n5_ := Aside0.mk (blk_below (g := gb185) (o := .cells #[.int .i64 t178, .string t179, .string t180] 37 (0, 0)) (by (with_reducible repeat (first | refine blk_drewN ?_ _ | refine blk_drew ?_ | refine blk_alloc ?_ _)); exact BK185.out) hb)
              have n6_ := Aside0.mk (below_step (by repeat (first | (with_reducible first | exact HB.out | apply below_alloc | apply pw_below_drewN | apply below_drew1 | refine below_set ?_ GE177.out | refine below_set ?_ GE185.out) | exact HB.out)) hb)
              clear HO165
              clear HO169
              clear HO175
              clear HO183
              clear BK177
              clear BK185
              clear HB
              have HO165 := n0_
              have HO169 := n1_
              have HO175 := n2_
              have HO183 := n3_
              have BK177 := n4_
              have BK185 := n5_
              have HB := n6_
              clear n0_ n1_ n2_ n3_ n4_ n5_ n6_
              (try clear hb)
              (try clear hb2)
              (try clear hk)
              (try clear hi)
              refine hK.out _ _ ⟨(blk_cell BK177.out 0).trans rfl, (blk_cell BK177.out 1).trans rfl, (blk_cell BK177.out 2).trans rfl⟩ (fun hHeld => ?_)
              clear hK K
              refine norm_ (a' := ?_) ?_ ?_
              rotate_left
              · show Act.put _ (some 30) _ = _
                simp only [Act.put, List.setIfInBounds_toArray, List.set_cons_zero, List.set_cons_succ, i64_w, i32_w]
                rfl
              refine one_ (i := 3) (N := some 31) #[true, true, true, true, false, false, false, false, false, false, false, false, false, false, false, false, false, false, false, false, false, false, false, false, false, false, false, false, false, false] rfl rfl (one_of HT_.out (by kernel_rfl)) (by decide) (fun K hK => ?_)
              refine Kd.R_lit_step k37 _ 37 ?hg (N := 31) ?hd (xs := ([(⟨t186, t187, t188⟩ : S37), (⟨t189, t190, t191⟩ : S37)] : List (S37))) (inner := [.int .i64 t186, .string t187, .string t188, .int .i64 t189, .string t190, .string t191]) (ok := fun _ => True) (okp := fun _ => True) ?hr ?hp (fun _ hk => hk) trivial (Below.refl _ _) (Nat.le_refl _) (by simp) ?_; (case hd => rfl); (case hg => rfl); (case hr => first | (go_simp; done) | (go_simp; rfl)); (case hp => exact (Reps.c3 (show Kd.M k37 _ _ _ (⟨t186, t187, t188⟩ : S37) [.int .i64 t186, .string t187, .string t188] from (k37_mkM _ _ _ (⟨t186, t187, t188⟩ : S37) )) (Reps.c3 (show Kd.M k37 _ _ _ (⟨t189, t190, t191⟩ : S37) [.int .i64 t189, .string t190, .string t191] from (k37_mkM _ _ _ (⟨t189, t190, t191⟩ : S37) )) (Reps.none _ _))))
              intro v193 w36 ho37 hb hg_ hnew_
              clear hg_ hnew_
              (first | rw [← Ny192.out] at ho37 | (simp only [Int.reduceToNat] at ho37; rw [← Ny192.out] at ho37))
              have n0_ := Aside0.mk (Kd.R_elder' (by (with_reducible repeat (first | apply Kd.R_alloc | apply Kd.R_drewN | apply Kd.R_drew)); exact HO165.out) (Kd.R_base ho37) hb)
              have n1_ := Aside0.mk (Kd.R_elder' (by (with_reducible repeat (first | apply Kd.R_alloc | apply Kd.R_drewN | apply Kd.R_drew)); exact HO169.out) (Kd.R_base ho37) hb)
              have n2_ := Aside0.mk (Kd.R_elder' (by (with_reducible repeat (first | apply Kd.R_alloc | apply Kd.R_drewN | apply Kd.R_drew)); exact HO175.out) (Kd.R_base ho37) hb)
              have n3_ := Aside0.mk (Kd.R_elder' (by (with_reducible repeat (first | apply Kd.R_alloc | apply Kd.R_drewN | apply Kd.R_drew)); exact HO183.out) (Kd.R_base ho37) hb)
              have n4_ := Aside0.mk (Kd.R_lower (Kd.R_newB (Kd.R_newB (Kd.R_new' (Kd.R_new' (Kd.R_new' (Kd.R_new' ho37 (Kd.R_lt (by (with_reducible repeat (first | apply Kd.R_alloc | apply Kd.R_drewN | apply Kd.R_drew)); exact HO165.out))) (Kd.R_lt (by (with_reducible repeat (first | apply Kd.R_alloc | apply Kd.R_drewN | apply Kd.R_drew)); exact HO169.out))) (Kd.R_lt (by (with_reducible repeat (first | apply Kd.R_alloc | apply Kd.R_drewN | apply Kd.R_drew)); exact HO175.out))) (Kd.R_lt (by (with_reducible repeat (first | apply Kd.R_alloc | apply Kd.R_drewN | apply Kd.R_drew)); exact HO183.out))) (g := gb177) (o := .cells #[.int .i64 t170, .string t171, .string t172] 37 (0, 0)) (by (with_reducible repeat (first | refine blk_drewN ?_ _ | refine blk_drew ?_ | refine blk_alloc ?_ _)); exact BK177.out)) (g := gb185) (o := .cells #[.int .i64 t178, .string t179, .string t180] 37 (0, 0)) (by (with_reducible repeat (first | refine blk_drewN ?_ _ | refine blk_drew ?_ | refine blk_alloc ?_ _)); exact BK185.out)) (below_size (by repeat (first | (with_reducible first | exact HB.out | apply below_alloc | apply pw_below_drewN | apply below_drew1 | refine below_set ?_ GE177.out | refine below_set ?_ GE185.out) | exact HB.out))))
              have n5_ := Aside0.mk (blk_below (g := gb177) (o := .cells #[.int .i64 t170, .string t171, .string t172] 37 (0, 0)) (by (with_reducible repeat (first | refine blk_drewN ?_ _ | refine blk_drew ?_ | refine blk_alloc ?_ _)); exact BK177.out) hb)
              have n6_ := Aside0.mk (blk_below (g := gb185) (o := .cells #[.int .i64 t178, .string t179, .string t180] 37 (0, 0)) (by (with_reducible repeat (first | refine blk_drewN ?_ _ | refine blk_drew ?_ | refine blk_alloc ?_ _)); exact BK185.out) hb)
              have n7_ := Aside0.mk (below_step (by repeat (first | (with_reducible first | exact HB.out | apply below_alloc | apply pw_below_drewN | apply below_drew1 | refine below_set ?_ GE177.out | refine below_set ?_ GE185.out) | exact HB.out)) hb)
              clear HO165
              clear HO169
              clear HO175
              clear HO183
              clear BK177
              clear BK185
              clear HB
              have HO165 := n0_
              have HO169 := n1_
              have HO175 := n2_
              have HO183 := n3_
              have HO194 := n4_
              have BK177 := n5_
              have BK185 := n6_
              have HB := n7_
              clear n0_ n1_ n2_ n3_ n4_ n5_ n6_ n7_
              clear hb ho37
              obtain ⟨Ao38, co38, eo38⟩ := Kd.R_slice HO194.out
              (first | subst eo38 | (injection eo38 with f1_ f2_ f3_; have f4_ := f1_.symm; have f5_ := f3_.symm; clear f1_ f2_ f3_; subst f4_; subst f5_))
              refine hK.out _ _ ⟨(blk_cell BK177.out 0).trans rfl, (blk_cell BK177.out 1).trans rfl, (blk_cell BK177.out 2).trans rfl⟩ (fun hHeld => ?_)
              clear hK K
              refine norm_ (a' := ?_) ?_ ?_
              rotate_left
              · show Act.put _ (some 31) _ = _
                simp only [Act.put, List.setIfInBounds_toArray, List.set_cons_zero, List.set_cons_succ, i64_w, i32_w]
                rfl
              refine one_ (i := 4) (N := some 32) #[true, true, true, true, true, false, false, false, false, false, false, false, false, false, false, false, false, false, false, false, false, false, false, false, false, false, false, false, false, false] rfl rfl (one_of HT_.out (by kernel_rfl)) (by decide) (fun K hK => ?_)
              refine goes_ Tryd.func44 (by kernel_rfl) rfl #[.slice Ao24 t166.length co24, .slice Ao38 y192.length co38] (by rfl) rfl rfl (by (try simp only [List.map_toArray, List.map_cons, List.map_nil]); first | done | rfl | (simp only [List.length_drop, List.length_take]; rfl)) ?_
              with_reducible refine (tollref09_SameRefs.calls k _ _ t166 _ _ y192 true _ ?side1 ?side2 ?side3 ?side4 A9.out).mono ?_
              (case side1 => repeat (first | exact (Kd.R_reads' HO169.out).2.2 | (with_reducible refine Kd.C_alloc ?_ _) | (with_reducible refine Kd.C_drewN ?_ _) | (with_reducible refine Kd.C_drew ?_)))
              (case side2 => exact (Kd.R_reads' HO169.out).2.1)
              (case side3 => repeat (first | exact (Kd.R_reads' HO194.out).2.2 | (with_reducible refine Kd.C_alloc ?_ _) | (with_reducible refine Kd.C_drewN ?_ _) | (with_reducible refine Kd.C_drew ?_)))
              (case side4 => exact (Kd.R_reads' HO194.out).2.1)
              rintro e w' ⟨rfl, ⟨nd, rfl⟩⟩
              refine ⟨_, rfl, ?_⟩
              refine hK.out _ _ ⟨(blk_cell BK177.out 0).trans rfl, (blk_cell BK177.out 1).trans rfl, (blk_cell BK177.out 2).trans rfl⟩ (fun hHeld => ?_)
              clear hK K
              refine norm_ (a' := ?_) ?_ ?_
              rotate_left
              · show Act.put _ (some 32) _ = _
                simp only [Act.put, List.setIfInBounds_toArray, List.set_cons_zero, List.set_cons_succ, i64_w, i32_w]
                rfl
              refine pure_ (i := 5) (N := some 33) (v := ?_) (a' := ?_) #[true, true, true, true, true, true, false, false, false, false, false, false, false, false, false, false, false, false, false, false, false, false, false, false, false, false, false, false, false, false] rfl rfl (any_of HT_.out (by kernel_rfl)) (fun _ _ _ h => h) (Or.inl ⟨by rfl, ?_⟩) ?_ ?_
              rotate_left
              · intro w'
                go_simp
                with_reducible rfl
              rotate_left
              · simp only [Act.put, List.setIfInBounds_toArray, List.set_cons_zero, List.set_cons_succ, i64_w, i32_w]
                rfl
              refine pure_ (i := 6) (N := some 34) (v := ?_) (a' := ?_) #[true, true, true, true, true, true, true, false, false, false, false, false, false, false, false, false, false, false, false, false, false, false, false, false, false, false, false, false, false, false] rfl rfl (any_of HT_.out (by kernel_rfl)) (fun _ _ _ h => h) (Or.inl ⟨by rfl, ?_⟩) ?_ ?_
              rotate_left
              · intro w'
                go_simp
                with_reducible rfl
              rotate_left
              · simp only [Act.put, List.setIfInBounds_toArray, List.set_cons_zero, List.set_cons_succ, i64_w, i32_w]
                rfl
              refine pure_ (i := 7) (N := some 35) (v := ?_) (a' := ?_) #[true, true, true, true, true, true, true, true, false, false, false, false, false, false, false, false, false, false, false, false, false, false, false, false, false, false, false, false, false, false] rfl rfl (any_of HT_.out (by kernel_rfl)) (fun _ _ _ h => h) (Or.inl ⟨by rfl, ?_⟩) ?_ ?_
              rotate_left
              · intro w'
                go_simp
                with_reducible rfl
              rotate_left
              · simp only [Act.put, List.setIfInBounds_toArray, List.set_cons_zero, List.set_cons_succ, i64_w, i32_w]
                rfl
              refine pure_ (i := 8) (N := some 36) (v := ?_) (a' := ?_) #[true, true, true, true, true, true, true, true, true, false, false, false, false, false, false, false, false, false, false, false, false, false, false, false, false, false, false, false, false, false] rfl rfl (any_of HT_.out (by kernel_rfl)) (fun _ _ _ h => h) (Or.inl ⟨by rfl, ?_⟩) ?_ ?_
              rotate_left
              · intro w'
                go_simp
                with_reducible rfl
              rotate_left
              · simp only [Act.put, List.setIfInBounds_toArray, List.set_cons_zero, List.set_cons_succ, i64_w, i32_w]
                rfl
              refine pure_ (i := 9) (N := some 37) (v := ?_) (a' := ?_) #[true, true, true, true, true, true, true, true, true, true, false, false, false, false, false, false, false, false, false, false, false, false, false, false, false, false, false, false, false, false] rfl rfl (any_of HT_.out (by kernel_rfl)) (fun _ _ _ h => h) (Or.inl ⟨by rfl, ?_⟩) ?_ ?_
              rotate_left
              · intro w'
                go_simp
                with_reducible rfl
              rotate_left
              · simp only [Act.put, List.setIfInBounds_toArray, List.set_cons_zero, List.set_cons_succ, i64_w, i32_w]
                rfl
              refine take_ (i := 10) (N := some 38) (v := ?_) (a' := ?_) #[true, true, true, true, true, true, true, true, true, true, true, false, false, false, false, false, false, false, false, false, false, false, false, false, false, false, false, false, false, false] rfl rfl (take_ofW HT_.out HW_.out (by kernel_rfl)) (fun _ _ _ h => h) (Or.inl ⟨by rfl, ?_⟩) hHeld ?_ ?_
              rotate_left
              · rintro w' ⟨s0, s1, s2⟩
                go_simp
                with_reducible rfl
              rotate_left
              · simp only [Act.put, List.setIfInBounds_toArray, List.set_cons_zero, List.set_cons_succ, i64_w, i32_w]
                rfl
              refine one_ (i := 11) (N := some 39) #[true, true, true, true, true, true, true, true, true, true, true, true, false, false, false, false, false, false, false, false, false, false, false, false, false, false, false, false, false, false] rfl rfl (one_of HT_.out (by kernel_rfl)) (by decide) (fun K hK => ?_)
              refine goes_ Tryd.func43 (by kernel_rfl) rfl #[.string (⟨#[98]⟩ : ByteArray)] (by rfl) rfl rfl (by (try simp only [List.map_toArray, List.map_cons, List.map_nil]); first | done | rfl | (simp only [List.length_drop, List.length_take]; rfl)) ?_
              with_reducible refine (tolllaw19_class.calls (⟨#[98]⟩ : ByteArray) t196 t197 t198 _ A12.out).mono ?_
              rintro e w39 ⟨rfl, hb⟩
              refine ⟨_, rfl, ?_⟩
              have n0_ := Aside0.mk (Kd.R_below (by (with_reducible repeat (first | apply Kd.R_alloc | apply Kd.R_drewN | apply Kd.R_drew)); exact HO165.out) hb)
              have n1_ := Aside0.mk (Kd.R_below (by (with_reducible repeat (first | apply Kd.R_alloc | apply Kd.R_drewN | apply Kd.R_drew)); exact HO169.out) hb)
              have n2_ := Aside0.mk (Kd.R_below (by (with_reducible repeat (first | apply Kd.R_alloc | apply Kd.R_drewN | apply Kd.R_drew)); exact HO175.out) hb)
              have n3_ := Aside0.mk (Kd.R_below (by (with_reducible repeat (first | apply Kd.R_alloc | apply Kd.R_drewN | apply Kd.R_drew)); exact HO183.out) hb)
              have n4_ := Aside0.mk (Kd.R_below (by (with_reducible repeat (first | apply Kd.R_alloc | apply Kd.R_drewN | apply Kd.R_drew)); exact HO194.out) hb)
              have n5_ := Aside0.mk (blk_below (g := gb177) (o := .cells #[.int .i64 t170, .string t171, .string t172] 37 (0, 0)) (by (with_reducible repeat (first | refine blk_drewN ?_ _ | refine blk_drew ?_ | refine blk_alloc ?_ _)); exact BK177.out) hb)
              have n6_ := Aside0.mk (blk_below (g := gb185) (o := .cells #[.int .i64 t178, .string t179, .string t180] 37 (0, 0)) (by (with_reducible repeat (first | refine blk_drewN ?_ _ | refine blk_drew ?_ | refine blk_alloc ?_ _)); exact BK185.out) hb)
              have n7_ := Aside0.mk (below_step (by repeat (first | (with_reducible first | exact HB.out | apply below_alloc | apply pw_below_drewN | apply below_drew1 | refine below_set ?_ GE177.out | refine below_set ?_ GE185.out) | exact HB.out)) hb)
              clear HO165
              clear HO169
              clear HO175
              clear HO183
              clear HO194
              clear BK177
              clear BK185
              clear HB
              have HO165 := n0_
              have HO169 := n1_
              have HO175 := n2_
              have HO183 := n3_
              have HO194 := n4_
              have BK177 := n5_
              have BK185 := n6_
              have HB := n7_
              clear n0_ n1_ n2_ n3_ n4_ n5_ n6_ n7_
              (try clear hb)
              (try clear hb2)
              (try clear hk)
              (try clear hi)
              obtain ⟨Ao40, co40, eo40⟩ := Kd.R_slice HO175.out
              (first | subst eo40 | (injection eo40 with f1_ f2_ f3_; have f4_ := f1_.symm; have f5_ := f3_.symm; clear f1_ f2_ f3_; subst f4_; subst f5_))
              refine hK.out _ _ ⟨(blk_cell BK177.out 0).trans rfl, (blk_cell BK177.out 1).trans rfl, (blk_cell BK177.out 2).trans rfl⟩ (fun hHeld => ?_)
              clear hK K
              refine norm_ (a' := ?_) ?_ ?_
              rotate_left
              · show Act.put _ (some 39) _ = _
                simp only [Act.put, List.setIfInBounds_toArray, List.set_cons_zero, List.set_cons_succ, i64_w, i32_w]
                rfl
              refine pure_ (i := 12) (N := some 40) (v := ?_) (a' := ?_) #[true, true, true, true, true, true, true, true, true, true, true, true, true, false, false, false, false, false, false, false, false, false, false, false, false, false, false, false, false, false] rfl rfl (any_of HT_.out (by kernel_rfl)) (fun _ _ _ h => h) (Or.inl ⟨by rfl, ?_⟩) ?_ ?_
              rotate_left
              · intro w'
                go_simp
                with_reducible rfl
              rotate_left
              · simp only [Act.put, List.setIfInBounds_toArray, List.set_cons_zero, List.set_cons_succ, i64_w, i32_w]
                rfl
              refine pure_ (i := 13) (N := some 41) (v := ?_) (a' := ?_) #[true, true, true, true, true, true, true, true, true, true, true, true, true, true, false, false, false, false, false, false, false, false, false, false, false, false, false, false, false, false] rfl rfl (any_of HT_.out (by kernel_rfl)) (fun _ _ _ h => h) (Or.inl ⟨by rfl, ?_⟩) ?_ ?_
              rotate_left
              · intro w'
                go_simp
                with_reducible rfl
              rotate_left
              · simp only [Act.put, List.setIfInBounds_toArray, List.set_cons_zero, List.set_cons_succ, i64_w, i32_w]
                rfl
              refine pure_ (i := 14) (N := some 42) (v := ?_) (a' := ?_) #[true, true, true, true, true, true, true, true, true, true, true, true, true, true, true, false, false, false, false, false, false, false, false, false, false, false, false, false, false, false] rfl rfl (any_of HT_.out (by kernel_rfl)) (fun _ _ _ h => h) (Or.inl ⟨by rfl, ?_⟩) ?_ ?_
              rotate_left
              · intro w'
                go_simp
                with_reducible rfl
              rotate_left
              · simp only [Act.put, List.setIfInBounds_toArray, List.set_cons_zero, List.set_cons_succ, i64_w, i32_w]
                rfl
              refine pure_ (i := 15) (N := some 43) (v := ?_) (a' := ?_) #[true, true, true, true, true, true, true, true, true, true, true, true, true, true, true, true, false, false, false, false, false, false, false, false, false, false, false, false, false, false] rfl rfl (any_of HT_.out (by kernel_rfl)) (fun _ _ _ h => h) (Or.inl ⟨by rfl, ?_⟩) ?_ ?_
              rotate_left
              · intro w'
                go_simp
                with_reducible rfl
              rotate_left
              · simp only [Act.put, List.setIfInBounds_toArray, List.set_cons_zero, List.set_cons_succ, i64_w, i32_w]
                rfl
              refine pure_ (i := 16) (N := some 44) (v := ?_) (a' := ?_) #[true, true, true, true, true, true, true, true, true, true, true, true, true, true, true, true, true, false, false, false, false, false, false, false, false, false, false, false, false, false] rfl rfl (any_of HT_.out (by kernel_rfl)) (fun _ _ _ h => h) (Or.inl ⟨by rfl, ?_⟩) ?_ ?_
              rotate_left
              · intro w'
                go_simp
                with_reducible rfl
              rotate_left
              · simp only [Act.put, List.setIfInBounds_toArray, List.set_cons_zero, List.set_cons_succ, i64_w, i32_w]
                rfl
              refine pure_ (i := 17) (N := some 45) (v := ?_) (a' := ?_) #[true, true, true, true, true, true, true, true, true, true, true, true, true, true, true, true, true, true, false, false, false, false, false, false, false, false, false, false, false, false] rfl rfl (any_of HT_.out (by kernel_rfl)) (fun _ _ _ h => h) (Or.inl ⟨by rfl, ?_⟩) ?_ ?_
              rotate_left
              · intro w'
                go_simp
                with_reducible rfl
              rotate_left
              · simp only [Act.put, List.setIfInBounds_toArray, List.set_cons_zero, List.set_cons_succ, i64_w, i32_w]
                rfl
              refine pure_ (i := 18) (N := some 46) (v := ?_) (a' := ?_) #[true, true, true, true, true, true, true, true, true, true, true, true, true, true, true, true, true, true, true, false, false, false, false, false, false, false, false, false, false, false] rfl rfl (any_of HT_.out (by kernel_rfl)) (fun _ _ _ h => h) (Or.inl ⟨by rfl, ?_⟩) ?_ ?_
              rotate_left
              · intro w'
                go_simp
                with_reducible rfl
              rotate_left
              · simp only [Act.put, List.setIfInBounds_toArray, List.set_cons_zero, List.set_cons_succ, i64_w, i32_w]
                rfl
              refine pure_ (i := 19) (N := some 47) (v := ?_) (a' := ?_) #[true, true, true, true, true, true, true, true, true, true, true, true, true, true, true, true, true, true, true, true, false, false, false, false, false, false, false, false, false, false] rfl rfl (any_of HT_.out (by kernel_rfl)) (fun _ _ _ h => h) (Or.inl ⟨by rfl, ?_⟩) ?_ ?_
              rotate_left
              · intro w'
                go_simp
                with_reducible rfl
              rotate_left
              · simp only [Act.put, List.setIfInBounds_toArray, List.set_cons_zero, List.set_cons_succ, i64_w, i32_w]
                rfl
              refine pure_ (i := 20) (N := some 48) (v := ?_) (a' := ?_) #[true, true, true, true, true, true, true, true, true, true, true, true, true, true, true, true, true, true, true, true, true, false, false, false, false, false, false, false, false, false] rfl rfl (any_of HT_.out (by kernel_rfl)) (fun _ _ _ h => h) (Or.inl ⟨by rfl, ?_⟩) ?_ ?_
              rotate_left
              · intro w'
                go_simp
                with_reducible rfl
              rotate_left
              · simp only [Act.put, List.setIfInBounds_toArray, List.set_cons_zero, List.set_cons_succ, i64_w, i32_w]
                rfl
              refine pure_ (i := 21) (N := some 49) (v := ?_) (a' := ?_) #[true, true, true, true, true, true, true, true, true, true, true, true, true, true, true, true, true, true, true, true, true, true, false, false, false, false, false, false, false, false] rfl rfl (any_of HT_.out (by kernel_rfl)) (fun _ _ _ h => h) (Or.inl ⟨by rfl, ?_⟩) ?_ ?_
              rotate_left
              · intro w'
                go_simp
                with_reducible rfl
              rotate_left
              · simp only [Act.put, List.setIfInBounds_toArray, List.set_cons_zero, List.set_cons_succ, i64_w, i32_w]
                rfl
              refine pure_ (i := 22) (N := some 50) (v := ?_) (a' := ?_) #[true, true, true, true, true, true, true, true, true, true, true, true, true, true, true, true, true, true, true, true, true, true, true, false, false, false, false, false, false, false] rfl rfl (any_of HT_.out (by kernel_rfl)) (fun _ _ _ h => h) (Or.inl ⟨by rfl, ?_⟩) ?_ ?_
              rotate_left
              · intro w'
                go_simp
                with_reducible rfl
              rotate_left
              · simp only [Act.put, List.setIfInBounds_toArray, List.set_cons_zero, List.set_cons_succ, i64_w, i32_w]
                rfl
              refine pure_ (i := 23) (N := some 51) (v := ?_) (a' := ?_) #[true, true, true, true, true, true, true, true, true, true, true, true, true, true, true, true, true, true, true, true, true, true, true, true, false, false, false, false, false, false] rfl rfl (any_of HT_.out (by kernel_rfl)) (fun _ _ _ h => h) (Or.inl ⟨by rfl, ?_⟩) ?_ ?_
              rotate_left
              · intro w'
                go_simp
                with_reducible rfl
              rotate_left
              · simp only [Act.put, List.setIfInBounds_toArray, List.set_cons_zero, List.set_cons_succ, i64_w, i32_w]
                rfl
              refine pure_ (i := 24) (N := some 52) (v := ?_) (a' := ?_) #[true, true, true, true, true, true, true, true, true, true, true, true, true, true, true, true, true, true, true, true, true, true, true, true, true, false, false, false, false, false] rfl rfl (any_of HT_.out (by kernel_rfl)) (fun _ _ _ h => h) (Or.inl ⟨by rfl, ?_⟩) ?_ ?_
              rotate_left
              · intro w'
                go_simp
                with_reducible rfl
              rotate_left
              · simp only [Act.put, List.setIfInBounds_toArray, List.set_cons_zero, List.set_cons_succ, i64_w, i32_w]
                rfl
              refine pure_ (i := 25) (N := some 53) (v := ?_) (a' := ?_) #[true, true, true, true, true, true, true, true, true, true, true, true, true, true, true, true, true, true, true, true, true, true, true, true, true, true, false, false, false, false] rfl rfl (any_of HT_.out (by kernel_rfl)) (fun _ _ _ h => h) (Or.inl ⟨by rfl, ?_⟩) ?_ ?_
              rotate_left
              · intro w'
                go_simp
                with_reducible rfl
              rotate_left
              · simp only [Act.put, List.setIfInBounds_toArray, List.set_cons_zero, List.set_cons_succ, i64_w, i32_w]
                rfl
              refine pure_ (i := 26) (N := some 54) (v := ?_) (a' := ?_) #[true, true, true, true, true, true, true, true, true, true, true, true, true, true, true, true, true, true, true, true, true, true, true, true, true, true, true, false, false, false] rfl rfl (any_of HT_.out (by kernel_rfl)) (fun _ _ _ h => h) (Or.inl ⟨by rfl, ?_⟩) ?_ ?_
              rotate_left
              · intro w'
                go_simp
                with_reducible rfl
              rotate_left
              · simp only [Act.put, List.setIfInBounds_toArray, List.set_cons_zero, List.set_cons_succ, i64_w, i32_w]
                rfl
              refine pure_ (i := 27) (N := some 55) (v := ?_) (a' := ?_) #[true, true, true, true, true, true, true, true, true, true, true, true, true, true, true, true, true, true, true, true, true, true, true, true, true, true, true, true, false, false] rfl rfl (any_of HT_.out (by kernel_rfl)) (fun _ _ _ h => h) (Or.inl ⟨by rfl, ?_⟩) ?_ ?_
              rotate_left
              · intro w'
                go_simp
                with_reducible rfl
              rotate_left
              · simp only [Act.put, List.setIfInBounds_toArray, List.set_cons_zero, List.set_cons_succ, i64_w, i32_w]
                rfl
              refine pure_ (i := 28) (N := some 56) (v := ?_) (a' := ?_) #[true, true, true, true, true, true, true, true, true, true, true, true, true, true, true, true, true, true, true, true, true, true, true, true, true, true, true, true, true, false] rfl rfl (any_of HT_.out (by kernel_rfl)) (fun _ _ _ h => h) (Or.inl ⟨by rfl, ?_⟩) ?_ ?_
              rotate_left
              · intro w'
                go_simp
                with_reducible rfl
              rotate_left
              · simp only [Act.put, List.setIfInBounds_toArray, List.set_cons_zero, List.set_cons_succ, i64_w, i32_w]
                rfl
              refine pure_ (i := 29) (N := some 0) (v := ?_) (a' := ?_) #[true, true, true, true, true, true, true, true, true, true, true, true, true, true, true, true, true, true, true, true, true, true, true, true, true, true, true, true, true, true] rfl rfl (any_of HT_.out (by kernel_rfl)) (fun _ _ _ h => h) (Or.inl ⟨by rfl, ?_⟩) ?_ ?_
              rotate_left
              · intro w'
                go_simp
                with_reducible rfl
              rotate_left
              · simp only [Act.put, List.setIfInBounds_toArray, List.set_cons_zero, List.set_cons_succ, i64_w, i32_w]
                rfl
              refine done_ (done_of HT_.out (by kernel_rfl)) ?_
              try go_wp2
              go_ret
              exact ⟨by first | rfl | (simp [errW_none, errW_some] <;> rfl) | (simp [*, errW_none, errW_some] <;> rfl), by repeat (first | (with_reducible first | exact HB.out | apply below_alloc | apply pw_below_drewN | apply below_drew1 | refine below_set ?_ GE177.out | refine below_set ?_ GE185.out) | exact HB.out)⟩
            · rw [if_neg c16] at H
              exact absurd H (by simp)
          · rw [if_neg c15] at H
            exact absurd H (by simp)
        · rw [if_neg c14] at H
          exact absurd H (by simp)
      · rw [if_neg c13] at H
        exact absurd H (by simp)
    · rw [if_neg c11] at H
      exact absurd H (by simp)
  · replace c10 := Bool.eq_false_iff.mpr c10
    subst c10
    have H1 : (some false) = some true := by rw [if_neg (show ¬ (false = true) by decide)] at H; exact H
    exact absurd H1 (by simp)
end Go.Proofs.YtcakednecmngdaaDoor.Q
