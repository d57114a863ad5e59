/-
  What the dns package's functions and the searches of strings for one octet hand back, as plain functions, with their contracts, in the form that the printed texts ask of a callee.
  Conditions: a text that is sought is of one octet; a text is shorter than 4294967281 octets where Split reads it.
-/
import Derived.Test.YtcakednecmngdaaDoorDns
import Derived.Test.YtcakednecmngdaaDoorFold
import Derived.Test.YtcakednecmngdaaDoorShelf
import Derived.Test.YtcakednecmngdaaDoorWWords
import Derived.Test.YtcakednecmngdaaDoorWRepsOne
namespace Go.Proofs.YtcakednecmngdaaDoor.P
open Go Go.RowKit Go.Proofs.YtcakednecmngdaaDoorW.PrintWords Go.Proofs.YtcakednecmngdaaDoor.Plain
set_option maxRecDepth 100000

theorem drawn0_of {w w' : World} (h : w' = w) : Drawn0 w w' := by rw [h]; exact Drawn0.refl _

/-- The one octet of a text that has just one. -/
def oneOf (a : ByteArray) : Option UInt8 := match a.data.toList with
  | [c] => some c
  | _ => none
theorem oneOf_some {a : ByteArray} {c : UInt8} (h : oneOf a = some c) : a = ⟨#[c]⟩ := by
  obtain ⟨⟨l⟩⟩ := a
  match l, h with
  | [x], h => simp [oneOf] at h; rw [h]

def stringslite_Index.f (a0 a1 : ByteArray) : Option Int := (oneOf a1).map fun c => Lib.indexByte a0.data.toList c
theorem stringslite_Index.calls (a0 a1 : ByteArray) (r : Int) (w : World) (h : stringslite_Index.f a0 a1 = some r) :
    Calls Tryd.prog 154 #[.string a0, .string a1] w fun e w' => e = .returned (.int .i64 r) ∧ Drawn0 w w' := by
  obtain ⟨c, hc, rfl⟩ := Option.map_eq_some_iff.1 h
  rw [oneOf_some hc]
  exact (Tryd.stringslite_Index_one a0 c w).mono fun e w' h => ⟨h.1, drawn0_of h.2⟩

def strings_IndexByte.f (a0 : ByteArray) (a1 : Int) : Option Int := some (Lib.indexByte a0.data.toList a1.toNat.toUInt8)
theorem strings_IndexByte.calls (a0 : ByteArray) (a1 : Int) (r : Int) (w : World) (h : strings_IndexByte.f a0 a1 = some r) :
    Calls Tryd.prog 118 #[.string a0, .int .u8 a1] w fun e w' => e = .returned (.int .i64 r) ∧ Drawn0 w w' := by
  obtain rfl := Option.some.inj h
  exact (Tryd.strings_IndexByte a0 a1 w).mono fun e w' h => ⟨h.1, drawn0_of h.2⟩

def dns_Label.f (a0 : ByteArray) : Option Bool := some (labelB a0)
theorem dns_Label.calls (a0 : ByteArray) (r : Bool) (w : World) (h : dns_Label.f a0 = some r) :
    Calls Tryd.prog 35 #[.string a0] w fun e w' => e = .returned (.bool r) ∧ Below w.heap.size w w' := by
  obtain rfl := Option.some.inj h
  exact Dns.Label a0 w

def dns_Name.f (a0 : ByteArray) : Option Bool := some (nameB a0)
theorem dns_Name.calls (a0 : ByteArray) (r : Bool) (w : World) (h : dns_Name.f a0 = some r) :
    Calls Tryd.prog 34 #[.string a0] w fun e w' => e = .returned (.bool r) ∧ Below w.heap.size w w' := by
  obtain rfl := Option.some.inj h
  exact Dns.Name a0 w

def dns_Fold.f (a0 : ByteArray) : Option ByteArray := if a0.size ≤ 140737488355328 then some (txt (Fold.foldL a0.data.toList)) else none
theorem dns_Fold.calls (a0 : ByteArray) (r : ByteArray) (w : World) (h : dns_Fold.f a0 = some r) :
    Calls Tryd.prog 49 #[.string a0] w fun e w' => e = .returned (.string r) ∧ Below w.heap.size w w' := by
  unfold dns_Fold.f at h
  split at h
  · next hs =>
    obtain rfl := Option.some.inj h
    exact Fold.Fold a0 w (by omega)
  · cases h

/-! ### strings.Split at one octet -/
theorem countB_one (s : ByteArray) (c : UInt8) : Lib.countB s ⟨#[c]⟩ + 1 = (parts c s.data.toList).length := by
  have e : Lib.countB s ⟨#[c]⟩ = s.data.toList.count c := by
    show Lib.count s.data.toList [c] = _
    exact Lib.count_one c _
  rw [e]
  induction s.data.toList with
  | nil => rfl
  | cons b l ih =>
    rw [parts]
    by_cases h : b = c
    · rw [if_pos h, h, List.count_cons_self, List.length_cons, ih]
    · rw [if_neg h, List.count_cons_of_ne h, ih, List.length_cons, List.length_tail]
      have := List.length_pos_iff.2 (parts_ne c l)
      omega
theorem indexB_one (s : ByteArray) (c : UInt8) : Lib.indexB s ⟨#[c]⟩ = Lib.indexByte s.data.toList c := by
  have h := Lib.one s ⟨#[c]⟩ rfl
  have e : ((c.toNat : Nat) : Int).toNat.toUInt8 = c := by simp
  rw [h]
  exact congrArg _ e
theorem splitB_one (c : UInt8) : ∀ (k : Nat) (s : ByteArray), (partsB c s).length = k + 1 → Lib.splitB ⟨#[c]⟩ 0 k s = partsB c s := by
  intro k
  induction k with
  | zero =>
    intro s h
    by_cases hi : Lib.indexByte s.data.toList c = -1
    · rw [Split.partsB_none hi]; rfl
    · obtain ⟨o, ho⟩ : ∃ o : Nat, Lib.indexByte s.data.toList c = o := ⟨(Lib.indexByte s.data.toList c).toNat, by have := Lib.indexByte_ge s.data.toList c; omega⟩
      obtain ⟨_, e⟩ := Split.partsB_some ho
      rw [e, List.length_cons] at h
      have : partsB c (s.extract (o + 1) s.size) ≠ [] := by simp [partsB, parts_ne]
      have := List.length_pos_iff.2 this
      omega
  | succ k ih =>
    intro s h
    by_cases hi : Lib.indexByte s.data.toList c = -1
    · rw [Split.partsB_none hi] at h; simp at h
    · obtain ⟨o, ho⟩ : ∃ o : Nat, Lib.indexByte s.data.toList c = o := ⟨(Lib.indexByte s.data.toList c).toNat, by have := Lib.indexByte_ge s.data.toList c; omega⟩
      obtain ⟨_, e⟩ := Split.partsB_some ho
      have hB : Lib.indexB s ⟨#[c]⟩ = o := by rw [← ho]; exact indexB_one s c
      rw [Lib.splitB_hit _ _ _ _ o hB, e]
      rw [e, List.length_cons] at h
      rw [← ih (s.extract (o + 1) s.size) (by omega)]
      rfl

def strings_Split.f (a0 a1 : ByteArray) : Option (List ByteArray) := if a0.size < 4294967281 then (oneOf a1).map fun c => partsB c a0 else none
theorem Split_one (s : ByteArray) (c : UInt8) (w : World) (hs : s.size < 4294967281) :
    Calls Tryd.prog 93 #[.string s, .string ⟨#[c]⟩] w fun e w' => e = .returned (.slice (some ⟨w.heap.size, 0, none⟩) (partsB c s).length (partsB c s).length) ∧ w' = w.alloc (.cells ((partsB c s).map Value.string).toArray 9) := by
  have hlen : Lib.countB s ⟨#[c]⟩ + 1 = (partsB c s).length := by rw [countB_one, partsB, List.length_map]
  have hle := Lib.countB_le ⟨#[c]⟩ (Nat.le_refl 1) s.size s (Nat.le_refl _)
  have hC := Any.strings_genSplit_core Tryd.lays221 (by kernel_rfl) s ⟨#[c]⟩ 0 (-1) (Lib.countB s ⟨#[c]⟩ + 1) w hs (Nat.le_refl 1) (Nat.zero_le _)
    (fun x C hx => by
      refine (Tryd.strings_Index_one x c _).mono fun e w' h => ⟨?_, h.2⟩
      rw [h.1]
      congr 2
      exact (indexB_one x c).symm)
    (by
      refine (Tryd.strings_Count_one s c w).mono fun e w' h => ⟨?_, h.2⟩
      rw [h.1]
      congr 3
      exact (Lib.count_one c _).symm)
    (by decide) (by decide) (by rw [if_pos (by decide)]; omega)
  rw [Nat.add_sub_cancel, splitB_one c _ s hlen.symm] at hC
  have e2 : Lib.cellsOf (partsB c s) (Lib.countB s ⟨#[c]⟩ + 1) = ((partsB c s).map Value.string).toArray := by rw [hlen]; exact Lib.cellsOf_full _
  rw [e2, hlen] at hC
  change Calls Tryd.prog 125 _ _ _ at hC
  go_enter Tryd.func93, Tryd.ntmps93
  go_wp2_with (go_at_call 125; refine hC.mono ?_; rintro e w' ⟨rfl, rfl⟩)
  go_ret
  exact ⟨rfl, rfl⟩

theorem reps_strings (w : World) (base : Nat) (ok : Nat → Prop) : ∀ l : List ByteArray, Reps (Kd.string.M w base ok) 1 l (l.map Value.string)
  | [] => Reps.none _ _
  | _ :: l => Reps.one rfl (reps_strings w base ok l)
/-- A fresh row of texts. -/
theorem row_strings (W : World) (l : List ByteArray) (t : Nat) (hl : l.length ≤ 9223372036854775807) :
    Kd.R Kd.string t (W.alloc (.cells (l.map Value.string).toArray t)) W.heap.size (fun _ => True) (.slice (some ⟨W.heap.size, 0, none⟩) l.length l.length) l :=
  ⟨fun _ _ => trivial, OwnRow.lit W W.heap.size (reps_strings _ _ _ l) (Nat.le_refl _) hl⟩

theorem strings_Split.calls (a0 a1 : ByteArray) (r : List ByteArray) (w : World) (h : strings_Split.f a0 a1 = some r) :
    Calls Tryd.prog 93 #[.string a0, .string a1] w fun e w' => ∃ v0_ : Value, e = .returned (v0_) ∧ Kd.R Kd.string 9 w' w.heap.size (fun _ => True) v0_ r ∧ Below w.heap.size w w' := by
  unfold strings_Split.f at h
  split at h
  · next hs =>
    obtain ⟨c, hc, rfl⟩ := Option.map_eq_some_iff.1 h
    rw [oneOf_some hc]
    refine (Split_one a0 c w hs).mono ?_
    rintro e w' ⟨rfl, rfl⟩
    have hle := Lib.countB_le ⟨#[c]⟩ (Nat.le_refl 1) a0.size a0 (Nat.le_refl _)
    have hlen : Lib.countB a0 ⟨#[c]⟩ + 1 = (partsB c a0).length := by rw [countB_one, partsB, List.length_map]
    exact ⟨_, rfl, row_strings w _ _ (by omega), (Below.refl _ _).alloc (Nat.le_refl _) _⟩
  · cases h

end Go.Proofs.YtcakednecmngdaaDoor.P
