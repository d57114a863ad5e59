/-
  Plain laws of keys: a space (or none), a slash and a name; the program's and the document's Key and Cut.
  Conditions: texts of at most 1000 octets.
-/
import Derived.Test.YtcakednecmngdaaDoorP7
import Derived.Test.YtcakednecmngdaaDoorDnsPure2
namespace Go.Proofs.YtcakednecmngdaaDoor.DnsPure
open Go Go.RowKit Go.Proofs.YtcakednecmngdaaDoor.P Go.Proofs.YtcakednecmngdaaDoorW.PrintWords Go.Proofs.YtcakednecmngdaaDoor.Plain

def keyOk (a b : ByteArray) : Bool := (a.data.toList.isEmpty || labelB a) && nameB b
def keyB (a b : ByteArray) : ByteArray := a ++ (⟨#[47]⟩ : ByteArray) ++ b
def none' : ByteArray := ⟨#[]⟩

theorem empty_iff (a : ByteArray) : (a.toList = ([] : List UInt8)) ↔ a.data.toList.isEmpty = true := by rw [Lib.toList_data]; simp
theorem key_eq (a b : ByteArray) (ha : a.size ≤ 1000) (hb : b.size ≤ 1000) : dns_Key.f a b = some (if keyOk a b = true then (keyB a b, 0) else (none', 1)) := by
  unfold dns_Key.f dns_Name.f dns_Label.f keyOk
  simp only [Option.bind_some, empty_iff]
  rw [if_pos (show a.size + 1 ≤ 9223372036854775807 by omega), if_pos (show (a ++ (⟨#[47]⟩ : ByteArray)).size + b.size ≤ 9223372036854775807 by rw [size_one]; omega)]
  cases a.data.toList.isEmpty <;> cases labelB a <;> cases nameB b <;> rfl
theorem Key (a b : ByteArray) (ha : a.size ≤ 1000) (hb : b.size ≤ 1000) : Ev (fun k => tollref01_Key.f k a b) (if keyOk a b = true then (keyB a b, true) else (none', false)) := by
  unfold tollref01_Key.f keyOk
  simp only [empty_iff]
  rw [if_pos (show a.size + 1 ≤ 9223372036854775807 by omega), if_pos (show (a ++ (⟨#[47]⟩ : ByteArray)).size + b.size ≤ 9223372036854775807 by rw [size_one]; omega)]
  cases a.data.toList.isEmpty with
  | true =>
    refine ev_pos rfl (Ev.bind (Name b hb) ?_)
    cases nameB b with
    | true => exact ev_pos rfl (Ev.now _)
    | false => exact ev_neg (by simp) (Ev.now _)
  | false =>
    refine ev_neg (by simp) (Ev.bind (Label a (by omega)) ?_)
    cases labelB a with
    | false => exact ev_neg (by simp) (Ev.now _)
    | true =>
      refine ev_pos rfl (Ev.bind (Name b hb) ?_)
      cases nameB b with
      | true => exact ev_pos rfl (Ev.now _)
      | false => exact ev_neg (by simp) (Ev.now _)

/-! ### the first slash -/
theorem index_split {c : UInt8} (a b : List UInt8) (h : c ∉ a) : Lib.indexByte (a ++ c :: b) c = (a.length : Int) := by
  induction a with
  | nil => simp [Lib.indexByte]
  | cons x a ih =>
    simp only [List.mem_cons, not_or] at h
    rw [List.cons_append, Lib.indexByte, if_neg (fun z => h.1 (eq_of_beq z).symm), ih h.2, List.length_cons]
    simp <;> omega
theorem index_no {c : UInt8} (l : List UInt8) (h : c ∉ l) : Lib.indexByte l c = -1 := by
  induction l with
  | nil => rfl
  | cons x l ih =>
    simp only [List.mem_cons, not_or] at h
    rw [Lib.indexByte, if_neg (fun z => h.1 (eq_of_beq z).symm), ih h.2]
    rfl
theorem one_of (c : UInt8) : oneOf (⟨#[c]⟩ : ByteArray) = some c := rfl
theorem first_split {c : UInt8} {l : List UInt8} (h : c ∈ l) : ∃ a b, l = a ++ c :: b ∧ c ∉ a := by
  obtain ⟨a, b, e, hn⟩ := List.eq_append_cons_of_mem h
  exact ⟨a, b, e, hn⟩
theorem cut_no (s : ByteArray) (h : (47 : UInt8) ∉ s.data.toList) : strings_Cut.f s (⟨#[47]⟩ : ByteArray) = some (s, none', false) := by
  unfold strings_Cut.f stringslite_Cut.f stringslite_Index.f
  rw [one_of, Option.map_some, Option.bind_some, index_no _ h, if_neg (by decide)]
  rfl
theorem cut_at (s : ByteArray) (hs : s.size ≤ 1000) (a b : List UInt8) (e : s.data.toList = a ++ 47 :: b) (h : (47 : UInt8) ∉ a) : strings_Cut.f s (⟨#[47]⟩ : ByteArray) = some (txt a, txt b, true) := by
  have hz : s.size = a.length + (b.length + 1) := by rw [Lib.size_eq, e]; simp
  have e1 : wrap64 ((a.length : Int) + (((⟨#[47]⟩ : ByteArray).size : Nat) : Int)) = ((a.length + 1 : Nat) : Int) := by
    show wrap64 ((a.length : Int) + 1) = _
    rw [wrap_in (by omega) (by omega)]; omega
  unfold strings_Cut.f stringslite_Cut.f stringslite_Index.f
  rw [one_of, Option.map_some, Option.bind_some, e, index_split _ _ h, e1, if_pos (by omega), if_pos (by omega), if_pos (by omega), if_pos (by omega), if_pos (by omega), Option.bind_some]
  have x1 : s.extract 0 ((a.length : Nat) : Int).toNat = txt a := by
    rw [← txt_of (s.extract _ _), Lib.extract_data, e]
    simp
  have x2 : s.extract (((a.length + 1 : Nat) : Int)).toNat s.size = txt b := by
    rw [← txt_of (s.extract _ _), Lib.extract_data, e, hz]
    have : (((a.length + 1 : Nat) : Int)).toNat = a.length + 1 := by omega
    rw [this, List.drop_append, List.drop_eq_nil_of_le (by omega)]
    simp only [List.nil_append]
    rw [show a.length + 1 - a.length = 1 by omega, List.drop_one, List.tail_cons, List.take_of_length_le (by omega)]
  rw [x1, x2]

/-- What a key's cut answers. -/
def cutB (s : ByteArray) : Option (ByteArray × ByteArray) := match partsB 47 s with
  | [a, b] => if keyOk a b = true then some (a, b) else none
  | _ => none
theorem keyB_data (a b : ByteArray) : (keyB a b).data.toList = a.data.toList ++ 47 :: b.data.toList := by simp [keyB]
theorem cut_eq (s : ByteArray) (hs : s.size ≤ 1000) : dns_Cut.f s = some (match cutB s with | some p => (p.1, p.2, 0) | none => (none', none', 2)) := by
  unfold dns_Cut.f cutB partsB
  by_cases hm : (47 : UInt8) ∈ s.data.toList
  · obtain ⟨a, b, e, hn⟩ := first_split hm
    have hz : s.size = a.length + (b.length + 1) := by rw [Lib.size_eq, e]; simp
    rw [cut_at s hs a b e hn, Option.bind_some]
    simp only
    rw [key_eq _ _ (by rw [txt_size]; omega) (by rw [txt_size]; omega), Option.bind_some, e, parts_split _ _ hn]
    have hk : keyB (txt a) (txt b) = s := by
      rw [← txt_of (keyB _ _), keyB_data, txt_data, txt_data, ← e, txt_of]
    by_cases hb : (47 : UInt8) ∈ b
    · have hko : keyOk (txt a) (txt b) = false := by
        unfold keyOk nameB
        rw [txt_data, txt_data]
        cases h : nameL b with
        | false => simp
        | true => exact absurd hb (name_no_slash h)
      obtain ⟨c, d, e', hn'⟩ := first_split hb
      rw [hko, e', parts_split _ _ hn']
      obtain ⟨p, ps, hp⟩ : ∃ p ps, parts 47 d = p :: ps := by
        cases h : parts 47 d with
        | nil => exact absurd h (parts_ne _ _)
        | cons p ps => exact ⟨p, ps, rfl⟩
      rw [hp]
      rfl
    · rw [parts_none hb]
      simp only [List.map_cons, List.map_nil]
      cases keyOk (txt a) (txt b) with
      | false => rfl
      | true =>
        simp only [if_true]
        rw [hk, if_pos rfl]
  · rw [cut_no s hm, Option.bind_some, parts_none hm]
    simp only
    rw [key_eq _ _ hs (by simp [none', ByteArray.size]), Option.bind_some]
    have : keyOk s none' = false := by
      unfold keyOk
      rw [show nameB none' = false by decide, Bool.and_false]
    rw [this]
    rfl
theorem Cut (s : ByteArray) (hs : s.size ≤ 1000) : Ev (fun k => tollref01_Cut.f k s) (match cutB s with | some p => (p.1, p.2, true) | none => (none', none', false)) := by
  unfold tollref01_Cut.f
  refine Ev.bind (Split s 47 hs) ?_
  unfold cutB
  have hle : ∀ p ∈ partsB 47 s, p.size ≤ 1000 := fun p hp => by have := partsB_le hp; omega
  match h : partsB 47 s with
  | [] => exact absurd h (by simp [partsB, parts_ne])
  | [a] => exact ev_neg (by simp) (Ev.now _)
  | a :: b :: c :: l => exact ev_neg (by simp only [List.length_cons]; omega) (Ev.now _)
  | [a, b] =>
    rw [h] at hle
    have ha := hle a (by simp)
    have hb := hle b (by simp)
    refine ev_pos (by simp) (ev_pos (by simp) ?_)
    have r0 : rdOf ByteArray.empty [a, b] 0 = a := rd_at [a, b] 0 (by simp)
    have r1 : rdOf ByteArray.empty [a, b] 1 = b := rd_at [a, b] 1 (by simp)
    simp only [r0, r1, empty_iff]
    unfold keyOk
    cases a.data.toList.isEmpty with
    | true =>
      refine ev_pos rfl (ev_pos (by simp) (Ev.bind (Name b hb) ?_))
      cases nameB b with
      | true => exact ev_pos rfl (Ev.now _)
      | false => exact ev_neg (by simp) (Ev.now _)
    | false =>
      refine ev_neg (by simp) (Ev.bind (Label a (by omega)) ?_)
      cases labelB a with
      | false => exact ev_neg (by simp) (Ev.now _)
      | true =>
        refine ev_pos rfl (ev_pos (by simp) (Ev.bind (Name b hb) ?_))
        cases nameB b with
        | true => exact ev_pos rfl (Ev.now _)
        | false => exact ev_neg (by simp) (Ev.now _)
theorem cut_key (a b : ByteArray) (h : keyOk a b = true) : cutB (keyB a b) = some (a, b) := by
  unfold cutB partsB
  have hb : nameB b = true := by unfold keyOk at h; simp at h; exact h.2
  have ha : (47 : UInt8) ∉ a.data.toList := by
    unfold keyOk at h
    simp only [Bool.and_eq_true, Bool.or_eq_true] at h
    rcases h.1 with h | h
    · rw [List.isEmpty_iff] at h; rw [h]; simp
    · exact (label_no_dot h).2.1
  rw [keyB_data, parts_split _ _ ha, parts_none (name_no_slash hb)]
  simp only [List.map_cons, List.map_nil, txt_of]
  rw [if_pos h]

end Go.Proofs.YtcakednecmngdaaDoor.DnsPure
