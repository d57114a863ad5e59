/-
  Plain facts on octets and lists, with no program in sight: what a label is, the parts of a text between one octet, and what a search for the first rune that is no label's octet says.
  Conditions: none.
-/
import Derived.Lib.DecodeN
import Derived.Shelf.GgClosure.StringsIndexFunc
namespace Go.Proofs.YtcakednecmngdaaDoor.Plain
open Go

/-- May a rune be in a label? -/
def octR (r : Nat) : Bool := (decide (97 ≤ r) && decide (r ≤ 122)) || (decide (48 ≤ r) && decide (r ≤ 57)) || decide (r = 45)
def oct (b : UInt8) : Bool := octR b.toNat

/-- Is it a label? -/
def labelL (l : List UInt8) : Bool := !l.isEmpty && decide (l.length ≤ 20) && l.all oct && !(l.head? == some 45) && !(l.getLast? == some 45)

/-- The parts between one octet. -/
def parts (c : UInt8) : List UInt8 → List (List UInt8)
  | [] => [[]]
  | b :: l => if b = c then [] :: parts c l else (b :: (parts c l).headD []) :: (parts c l).tail

def nameL (l : List UInt8) : Bool := decide (l.length ≤ 60) && (parts 46 l).all labelL

/-- A list of octets as a text. -/
def txt (l : List UInt8) : ByteArray := ⟨l.toArray⟩
@[simp] theorem txt_data (l : List UInt8) : (txt l).data.toList = l := by simp [txt]
theorem txt_of (s : ByteArray) : txt s.data.toList = s := by cases s; simp [txt]
@[simp] theorem txt_size (l : List UInt8) : (txt l).size = l.length := by simp [txt, ByteArray.size]
theorem txt_inj {a b : List UInt8} (h : txt a = txt b) : a = b := by rw [← txt_data a, ← txt_data b, h]

def labelB (s : ByteArray) : Bool := labelL s.data.toList
def nameB (s : ByteArray) : Bool := nameL s.data.toList
def partsB (c : UInt8) (s : ByteArray) : List ByteArray := (parts c s.data.toList).map txt

/-! ### the parts -/
theorem parts_ne (c : UInt8) (l : List UInt8) : parts c l ≠ [] := by cases l with
  | nil => simp [parts]
  | cons b l => simp only [parts]; split <;> simp
theorem parts_none {c : UInt8} {l : List UInt8} (h : c ∉ l) : parts c l = [l] := by
  induction l with
  | nil => rfl
  | cons b l ih =>
    simp only [List.mem_cons, not_or] at h
    rw [parts, if_neg (Ne.symm h.1), ih h.2]; rfl
theorem parts_split {c : UInt8} (a b : List UInt8) (h : c ∉ a) : parts c (a ++ c :: b) = a :: parts c b := by
  induction a with
  | nil => simp [parts]
  | cons x a ih =>
    simp only [List.mem_cons, not_or] at h
    rw [List.cons_append, parts, if_neg (Ne.symm h.1), ih h.2]; rfl
/-- A text is its parts, joined. -/
def join (c : UInt8) : List (List UInt8) → List UInt8
  | [] => []
  | [l] => l
  | l :: m :: r => l ++ c :: join c (m :: r)
theorem join_cons {c : UInt8} {l : List UInt8} {r : List (List UInt8)} (h : r ≠ []) : join c (l :: r) = l ++ c :: join c r := by
  cases r with
  | nil => exact absurd rfl h
  | cons m r => rfl
theorem join_parts (c : UInt8) (l : List UInt8) : join c (parts c l) = l := by
  induction l with
  | nil => rfl
  | cons b l ih =>
    rw [parts]
    split
    · next h => rw [join_cons (parts_ne c l), ih, h]; rfl
    · obtain ⟨p, r, e⟩ : ∃ p r, parts c l = p :: r := by cases h : parts c l with | nil => exact absurd h (parts_ne c l) | cons p r => exact ⟨p, r, rfl⟩
      rw [e] at ih ⊢
      cases r with
      | nil => simpa [join] using ih
      | cons m r => rw [← ih]; rfl
theorem parts_free {c : UInt8} {l p : List UInt8} (h : p ∈ parts c l) : c ∉ p := by
  induction l generalizing p with
  | nil => simp [parts] at h; simp [h]
  | cons b l ih =>
    rw [parts] at h
    split at h
    · next hb =>
      rcases List.mem_cons.1 h with rfl | h
      · simp
      · exact ih h
    · next hb =>
      obtain ⟨q, r, e⟩ : ∃ q r, parts c l = q :: r := by cases h : parts c l with | nil => exact absurd h (parts_ne c l) | cons p r => exact ⟨p, r, rfl⟩
      rw [e] at h ih
      rcases List.mem_cons.1 h with rfl | h
      · have := ih (p := q) (by simp)
        simp only [List.headD_cons, List.mem_cons, not_or]
        exact ⟨fun h => hb h.symm, this⟩
      · exact ih (List.mem_cons_of_mem _ h)
theorem parts_join {c : UInt8} {r : List (List UInt8)} (hne : r ≠ []) (h : ∀ p ∈ r, c ∉ p) : parts c (join c r) = r := by
  induction r with
  | nil => exact absurd rfl hne
  | cons p r ih =>
    cases r with
    | nil => exact parts_none (h p (by simp))
    | cons m r => rw [join_cons (by simp), parts_split _ _ (h p (by simp)), ih (by simp) (fun q hq => h q (List.mem_cons_of_mem _ hq))]
theorem parts_append {c : UInt8} (a b : List UInt8) : parts c (a ++ c :: b) = parts c a ++ parts c b := by
  induction a with
  | nil => simp [parts]
  | cons x a ih =>
    rw [List.cons_append, parts, parts]
    split
    · rw [ih]; rfl
    · rw [ih]
      obtain ⟨q, r, e⟩ : ∃ q r, parts c a = q :: r := by cases h : parts c a with | nil => exact absurd h (parts_ne c a) | cons p r => exact ⟨p, r, rfl⟩
      rw [e]; rfl

/-! ### the search for a rune that is no label's octet -/
theorem decodeN_big {n b0 b1 b2 b3 : Nat} (h : ¬ b0 < 128) : 128 ≤ (Lib.decodeN n b0 b1 b2 b3).1 := by
  unfold Lib.decodeN
  rw [if_neg h]
  repeat' split
  all_goals (simp only []; omega)
theorem octR_small {r : Nat} (h : octR r = true) : r < 128 := by
  simp only [octR, Bool.or_eq_true, Bool.and_eq_true, decide_eq_true_eq] at h
  omega
theorem get_at (s : ByteArray) (i : Nat) (h : i < s.size) : s.get! i = s.data.toList[i]'(by simpa using h) := by
  cases s with | mk d => simp [ByteArray.get!] at *; rw [getElem!_pos d i h]
theorem idx_from (s : ByteArray) : ∀ (f pos : Nat), s.size ≤ pos + f → (Lib.idxFuncFrom (fun r => !octR r) true s f pos < 0 ↔ ∀ b ∈ s.data.toList.drop pos, oct b = true) := by
  intro f
  induction f with
  | zero =>
    intro pos h
    rw [List.drop_eq_nil_of_le (by simpa using h)]
    simp [Lib.idxFuncFrom]
  | succ f ih =>
    intro pos h
    rw [Lib.idxFuncFrom]
    by_cases hp : pos < s.size
    · rw [if_pos hp, List.drop_eq_getElem_cons (by simpa using hp), ← get_at s pos hp, Lib.decode_at]
      by_cases hb : (s.get! pos).toNat < 128
      · have e : Lib.decodeN (s.size - pos) (s.get! pos).toNat (s.get! (pos + 1)).toNat (s.get! (pos + 2)).toNat (s.get! (pos + 3)).toNat = ((s.get! pos).toNat, 1) := by simp [Lib.decodeN, hb]
        rw [e]
        cases ho : octR (s.get! pos).toNat with
        | true =>
          simp only [Bool.not_true, Bool.false_eq_true, if_false]
          rw [ih (pos + 1) (by omega)]
          simp [oct, ho]
        | false =>
          simp only [Bool.not_false, if_true]
          constructor
          · intro h; omega
          · intro h; have := h _ (List.mem_cons_self); rw [oct, ho] at this; cases this
      · have hbig := decodeN_big (n := s.size - pos) (b1 := (s.get! (pos + 1)).toNat) (b2 := (s.get! (pos + 2)).toNat) (b3 := (s.get! (pos + 3)).toNat) hb
        have ho : octR (Lib.decodeN (s.size - pos) (s.get! pos).toNat (s.get! (pos + 1)).toNat (s.get! (pos + 2)).toNat (s.get! (pos + 3)).toNat).1 = false := by
          cases h : octR _ with
          | false => rfl
          | true => have := octR_small h; omega
        simp only [ho, Bool.not_false, if_true]
        constructor
        · intro h; omega
        · intro h
          have := octR_small (h _ (List.mem_cons_self)); omega
    · rw [if_neg hp, List.drop_eq_nil_of_le (by simpa using hp)]
      simp
theorem idx_neg (s : ByteArray) : (Lib.idxFunc (fun r => !octR r) true s < 0) ↔ s.data.toList.all oct = true := by
  rw [Lib.idxFunc, idx_from s s.size 0 (by omega), List.drop_zero, List.all_eq_true]

end Go.Proofs.YtcakednecmngdaaDoor.Plain
