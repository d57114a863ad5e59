/-
  What the document's Label and Name come to.
  Conditions: as each theorem states them.
-/
import Derived.Test.YtcakednecmngdaaDoorBaseSplit
import Derived.Test.YtcakednecmngdaaDoorPf47
import Derived.Test.YtcakednecmngdaaDoorPf45
namespace Go.Proofs.YtcakednecmngdaaDoor.DnsPure
open Go Go.RowKit Go.Proofs.YtcakednecmngdaaDoor.P Go.Proofs.YtcakednecmngdaaDoorW.PrintWords Go.Proofs.YtcakednecmngdaaDoor.Plain

/-! ### tollref01.Label -/
def okI (s : ByteArray) (j : Int) : Prop := (97 ≤ bt s j ∧ bt s j ≤ 122) ∨ (48 ≤ bt s j ∧ bt s j ≤ 57) ∨ (bt s j = 45 ∧ j ≠ 0 ∧ j ≠ (s.size : Int) - 1)

theorem labelB_iff (s : ByteArray) : labelB s = true ↔ 1 ≤ s.size ∧ s.size ≤ 20 ∧ ∀ j : Nat, j < s.size → okI s j := by
  by_cases h0 : 0 < s.size
  · rw [Dns.labelB_eq s h0]
    simp only [Bool.and_eq_true, decide_eq_true_eq, idx_neg, List.all_eq_true, Bool.not_eq_true', beq_eq_false_iff_ne]
    constructor
    · rintro ⟨⟨⟨h1, h2⟩, h3⟩, h4⟩
      refine ⟨h0, h1, fun j hj => ?_⟩
      have hb := h2 _ (List.getElem_mem (show j < s.data.toList.length by simpa using hj))
      have e := bt_list s j hj
      unfold okI
      rw [e]
      simp only [oct, octR, Bool.or_eq_true, Bool.and_eq_true, decide_eq_true_eq] at hb
      have e0 : j = 0 → (s.data.toList[j]'(by simpa using hj)).toNat ≠ 45 := by rintro rfl; exact h3
      have e1 : j = s.size - 1 → (s.data.toList[j]'(by simpa using hj)).toNat ≠ 45 := by rintro rfl; exact h4
      omega
    · rintro ⟨_, h1, h2⟩
      refine ⟨⟨⟨h1, fun b hb => ?_⟩, ?_⟩, ?_⟩
      · obtain ⟨j, hj, rfl⟩ := List.getElem_of_mem hb
        have hj' : j < s.size := by simpa using hj
        have := h2 j hj'
        unfold okI at this
        rw [bt_list s j hj'] at this
        simp only [oct, octR, Bool.or_eq_true, Bool.and_eq_true, decide_eq_true_eq]
        omega
      · have := h2 0 h0
        unfold okI at this
        rw [bt_list s 0 h0] at this
        intro e
        have e' : (s.data.toList[0]'(by simpa using h0)).toNat = 45 := e
        omega
      · have := h2 (s.size - 1) (by omega)
        unfold okI at this
        rw [bt_list s (s.size - 1) (by omega)] at this
        intro e
        have e' : (s.data.toList[s.size - 1]'(by simp; omega)).toNat = 45 := e
        omega
  · have : s.toList = [] := by rw [Lib.toList_data]; rw [Lib.size_eq] at h0; exact List.length_eq_zero_iff.1 (by omega)
    rw [Dns.labelB_none this]
    simp; omega

theorem label_ok (s : ByteArray) (i : Int) (h0 : 0 ≤ i) (h1 : i < s.size) (hn : s.size ≤ 140737488351232) (h : okI s i) (k : Nat) : tollref01_Label.l0 (k + 1) s i = tollref01_Label.l0 k s (i + 1) := by
  have e1 : wrap64 (i + 1) = i + 1 := wrap_in (by omega) (by omega)
  have e2 : wrap64 ((s.size : Int) - 1) = (s.size : Int) - 1 := wrap_in (by omega) (by omega)
  unfold okI at h
  simp only [tollref01_Label.l0, e1, e2]
  rw [if_pos h1, if_pos h0]
  repeat' split
  all_goals first | rfl | (exfalso; omega)
theorem label_no (s : ByteArray) (i : Int) (h0 : 0 ≤ i) (h1 : i < s.size) (hn : s.size ≤ 140737488351232) (h : ¬ okI s i) (k : Nat) : tollref01_Label.l0 (k + 1) s i = some false := by
  have e2 : wrap64 ((s.size : Int) - 1) = (s.size : Int) - 1 := wrap_in (by omega) (by omega)
  unfold okI at h
  simp only [tollref01_Label.l0, e2]
  rw [if_pos h1, if_pos h0]
  repeat' split
  all_goals first | rfl | (exfalso; omega)
theorem label_from (s : ByteArray) (hn : s.size ≤ 140737488351232) : ∀ (d i : Nat), s.size = i + d → (∀ j : Nat, j < i → okI s j) → Ev (fun k => tollref01_Label.l0 k s i) (labelB s) := by
  intro d
  induction d with
  | zero =>
    intro i hd hall
    refine Ev.step (f := fun _ => some (labelB s)) (fun k => ?_) (Ev.now _)
    simp only [tollref01_Label.l0]
    rw [if_neg (by omega)]
    have := labelB_iff s
    split
    · congr 1
      rw [Bool.eq_iff_iff, this, decide_eq_true_eq]
      exact ⟨fun h => ⟨by omega, by omega, fun j hj => hall j (by omega)⟩, fun h => by omega⟩
    · congr 1
      rw [Bool.eq_iff_iff, this]
      exact ⟨fun h => Bool.noConfusion h, fun h => by omega⟩
  | succ d ih =>
    intro i hd hall
    by_cases h : okI s i
    · refine Ev.step (fun k => label_ok s i (by omega) (by omega) hn h k) ?_
      have := ih (i + 1) (by omega) (fun j hj => by
        by_cases e : j = i
        · rw [e]; exact h
        · exact hall j (by omega))
      simpa using this
    · refine Ev.step (f := fun _ => some (labelB s)) (fun k => ?_) (Ev.now _)
      rw [label_no s i (by omega) (by omega) hn h k]
      congr 1
      rw [Bool.eq_iff_iff, labelB_iff]
      exact ⟨fun h => Bool.noConfusion h, fun hl => (h (hl.2.2 i (by omega))).elim⟩
theorem Label (s : ByteArray) (hn : s.size ≤ 140737488351232) : Ev (fun k => tollref01_Label.f k s) (labelB s) := label_from s hn s.size 0 (by omega) (fun _ h => by omega)
theorem name_from (l : List ByteArray) (hl : l.length ≤ 1000000) (hs : ∀ p ∈ l, p.size ≤ 1000000) : ∀ (d i : Nat), l.length = i + d → Ev (fun k => tollref01_Name.l0 k l i) ((l.drop i).all labelB) := by
  intro d
  induction d with
  | zero =>
    intro i hd
    refine Ev.step (f := fun _ => some true) (fun k => ?_) ?_
    · simp only [tollref01_Name.l0]; rw [if_neg (by omega)]
    · rw [List.drop_eq_nil_of_le (by omega)]; exact Ev.now _
  | succ d ih =>
    intro i hd
    have hlt : i < l.length := by omega
    have e1 : wrap64 ((i : Int) + 1) = ((i + 1 : Nat) : Int) := by rw [wrap_in (by omega) (by omega)]; omega
    refine Ev.step (f := fun k => (tollref01_Label.f k l[i]).bind fun t => if t = true then tollref01_Name.l0 k l ((i + 1 : Nat) : Int) else some false) (fun k => ?_) ?_
    · simp only [tollref01_Name.l0, e1]
      rw [if_pos (by omega), if_pos (by omega), rd_at l i hlt]
    · refine Ev.bind (Label l[i] (by have := hs l[i] (List.getElem_mem hlt); omega)) ?_
      rw [List.drop_eq_getElem_cons hlt, List.all_cons]
      cases h : labelB l[i] with
      | true => exact ev_pos rfl (by simpa using ih (i + 1) (by omega))
      | false => exact ev_neg (by simp) (by simpa using Ev.now false)
theorem Name (s : ByteArray) (hs : s.size ≤ 1000) : Ev (fun k => tollref01_Name.f k s) (nameB s) := by
  unfold tollref01_Name.f
  by_cases h : (s.size : Int) > 60
  · refine ev_pos h ?_
    rw [Dns.nameB_long (by omega)]
    exact Ev.now _
  · refine ev_neg h ?_
    rw [Dns.nameB_eq, decide_eq_true (by omega), Bool.true_and]
    refine Ev.bind (Split s 46 hs) ?_
    have := name_from (partsB 46 s) (by have := partsB_many 46 s; omega) (fun p hp => by have := partsB_le hp; omega) (partsB 46 s).length 0 (by omega)
    simpa using this

end Go.Proofs.YtcakednecmngdaaDoor.DnsPure
