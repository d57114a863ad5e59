/-
  What the document's Split comes to.
  Conditions: as each theorem states them.
-/
import Derived.Test.YtcakednecmngdaaDoorBase
import Derived.Test.YtcakednecmngdaaDoorPf46
namespace Go.Proofs.YtcakednecmngdaaDoor.DnsPure
open Go Go.RowKit Go.Proofs.YtcakednecmngdaaDoor.P Go.Proofs.YtcakednecmngdaaDoorW.PrintWords Go.Proofs.YtcakednecmngdaaDoor.Plain

theorem split_from (s : ByteArray) (c : UInt8) (hn : s.size ≤ 140737488351232) : ∀ (d i : Nat) (front : List ByteArray) (q : List UInt8), s.size = i + d → front.length ≤ i → q.length ≤ i → i ≤ 1000 →
    s.size ≤ 1000 →
    Ev (fun k => tollref01_Split.l0 k s (c.toNat : Int) (front ++ [txt q]) i) (front ++ txt (q ++ (parts c (s.data.toList.drop i)).headD []) :: (parts c (s.data.toList.drop i)).tail.map txt) := by
  intro d
  induction d with
  | zero =>
    intro i front q hd hf hq hi hs
    refine Ev.step (f := fun _ => some (front ++ [txt q])) (fun k => ?_) ?_
    · simp only [tollref01_Split.l0]; rw [if_neg (by omega)]
    · rw [List.drop_eq_nil_of_le (by simp; omega)]
      simpa [parts] using Ev.now _
  | succ d ih =>
    intro i front q hd hf hq hi hs
    have hlt : i < s.size := by omega
    have hl : i < s.data.toList.length := by simpa using hlt
    have e1 : wrap64 ((i : Int) + 1) = ((i + 1 : Nat) : Int) := by rw [wrap_in (by omega) (by omega)]; omega
    have eb := bt_list s i hlt
    have hdr : s.data.toList.drop i = s.data.toList[i] :: s.data.toList.drop (i + 1) := List.drop_eq_getElem_cons hl
    obtain ⟨p, ps, hp⟩ : ∃ p ps, parts c (s.data.toList.drop (i + 1)) = p :: ps := by
      cases h : parts c (s.data.toList.drop (i + 1)) with
      | nil => exact absurd h (parts_ne c _)
      | cons p ps => exact ⟨p, ps, rfl⟩
    by_cases hc : s.data.toList[i] = c
    · refine Ev.step (f := fun k => tollref01_Split.l0 k s (c.toNat : Int) ((front ++ [txt q]) ++ [txt []]) ((i + 1 : Nat) : Int)) (fun k => ?_) ?_
      · simp only [tollref01_Split.l0, e1]
        rw [if_pos (by omega), if_pos (by omega), if_pos (by rw [eb, hc]), if_pos (by simp; omega)]
        rfl
      · have h := ih (i + 1) (front ++ [txt q]) [] (by omega) (by simp; omega) (by simp) (by omega) hs
        rw [hp] at h
        rw [hdr, parts, if_pos hc, hp]
        simpa using h
    · refine Ev.step (f := fun k => tollref01_Split.l0 k s (c.toNat : Int) (front ++ [txt (q ++ [s.data.toList[i]])]) ((i + 1 : Nat) : Int)) (fun k => ?_) ?_
      · have e2 : wrap64 (((front ++ [txt q]).length : Int) - 1) = ((front ++ [txt q]).length : Int) - 1 := wrap_in (by omega) (by simp; omega)
        have e3 : ((i : Nat) : Int).toNat = i := by omega
        have e4 : (((i + 1 : Nat) : Int)).toNat = i + 1 := by omega
        simp only [tollref01_Split.l0, e1, e2, rd_last, set_last, e3, e4, ext_one s i hlt]
        rw [if_pos (by omega), if_pos (by omega), if_neg (by rw [eb]; intro h; apply hc; exact UInt8.toNat_inj.1 (by omega)), if_pos (by simp <;> omega), if_pos (by simp <;> omega), if_pos (by omega), if_pos (by omega), if_pos (by simp <;> omega), txt_append]
      · have h := ih (i + 1) front (q ++ [s.data.toList[i]]) (by omega) (by omega) (by simp; omega) (by omega) hs
        rw [hp] at h
        rw [hdr, parts, if_neg hc, hp]
        simpa using h
theorem Split (s : ByteArray) (c : UInt8) (hs : s.size ≤ 1000) : Ev (fun k => tollref01_Split.f k s (c.toNat : Int)) (partsB c s) := by
  have h := split_from s c (by omega) s.size 0 [] [] (by omega) (by simp) (by simp) (by omega) hs
  obtain ⟨p, ps, hp⟩ : ∃ p ps, parts c s.data.toList = p :: ps := by
    cases h : parts c s.data.toList with
    | nil => exact absurd h (parts_ne c _)
    | cons p ps => exact ⟨p, ps, rfl⟩
  rw [List.drop_zero, hp] at h
  rw [partsB, hp]
  exact h

end Go.Proofs.YtcakednecmngdaaDoor.DnsPure
