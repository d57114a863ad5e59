/-
  Plain laws of a text's small letters (the document's Fold), and of a name's labels.
  Conditions: texts of at most 1000 octets.
-/
import Derived.Test.YtcakednecmngdaaDoorP5
import Derived.Test.YtcakednecmngdaaDoorDnsPure2
namespace Go.Proofs.YtcakednecmngdaaDoor.DnsPure
open Go Go.RowKit Go.Proofs.YtcakednecmngdaaDoor.P Go.Proofs.YtcakednecmngdaaDoorW.PrintWords Go.Proofs.YtcakednecmngdaaDoor.Plain
open Go.Proofs.YtcakednecmngdaaDoor.Fold (fold1 foldL)

theorem labelsB_eq (s : ByteArray) (hs : s.size ≤ 1000) : dns_Labels.f s = some (if nameB s = true then partsB 46 s else []) := by
  unfold dns_Labels.f dns_Name.f
  rw [Option.bind_some]
  cases h : nameB s with
  | false => simp
  | true =>
    rw [if_pos rfl, if_pos rfl]
    unfold strings_Split.f
    rw [if_pos (by omega)]
    rfl
theorem foldL_length (l : List UInt8) : (foldL l).length = l.length := by simp [foldL]
set_option maxRecDepth 100000 in
theorem fold1_fin : ∀ n : Fin 256, (fold1 (UInt8.ofNat n.val)).toNat = if 65 ≤ n.val ∧ n.val ≤ 90 then n.val + 32 else n.val := by decide
theorem fold1_nat (c : UInt8) : (fold1 c).toNat = if 65 ≤ c.toNat ∧ c.toNat ≤ 90 then c.toNat + 32 else c.toNat := by
  have := fold1_fin ⟨c.toNat, c.toNat_lt⟩
  simpa using this
theorem fold1_big (c : UInt8) : ¬ (65 ≤ (fold1 c).toNat ∧ (fold1 c).toNat ≤ 90) := by
  rw [fold1_nat]; split <;> omega
theorem fold1_fold1 (c : UInt8) : fold1 (fold1 c) = fold1 c := by
  apply UInt8.toNat_inj.1
  rw [fold1_nat (fold1 c), if_neg (fold1_big c)]
theorem foldL_foldL (l : List UInt8) : foldL (foldL l) = foldL l := by
  unfold foldL
  rw [List.map_map]
  exact List.map_congr_left (fun c _ => fold1_fold1 c)
theorem fold1_oct (c : UInt8) (h : oct c = true) : fold1 c = c := by
  apply UInt8.toNat_inj.1
  rw [fold1_nat, if_neg]
  intro hb
  unfold oct octR at h
  simp only [Bool.or_eq_true, Bool.and_eq_true, decide_eq_true_eq] at h
  omega
theorem foldL_label {l : List UInt8} (h : labelL l = true) : foldL l = l := by
  have ha : ∀ c ∈ l, oct c = true := by
    simp only [labelL, Bool.and_eq_true, List.all_eq_true] at h
    exact h.1.1.2
  unfold foldL
  rw [List.map_congr_left (g := id) (fun c hc => fold1_oct c (ha c hc))]
  simp
theorem one_num (n : Int) : strOfNums [n] = txt [UInt8.ofNat n.toNat] := rfl
theorem fold1_num (c : UInt8) : fold1 c = UInt8.ofNat (if 65 ≤ (c.toNat : Int) then (if (c.toNat : Int) ≤ 90 then (((c.toNat : Int) + 32) % 256).toNat else c.toNat) else c.toNat) := by
  apply UInt8.toNat_inj.1
  rw [fold1_nat]
  have := c.toNat_lt
  rw [UInt8.toNat_ofNat']
  split <;> split <;> (try split) <;> omega

theorem fold_from (s : ByteArray) (hs : s.size ≤ 1000) : ∀ (d i : Nat) (q : List UInt8), s.size = i + d → q.length = i →
    Ev (fun k => tollref01_Fold.l0 k s (txt q) i) (txt (q ++ foldL (s.data.toList.drop i))) := by
  intro d
  induction d with
  | zero =>
    intro i q hd hq
    refine Ev.step (f := fun _ => some (txt q)) (fun k => ?_) ?_
    · rw [tollref01_Fold.l0, if_neg (by omega)]
    · rw [List.drop_eq_nil_of_le (by simp; omega)]
      simpa [foldL] using Ev.now _
  | succ d ih =>
    intro i q hd hq
    have hlt : i < s.size := by omega
    have hl : i < s.data.toList.length := by simpa using hlt
    have e1 : wrap64 ((i : Int) + 1) = ((i + 1 : Nat) : Int) := by rw [wrap_in (by omega) (by omega)]; omega
    have eb := bt_list s i hlt
    have hdr : s.data.toList.drop i = s.data.toList[i] :: s.data.toList.drop (i + 1) := List.drop_eq_getElem_cons hl
    have hsq := txt_size q
    refine Ev.step (f := fun k => tollref01_Fold.l0 k s (txt (q ++ [fold1 s.data.toList[i]])) ((i + 1 : Nat) : Int)) (fun k => ?_) ?_
    · rw [tollref01_Fold.l0, if_pos (by omega), if_pos (by omega), eb, e1]
      simp only [Option.bind_some, one_num, txt_size, txt_append, List.length_cons, List.length_nil]
      rw [fold1_num s.data.toList[i]]
      by_cases h1 : 65 ≤ (s.data.toList[i].toNat : Int)
      · rw [if_pos h1, if_pos h1]
        by_cases h2 : (s.data.toList[i].toNat : Int) ≤ 90
        · rw [if_pos h2, if_pos h2, if_pos (by omega)]
        · rw [if_neg h2, if_neg h2, if_pos (by omega)]; rfl
      · rw [if_neg h1, if_neg h1, if_pos (by omega)]; rfl
    · have h := ih (i + 1) (q ++ [fold1 s.data.toList[i]]) (by omega) (by simp; omega)
      rw [hdr, foldL, List.map_cons]
      simpa [foldL] using h
theorem FoldRef (s : ByteArray) (hs : s.size ≤ 1000) : Ev (fun k => tollref01_Fold.f k s) (txt (foldL s.data.toList)) := by
  have h := fold_from s hs s.size 0 [] (by omega) rfl
  rw [List.drop_zero, List.nil_append] at h
  exact h
theorem fold_eq (s : ByteArray) (hs : s.size ≤ 1000) : dns_Fold.f s = some (txt (foldL s.data.toList)) := by
  unfold dns_Fold.f
  rw [if_pos (by omega)]

end Go.Proofs.YtcakednecmngdaaDoor.DnsPure
