/-
  The plain law of DnsFolds: small letters stay, the length stays, only big letters change, a label is its own.
  Conditions: texts of at most 140737488351232 octets.
-/
import Derived.Test.YtcakednecmngdaaDoorP6
import Derived.Test.YtcakednecmngdaaDoorDnsPure3
namespace Go.Proofs.YtcakednecmngdaaDoor.Pure
open Go Go.RowKit Go.Proofs.YtcakednecmngdaaDoor.P Go.Proofs.YtcakednecmngdaaDoorW.PrintWords Go.Proofs.YtcakednecmngdaaDoor.Plain Go.Proofs.YtcakednecmngdaaDoor.DnsPure
open Go.Proofs.YtcakednecmngdaaDoor.Fold (fold1 foldL)

theorem folds_from (s : ByteArray) (hs : s.size ≤ 100) : ∀ (d i : Nat), s.size = i + d → Ev (fun k => tolllaw01_DnsFolds.l0 k s (txt (foldL s.data.toList)) i) true := by
  have hz : (txt (foldL s.data.toList)).size = s.size := by rw [txt_size, foldL_length, Lib.size_eq]
  intro d
  induction d with
  | zero =>
    intro i hd
    refine Ev.step (fun k => by rw [tolllaw01_DnsFolds.l0, if_neg (by omega)]) ?_
    exact Ev.bind awake (Ev.now _)
  | succ d ih =>
    intro i hd
    have hlt : i < s.size := by omega
    have hl : i < s.data.toList.length := by simpa using hlt
    have e1 : wrap64 ((i : Int) + 1) = ((i + 1 : Nat) : Int) := by rw [wrap_in (by omega) (by omega)]; omega
    have eb := bt_list s i hlt
    have ef : bt (txt (foldL s.data.toList)) (i : Int) = ((fold1 s.data.toList[i]).toNat : Int) := by
      rw [bt_list _ i (by omega)]
      simp [foldL, txt]
    refine Ev.step (f := fun k => tolllaw01_DnsFolds.l0 k s (txt (foldL s.data.toList)) ((i + 1 : Nat) : Int)) (fun k => ?_) (ih (i + 1) (by omega))
    have hb := fold1_big s.data.toList[i]
    have hn := fold1_nat s.data.toList[i]
    have hn : (65 ≤ s.data.toList[i].toNat ∧ s.data.toList[i].toNat ≤ 90 ∧ (fold1 s.data.toList[i]).toNat = s.data.toList[i].toNat + 32) ∨ (fold1 s.data.toList[i]).toNat = s.data.toList[i].toNat := by
      rw [hn]; split
      · next h => exact .inl ⟨h.1, h.2, rfl⟩
      · exact .inr rfl
    have hlt2 := (s.data.toList[i]).toNat_lt
    rw [tolllaw01_DnsFolds.l0, if_pos (by omega), if_pos (by omega), ef, eb, e1]
    rw [if_pos (show (i : Int) < (s.size : Int) by omega)]
    repeat' split
    all_goals first | rfl | (exfalso; omega)

theorem DnsFolds : tolllaw01_DnsFolds.Pure := by
  intro a _
  refine Ev.rounds (g := fun k => tolllaw01_DnsFolds.f k a) ?_
  unfold tolllaw01_DnsFolds.f
  have ha := few_size a
  refine ev_bind (few_eq a) ?_
  generalize fewB a = a at *
  have hz : (txt (foldL a.data.toList)).size = a.size := by rw [txt_size, foldL_length, Lib.size_eq]
  refine ev_bind (fold_eq a (by omega)) (ev_bind (fold_eq _ (by omega)) ?_)
  rw [txt_data, foldL_foldL]
  refine ev_pos rfl (ev_pos (by omega) (ev_bind (a := labelB a) rfl ?_))
  have go : Ev (fun k => tolllaw01_DnsFolds.j0 k a (txt (foldL a.data.toList)) false) true := by
    refine Ev.step (fun k => by rw [tolllaw01_DnsFolds.j0, if_neg (by simp)]) ?_
    exact folds_from a ha a.size 0 (by omega)
  cases h : labelB a with
  | false => exact ev_neg (by simp) go
  | true =>
    refine ev_pos rfl ?_
    have e : foldL a.data.toList = a.data.toList := foldL_label h
    have : ((txt (foldL a.data.toList)).toList != a.toList) = false := by rw [e, txt_of]; simp
    rw [this]
    exact go

end Go.Proofs.YtcakednecmngdaaDoor.Pure
