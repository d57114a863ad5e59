/-
  QueryOctets, joined: the walk, and what is written of one octet and of any pairs.
  Conditions: an octet is from 0 to 255.
-/
import Derived.Test.YtcakednecmngdaaDoorQueryOctets
set_option linter.unusedVariables false
set_option linter.unusedSimpArgs false
namespace Go.Proofs.YtcakednecmngdaaDoor.Query
open Go Go.RowKit Go.Proofs.YtcakednecmngdaaDoor.Y Go.Proofs.YtcakednecmngdaaDoor.P Go.Proofs.YtcakednecmngdaaDoorW.PrintWords Go.Proofs.YtcakednecmngdaaDoor.Plain Go.Proofs.YtcakednecmngdaaDoor.DnsPure

theorem octet_text (o : UInt8) : textL [⟨txt [o], txt [o, o]⟩] = wr1 o ++ 61 :: (wr1 o ++ wr1 o) := by
  simp [textL, join, pairL, wrL, txt_data]
theorem octet_told (o : UInt8) : ((txt (textL [⟨txt [o], txt [o, o]⟩])).toList == (txt [o, 61, o, o]).toList) = plainB o := by
  rw [← (octets_at o).2, octet_text, Lib.toList_data, Lib.toList_data, txt_data, txt_data, Bool.eq_iff_iff, beq_iff_eq, decide_eq_true_iff]

theorem QueryOctets_walk (A0 : Option Addr) (c0 : Nat) (l0 : List S55) (a1 : Int) (w : World) (hr0 : Kd.C k55 w A0 l0.length l0) (hc0 : l0.length ≤ c0) (h1 : (Lit.int .u8 a1).wf = true) :
    Calls Tryd.prog 26 #[.slice A0 l0.length c0, .int .u8 a1] w fun e w' => e = .returned (.bool true) ∧ Below w.heap.size w w' := by
  have hb : 0 ≤ a1 ∧ a1 < 256 := by
    simp [Lit.wf, IntKind.min, IntKind.max, IntKind.signed, IntKind.bits] at h1
    omega
  obtain ⟨o, rfl⟩ : ∃ o : UInt8, (o.toNat : Int) = a1 := ⟨UInt8.ofNat a1.toNat, by rw [UInt8.toNat_ofNat']; omega⟩
  have hm : mayB [⟨txt [o], txt [o, o]⟩] = true := by simp [mayB, mayP, txt_size]
  obtain ⟨K1, hk1⟩ := text_ev [⟨txt [o], txt [o, o]⟩] (by simp)
  have hT1 := hk1 K1 (Nat.le_refl _)
  rw [show textB [⟨txt [o], txt [o, o]⟩] = (txt (textL [⟨txt [o], txt [o, o]⟩]), 0) from by unfold textB; rw [if_pos hm]] at hT1
  have hP := parse_f (txt (textL [⟨txt [o], txt [o, o]⟩])) (by rw [txt_size]; have := textL_length _ hm; omega)
  rw [parse_text _ hm] at hP
  have hF : tolllaw04_Few.f l0 = some ((l0.take 21).map fewP) := rfl
  have hm21 : ((l0.take 21).map fewP).length ≤ 21 := by simp; omega
  generalize (l0.take 21).map fewP = m at hF hm21
  obtain ⟨K2, hk2⟩ := text_ev m (by omega)
  have hs : (textB m).1.size ≤ 100000 := by
    by_cases hm2 : mayB m = true
    · have := textL_length m hm2
      have e : textB m = (txt (textL m), 0) := by unfold textB; rw [if_pos hm2]
      rw [e]
      show (txt (textL m)).size ≤ 100000
      rw [txt_size]
      omega
    · have e : textB m = (⟨#[]⟩, 1) := by unfold textB; rw [if_neg hm2]
      rw [e]
      show (⟨#[]⟩ : ByteArray).size ≤ 100000
      exact Nat.zero_le _
  exact Octets_walk o A0 c0 l0 w hr0 hc0 _ (textB m).1 (textB m).2 m K1 K2 hT1 hP (octet_told o) hF (hk2 K2 (Nat.le_refl _)) hs (fun i h => textB_octets m i h)
end Go.Proofs.YtcakednecmngdaaDoor.Query
