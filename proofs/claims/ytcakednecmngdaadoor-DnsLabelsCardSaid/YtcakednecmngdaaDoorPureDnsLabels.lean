/-
  The plain law of DnsLabels: a name's labels, joined, are the name; one more makes a name as long as there is room.
  Conditions: texts of at most 140737488351232 octets.
-/
import Derived.Test.YtcakednecmngdaaDoorP4
import Derived.Test.YtcakednecmngdaaDoorDnsPure2
namespace Go.Proofs.YtcakednecmngdaaDoor.Pure
open Go Go.RowKit Go.Proofs.YtcakednecmngdaaDoor.P Go.Proofs.YtcakednecmngdaaDoorW.PrintWords Go.Proofs.YtcakednecmngdaaDoor.Plain Go.Proofs.YtcakednecmngdaaDoor.DnsPure

theorem labels_eq (s : ByteArray) (hs : s.size ≤ 1000) : dns_Labels.f s = some (if nameB s = true then partsB 46 s else []) := by
  unfold dns_Labels.f dns_Name.f
  rw [Option.bind_some]
  cases h : nameB s with
  | false => simp
  | true =>
    rw [if_pos rfl, if_pos rfl]
    unfold strings_Split.f
    rw [if_pos (by omega)]
    rfl
theorem join_snoc {c : UInt8} {r : List (List UInt8)} (x : List UInt8) (h : r ≠ []) : join c (r ++ [x]) = join c r ++ c :: x := by
  rw [join_append h (by simp)]; rfl

theorem labels_end (s m : ByteArray) (hs : s.size ≤ 100) (hm : m.size ≤ 100) (hn : nameB s = true) (l : List ByteArray) (i : Int) (hi : ¬ i < (l.length : Int)) :
    Ev (fun k => tolllaw01_DnsLabels.l0 k s m l s i) true := by
  have hsz := size_dot s m 46
  refine Ev.step (fun k => by rw [tolllaw01_DnsLabels.l0, if_neg hi, if_pos (by omega), if_pos (by rw [size_one]; omega), if_pos rfl]) ?_
  refine ev_bind (a := nameB (s ++ (⟨#[46]⟩ : ByteArray) ++ m)) rfl (ev_bind (a := nameB m) rfl ?_)
  have e : nameB (s ++ (⟨#[46]⟩ : ByteArray) ++ m) = (nameB m && decide ((s ++ (⟨#[46]⟩ : ByteArray) ++ m).size ≤ 60)) := by
    rw [nameB, toL_dot, name_append hn, nameB, Lib.size_eq, toL_dot]
  cases h : nameB m with
  | true =>
    refine ev_pos rfl (ev_pos ?_ (Ev.bind awake (Ev.now _)))
    rw [e, h, beq_iff_eq, Bool.true_and, decide_eq_decide]
    omega
  | false =>
    refine ev_neg (by simp) (ev_pos ?_ (Ev.bind awake (Ev.now _)))
    rw [e, h]; rfl

theorem labels_from (s m : ByteArray) (hs : s.size ≤ 100) (hm : m.size ≤ 100) (hn : nameB s = true) : ∀ (d i : Nat) (acc : ByteArray), (partsB 46 s).length = i + d → acc.size ≤ 101 * i →
    acc.data.toList = join 46 ((parts 46 s.data.toList).take i) →
    Ev (fun k => tolllaw01_DnsLabels.l0 k s m (partsB 46 s) acc i) true := by
  have hlen : (partsB 46 s).length = (parts 46 s.data.toList).length := by simp [partsB]
  have hmany := partsB_many 46 s
  intro d
  induction d with
  | zero =>
    intro i acc hd ha he
    rw [List.take_of_length_le (by omega), join_parts] at he
    obtain rfl : acc = s := by rw [← txt_of acc, ← txt_of s, he]
    exact labels_end acc m hs hm hn _ _ (by omega)
  | succ d ih =>
    intro i acc hd ha he
    have hlt : i < (partsB 46 s).length := by omega
    have hlt' : i < (parts 46 s.data.toList).length := by omega
    have e1 : wrap64 ((i : Int) + 1) = ((i + 1 : Nat) : Int) := by rw [wrap_in (by omega) (by omega)]; omega
    have ep : (partsB 46 s)[i] = txt (parts 46 s.data.toList)[i] := by simp [partsB]
    have hp := partsB_le (List.getElem_mem hlt)
    have hl : labelB (partsB 46 s)[i] = true := by
      rw [ep, labelB, txt_data]
      exact (name_parts hn).2 _ (List.getElem_mem hlt')
    by_cases h0 : i = 0
    · subst h0
      refine Ev.step (f := fun k => tolllaw01_DnsLabels.l0 k s m (partsB 46 s) (acc ++ (partsB 46 s)[0]) ((0 + 1 : Nat) : Int)) (fun k => ?_) ?_
      · rw [tolllaw01_DnsLabels.l0, if_pos (by omega), if_pos (by omega), rd_at _ 0 hlt, dns_Label.f, hl, Option.bind_some, if_pos rfl, if_neg (by omega), e1, if_pos (by omega)]
      · refine ih 1 _ (by omega) (by rw [ByteArray.size_append]; omega) ?_
        have ea : acc.data.toList = [] := by rw [he]; rfl
        rw [toL_append, ea, ep, txt_data, List.nil_append, List.take_one, List.head?_eq_getElem?, List.getElem?_eq_getElem hlt']
        rfl
    · refine Ev.step (f := fun k => tolllaw01_DnsLabels.l0 k s m (partsB 46 s) (acc ++ (⟨#[46]⟩ : ByteArray) ++ (partsB 46 s)[i]) ((i + 1 : Nat) : Int)) (fun k => ?_) ?_
      · rw [tolllaw01_DnsLabels.l0, if_pos (by omega), if_pos (by omega), rd_at _ i hlt, dns_Label.f, hl, Option.bind_some, if_pos rfl, if_pos (by omega), if_pos (by omega), if_pos (by rw [size_one]; omega), e1]
      · refine ih (i + 1) _ (by omega) (by rw [size_dot]; omega) ?_
        have hne : (parts 46 s.data.toList).take i ≠ [] := by
          intro h
          have := congrArg List.length h
          rw [List.length_take, List.length_nil] at this
          omega
        rw [toL_dot, he, ep, txt_data, List.take_succ_eq_append_getElem hlt', join_snoc _ hne]

theorem DnsLabels : tolllaw01_DnsLabels.Pure := by
  intro a b _ _
  refine Ev.rounds (g := fun k => tolllaw01_DnsLabels.f k a b) ?_
  unfold tolllaw01_DnsLabels.f
  have ha := few_size a
  have hb := few_size b
  refine ev_bind (few_eq a) (ev_bind (few_eq b) ?_)
  generalize fewB a = a at *
  generalize fewB b = b at *
  refine ev_bind (labels_eq a (by omega)) (ev_bind (a := nameB a) rfl ?_)
  cases h : nameB a with
  | false => exact ev_neg (by simp) (ev_pos (by simp) (Ev.bind awake (Ev.now _)))
  | true =>
    refine ev_pos rfl ?_
    rw [if_pos rfl]
    exact labels_from a b ha hb h (partsB 46 a).length 0 ⟨#[]⟩ (by omega) (Nat.le_refl _) rfl

end Go.Proofs.YtcakednecmngdaaDoor.Pure
