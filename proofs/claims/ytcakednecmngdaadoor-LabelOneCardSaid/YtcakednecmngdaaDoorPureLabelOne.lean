/-
  The plain law of LabelOne: a label of labels that may be is there: Has of it is met, Is of its value, and of more values, too; without it Lacks is.
  Conditions: none.
-/
import Derived.Test.YtcakednecmngdaaDoorLabelLess
import Derived.Test.YtcakednecmngdaaDoorBaseLabel
import Derived.Test.YtcakednecmngdaaDoorLf11
set_option linter.unusedVariables false
set_option linter.unusedSimpArgs false
namespace Go.Proofs.YtcakednecmngdaaDoor.Pure
open Go Go.RowKit Go.Proofs.YtcakednecmngdaaDoor.L Go.Proofs.YtcakednecmngdaaDoor.P Go.Proofs.YtcakednecmngdaaDoorW.PrintWords Go.Proofs.YtcakednecmngdaaDoor.Plain Go.Proofs.YtcakednecmngdaaDoor.DnsPure Go.Proofs.YtcakednecmngdaaDoor.Label Go.Proofs.YtcakednecmngdaaDoor.LabelPure

theorem may_mem : ∀ (l : List S55) (q : Option ByteArray), mayFrom q l = true → ∀ p ∈ l, nameB p.f0 = true ∧ valueB p.f1 = true
  | [], _, _, p, hp => by cases hp
  | x :: l, q, h, p, hp => by
    rw [mayFrom_cons] at h
    simp only [Bool.and_eq_true] at h
    rcases List.mem_cons.1 hp with rfl | hp
    · exact h.1.1
    · exact may_mem l _ h.2 p hp
theorem isB_ne {s : ByteArray} {p : S55} (h : p.f0 ≠ s) : isB s p = false := by
  cases e : isB s p with
  | false => rfl
  | true => exact absurd ((isB_iff s p).1 e) h
theorem find_at : ∀ (l : List S55) (q : Option ByteArray) (k : Nat) (hk : k < l.length), mayFrom q l = true → findB l (l[k]).f0 = some (l[k]).f1
  | x :: l, q, 0, hk, h => by
    unfold findB
    rw [List.find?_cons, show isB ((x :: l)[0]).f0 x = true from (isB_iff _ _).2 rfl]
    rfl
  | x :: l, q, k + 1, hk, h => by
    obtain ⟨h1, h2⟩ := may_head h
    have hk' : k < l.length := by simpa using hk
    have hne := h2 l[k] (List.getElem_mem hk')
    have ih := find_at l _ k hk' h1
    show findB (x :: l) (l[k]).f0 = some (l[k]).f1
    unfold findB at ih ⊢
    rw [List.find?_cons, isB_ne (fun z => hne z.symm)]
    exact ih
theorem find_gone : ∀ (l : List S55) (q : Option ByteArray) (k : Nat) (hk : k < l.length), mayFrom q l = true → findB (l.take k ++ l.drop (k + 1)) (l[k]).f0 = none
  | x :: l, q, 0, hk, h => by
    obtain ⟨h1, h2⟩ := may_head h
    show findB l x.f0 = none
    unfold findB
    rw [List.find?_eq_none.2 (fun p hp z => h2 p hp ((isB_iff _ _).1 z))]
    rfl
  | x :: l, q, k + 1, hk, h => by
    obtain ⟨h1, h2⟩ := may_head h
    have hk' : k < l.length := by simpa using hk
    have hne := h2 l[k] (List.getElem_mem hk')
    have ih := find_gone l _ k hk' h1
    show findB (x :: (l.take k ++ l.drop (k + 1))) (l[k]).f0 = none
    unfold findB at ih ⊢
    rw [List.find?_cons, isB_ne (fun z => hne z.symm)]
    exact ih
theorem metIs (s : ByteArray) (vs : List ByteArray) (l : List S55) (hN : nameB s = true) (hf : fewVals vs = true) : metN 1 s vs l = (mayL l && hasB l s vs) := by
  unfold metN askOf
  simp [hN, hf, metB]
theorem metNo (s : ByteArray) (vs : List ByteArray) (l : List S55) (hN : nameB s = true) (hf : fewVals vs = true) : metN 2 s vs l = (mayL l && !hasB l s vs) := by
  unfold metN askOf
  simp [hN, hf, metB]
theorem metHas (s : ByteArray) (l : List S55) (hN : nameB s = true) : metN 3 s [] l = (mayL l && (findB l s).isSome) := by
  unfold metN askOf
  simp [hN, metB]
theorem metLacks (s : ByteArray) (l : List S55) (hN : nameB s = true) : metN 4 s [] l = (mayL l && !(findB l s).isSome) := by
  unfold metN askOf
  simp [hN, metB]
theorem one_2 (l : List S55) (m : ByteArray) (k : Nat) (hk : k < l.length) (hl : l.length ≤ 31) (hm : mayL l = true) (hv : valueB m = true) : Ev (fun n => tolllaw08_LabelOne.j2 n l m (l.take k ++ l.drop (k + 1)) (l[k]).f0 (l[k]).f1) true := by
  have hma : mayFrom none l = true := by unfold mayL at hm; rw [Bool.and_eq_true] at hm; exact hm.1
  have hless := mayL_less k hk hm
  obtain ⟨hN, hV⟩ := may_mem l none hma l[k] (List.getElem_mem hk)
  have hfind := find_at l none k hk hma
  have hgone := find_gone l none k hk hma
  have hlen : (l.take k ++ l.drop (k + 1)).length ≤ 31 := by simp; omega
  generalize l.take k ++ l.drop (k + 1) = less at hless hgone hlen ⊢
  generalize (l[k]).f0 = s at hN hfind hgone ⊢
  generalize (l[k]).f1 = v at hV hfind ⊢
  have f1 : fewVals [m, v] = true := by unfold fewVals; simp [hv, hV]
  have f2 : fewVals [v] = true := by unfold fewVals; simp [hV]
  refine Ev.step (fun k => by rw [tolllaw08_LabelOne.j2]) (ev_bind (show label_Met.f _ _ _ _ = some (metN _ _ _ _) from rfl) ?_)
  rw [metHas s l hN, hm, hfind]
  refine ev_pos rfl (ev_bind (show label_Met.f _ _ _ _ = some (metN _ _ _ _) from rfl) ?_)
  rw [metIs s _ l hN f1, hm, Bool.true_and, show hasB l s [m, v] = true by unfold hasB; rw [hfind]; exact memB_iff.2 (by simp)]
  refine ev_pos rfl (ev_bind (show label_Met.f _ _ _ _ = some (metN _ _ _ _) from rfl) ?_)
  rw [metLacks s less hN, hless, hgone]
  refine ev_pos rfl (ev_bind (show label_Met.f _ _ _ _ = some (metN _ _ _ _) from rfl) ?_)
  rw [metNo s _ less hN f2, hless, Bool.true_and, show hasB less s [v] = false by unfold hasB; rw [hgone]]
  refine ev_pos rfl (Ev.bind (MayEv less (by omega)) ?_)
  rw [hless]
  exact ev_pos rfl (ev_bind awake_true (Ev.now _))
theorem empty_value : valueB ⟨#[]⟩ = true := rfl
theorem one_1 (l : List S55) (m : ByteArray) (b : Bool) (k : Nat) (hk : k < l.length) (hl : l.length ≤ 31) (hm : mayL l = true) (hv : b = false → valueB m = true) : Ev (fun n => tolllaw08_LabelOne.j1 n l m (l.take k ++ l.drop (k + 1)) b (l[k]).f0 (l[k]).f1) true := by
  cases b with
  | true => exact Ev.step (fun n => by rw [tolllaw08_LabelOne.j1, if_pos rfl]) (one_2 l _ k hk hl hm empty_value)
  | false => exact Ev.step (fun n => by rw [tolllaw08_LabelOne.j1, if_neg (by simp)]) (one_2 l m k hk hl hm (hv rfl))
theorem one_0 (l : List S55) (a : Int) (m : ByteArray) (b : Bool) (h0 : 0 ≤ a) (h1 : a ≤ 255) (hl : l.length ≤ 31) (hms : m.size ≤ 100) (hb : b = false → 0 < l.length ∧ mayL l = true) : Ev (fun k => tolllaw08_LabelOne.j0 k l a m b) true := by
  cases b with
  | true => exact Ev.step (fun k => by rw [tolllaw08_LabelOne.j0, if_pos rfl]) (ev_bind awake_true (Ev.now _))
  | false =>
    obtain ⟨hn, hm⟩ := hb rfl
    obtain ⟨k, e, hk⟩ := mod_at h0 h1 hn (by omega)
    refine Ev.step (fun k => by rw [tolllaw08_LabelOne.j0, if_neg (by simp)]) ?_
    rw [e]
    refine ev_neg (by omega) (ev_pos (by omega) (ev_pos (by omega) ?_))
    rw [rd55 l k hk, succ_w hk (by omega)]
    refine ev_bind rfl (ev_pos (by omega) (ev_bind rfl (ev_pos (by simp; omega) (ev_bind rfl (ev_pos (by omega) (ev_pos (by omega) (ev_bind rfl (ev_pos (by simp; omega) (ev_bind rfl ?_)))))))))
    rw [List.nil_append, Int.toNat_natCast, Int.toNat_natCast]
    by_cases he : m.toList = []
    · exact ev_pos he (one_1 l m false k hk hl hm (fun _ => by unfold valueB; rw [decide_eq_true ((nil_iff m).1 he)]; rfl))
    · refine ev_neg he (Ev.bind (DnsPure.Label m (by omega)) (one_1 l m _ k hk hl hm (fun z => ?_)))
      have h' : labelB m = true := by simpa using z
      unfold valueB
      rw [h', Bool.or_true]
theorem LabelOne (l : List S55) (a : Int) (m : ByteArray) (h0 : 0 ≤ a) (h1 : a ≤ 255) : ∃ k, tolllaw08_LabelOne.f k l a m = some true := by
  refine Ev.rounds (g := fun k => tolllaw08_LabelOne.f k l a m) ?_
  unfold tolllaw08_LabelOne.f
  refine Ev.bind (Few5 l) (ev_bind (few_eq m) ?_)
  have h5 := few5_length l
  refine Ev.bind (MayEv (few5 l) (by omega)) ?_
  cases hm : mayL (few5 l) with
  | true =>
    refine ev_pos rfl (one_0 _ a _ _ h0 h1 h5 (few_size m) (fun z => ⟨?_, hm⟩))
    have : ¬ ((few5 l).length : Int) = 0 := by simpa using z
    omega
  | false => exact ev_neg (by simp) (one_0 _ a _ true h0 h1 h5 (few_size m) (fun z => by cases z))
theorem LabelOne_walk (A0 : Option Addr) (c0 : Nat) (l0 : List S55) (a1 : Int) (a2 : ByteArray) (w : World) (hr0 : Kd.C k55 w A0 l0.length l0) (hc0 : l0.length ≤ c0) (hw : (Lit.int .u8 a1).wf = true) (_h2 : a2.size ≤ 140737488351232) :
    Calls Tryd.prog 11 #[.slice A0 l0.length c0, .int .u8 a1, .string a2] w fun e w' => e = .returned (.bool true) ∧ Below w.heap.size w w' := by
  have hw2 : 0 ≤ a1 ∧ a1 ≤ 255 := by
    simp [Lit.wf, IntKind.min, IntKind.max, IntKind.signed, IntKind.bits] at hw
    omega
  obtain ⟨k, hk⟩ := LabelOne l0 a1 a2 hw2.1 hw2.2
  exact tolllaw08_LabelOne.calls k A0 c0 l0 a1 a2 w hr0 hc0 hk
end Go.Proofs.YtcakednecmngdaaDoor.Pure
