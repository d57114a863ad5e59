/-
  Texts of queries and the document's answers, in plain words; the chapter's examples.
  Conditions: as each part states them.
-/
import Derived.Test.YtcakednecmngdaaDoorQueryA
import Derived.Test.YtcakednecmngdaaDoorPlain2
import Derived.Test.YtcakednecmngdaaDoorYf77
import Derived.Test.YtcakednecmngdaaDoorBaseSplit
import Derived.Test.YtcakednecmngdaaDoorYf79
import Derived.Test.YtcakednecmngdaaDoorYf81
import Derived.Test.YtcakednecmngdaaDoorYf85
import Derived.Test.YtcakednecmngdaaDoorYf87
import Derived.Test.YtcakednecmngdaaDoorYf84
import Derived.Test.YtcakednecmngdaaDoorYf86
import Derived.Test.YtcakednecmngdaaDoorYf82

namespace Go.Proofs.YtcakednecmngdaaDoor.Query
open Go Go.RowKit Go.Proofs.YtcakednecmngdaaDoor.Plain Go.Proofs.YtcakednecmngdaaDoor.Y Go.Proofs.YtcakednecmngdaaDoor.P Go.Proofs.YtcakednecmngdaaDoorW.PrintWords Go.Proofs.YtcakednecmngdaaDoor.DnsPure

/-! ### what is written is read again -/
set_option maxRecDepth 100000 in
theorem wr1_fin : ∀ n : Fin 256, (∀ o ∈ wr1 (UInt8.ofNat n.val), o ≠ 38 ∧ o ≠ 61) ∧ ((wr1 (UInt8.ofNat n.val) = [UInt8.ofNat n.val] ∧ UInt8.ofNat n.val ≠ 37 ∧ UInt8.ofNat n.val ≠ 43) ∨ (wr1 (UInt8.ofNat n.val) = [43] ∧ UInt8.ofNat n.val = 32) ∨ ∃ x y : Fin 16, wr1 (UInt8.ofNat n.val) = [37, hexN x.val, hexN y.val] ∧ hexV (hexN x.val) = some x.val ∧ hexV (hexN y.val) = some y.val ∧ oct16 x.val y.val = UInt8.ofNat n.val) := by decide +kernel
theorem wr1_at (c : UInt8) : (∀ o ∈ wr1 c, o ≠ 38 ∧ o ≠ 61) ∧ ((wr1 c = [c] ∧ c ≠ 37 ∧ c ≠ 43) ∨ (wr1 c = [43] ∧ c = 32) ∨ ∃ x y : Fin 16, wr1 c = [37, hexN x.val, hexN y.val] ∧ hexV (hexN x.val) = some x.val ∧ hexV (hexN y.val) = some y.val ∧ oct16 x.val y.val = c) := by
  have h := wr1_fin ⟨c.toNat, c.toNat_lt⟩
  have e : UInt8.ofNat c.toNat = c := by simp
  simp only [e] at h
  exact h
theorem wrL_clean (l : List UInt8) : ∀ o ∈ wrL l, o ≠ 38 ∧ o ≠ 61 := by
  intro o ho
  obtain ⟨c, _, hc⟩ := List.mem_flatMap.1 ho
  exact (wr1_at c).1 o hc
theorem read_wr1 (c : UInt8) (l : List UInt8) : readL (wr1 c ++ l) = (readL l).map (c :: ·) := by
  rcases (wr1_at c).2 with ⟨h, h1, h2⟩ | ⟨h, rfl⟩ | ⟨x, y, h, hx, hy, ho⟩
  · rw [h, List.singleton_append, readL_cons h1, plus_int c h2]
  · rw [h, List.singleton_append, readL_cons (by decide)]; rfl
  · rw [h]
    show readL (37 :: hexN x.val :: hexN y.val :: l) = _
    rw [readL_oct, hx, hy, Option.bind_some, Option.bind_some, ho]
theorem read_wrL (l : List UInt8) : readL (wrL l) = some l := by
  induction l with
  | nil => rfl
  | cons c l ih =>
    show readL (wr1 c ++ wrL l) = _
    rw [read_wr1, ih]; rfl

/-! ### a query's text -/
def pairL (p : S55) : List UInt8 := wrL p.f0.data.toList ++ 61 :: wrL p.f1.data.toList
def textL (l : List S55) : List UInt8 := join 38 (l.map pairL)
def textB (l : List S55) : ByteArray × Int := if mayB l = true then (txt (textL l), 0) else (⟨#[]⟩, 1)
theorem pairL_clean (p : S55) : (38 : UInt8) ∉ pairL p := by
  unfold pairL
  simp only [List.mem_append, List.mem_cons, not_or]
  exact ⟨fun h => (wrL_clean _ _ h).1 rfl, by decide, fun h => (wrL_clean _ _ h).1 rfl⟩
theorem pair_back (p : S55) : pairB (txt (pairL p)) = some p := by
  have h : (61 : UInt8) ∉ wrL p.f0.data.toList := fun h => (wrL_clean _ _ h).2 rfl
  obtain ⟨h1, h2⟩ := before_split (wrL p.f0.data.toList) (wrL p.f1.data.toList) h
  unfold pairB
  rw [txt_data]
  unfold pairL
  rw [h1, h2, read_wrL, read_wrL]
  simp [txt_of]
theorem pairs_back (l : List S55) : pairsB (l.map fun p => txt (pairL p)) = some l := by
  induction l with
  | nil => rfl
  | cons p l ih => rw [List.map_cons, pairsB, pair_back, ih]; rfl
theorem text_parts (l : List S55) (h : l ≠ []) : parts 38 (textL l) = l.map pairL := by
  unfold textL
  refine parts_join (by simpa using h) fun p hp => ?_
  obtain ⟨q, _, rfl⟩ := List.mem_map.1 hp
  exact pairL_clean q
theorem textL_ne {l : List S55} (h : l ≠ []) : textL l ≠ [] := by
  intro e
  have hp := text_parts l h
  rw [e] at hp
  cases l with
  | nil => exact h rfl
  | cons p l =>
    simp only [parts, List.map_cons] at hp
    injection hp with h1 _
    unfold pairL at h1
    have := congrArg List.length h1
    simp at this
theorem parse_text (l : List S55) (h : mayB l = true) : parseB (txt (textL l)) = (l, 0) := by
  unfold parseB
  by_cases hl : l = []
  · subst hl
    rw [if_pos (by rw [txt_size]; rfl)]
  · rw [if_neg (by rw [txt_size]; exact fun z => textL_ne hl (List.length_eq_zero_iff.1 z)), partsB, txt_data, text_parts l hl, List.map_map]
    have := pairs_back l
    rw [show (l.map (txt ∘ pairL)) = l.map fun p => txt (pairL p) from rfl, this]
    simp [h]
theorem lib_join (c : UInt8) (r : List (List UInt8)) : Lib.join r [c] = join c r := by
  induction r with
  | nil => rfl
  | cons x r ih =>
    cases r with
    | nil => simp [Lib.join, join]
    | cons y r => rw [join_cons (by simp), ← ih]; simp [Lib.join]
theorem pairL_length (p : S55) (h : mayP p = true) : (pairL p).length ≤ 241 := by
  unfold mayP at h
  simp only [Bool.and_eq_true, decide_eq_true_eq] at h
  have h1 := wrL_length p.f0.data.toList
  have h2 := wrL_length p.f1.data.toList
  rw [← Lib.size_eq] at h1 h2
  unfold pairL
  simp only [List.length_append, List.length_cons]
  omega
theorem join_length (c : UInt8) (m : Nat) (r : List (List UInt8)) (h : ∀ x ∈ r, x.length ≤ m) : (join c r).length ≤ r.length * (m + 1) := by
  induction r with
  | nil => simp [join]
  | cons x r ih =>
    have hx := h x (by simp)
    cases r with
    | nil => simp [join]; omega
    | cons y r =>
      have := ih (fun z hz => h z (List.mem_cons_of_mem _ hz))
      rw [join_cons (by simp), List.length_append, List.length_cons, List.length_cons, Nat.succ_mul]
      omega
theorem may_parts {l : List S55} (h : mayB l = true) : l.length ≤ 20 ∧ ∀ p ∈ l, mayP p = true := by simpa [mayB] using h
theorem textL_length (l : List S55) (h : mayB l = true) : (textL l).length ≤ 4840 := by
  obtain ⟨h1, h2⟩ := may_parts h
  have := join_length 38 241 (l.map pairL) (fun x hx => by obtain ⟨p, hp, rfl⟩ := List.mem_map.1 hx; exact pairL_length p (h2 p hp))
  rw [List.length_map] at this
  unfold textL
  omega
theorem parse_f (s : ByteArray) (hs : s.size ≤ 6000) : query_Parse.f s = some (parseB s) := if_pos hs

theorem text_from (l : List S55) (hm : mayB l = true) : ∀ (d i : Nat), l.length = i + d → Ev (fun k => query_Text.l0 k ((l.take i).map fun p => txt (pairL p)) l (l.length : Int) i) (txt (textL l), (0 : Int)) := by
  obtain ⟨hl, hp⟩ := may_parts hm
  intro d
  induction d with
  | zero =>
    intro i hd
    refine Ev.step (f := fun _ => (strings_Join.f (l.map fun p => txt (pairL p)) (⟨#[38]⟩ : ByteArray)).bind fun t129 => (some (t129, 0))) (fun k => by rw [query_Text.l0, if_neg (by omega), List.take_of_length_le (by omega)]) ?_
    have e : (l.map fun p => txt (pairL p)).map (·.data.toList) = l.map pairL := by rw [List.map_map]; exact List.map_congr_left fun p _ => txt_data _
    refine ev_bind (a := txt (textL l)) ?_ (Ev.now _)
    unfold strings_Join.f
    rw [e, show (⟨#[38]⟩ : ByteArray).data.toList = [38] from rfl, lib_join]
    have := textL_length l hm
    rw [if_pos ⟨by simp; omega, by unfold textL at this; omega⟩]
    rfl
  | succ d ih =>
    intro i hd
    have hlt : i < l.length := by omega
    have e1 : wrap64 ((i : Int) + 1) = ((i + 1 : Nat) : Int) := by rw [wrap_in (by omega) (by omega)]; omega
    have hpi := hp l[i] (List.getElem_mem hlt)
    have hpl := hpi
    unfold mayP at hpl
    simp only [Bool.and_eq_true, decide_eq_true_eq] at hpl
    have w0 := wrL_length l[i].f0.data.toList
    have w1 := wrL_length l[i].f1.data.toList
    rw [← Lib.size_eq] at w0 w1
    refine Ev.step (f := fun k => query_Text.l0 k (((l.take i).map fun p => txt (pairL p)) ++ [txt (pairL l[i])]) l (l.length : Int) ((i + 1 : Nat) : Int)) (fun k => ?_) ?_
    · rw [query_Text.l0, if_pos (by omega), if_pos (by omega), if_pos (by omega), rd_at l i hlt, e1]
      unfold query_written.f
      rw [if_pos (by omega), Option.bind_some, if_pos (by rw [txt_size]; omega), if_pos (by omega), Option.bind_some, if_pos (by rw [show (⟨#[61]⟩ : ByteArray) = txt [61] from rfl, txt_append, txt_size, txt_size, List.length_append, List.length_singleton]; omega), if_pos (by simp; omega)]
      congr 3
      rw [pairL, show (⟨#[61]⟩ : ByteArray) = txt [61] from rfl, txt_append, txt_append]
      simp
    · have := ih (i + 1) (by omega)
      rw [List.take_succ_eq_append_getElem hlt, List.map_append] at this
      exact this
theorem text_ev (l : List S55) (hl : l.length ≤ 1000) : Ev (fun k => query_Text.f k l) (textB l) := by
  unfold query_Text.f textB
  refine ev_pos (by omega) (Ev.bind (may_ev l (by omega)) ?_)
  cases h : mayB l with
  | true => exact ev_pos rfl (text_from l h l.length 0 (by omega))
  | false => exact ev_neg (by simp) (Ev.now _)

/-! ### lists of pairs, the same -/
def same (l m : List S55) : Bool := decide (l.map (fun p => (p.f0, p.f1)) = m.map (fun p => (p.f0, p.f1)))
theorem same_iff {l m : List S55} : same l m = true ↔ l = m := by
  unfold same
  rw [decide_eq_true_eq]
  refine ⟨fun h => ?_, fun h => by rw [h]⟩
  have hi : Function.Injective (fun p : S55 => (p.f0, p.f1)) := by
    rintro ⟨a, b⟩ ⟨c, d⟩ h
    simp only [Prod.mk.injEq] at h
    rw [h.1, h.2]
  exact (List.map_inj_right (fun a b h => hi h)).1 h
theorem same_refl (l : List S55) : same l l = true := same_iff.2 rfl

end Go.Proofs.YtcakednecmngdaaDoor.Query

namespace Go.Proofs.YtcakednecmngdaaDoor.Query
open Go Go.RowKit Go.Proofs.YtcakednecmngdaaDoor.Plain Go.Proofs.YtcakednecmngdaaDoor.Y Go.Proofs.YtcakednecmngdaaDoor.P Go.Proofs.YtcakednecmngdaaDoorW.PrintWords Go.Proofs.YtcakednecmngdaaDoor.DnsPure

theorem same_cons (a b : S55) (l m : List S55) : same (a :: l) (b :: m) = (decide (a.f0 = b.f0) && decide (a.f1 = b.f1) && same l m) := by
  unfold same
  rw [Bool.eq_iff_iff]
  simp [and_assoc]
theorem Same (l m : List S55) (hl : l.length ≤ 1000000) : Ev (fun k => tollref04_Same.f k l m) (same l m) := by
  have go : m.length = l.length → ∀ (d i : Nat), l.length = i + d → Ev (fun k => tollref04_Same.l0 k l m i) (same (l.drop i) (m.drop i)) := by
    intro hm d
    induction d with
    | zero =>
      intro i hd
      refine Ev.step (f := fun _ => some true) (fun k => by rw [tollref04_Same.l0, if_neg (by omega)]) ?_
      rw [List.drop_eq_nil_of_le (by omega), List.drop_eq_nil_of_le (by omega)]; exact Ev.now _
    | succ d ih =>
      intro i hd
      have hlt : i < l.length := by omega
      have hlm : i < m.length := by omega
      have e1 : wrap64 ((i : Int) + 1) = ((i + 1 : Nat) : Int) := by rw [wrap_in (by omega) (by omega)]; omega
      refine Ev.step (fun k => by rw [tollref04_Same.l0, if_pos (by omega), if_pos (by omega), if_pos (by omega), rd_at l i hlt, rd_at m i hlm, e1]) ?_
      rw [List.drop_eq_getElem_cons hlt, List.drop_eq_getElem_cons hlm]
      by_cases h0 : l[i].f0 = m[i].f0
      · by_cases h1 : l[i].f1 = m[i].f1
        · refine ev_neg (by rw [h0, h1]; simp) ?_
          rw [same_cons, decide_eq_true h0, decide_eq_true h1, Bool.true_and, Bool.true_and]
          exact ih (i + 1) (by omega)
        · refine ev_pos (by
            have : (l[i].f1.toList == m[i].f1.toList) = false := by rw [beq_eq_false_iff_ne]; exact fun z => h1 (toList_inj.1 z)
            rw [this]; simp) ?_
          rw [same_cons, decide_eq_false h1, Bool.and_false, Bool.false_and]; exact Ev.now _
      · refine ev_pos (by
          have : (l[i].f0.toList == m[i].f0.toList) = false := by rw [beq_eq_false_iff_ne]; exact fun z => h0 (toList_inj.1 z)
          rw [this]; simp) ?_
        rw [same_cons, decide_eq_false h0, Bool.false_and, Bool.false_and]; exact Ev.now _
  unfold tollref04_Same.f
  by_cases h : (l.length : Int) = (m.length : Int)
  · refine ev_pos h ?_
    have := go (by omega) l.length 0 (by omega)
    simpa using this
  · refine ev_neg h ?_
    have : same l m = false := by
      cases hs : same l m with
      | false => rfl
      | true => exact absurd (by rw [same_iff.1 hs]) h
    rw [this]; exact Ev.now _

theorem may_ref_from (l : List S55) (hl : l.length ≤ 1000000) : ∀ (d i : Nat), l.length = i + d → Ev (fun k => tollref04_May.l0 k l i) ((l.drop i).all mayP && decide (l.length ≤ 20)) := by
  intro d
  induction d with
  | zero =>
    intro i hd
    refine Ev.step (f := fun _ => some (decide ((l.length : Int) ≤ 20))) (fun k => by rw [tollref04_May.l0, if_neg (by omega)]) ?_
    rw [List.drop_eq_nil_of_le (by omega), List.all_nil, Bool.true_and, show decide (l.length ≤ 20) = decide ((l.length : Int) ≤ 20) by rw [decide_eq_decide]; omega]
    exact Ev.now _
  | succ d ih =>
    intro i hd
    have hlt : i < l.length := by omega
    have e1 : wrap64 ((i : Int) + 1) = ((i + 1 : Nat) : Int) := by rw [wrap_in (by omega) (by omega)]; omega
    rw [List.drop_eq_getElem_cons hlt, List.all_cons]
    refine Ev.step (fun k => by rw [tollref04_May.l0, if_pos (by omega), if_pos (by omega), rd_at l i hlt, e1]) ?_
    by_cases h1 : l[i].f0.size = 0
    · refine ev_pos (by omega) ?_
      rw [mayP, decide_eq_false (by omega)]; exact Ev.now _
    · refine ev_neg (by omega) ?_
      by_cases h2 : l[i].f0.size ≤ 40
      · refine ev_neg (by omega) ?_
        by_cases h3 : l[i].f1.size ≤ 40
        · refine ev_neg (by omega) ?_
          rw [mayP, decide_eq_true (by omega), decide_eq_true h2, decide_eq_true h3]
          exact ih (i + 1) (by omega)
        · refine ev_pos (by omega) ?_
          rw [mayP, decide_eq_false h3, Bool.and_false, Bool.false_and]; exact Ev.now _
      · refine ev_pos (by omega) ?_
        rw [mayP, decide_eq_false h2, Bool.and_false, Bool.false_and]; exact Ev.now _
theorem May (l : List S55) (hl : l.length ≤ 1000000) : Ev (fun k => tollref04_May.f k l) (mayB l) := by
  unfold tollref04_May.f mayB
  rw [Bool.and_comm]
  exact may_ref_from l hl l.length 0 (by omega)

/-! ### digits, and what is read -/
set_option maxRecDepth 100000 in
theorem number_fin : ∀ n : Fin 256, tollref04_number.f 17 (n.val : Int) = some (match hexV (UInt8.ofNat n.val) with | some x => (x : Int) | none => 99) := by decide +kernel
theorem number_ev (c : UInt8) : Ev (fun k => tollref04_number.f k (c.toNat : Int)) (match hexV c with | some x => (x : Int) | none => 99) := by
  have h := number_fin ⟨c.toNat, c.toNat_lt⟩
  have e : UInt8.ofNat c.toNat = c := by simp
  simp only [e] at h
  exact Ev.of (fun k => tollref04_number.mono _ k) h
set_option maxRecDepth 100000 in
theorem sum_fin : ∀ x y : Fin 16, (wrap64 ((wrap64 (16 * (x.val : Int))) + (y.val : Int))) % 256 = ((oct16 x.val y.val).toNat : Int) := by decide +kernel
theorem ext_from (s : ByteArray) (l : List UInt8) (n : Nat) (h : s.data.toList = l) : s.extract n s.size = txt (l.drop n) := by
  rw [← txt_of (s.extract _ _), Lib.extract_data, h, List.take_of_length_le]
  rw [List.length_drop, Lib.size_eq, h]
  omega

theorem read_ref_from : ∀ (d : Nat) (l q : List UInt8), l.length ≤ d → l.length ≤ 6000 → q.length ≤ 6000 - l.length → Ev (fun k => tollref04_read.l0 k (txt l) (txt q)) (readEnd q l) := by
  intro d
  induction d with
  | zero =>
    intro l q hd hl hq
    obtain rfl : l = [] := List.eq_nil_of_length_eq_zero (by omega)
    refine Ev.step (f := fun _ => some (txt q, true)) (fun k => by rw [tollref04_read.l0, if_neg (by rw [txt_size]; simp)]) ?_
    rw [readEnd, readL]
    simpa using Ev.now _
  | succ d ih =>
    intro l q hd hl hq
    cases l with
    | nil =>
      refine Ev.step (f := fun _ => some (txt q, true)) (fun k => by rw [tollref04_read.l0, if_neg (by rw [txt_size]; simp)]) ?_
      rw [readEnd, readL]
      simpa using Ev.now _
    | cons c l =>
      simp only [List.length_cons] at hd hl hq
      have hz : (txt (c :: l)).size = l.length + 1 := by rw [txt_size]; simp
      have b0 : bt (txt (c :: l)) 0 = (c.toNat : Int) := by
        have := bt_list (txt (c :: l)) 0 (by omega)
        simpa [txt] using this
      have x1 : (txt (c :: l)).extract 1 (txt (c :: l)).size = txt l := by
        rw [ext_from _ (c :: l) 1 (txt_data _)]; rfl
      have x0 : (txt (c :: l)).extract 0 1 = txt [c] := by
        have := ext_one (txt (c :: l)) 0 (by omega)
        simpa [txt] using this
      have stepped : ∀ c' : UInt8, readEnd q (c :: l) = readEnd (q ++ [c']) l → Ev (fun k => tollref04_read.l0 k (txt l) (txt (q ++ [c']))) (readEnd q (c :: l)) := by
        intro c' he
        rw [he]
        exact ih l (q ++ [c']) (by omega) (by omega) (by simp; omega)
      by_cases h43 : c = 43
      · subst h43
        refine Ev.step (f := fun k => tollref04_read.l0 k (txt l) (txt (q ++ [32]))) (fun k => ?_) (stepped 32 ?_)
        · rw [tollref04_read.l0, if_pos (by omega), if_pos (by omega), b0, if_neg (by decide), if_pos (by decide), if_pos (by rw [txt_size]; omega), if_pos (by omega), x1, show (⟨#[32]⟩ : ByteArray) = txt [32] from rfl, txt_append]
        · rw [readEnd, readL_cons (by decide), readEnd]
          cases readL l <;> simp [plus]
      · have hn43 : ¬ ((c.toNat : Int) = 43) := fun h => h43 (UInt8.toNat_inj.1 (show c.toNat = 43 by omega))
        by_cases h37 : c = 37
        · subst h37
          match l with
          | [] =>
            refine Ev.step (f := fun k => tollref04_read.j1 k (txt [37]) (txt q) true) (fun k => by rw [tollref04_read.l0, if_pos (by omega), if_pos (by omega), b0, if_pos (by decide), if_pos (by rw [hz]; simp)]) ?_
            rw [readEnd, readL_short (by simp)]
            exact Ev.step (f := fun _ => some _) (fun k => by rw [tollref04_read.j1, if_pos rfl]) (Ev.now _)
          | [a] =>
            refine Ev.step (f := fun k => tollref04_read.j1 k (txt [37, a]) (txt q) true) (fun k => by rw [tollref04_read.l0, if_pos (by omega), if_pos (by omega), b0, if_pos (by decide), if_pos (by rw [hz]; simp)]) ?_
            rw [readEnd, readL_short (by simp)]
            exact Ev.step (f := fun _ => some _) (fun k => by rw [tollref04_read.j1, if_pos rfl]) (Ev.now _)
          | a :: b :: l =>
            have hz3 : (txt (37 :: a :: b :: l)).size = l.length + 3 := by rw [txt_size]; simp
            have b1 : bt (txt (37 :: a :: b :: l)) 1 = (a.toNat : Int) := by
              have := bt_list (txt (37 :: a :: b :: l)) 1 (by omega)
              simpa [txt] using this
            have b2 : bt (txt (37 :: a :: b :: l)) 2 = (b.toNat : Int) := by
              have := bt_list (txt (37 :: a :: b :: l)) 2 (by omega)
              simpa [txt] using this
            have x3 : (txt (37 :: a :: b :: l)).extract 3 (txt (37 :: a :: b :: l)).size = txt l := by
              rw [ext_from _ (37 :: a :: b :: l) 3 (txt_data _)]; rfl
            rw [readEnd, readL_oct]
            refine Ev.step (f := fun k => (tollref04_number.f k (a.toNat : Int)).bind fun t194 => (if t194 > 15 then (tollref04_read.j1 k (txt (37 :: a :: b :: l)) (txt q) true) else ((tollref04_number.f k (b.toNat : Int)).bind fun t195 => (tollref04_read.j1 k (txt (37 :: a :: b :: l)) (txt q) (decide (t195 > 15)))))) (fun k => by
              rw [tollref04_read.l0, if_pos (by omega), if_pos (by omega), b0, if_pos (by decide), if_neg (by omega), if_pos (by omega), b1]; simp only [if_pos (show (2 : Int) < ((txt (37 :: a :: b :: l)).size : Int) by omega), b2]) ?_
            have fail : Ev (fun k => tollref04_read.j1 k (txt (37 :: a :: b :: l)) (txt q) true) ((⟨#[]⟩ : ByteArray), false) := Ev.step (f := fun _ => some _) (fun k => by rw [tollref04_read.j1, if_pos rfl]) (Ev.now _)
            refine Ev.bind (number_ev a) ?_
            cases hxa : hexV a with
            | none => exact ev_pos (by decide) fail
            | some x =>
              have hx := hexV_lt hxa
              refine ev_neg (by simp only; omega) (Ev.bind (number_ev b) ?_)
              cases hxb : hexV b with
              | none => exact fail
              | some y =>
                have hy := hexV_lt hxb
                have es := sum_fin ⟨x, hx⟩ ⟨y, hy⟩
                simp only at es
                have hne : decide (((y : Nat) : Int) > 15) = false := decide_eq_false (by omega)
                simp only [hne]
                refine Ev.step (f := fun k => (tollref04_number.f k (a.toNat : Int)).bind fun t196 => (tollref04_number.f k (b.toNat : Int)).bind fun t197 => (if (txt q).size + (strOfNums [(wrap64 ((wrap64 (16 * t196)) + t197)) % 256]).size ≤ 9223372036854775807 then (tollref04_read.l0 k (txt l) ((txt q) ++ (strOfNums [(wrap64 ((wrap64 (16 * t196)) + t197)) % 256]))) else (none))) (fun k => by
                  rw [tollref04_read.j1, if_neg (by simp), if_pos (by omega), b1]
                  simp only [if_pos (show (2 : Int) < ((txt (37 :: a :: b :: l)).size : Int) by omega), b2, Option.bind_some, if_pos (show (3 : Int) ≤ ((txt (37 :: a :: b :: l)).size : Int) by omega), x3]) ?_
                refine Ev.bind (number_ev a) (Ev.bind (number_ev b) ?_)
                simp only [hxa, hxb, es]
                have eo : strOfNums [((oct16 x y).toNat : Int)] = txt [oct16 x y] := by
                  have := ints_text [oct16 x y]
                  simpa [ints] using this
                rw [eo]
                refine ev_pos (by rw [txt_size, txt_size]; simp; omega) ?_
                rw [txt_append]
                have := ih l (q ++ [oct16 x y]) (by simp only [List.length_cons] at hd; omega) (by simp only [List.length_cons] at hl; omega) (by simp only [List.length_cons] at hq; simp; omega)
                simp only [Option.bind_some]
                rw [readEnd] at this
                cases hr : readL l with
                | none => rw [hr] at this; simpa using this
                | some r => rw [hr] at this; simpa using this
        · have hn37 : ¬ ((c.toNat : Int) = 37) := fun h => h37 (UInt8.toNat_inj.1 (show c.toNat = 37 by omega))
          refine Ev.step (f := fun k => tollref04_read.l0 k (txt l) (txt (q ++ [c]))) (fun k => ?_) (stepped c ?_)
          · rw [tollref04_read.l0, if_pos (by omega), if_pos (by omega), b0, if_neg hn37, if_neg hn43, if_pos (by omega), if_pos (by omega), x0, if_pos (by rw [txt_size, txt_size]; simp; omega), x1, txt_append]
          · rw [readEnd, readL_cons h37, readEnd, plus_int c h43]
            cases readL l <;> simp
theorem ReadRef (l : List UInt8) (hl : l.length ≤ 6000) : Ev (fun k => tollref04_read.f k (txt l)) (readEnd [] l) := by
  unfold tollref04_read.f
  exact read_ref_from l.length l [] (Nat.le_refl _) hl (by simp)

end Go.Proofs.YtcakednecmngdaaDoor.Query

namespace Go.Proofs.YtcakednecmngdaaDoor.Query
open Go Go.RowKit Go.Proofs.YtcakednecmngdaaDoor.Plain Go.Proofs.YtcakednecmngdaaDoor.Y Go.Proofs.YtcakednecmngdaaDoor.P Go.Proofs.YtcakednecmngdaaDoorW.PrintWords Go.Proofs.YtcakednecmngdaaDoor.DnsPure

theorem rdb_at (l : List ByteArray) (i : Nat) (h : i < l.length) : rdOf ByteArray.empty l (i : Int) = l[i] := DnsPure.rd_at l i h

/-! ### written -/
set_option maxRecDepth 100000 in
theorem plain_ref_fin : ∀ n : Fin 256, tollref04_Plain.f (n.val : Int) = some (plainN n.val) := by decide +kernel
theorem plain_ref (c : UInt8) : tollref04_Plain.f (c.toNat : Int) = some (plainB c) := plain_ref_fin ⟨c.toNat, c.toNat_lt⟩
set_option maxRecDepth 100000 in
theorem hex_fin : ∀ n : Fin 256, tollref04_hex.f ((Int.tdiv (n.val : Int) 16) % 256) = some ((hexN (n.val / 16)).toNat : Int) ∧ tollref04_hex.f (Int.tmod (n.val : Int) 16) = some ((hexN (n.val % 16)).toNat : Int) := by decide +kernel
theorem written_ref_from (s : ByteArray) (hs : s.size ≤ 1000) : ∀ (d i : Nat), s.size = i + d → Ev (fun k => tollref04_written.l0 k s (txt (wrL (s.data.toList.take i))) i) (txt (wrL s.data.toList)) := by
  intro d
  induction d with
  | zero =>
    intro i hd
    refine Ev.step (f := fun _ => some _) (fun k => by rw [tollref04_written.l0, if_neg (by omega)]) ?_
    rw [List.take_of_length_le (by simp; omega)]
    exact Ev.now _
  | succ d ih =>
    intro i hd
    have hlt : i < s.size := by omega
    have hl : i < s.data.toList.length := by simpa using hlt
    have e1 : wrap64 ((i : Int) + 1) = ((i + 1 : Nat) : Int) := by rw [wrap_in (by omega) (by omega)]; omega
    have eb := bt_list s i hlt
    have hnext := ih (i + 1) (by omega)
    rw [List.take_succ_eq_append_getElem hl, wrL_snoc, ← txt_append] at hnext
    have hx := ext_one s i hlt
    have hw := wrL_length (s.data.toList.take i)
    rw [List.length_take] at hw
    obtain ⟨c, hc⟩ : ∃ c, s.data.toList[i] = c := ⟨_, rfl⟩
    rw [hc] at eb hnext hx
    have i0 : ((i : Nat) : Int).toNat = i := by omega
    have i1 : (((i + 1 : Nat) : Int)).toNat = i + 1 := by omega
    refine Ev.step (fun k => by rw [tollref04_written.l0, if_pos (by omega), if_pos (by omega), eb, plain_ref, Option.bind_some, e1, i0, i1, hx]) ?_
    unfold wr1 at hnext
    by_cases hp : plainB c = true
    · rw [if_pos hp] at hnext
      exact ev_pos hp (ev_pos (by omega) (ev_pos (by omega) (ev_pos (by rw [txt_size, txt_size, List.length_singleton]; omega) hnext)))
    · rw [if_neg hp] at hnext
      refine ev_neg hp ?_
      by_cases h32 : c.toNat = 32
      · rw [if_pos h32] at hnext
        exact ev_pos (by omega) (ev_pos (by rw [txt_size]; omega) hnext)
      · rw [if_neg h32] at hnext
        obtain ⟨h1, h2⟩ := hex_fin ⟨c.toNat, c.toNat_lt⟩
        refine ev_neg (by omega) (ev_bind h1 (ev_bind h2 (ev_bind rfl ?_)))
        have eo : strOfNums [37, ((hexN (c.toNat / 16)).toNat : Int), ((hexN (c.toNat % 16)).toNat : Int)] = txt [37, hexN (c.toNat / 16), hexN (c.toNat % 16)] := by
          have := ints_text [37, hexN (c.toNat / 16), hexN (c.toNat % 16)]
          simpa [ints] using this
        rw [eo]
        exact ev_pos (by rw [txt_size, txt_size]; simp; omega) hnext
theorem WrittenRef (s : ByteArray) (hs : s.size ≤ 1000) : Ev (fun k => tollref04_written.f k s) (txt (wrL s.data.toList)) := written_ref_from s hs s.size 0 (by omega)

/-! ### Text -/
theorem text_ref_from (l : List S55) (hm : mayB l = true) : ∀ (d i : Nat), l.length = i + d → Ev (fun k => tollref04_Text.l0 k l (txt (textL (l.take i))) i) (txt (textL l)) := by
  obtain ⟨hl, hp⟩ := may_parts hm
  intro d
  induction d with
  | zero =>
    intro i hd
    refine Ev.step (f := fun _ => some _) (fun k => by rw [tollref04_Text.l0, if_neg (by omega)]) ?_
    rw [List.take_of_length_le (by omega)]
    exact Ev.now _
  | succ d ih =>
    intro i hd
    have hlt : i < l.length := by omega
    have e1 : wrap64 ((i : Int) + 1) = ((i + 1 : Nat) : Int) := by rw [wrap_in (by omega) (by omega)]; omega
    have hpi := hp l[i] (List.getElem_mem hlt)
    have hpl := hpi
    unfold mayP at hpl
    simp only [Bool.and_eq_true, decide_eq_true_eq] at hpl
    have hpL := pairL_length l[i] hpi
    have w0 := wrL_length l[i].f0.data.toList
    have w1 := wrL_length l[i].f1.data.toList
    rw [← Lib.size_eq] at w0 w1
    have hti : mayB (l.take i) = true := by
      rw [mayB, Bool.and_eq_true, decide_eq_true_eq, List.all_eq_true]
      exact ⟨by rw [List.length_take]; omega, fun p h => hp p (List.mem_of_mem_take h)⟩
    have htl := textL_length _ hti
    have hnext := ih (i + 1) (by omega)
    have ep : (txt (wrL l[i].f0.data.toList) ++ (⟨#[61]⟩ : ByteArray)) ++ txt (wrL l[i].f1.data.toList) = txt (pairL l[i]) := by
      rw [show (⟨#[61]⟩ : ByteArray) = txt [61] from rfl, txt_append, txt_append, pairL]; simp
    by_cases hi : i = 0
    · subst hi
      refine Ev.step (fun k => by rw [tollref04_Text.l0, if_pos (by omega), if_neg (by omega), if_pos (by omega), rd_at l 0 hlt, e1]) ?_
      refine Ev.bind (WrittenRef _ (by omega)) (ev_pos (by rw [txt_size]; omega) (Ev.bind (WrittenRef _ (by omega)) ?_))
      rw [ep]
      refine ev_pos (by rw [show (⟨#[61]⟩ : ByteArray) = txt [61] from rfl, txt_append, txt_size, txt_size, List.length_append, List.length_singleton]; omega) (ev_pos (by rw [txt_size, txt_size]; omega) ?_)
      rw [txt_append]
      have : textL (l.take 0) ++ pairL l[0] = textL (l.take (0 + 1)) := by
        rw [List.take_succ_eq_append_getElem hlt]
        simp [textL, join]
      rw [this]
      exact hnext
    · refine Ev.step (fun k => by rw [tollref04_Text.l0, if_pos (by omega), if_pos (by omega), if_pos (by rw [txt_size]; omega), if_pos (by omega), rd_at l i hlt, e1]) ?_
      refine Ev.bind (WrittenRef _ (by omega)) (ev_pos (by rw [txt_size]; omega) (Ev.bind (WrittenRef _ (by omega)) ?_))
      rw [ep]
      refine ev_pos (by rw [show (⟨#[61]⟩ : ByteArray) = txt [61] from rfl, txt_append, txt_size, txt_size, List.length_append, List.length_singleton]; omega) (ev_pos (by rw [show (⟨#[38]⟩ : ByteArray) = txt [38] from rfl, txt_append, txt_size, txt_size, List.length_append, List.length_singleton]; omega) ?_)
      rw [show (⟨#[38]⟩ : ByteArray) = txt [38] from rfl, txt_append, txt_append]
      have hne : (l.take i).map pairL ≠ [] := by
        intro h
        have := congrArg List.length h
        rw [List.length_map, List.length_take, List.length_nil] at this
        omega
      have : textL (l.take i) ++ [38] ++ pairL l[i] = textL (l.take (i + 1)) := by
        rw [List.take_succ_eq_append_getElem hlt]
        unfold textL
        rw [List.map_append, join_append hne (by simp)]
        simp [join]
      rw [this]
      exact hnext
theorem TextRef (l : List S55) (hm : mayB l = true) : Ev (fun k => tollref04_Text.f k l) (txt (textL l)) := text_ref_from l hm l.length 0 (by omega)

/-! ### Parse -/
theorem scan_from (ps : List ByteArray) (acc : List S55) (i : Nat) (hi : i < ps.length) (hs : ps[i].size ≤ 1000) (hi2 : i ≤ 2000) (r : List S55 × Bool)
    (a rest : List UInt8) (e : ps[i].data.toList = a ++ rest) (ha : (61 : UInt8) ∉ a) (hr : rest.head? = some 61 ∨ rest = [])
    (go : Ev (fun k => tollref04_Parse.j2 k ps acc i (a.length : Int)) r) : ∀ (d j : Nat), a.length = j + d → Ev (fun k => tollref04_Parse.l1 k ps acc i j) r := by
  have hz : ps[i].size = a.length + rest.length := by rw [Lib.size_eq, e, List.length_append]
  intro d
  induction d with
  | zero =>
    intro j hd
    obtain rfl : a.length = j := by omega
    rcases hr with hr | hr
    · have hlt : a.length < ps[i].size := by
        cases rest with
        | nil => cases hr
        | cons x r => rw [hz]; simp
      have eb := bt_list ps[i] a.length hlt
      refine Ev.step (fun k => by rw [tollref04_Parse.l1, if_pos (by omega), if_pos (by omega), rdb_at ps i hi, if_pos (by omega), if_pos (by omega), eb]) ?_
      have hc : ps[i].data.toList[a.length]'(by simpa using hlt) = 61 := by
        cases rest with
        | nil => cases hr
        | cons x r =>
          simp only [e]
          rw [List.getElem_append_right (Nat.le_refl _)]
          simpa using hr
      exact ev_pos (by rw [hc]; rfl) go
    · subst hr
      refine Ev.step (fun k => by rw [tollref04_Parse.l1, if_pos (by omega), if_pos (by omega), rdb_at ps i hi, if_neg (by simp at hz; omega)]) go
  | succ d ih =>
    intro j hd
    have hlt : j < ps[i].size := by omega
    have hja : j < a.length := by omega
    have e1 : wrap64 ((j : Int) + 1) = ((j + 1 : Nat) : Int) := by rw [wrap_in (by omega) (by omega)]; omega
    have eb := bt_list ps[i] j hlt
    have hc : ps[i].data.toList[j]'(by simpa using hlt) = a[j] := by
      simp only [e]
      exact List.getElem_append_left hja
    rw [hc] at eb
    refine Ev.step (f := fun k => tollref04_Parse.l1 k ps acc i ((j + 1 : Nat) : Int)) (fun k => ?_) (ih (j + 1) (by omega))
    have hne : ¬ ((a[j].toNat : Int) = 61) := fun h => ha (by
      have : a[j] = 61 := UInt8.toNat_inj.1 (show a[j].toNat = 61 by omega)
      rw [← this]; exact List.getElem_mem hja)
    rw [tollref04_Parse.l1, if_pos (by omega), if_pos (by omega), rdb_at ps i hi, if_pos (by omega), if_pos (by omega), eb, if_neg hne, e1]

theorem one_part (ps : List ByteArray) (acc : List S55) (i : Nat) (hi : i < ps.length) (hs : ps[i].size ≤ 1000) (hi2 : i ≤ 2000) (hacc : acc.length ≤ 2000) (r : List S55 × Bool)
    (go : ∀ p, pairB ps[i] = some p → Ev (fun k => tollref04_Parse.l0 k ps (acc ++ [p]) ((i + 1 : Nat) : Int)) r) (hn : pairB ps[i] = none → r = ([], false)) :
    Ev (fun k => tollref04_Parse.l0 k ps acc i) r := by
  have e1 : wrap64 ((i : Int) + 1) = ((i + 1 : Nat) : Int) := by rw [wrap_in (by omega) (by omega)]; omega
  refine Ev.step (fun k => by rw [tollref04_Parse.l0, if_pos (by omega)]) ?_
  -- what the two texts are
  have j3 : ∀ (a b : List UInt8), a.length ≤ ps[i].size → before 61 ps[i].data.toList = a → behind 61 ps[i].data.toList = b → ps[i].extract 0 a.length = txt a → b.length ≤ 1000 → Ev (fun k => tollref04_Parse.j3 k ps acc i (a.length : Int) (txt b)) r := by
    intro a b hal h1 h2 hx hb
    have i0 : ((a.length : Nat) : Int).toNat = a.length := by omega
    refine Ev.step (fun k => by rw [tollref04_Parse.j3, if_pos (by omega), if_pos (by omega), if_pos (by omega), rdb_at ps i hi, if_pos (by omega), i0, hx, e1]) ?_
    refine Ev.bind (ReadRef a (by omega)) (Ev.bind (ReadRef b (by omega)) ?_)
    cases ha : readL a with
    | none =>
      have : pairB ps[i] = none := by rw [pairB, h1, ha]; rfl
      have e : readEnd [] a = (⟨#[]⟩, false) := by rw [readEnd, ha]
      rw [e, hn this]
      exact ev_neg (by simp) (Ev.now _)
    | some x =>
      have e : readEnd [] a = (txt x, true) := by rw [readEnd, ha]; simp
      rw [e]
      refine ev_pos rfl ?_
      cases hb' : readL b with
      | none =>
        have : pairB ps[i] = none := by rw [pairB, h1, ha, h2, hb']; rfl
        have e : readEnd [] b = (⟨#[]⟩, false) := by rw [readEnd, hb']
        rw [e, hn this]
        exact ev_neg (by simp) (Ev.now _)
      | some y =>
        have e : readEnd [] b = (txt y, true) := by rw [readEnd, hb']; simp
        rw [e]
        refine ev_pos rfl (ev_pos (by omega) ?_)
        exact go ⟨txt x, txt y⟩ (by rw [pairB, h1, ha, h2, hb']; rfl)
  by_cases hm : (61 : UInt8) ∈ ps[i].data.toList
  · obtain ⟨a, b, e, hna⟩ := first_split hm
    have hz : ps[i].size = a.length + (b.length + 1) := by rw [Lib.size_eq, e]; simp
    obtain ⟨h1, h2⟩ := before_split a b hna
    rw [← e] at h1 h2
    refine scan_from ps acc i hi hs hi2 r a (61 :: b) e hna (.inl rfl) ?_ a.length 0 (by omega)
    have e2 : wrap64 ((a.length : Int) + 1) = ((a.length + 1 : Nat) : Int) := by rw [wrap_in (by omega) (by omega)]; omega
    have i0 : (((a.length + 1 : Nat) : Int)).toNat = a.length + 1 := by omega
    have hx2 : ps[i].extract (a.length + 1) ps[i].size = txt b := by
      rw [ext_from _ _ (a.length + 1) e, List.drop_append, List.drop_eq_nil_of_le (by omega)]
      simp
    refine Ev.step (fun k => by rw [tollref04_Parse.j2, if_pos (by omega), if_pos (by omega), rdb_at ps i hi, if_pos (by omega), e2, if_pos (by omega), if_pos (by omega), i0, hx2]) ?_
    refine j3 a b (by omega) h1 h2 ?_ (by omega)
    rw [← txt_of (ps[i].extract _ _), Lib.extract_data, e]
    simp
  · obtain ⟨h1, h2⟩ := before_no _ hm
    have hz := Lib.size_eq ps[i]
    refine scan_from ps acc i hi hs hi2 r ps[i].data.toList [] (by simp) hm (.inr rfl) ?_ ps[i].data.toList.length 0 (by omega)
    refine Ev.step (fun k => by rw [tollref04_Parse.j2, if_pos (by omega), if_pos (by omega), rdb_at ps i hi, if_neg (by omega)]) ?_
    refine j3 ps[i].data.toList [] (by omega) h1 h2 ?_ (by simp)
    rw [← txt_of (ps[i].extract _ _), Lib.extract_data]
    simp
    rw [List.take_of_length_le (by omega)]

def refB (ps : List ByteArray) (acc : List S55) : List S55 × Bool := match pairsB ps with
  | none => ([], false)
  | some l => if mayB (acc ++ l) = true then (acc ++ l, true) else ([], false)
theorem parse_ref_from (ps : List ByteArray) (hs : ∀ p ∈ ps, p.size ≤ 1000) (hl : ps.length ≤ 2000) : ∀ (d i : Nat) (acc : List S55), ps.length = i + d → acc.length = i → Ev (fun k => tollref04_Parse.l0 k ps acc i) (refB (ps.drop i) acc) := by
  intro d
  induction d with
  | zero =>
    intro i acc hd ha
    refine Ev.step (fun k => by rw [tollref04_Parse.l0, if_neg (by omega)]) ?_
    rw [List.drop_eq_nil_of_le (by omega), refB, pairsB]
    simp only [List.append_nil]
    refine Ev.bind (May acc (by omega)) ?_
    cases mayB acc with
    | true => exact ev_pos rfl (Ev.now _)
    | false => exact ev_neg (by simp) (Ev.now _)
  | succ d ih =>
    intro i acc hd ha
    have hi : i < ps.length := by omega
    rw [List.drop_eq_getElem_cons hi]
    refine one_part ps acc i hi (hs _ (List.getElem_mem hi)) (by omega) (by omega) _ (fun p hp => ?_) (fun hp => ?_)
    · have := ih (i + 1) (acc ++ [p]) (by omega) (by simp; omega)
      have e : refB (ps[i] :: ps.drop (i + 1)) acc = refB (ps.drop (i + 1)) (acc ++ [p]) := by
        rw [refB, refB, pairsB, hp, Option.bind_some]
        cases pairsB (ps.drop (i + 1)) <;> simp
      rw [e]; exact this
    · rw [refB, pairsB, hp]; rfl
def refOf (r : List S55 × Int) : List S55 × Bool := (r.1, r.2 == 0)
theorem ParseRef (s : ByteArray) (hs : s.size ≤ 1000) : Ev (fun k => tollref04_Parse.f k s) (refOf (parseB s)) := by
  unfold tollref04_Parse.f parseB
  by_cases h0 : s.size = 0
  · rw [if_pos h0]
    exact ev_pos (by rw [Lib.toList_data]; rw [Lib.size_eq] at h0; exact List.length_eq_zero_iff.1 h0) (Ev.now _)
  · rw [if_neg h0]
    refine ev_neg (by rw [Lib.toList_data]; intro h; apply h0; rw [Lib.size_eq, h]; rfl) (Ev.bind (Split s 38 hs) ?_)
    have hm := partsB_many 38 s
    have := parse_ref_from (partsB 38 s) (fun p hp => by have := partsB_le hp; omega) (by omega) (partsB 38 s).length 0 [] (by omega) rfl
    rw [List.drop_zero, refB] at this
    cases hp : pairsB (partsB 38 s) with
    | none => rw [hp] at this; exact this
    | some l =>
      rw [hp] at this
      simp only [List.nil_append] at this ⊢
      by_cases hb : mayB l = true
      · rw [if_pos hb] at this ⊢; exact this
      · rw [if_neg hb] at this ⊢; exact this

end Go.Proofs.YtcakednecmngdaaDoor.Query

namespace Go.Proofs.YtcakednecmngdaaDoor.Query
open Go Go.RowKit Go.Proofs.YtcakednecmngdaaDoor.Plain Go.Proofs.YtcakednecmngdaaDoor.Y Go.Proofs.YtcakednecmngdaaDoor.P Go.Proofs.YtcakednecmngdaaDoorW.PrintWords Go.Proofs.YtcakednecmngdaaDoor.DnsPure

theorem aw1 : query_Parse.f (⟨#[97, 61, 49, 38, 98]⟩ : ByteArray) = some ([⟨⟨#[97]⟩, ⟨#[49]⟩⟩, ⟨⟨#[98]⟩, ⟨#[]⟩⟩], 0) := by kernel_rfl
theorem aw2 : query_Parse.f (⟨#[97, 61, 37, 52, 97, 43]⟩ : ByteArray) = some ([⟨⟨#[97]⟩, ⟨#[74, 32]⟩⟩], 0) := by kernel_rfl
theorem aw3 : query_Parse.f (⟨#[38]⟩ : ByteArray) = some ([], 2) := by kernel_rfl
theorem aw4 : textB [⟨⟨#[97]⟩, ⟨#[61, 38]⟩⟩] = (⟨#[97, 61, 37, 51, 68, 37, 50, 54]⟩, 0) := by kernel_rfl
theorem awake : Ev (fun k => tolllaw04_awake.f k) true := by
  unfold tolllaw04_awake.f
  refine ev_bind aw1 (ev_bind aw2 (Ev.bind (text_ev _ (by simp)) (ev_bind aw3 ?_)))
  rw [aw4]
  refine Ev.bind (Same _ _ (by simp)) (ev_pos (same_refl _) (ev_pos rfl (Ev.bind (Same _ _ (by simp)) (ev_pos (same_refl _) (ev_pos rfl ?_)))))
  exact ev_pos (by rw [Lib.toList_data]) (ev_pos rfl (ev_pos rfl (Ev.now _)))
def shortB (s : ByteArray) : ByteArray := if 600 < s.size then s.extract 0 600 else s
theorem short_eq (s : ByteArray) : tolllaw04_Text.f s = some (shortB s) := by
  unfold tolllaw04_Text.f shortB
  by_cases h : 600 < s.size
  · rw [if_pos (by omega), if_pos (by omega), if_pos (by omega), if_pos h]
  · rw [if_neg (by omega), if_neg h]
theorem short_size (s : ByteArray) : (shortB s).size ≤ 600 := by
  unfold shortB
  split
  · rw [ByteArray.size_extract]; omega
  · omega
theorem parse_may {s : ByteArray} {l : List S55} (h : parseB s = (l, 0)) : mayB l = true := by
  unfold parseB at h
  split at h
  · injection h with h1 _; subst h1; rfl
  · split at h
    · injection h with _ h2; exact absurd h2 (by decide)
    · split at h
      · next hm => injection h with h1 _; subst h1; exact hm
      · injection h with _ h2; exact absurd h2 (by decide)
/-- What is read: pairs that may be; or no pairs, and the error's number 2. -/
theorem parse_cases (s : ByteArray) : (∃ l, parseB s = (l, 0) ∧ mayB l = true) ∨ parseB s = ([], 2) := by
  unfold parseB
  split
  · exact .inl ⟨[], rfl, rfl⟩
  · split
    · exact .inr rfl
    · split
      · next l _ hm => exact .inl ⟨l, rfl, hm⟩
      · exact .inr rfl

end Go.Proofs.YtcakednecmngdaaDoor.Query
