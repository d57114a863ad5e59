/-
  The plain law of QueueDoes: any queue with any refs behind it, one that is taken out of it, or dropped, and whether one is there, is the document's, or it is refused with its error.
  Conditions: whole numbers of 64 bits.
-/
import Derived.Test.YtcakednecmngdaaDoorQueuePure
import Derived.Test.YtcakednecmngdaaDoorQf19
import Derived.Test.YtcakednecmngdaaDoorBaseLabel
namespace Go.Proofs.YtcakednecmngdaaDoor.Pure
open Go Go.RowKit Go.Proofs.YtcakednecmngdaaDoor.Q Go.Proofs.YtcakednecmngdaaDoor.P Go.Proofs.YtcakednecmngdaaDoorW.PrintWords Go.Proofs.YtcakednecmngdaaDoor.Plain Go.Proofs.YtcakednecmngdaaDoor.DnsPure Go.Proofs.YtcakednecmngdaaDoor.Queue Go.Proofs.YtcakednecmngdaaDoor.QueuePure

theorem few_few (s : ByteArray) : fewB (fewB s) = fewB s := by
  have h := few_size s
  conv => lhs; rw [fewB]
  rw [if_neg (by omega)]
theorem fewQ_fewQ (l : List S37) : fewQ (fewQ l) = fewQ l := by
  have h := fewQ_length l
  conv => lhs; rw [fewQ]
  rw [List.take_of_length_le h]
  unfold fewQ
  rw [List.map_map]
  refine List.map_congr_left fun r _ => ?_
  simp only [Function.comp, fewR, few_few]
/-- Texts no longer than are looked at. -/
def shortR (r : S37) : Prop := r.f1.size ≤ 100 ∧ r.f2.size ≤ 100
theorem fewQ_short (l : List S37) : ∀ r ∈ fewQ l, shortR r := by
  intro r hr
  obtain ⟨x, _, rfl⟩ := List.mem_map.1 hr
  exact ⟨few_size _, few_size _⟩

/-! ### the document's answers -/
theorem MayRef (r : S37) (h : shortR r) : Ev (fun k => tollref09_MayRef.f k r.f0 r.f1 r.f2) (mayR r) := by
  have hN := Name r.f2 (by have := h.2; omega)
  have hL2 := Label r.f2 (by have := h.2; omega)
  have hL1 := Label r.f1 (by have := h.1; omega)
  unfold tollref09_MayRef.f mayR
  by_cases h1 : r.f0 < 1
  · refine ev_pos h1 (Ev.step (fun k => by rw [tollref09_MayRef.j0, if_pos rfl]) ?_)
    rw [if_neg (by omega), if_neg (by omega), decide_eq_false (show ¬ 1 ≤ r.f0 by omega)]
    exact Ev.now _
  · refine ev_neg h1 ?_
    by_cases h7 : r.f0 > 7
    · rw [decide_eq_true h7, if_neg (by omega), if_neg (by omega), decide_eq_false (show ¬ r.f0 ≤ 7 by omega), decide_eq_true (show 1 ≤ r.f0 by omega)]
      refine Ev.step (f := fun _ => some false) (fun k => by rw [tollref09_MayRef.j0, if_pos rfl]) ?_
      rw [Bool.and_false, Bool.false_and, Bool.false_and]
      exact Ev.now _
    · rw [decide_eq_false h7]
      by_cases h3 : r.f0 < 3
      · refine Ev.step (fun k => by rw [tollref09_MayRef.j0, if_neg (by simp), if_pos h3]) ?_
        by_cases hs : r.f1.size = 0
        · refine ev_pos ((nil_iff _).2 hs) ?_
          by_cases e1 : r.f0 = 1
          · rw [if_pos e1, decide_eq_true hs]
            refine ev_pos e1 (Ev.bind hN ?_)
            cases nameB r.f2 with
            | true => exact ev_pos rfl (Ev.now _)
            | false => exact ev_neg (by simp) (ev_neg (by omega) (Ev.now _))
          · rw [if_neg e1, if_pos (by omega), decide_eq_true hs]
            exact ev_neg e1 (ev_pos (by omega) (Ev.bind hL2 (by rw [Bool.true_and]; exact Ev.now _)))
        · refine ev_neg (fun z => hs ((nil_iff _).1 z)) ?_
          rw [decide_eq_false hs]
          by_cases e1 : r.f0 = 1
          · rw [if_pos e1]; exact Ev.now _
          · rw [if_neg e1, if_pos (by omega)]; exact Ev.now _
      · rw [if_neg (by omega), if_neg (by omega), decide_eq_true (show 1 ≤ r.f0 by omega), decide_eq_true (show r.f0 ≤ 7 by omega)]
        refine Ev.step (fun k => by rw [tollref09_MayRef.j0, if_neg (by simp), if_neg h3]) (Ev.bind hL1 ?_)
        cases labelB r.f1 with
        | true => exact ev_pos rfl (Ev.bind hN (Ev.now _))
        | false => exact ev_neg (by simp) (Ev.now _)
theorem refHas_from (l : List S37) (hl : l.length ≤ 1000000) (r : S37) : ∀ (d i : Nat), l.length = i + d → Ev (fun k => tollref19_Has.l0 k l i r.f0 r.f1 r.f2) (decide (r ∈ l.drop i)) := by
  intro d
  induction d with
  | zero =>
    intro i hd
    refine Ev.step (f := fun _ => some _) (fun k => by rw [tollref19_Has.l0, if_neg (by omega)]) ?_
    rw [List.drop_eq_nil_of_le (by omega), decide_eq_false (by simp)]
    exact Ev.now _
  | succ d ih =>
    intro i hd
    have hlt : i < l.length := by omega
    have hn := ih (i + 1) (by omega)
    refine Ev.step (fun k => by rw [tollref19_Has.l0, if_pos (by omega), if_pos (by omega), rd37 l i hlt, succ_wrap hlt hl]) ?_
    rw [List.drop_eq_getElem_cons hlt]
    by_cases h : l[i] = r
    · rw [decide_eq_true (by simp [h])]
      exact ev_pos (eqB_pos h) (Ev.now _)
    · have e : decide (r ∈ l[i] :: l.drop (i + 1)) = decide (r ∈ l.drop (i + 1)) := by
        rw [decide_eq_decide, List.mem_cons]
        exact ⟨fun z => z.resolve_left (fun y => h y.symm), .inr⟩
      rw [e]
      exact ev_neg (eqB_neg h) hn
theorem RefHas (l : List S37) (hl : l.length ≤ 1000000) (r : S37) : Ev (fun k => tollref19_Has.f k l r.f0 r.f1 r.f2) (decide (r ∈ l)) := by
  have := refHas_from l hl r l.length 0 (by omega)
  rwa [List.drop_zero] at this
open Classical in
theorem refMay_from (l : List S37) (hl : l.length ≤ 1000) (hs : ∀ r ∈ l, shortR r) : ∀ (d i : Nat), l.length = i + d → Ev (fun k => tollref19_May.l0 k l i) (chk (l.take i) (l.drop i) && decide (l.length ≤ 64)) := by
  intro d
  induction d with
  | zero =>
    intro i hd
    refine Ev.step (f := fun _ => some _) (fun k => by rw [tollref19_May.l0, if_neg (by omega)]) ?_
    rw [List.drop_eq_nil_of_le (by omega), chk, Bool.true_and]
    have e : decide ((l.length : Int) ≤ 64) = decide (l.length ≤ 64) := by rw [decide_eq_decide]; omega
    rw [e]
    exact Ev.now _
  | succ d ih =>
    intro i hd
    have hlt : i < l.length := by omega
    have hn := ih (i + 1) (by omega)
    refine Ev.step (fun k => by rw [tollref19_May.l0, if_pos (by omega), if_pos (by omega), rd37 l i hlt, succ_wrap hlt (by omega), Int.toNat_natCast]) (Ev.bind (MayRef l[i] (hs _ (List.getElem_mem hlt))) ?_)
    rw [List.drop_eq_getElem_cons hlt, chk]
    rw [List.take_succ_eq_append_getElem hlt] at hn
    cases hm : mayR l[i] with
    | false =>
      refine ev_neg (by simp) ?_
      rw [Bool.and_false, Bool.false_and, Bool.false_and]
      exact Ev.now _
    | true =>
      refine ev_pos rfl (ev_pos (by omega) (Ev.bind (RefHas _ (by rw [List.length_take]; omega) _) ?_))
      by_cases h : l[i] ∈ l.take i
      · rw [decide_eq_true h]
        exact ev_pos rfl (Ev.now _)
      · rw [decide_eq_false h]
        refine ev_neg (by simp) ?_
        simpa using hn
theorem chk_eq (l : List S37) : (chk [] l && decide (l.length ≤ 64)) = (checkI l == 0) := by
  unfold checkI
  cases chk [] l <;> by_cases h : l.length ≤ 64 <;> simp [h]
theorem RefMay (l : List S37) (hl : l.length ≤ 1000) (hs : ∀ r ∈ l, shortR r) : Ev (fun k => tollref19_May.f k l) (checkI l == 0) := by
  have := refMay_from l hl hs l.length 0 (by omega)
  rw [List.take_zero, List.drop_zero, chk_eq] at this
  exact this
theorem refAdd_from (l : List S37) (hl : l.length ≤ 1000) (hs : ∀ r ∈ l, shortR r) (hm : ∀ r ∈ l, mayR r = true) : ∀ (d i : Nat) (q : List S37), l.length = i + d → q.length + d ≤ 100000 → Ev (fun k => tollref19_Add.l0 k l q i) (if 64 < (addL q (l.drop i)).length then ([], 5) else (addL q (l.drop i), 0)) := by
  intro d
  induction d with
  | zero =>
    intro i q hd _
    rw [List.drop_eq_nil_of_le (by omega), addL]
    by_cases h : 64 < q.length
    · refine Ev.step (f := fun _ => some _) (fun k => by rw [tollref19_Add.l0, if_neg (by omega), if_pos (by omega)]) ?_
      rw [if_pos h]; exact Ev.now _
    · refine Ev.step (f := fun _ => some _) (fun k => by rw [tollref19_Add.l0, if_neg (by omega), if_neg (by omega)]) ?_
      rw [if_neg h]; exact Ev.now _
  | succ d ih =>
    intro i q hd hq
    have hlt : i < l.length := by omega
    refine Ev.step (fun k => by rw [tollref19_Add.l0, if_pos (by omega), if_pos (by omega), rd37 l i hlt, succ_wrap hlt (by omega), eta37]) ?_
    refine Ev.bind (MayRef l[i] (hs _ (List.getElem_mem hlt))) (ev_pos (hm _ (List.getElem_mem hlt)) (Ev.bind (RefHas q (by omega) _) ?_))
    rw [List.drop_eq_getElem_cons hlt, addL]
    by_cases h : l[i] ∈ q
    · rw [if_pos h]
      exact ev_pos (decide_eq_true h) (ih (i + 1) q (by omega) (by omega))
    · rw [if_neg h]
      exact ev_neg (by rw [decide_eq_false h]; simp) (ev_pos (by omega) (ih (i + 1) (q ++ [l[i]]) (by omega) (by simp; omega)))
theorem refAdd_no (l : List S37) (hl : l.length ≤ 1000) (hs : ∀ r ∈ l, shortR r) : ∀ (d i : Nat) (q : List S37), l.length = i + d → q.length + d ≤ 100000 → (∃ r ∈ l.drop i, mayR r = false) → Ev (fun k => tollref19_Add.l0 k l q i) ([], 1) := by
  intro d
  induction d with
  | zero =>
    intro i q hd _ hx
    rw [List.drop_eq_nil_of_le (by omega)] at hx
    obtain ⟨r, hr, _⟩ := hx
    cases hr
  | succ d ih =>
    intro i q hd hq hx
    have hlt : i < l.length := by omega
    refine Ev.step (fun k => by rw [tollref19_Add.l0, if_pos (by omega), if_pos (by omega), rd37 l i hlt, succ_wrap hlt (by omega), eta37]) ?_
    refine Ev.bind (MayRef l[i] (hs _ (List.getElem_mem hlt))) ?_
    cases hm : mayR l[i] with
    | false => exact ev_neg (by simp) (Ev.now _)
    | true =>
      have hx2 : ∃ r ∈ l.drop (i + 1), mayR r = false := by
        obtain ⟨r, hr, h⟩ := hx
        rw [List.drop_eq_getElem_cons hlt] at hr
        rcases List.mem_cons.1 hr with rfl | hr
        · rw [hm] at h; cases h
        · exact ⟨r, hr, h⟩
      refine ev_pos rfl (Ev.bind (RefHas q (by omega) _) ?_)
      by_cases h : l[i] ∈ q
      · exact ev_pos (decide_eq_true h) (ih (i + 1) q (by omega) (by omega) hx2)
      · exact ev_neg (by rw [decide_eq_false h]; simp) (ev_pos (by omega) (ih (i + 1) (q ++ [l[i]]) (by omega) (by simp; omega) hx2))
theorem RefAdd (q l : List S37) (hq : q.length ≤ 1000) (hl : l.length ≤ 1000) (sq : ∀ r ∈ q, shortR r) (sl : ∀ r ∈ l, shortR r) : Ev (fun k => tollref19_Add.f k q l) (addR q l) := by
  unfold tollref19_Add.f addR
  refine Ev.bind (RefMay q hq sq) ?_
  by_cases hg : MayQ q
  · rw [check_iff.2 hg]
    refine ev_pos rfl (ev_bind rfl (ev_pos (by simp; omega) ?_))
    rw [List.nil_append]
    by_cases hm : ∀ r ∈ l, mayR r = true
    · rw [if_pos ⟨hg, hm⟩]
      have := refAdd_from l hl sl hm l.length 0 q (by omega) (by omega)
      rwa [List.drop_zero] at this
    · rw [if_neg (fun h => hm h.2)]
      refine refAdd_no l hl sl l.length 0 q (by omega) (by omega) ?_
      rw [List.drop_zero]
      by_cases hx : ∃ r ∈ l, mayR r = false
      · exact hx
      · exfalso; apply hm; intro r hr
        cases h : mayR r with
        | true => rfl
        | false => exact absurd ⟨r, hr, h⟩ hx
  · rw [check_no hg, if_neg (fun h => hg h.1)]
    exact ev_neg (by decide) (Ev.now _)
theorem refDrop_from (l : List S37) (hl : l.length ≤ 1000) (r : S37) : ∀ (d i : Nat), l.length = i + d → Ev (fun k => tollref19_Drop.l0 k l (keep r (l.take i)) i r.f0 r.f1 r.f2) (keep r l) := by
  intro d
  induction d with
  | zero =>
    intro i hd
    refine Ev.step (f := fun _ => some _) (fun k => by rw [tollref19_Drop.l0, if_neg (by omega)]) ?_
    rw [List.take_of_length_le (by omega)]
    exact Ev.now _
  | succ d ih =>
    intro i hd
    have hlt : i < l.length := by omega
    have hn := ih (i + 1) (by omega)
    have hk := keep_length r (l.take i)
    rw [List.length_take] at hk
    rw [keep_snoc r l i hlt, rd37 l i hlt] at hn
    refine Ev.step (fun k => by rw [tollref19_Drop.l0, if_pos (by omega), if_pos (by omega), rd37 l i hlt, succ_wrap hlt (by omega), neq_iff, eta37]) ?_
    cases h : eqB l[i] r with
    | true =>
      rw [h, if_pos rfl, List.append_nil] at hn
      exact ev_neg (by simp) hn
    | false =>
      rw [h, if_neg (by simp)] at hn
      exact ev_pos rfl (ev_pos (by omega) hn)
theorem RefDrop (l : List S37) (hl : l.length ≤ 1000) (r : S37) : Ev (fun k => tollref19_Drop.f k l r.f0 r.f1 r.f2) (keep r l) := by
  have := refDrop_from l hl r l.length 0 (by omega)
  have h2 : Ev (fun k => tollref19_Drop.l0 k l [] 0 r.f0 r.f1 r.f2) (keep r l) := by simpa [keep] using this
  exact h2
theorem keep_erase {l : List S37} (h : l.Nodup) (i : Nat) (hi : i < l.length) : keep l[i] l = l.eraseIdx i := by
  have e : l = l.take i ++ l[i] :: l.drop (i + 1) := by rw [← List.drop_eq_getElem_cons hi, List.take_append_drop]
  have h2 : (l.take i ++ l[i] :: l.drop (i + 1)).Nodup := by rw [← e]; exact h
  have h3 := List.nodup_append.1 h2
  have n1 : l[i] ∉ l.take i := fun z => h3.2.2 _ z _ List.mem_cons_self rfl
  have n2 : l[i] ∉ l.drop (i + 1) := (List.nodup_cons.1 h3.2.1).1
  have k : ∀ m : List S37, l[i] ∉ m → keep l[i] m = m := fun m hm => by
    unfold keep
    rw [List.filter_eq_self]
    intro x hx
    have hne : x ≠ l[i] := fun z => hm (z ▸ hx)
    rw [Bool.eq_false_iff.2 (eqB_neg hne)]; rfl
  rw [List.eraseIdx_eq_take_drop_succ]
  rw [show keep l[i] l = keep l[i] (l.take i ++ l[i] :: l.drop (i + 1)) from congrArg (keep l[i]) e]
  rw [keep, List.filter_append, List.filter_cons, if_neg (by rw [eqB_pos rfl]; simp), ← keep, ← keep, k _ n1, k _ n2]
theorem RefTake (q : List S37) (k : Int) (hq : q.length ≤ 1000) (sq : ∀ r ∈ q, shortR r) : Ev (fun n => tollref19_Take.f n q k) (takeR q k) := by
  unfold tollref19_Take.f takeR
  refine Ev.bind (RefMay q hq sq) ?_
  by_cases hg : MayQ q
  · rw [check_iff.2 hg, if_pos rfl]
    refine ev_pos rfl ?_
    by_cases h0 : q.length = 0
    · rw [if_pos h0]; exact ev_pos (by omega) (Ev.now _)
    · rw [if_neg h0]
      have hb := tmod_bd (k := k) (n := q.length) (by omega)
      have hp := place_tmod (k := k) (n := q.length) (by omega)
      have hlt := place_lt (k := k) (n := q.length) (by omega)
      have e : Int.tmod (wrap64 ((Int.tmod k (q.length : Int)) + (q.length : Int))) (q.length : Int) = (placeI k q.length : Int) := by
        rw [wrap_in (by omega) (by omega), Int.tmod_eq_emod_of_nonneg (by omega), Int.add_emod_right]
        split at hp
        · have : Int.tmod k q.length % (q.length : Int) = Int.tmod k q.length + q.length := by
            rw [← Int.add_emod_right, Int.emod_eq_of_lt (by omega) (by omega)]
          rw [this, hp]
        · rw [Int.emod_eq_of_lt (by omega) (by omega), hp]
      rw [e, rd37 q _ hlt]
      refine ev_neg (by omega) (ev_pos (by omega) (ev_pos (by omega) (Ev.bind (RefDrop q hq _) ?_)))
      rw [keep_erase hg.2.1 _ hlt]
      exact Ev.now _
  · rw [check_no hg, if_neg (by decide)]
    exact ev_neg (by decide) (Ev.now _)

theorem same_eq (a : Int) (b c : ByteArray) : (a == a && (b.toList == b.toList && (c.toList == c.toList))) = true := by simp
theorem QueueDoes (l0 l1 : List S37) (a : Int) (b c : ByteArray) (p : Int) (h0 : ∀ r ∈ l0, (Lit.int .i64 r.f0).wf = true) : ∃ k, tolllaw19_QueueDoes.f k l0 l1 a b c p = some true := by
  refine Ev.rounds (g := fun k => tolllaw19_QueueDoes.f k l0 l1 a b c p) ?_
  unfold tolllaw19_QueueDoes.f
  have o0 := fewQ_ok h0
  have s0 := fewQ_length l0
  have s1 := fewQ_length l1
  have t0 := fewQ_short l0
  have t1 := fewQ_short l1
  have ff := Few (fewQ l0)
  rw [fewQ_fewQ] at ff
  refine Ev.bind (Few l0) (Ev.bind (Few l1) (ev_bind (fewRef_eq a b c) (Ev.bind ff ?_)))
  generalize fewQ l0 = q at *
  generalize fewQ l1 = l at *
  obtain ⟨r, hr⟩ : ∃ r : S37, r = ⟨a, fewB b, fewB c⟩ := ⟨_, rfl⟩
  have e0 : a = r.f0 := by rw [hr]
  have e1 : fewB b = r.f1 := by rw [hr]
  have e2 : fewB c = r.f2 := by rw [hr]
  rw [e0, e1, e2]
  clear hr e0 e1 e2
  have hA : (addR q l).1.length ≤ 1000000 := by
    unfold addR
    split
    · split
      · simp
      · have := addL_length l q; simp only; omega
    · simp
  have hT : (takeR q p).2.2.2.1.length ≤ 1000000 := by
    unfold takeR
    split
    · split
      · simp
      · have := List.length_eraseIdx_le q (placeI p q.length); simp only; omega
    · simp
  have hk := keep_length r q
  refine Ev.bind (Add q l o0 (by omega) (by omega)) (Ev.bind (RefAdd q l (by omega) (by omega) t0 t1) (ev_bind (take_eq q p o0 (by omega)) (Ev.bind (RefTake q p (by omega) t0) (Ev.bind (SameRefs _ _ hA) ?_))))
  refine ev_pos (decide_eq_true rfl) (ev_pos rfl (ev_pos (same_eq _ _ _) (Ev.bind (SameRefs _ _ hT) (ev_pos (decide_eq_true rfl) (ev_pos rfl ?_)))))
  refine Ev.bind (Has q (by omega) _ _ _) (Ev.bind (RefHas q (by omega) r) ?_)
  rw [eta37]
  refine ev_pos (by simp) (ev_bind (drop_eq q _ _ _ (by omega)) (Ev.bind (RefDrop q (by omega) r) (Ev.bind (SameRefs _ _ (by rw [eta37]; omega)) (ev_pos (decide_eq_true rfl) ?_))))
  refine ev_bind (check_eq o0 (by omega)) (Ev.bind (RefMay q (by omega) t0) (ev_pos (by simp) (Ev.bind (SameRefs _ _ (by omega)) (ev_pos (decide_eq_true rfl) ?_))))
  exact Ev.bind QueuePure.awake (Ev.now _)

theorem QueueDoes_walk (A0 : Option Addr) (c0 : Nat) (l0 : List S37) (A1 : Option Addr) (c1 : Nat) (l1 : List S37) (a : Int) (b c : ByteArray) (p : Int) (w : World) (hr0 : Kd.C k37 w A0 l0.length l0) (hc0 : l0.length ≤ c0) (hw0 : ∀ r ∈ l0, (Lit.int .i64 r.f0).wf = true)
    (hr1 : Kd.C k37 w A1 l1.length l1) (hc1 : l1.length ≤ c1) (_hw1 : ∀ r ∈ l1, (Lit.int .i64 r.f0).wf = true) (_hp : (Lit.int .i64 p).wf = true) :
    Calls Tryd.prog 19 #[.agg #[.slice A0 l0.length c0, .slice A1 l1.length c1, .int .i64 a, .string b, .string c, .int .i64 p]] w fun e w' => e = .returned (.bool true) ∧ Below w.heap.size w w' := by
  obtain ⟨k, hk⟩ := QueueDoes l0 l1 a b c p hw0
  exact tolllaw19_QueueDoes.calls k A0 c0 l0 A1 c1 l1 a b c p w hr0 hc0 hr1 hc1 hk

end Go.Proofs.YtcakednecmngdaaDoor.Pure
