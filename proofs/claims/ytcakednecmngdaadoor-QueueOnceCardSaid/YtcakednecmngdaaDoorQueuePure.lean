/-
  What the functions over queues come to, in plain words: the code's own, and the document's.
  Conditions: lists of at most 1000000 refs; texts of at most 1000 octets where the document's answer is meant.
-/
import Derived.Test.YtcakednecmngdaaDoorQf40
import Derived.Test.YtcakednecmngdaaDoorQf37
import Derived.Test.YtcakednecmngdaaDoorQf38
import Derived.Test.YtcakednecmngdaaDoorQf39
import Derived.Test.YtcakednecmngdaaDoorQf44
import Derived.Test.YtcakednecmngdaaDoorQueueB
import Derived.Test.YtcakednecmngdaaDoorBaseFew
namespace Go.Proofs.YtcakednecmngdaaDoor.QueuePure
open Go Go.RowKit Go.Proofs.YtcakednecmngdaaDoor.Q Go.Proofs.YtcakednecmngdaaDoor.P Go.Proofs.YtcakednecmngdaaDoorW.PrintWords Go.Proofs.YtcakednecmngdaaDoor.Plain Go.Proofs.YtcakednecmngdaaDoor.DnsPure Go.Proofs.YtcakednecmngdaaDoor.Queue

theorem rd37 (l : List S37) (i : Nat) (h : i < l.length) : rd_T37 l (i : Int) = l[i] := by
  unfold rd_T37
  simp [List.getD_eq_getElem?_getD, List.getElem?_eq_getElem h]
theorem succ_wrap {i n : Nat} (h : i < n) (hn : n ≤ 1000000) : wrap64 ((i : Int) + 1) = ((i + 1 : Nat) : Int) := by rw [wrap_in (by omega) (by omega)]; omega
theorem eta37 (x : S37) : (⟨x.f0, x.f1, x.f2⟩ : S37) = x := rfl
theorem eqB_pos {x r : S37} (h : x = r) : eqB x r = true := (eqB_iff x r).2 h
theorem eqB_neg {x r : S37} (h : x ≠ r) : ¬ eqB x r = true := fun e => h ((eqB_iff x r).1 e)

/-! ### refs no longer than are looked at -/
def fewR (r : S37) : S37 := ⟨r.f0, fewB r.f1, fewB r.f2⟩
def fewQ (l : List S37) : List S37 := (l.take 70).map fewR
theorem fewRef_eq (a : Int) (b c : ByteArray) : tolllaw09_FewRef.f a b c = some (a, fewB b, fewB c) := by
  unfold tolllaw09_FewRef.f
  rw [few_eq, few_eq]; rfl
theorem few_from (l : List S37) (m : Nat) (hm : m = min 70 l.length) : ∀ (d i : Nat), m = i + d → Ev (fun k => tolllaw19_Few.l0 k l ((l.take i).map fewR) i) (fewQ l) := by
  intro d
  induction d with
  | zero =>
    intro i hd
    have e : (l.take i).map fewR = fewQ l := by
      unfold fewQ
      congr 1
      by_cases h : l.length ≤ 70
      · rw [List.take_of_length_le (by omega), List.take_of_length_le (by omega)]
      · rw [show i = 70 by omega]
    by_cases h : i < l.length
    · refine Ev.step (f := fun _ => some _) (fun k => by rw [tolllaw19_Few.l0, if_pos (by omega), if_neg (by omega)]) ?_
      rw [e]; exact Ev.now _
    · refine Ev.step (f := fun _ => some _) (fun k => by rw [tolllaw19_Few.l0, if_neg (by omega)]) ?_
      rw [e]; exact Ev.now _
  | succ d ih =>
    intro i hd
    have hlt : i < l.length := by omega
    refine Ev.step (fun k => by rw [tolllaw19_Few.l0, if_pos (by omega), if_pos (by omega), if_pos (by omega), rd37 l i hlt, succ_wrap (n := 100) (by omega) (by omega)]) ?_
    refine ev_bind (fewRef_eq _ _ _) (ev_pos (by simp; omega) ?_)
    have := ih (i + 1) (by omega)
    rw [List.take_succ_eq_append_getElem hlt, List.map_append] at this
    exact this
theorem Few (l : List S37) : Ev (fun k => tolllaw19_Few.f k l) (fewQ l) := few_from l _ rfl (min 70 l.length) 0 (by omega)
theorem fewQ_length (l : List S37) : (fewQ l).length ≤ 70 := by unfold fewQ; simp; omega
theorem fewR_ok {r : S37} (h : (Lit.int .i64 r.f0).wf = true) : okB (fewR r) = true := okB_iff.2 ⟨h, by have := few_size r.f1; simp only [fewR]; omega, by have := few_size r.f2; simp only [fewR]; omega⟩
theorem fewQ_ok {l : List S37} (h : ∀ r ∈ l, (Lit.int .i64 r.f0).wf = true) : (fewQ l).all okB = true := by
  rw [List.all_eq_true]
  intro r hr
  obtain ⟨x, hx, rfl⟩ := List.mem_map.1 hr
  exact fewR_ok (h x (List.mem_of_mem_take hx))

/-! ### Has, SameRefs -/
theorem index_from (l : List S37) (hl : l.length ≤ 1000000) (a : Int) (b c : ByteArray) : ∀ (d i : Nat), l.length = i + d → Ev (fun k => api_Ref_128.l0 k l (l.length : Int) i a b c) (idxFrom (fun y => eqB ⟨a, b, c⟩ y) (l.drop i) i) := by
  intro d
  induction d with
  | zero =>
    intro i hd
    refine Ev.step (f := fun _ => some _) (fun k => by rw [api_Ref_128.l0, if_neg (by omega)]) ?_
    rw [List.drop_eq_nil_of_le (by omega)]
    exact Ev.now _
  | succ d ih =>
    intro i hd
    have hlt : i < l.length := by omega
    have hn := ih (i + 1) (by omega)
    refine Ev.step (fun k => by rw [api_Ref_128.l0, if_pos (by omega), if_pos (by omega), if_pos (by omega), rd37 l i hlt, succ_wrap hlt hl]) ?_
    rw [List.drop_eq_getElem_cons hlt, idxFrom]
    by_cases h : eqB ⟨a, b, c⟩ l[i] = true
    · rw [if_pos h]; exact ev_pos h (Ev.now _)
    · rw [if_neg h]; exact ev_neg h hn
theorem any_mem (l : List S37) (r : S37) : (l.any fun y => eqB r y) = decide (r ∈ l) := by
  rw [Bool.eq_iff_iff, List.any_eq_true, decide_eq_true_eq]
  constructor
  · rintro ⟨y, hy, e⟩; rw [(eqB_iff _ _).1 e]; exact hy
  · intro h; exact ⟨r, h, eqB_pos rfl⟩
theorem Has (l : List S37) (hl : l.length ≤ 1000000) (a : Int) (b c : ByteArray) : Ev (fun k => queue_Has.f k l a b c) (decide ((⟨a, b, c⟩ : S37) ∈ l)) := by
  unfold queue_Has.f api_Ref_99.f api_Ref_128.f
  refine Ev.bind (Ev.bind (index_from l hl a b c l.length 0 (by omega)) (Ev.now _)) ?_
  rw [List.drop_zero, idx_any, any_mem]
  exact Ev.now _
theorem neq_iff (x y : S37) : (!(x.f0 == y.f0) || (!(x.f1.toList == y.f1.toList) || (!(x.f2.toList == y.f2.toList)))) = !eqB x y := by
  unfold eqB
  cases x.f0 == y.f0 <;> cases x.f1.toList == y.f1.toList <;> cases x.f2.toList == y.f2.toList <;> rfl
theorem same_refs_from (l m : List S37) (hl : l.length ≤ 1000000) (hm : m.length = l.length) : ∀ (d i : Nat), l.length = i + d → Ev (fun k => tollref09_SameRefs.l0 k l m i) (decide (l.drop i = m.drop i)) := by
  intro d
  induction d with
  | zero =>
    intro i hd
    refine Ev.step (f := fun _ => some _) (fun k => by rw [tollref09_SameRefs.l0, if_neg (by omega)]) ?_
    rw [List.drop_eq_nil_of_le (by omega), List.drop_eq_nil_of_le (by omega), decide_eq_true rfl]
    exact Ev.now _
  | succ d ih =>
    intro i hd
    have hlt : i < l.length := by omega
    have hlm : i < m.length := by omega
    refine Ev.step (fun k => by rw [tollref09_SameRefs.l0, if_pos (by omega), if_pos (by omega), if_pos (by omega), rd37 l i hlt, rd37 m i hlm, succ_wrap hlt hl, neq_iff]) ?_
    rw [List.drop_eq_getElem_cons hlt, List.drop_eq_getElem_cons hlm]
    by_cases h : l[i] = m[i]
    · refine ev_neg (by rw [eqB_pos h]; simp) ?_
      have := ih (i + 1) (by omega)
      have e : decide (l[i] :: l.drop (i + 1) = m[i] :: m.drop (i + 1)) = decide (l.drop (i + 1) = m.drop (i + 1)) := by
        rw [decide_eq_decide]
        exact ⟨fun z => (List.cons.inj z).2, fun z => by rw [h, z]⟩
      rw [e]; exact this
    · refine ev_pos (by rw [Bool.eq_false_iff.2 (eqB_neg h)]; rfl) ?_
      rw [decide_eq_false (fun e => h (List.cons.inj e).1)]
      exact Ev.now _
theorem SameRefs (l m : List S37) (hl : l.length ≤ 1000000) : Ev (fun k => tollref09_SameRefs.f k l m) (decide (l = m)) := by
  unfold tollref09_SameRefs.f
  by_cases h : l.length = m.length
  · refine ev_pos (by omega) ?_
    have := same_refs_from l m hl h.symm l.length 0 (by omega)
    simpa using this
  · refine ev_neg (by omega) ?_
    rw [decide_eq_false (fun e => h (by rw [e]))]
    exact Ev.now _

/-! ### Check -/
theorem check_eq {l : List S37} (h : l.all okB = true) (hl : l.length ≤ 1000000) : queue_Check.f l = some (checkI l) := if_pos ⟨h, hl⟩
theorem chk_iff : ∀ (l acc : List S37), chk acc l = true ↔ (∀ r ∈ l, mayR r = true ∧ r ∉ acc) ∧ l.Nodup
  | [], acc => by simp [chk]
  | r :: l, acc => by
    rw [chk, Bool.and_eq_true, Bool.and_eq_true, chk_iff l (acc ++ [r])]
    simp only [List.mem_cons, List.nodup_cons, List.mem_append, Bool.not_eq_true', decide_eq_false_iff_not, List.not_mem_nil, or_false]
    constructor
    · rintro ⟨⟨h1, h2⟩, h3, h4⟩
      refine ⟨fun x hx => ?_, fun hr => (h3 r hr).2 (.inr rfl), h4⟩
      rcases hx with rfl | hx
      · exact ⟨h2, h1⟩
      · exact ⟨(h3 x hx).1, fun z => (h3 x hx).2 (.inl z)⟩
    · rintro ⟨h1, h2, h3⟩
      exact ⟨⟨(h1 r (.inl rfl)).2, (h1 r (.inl rfl)).1⟩, fun x hx => ⟨(h1 x (.inr hx)).1, fun z => z.elim (h1 x (.inr hx)).2 (fun e => h2 (e ▸ hx))⟩, h3⟩
/-- A queue that may be. -/
def MayQ (l : List S37) : Prop := (∀ r ∈ l, mayR r = true) ∧ l.Nodup ∧ l.length ≤ 64
theorem check_iff {l : List S37} : checkI l = 0 ↔ MayQ l := by
  unfold checkI MayQ
  have hc := chk_iff l []
  constructor
  · intro h
    split at h
    · next hh => exact ⟨fun r hr => ((hc.1 hh.1).1 r hr).1, (hc.1 hh.1).2, hh.2⟩
    · cases h
  · rintro ⟨h1, h2, h3⟩
    rw [if_pos ⟨hc.2 ⟨fun r hr => ⟨h1 r hr, by simp⟩, h2⟩, h3⟩]
theorem check_no {l : List S37} (h : ¬ MayQ l) : checkI l = 1 := by
  have h1 := mt check_iff.1 h
  unfold checkI at h1 ⊢
  split
  · next hh => rw [if_pos hh] at h1; exact absurd rfl h1
  · rfl

/-! ### Add -/
def addL : List S37 → List S37 → List S37
  | q, [] => q
  | q, r :: l => addL (if r ∈ q then q else q ++ [r]) l
theorem addL_length : ∀ (l q : List S37), (addL q l).length ≤ q.length + l.length
  | [], q => by simp [addL]
  | r :: l, q => by
    rw [addL, List.length_cons]
    have := addL_length l (if r ∈ q then q else q ++ [r])
    have h2 : (if r ∈ q then q else q ++ [r]).length ≤ q.length + 1 := by
      split
      · omega
      · simp
    omega
open Classical in
noncomputable def addR (q l : List S37) : List S37 × Int := if MayQ q ∧ ∀ r ∈ l, mayR r = true then (if 64 < (addL q l).length then ([], 5) else (addL q l, 0)) else ([], 1)
theorem add_from (l : List S37) (hl : l.length ≤ 1000000) : ∀ (d i : Nat) (q : List S37), l.length = i + d → q.length + d ≤ 1000000 → Ev (fun k => queue_Add.l0 k q l (l.length : Int) i) (if 64 < (addL q (l.drop i)).length then ([], 5) else (addL q (l.drop i), 0)) := by
  intro d
  induction d with
  | zero =>
    intro i q hd _
    rw [List.drop_eq_nil_of_le (by omega), addL]
    by_cases h : 64 < q.length
    · refine Ev.step (f := fun _ => some _) (fun k => by rw [queue_Add.l0, if_neg (by omega), if_pos (by omega)]) ?_
      rw [if_pos h]; exact Ev.now _
    · refine Ev.step (f := fun _ => some _) (fun k => by rw [queue_Add.l0, if_neg (by omega), if_neg (by omega)]) ?_
      rw [if_neg h]; exact Ev.now _
  | succ d ih =>
    intro i q hd hq
    have hlt : i < l.length := by omega
    refine Ev.step (fun k => by rw [queue_Add.l0, if_pos (by omega), if_pos (by omega), if_pos (by omega), rd37 l i hlt, succ_wrap hlt hl, eta37]) ?_
    refine Ev.bind (Has q (by omega) _ _ _) ?_
    rw [eta37, List.drop_eq_getElem_cons hlt, addL]
    by_cases h : l[i] ∈ q
    · rw [if_pos h]
      exact ev_pos (decide_eq_true h) (ih (i + 1) q (by omega) (by omega))
    · rw [if_neg h]
      exact ev_neg (by rw [decide_eq_false h]; simp) (ev_pos (by omega) (ih (i + 1) (q ++ [l[i]]) (by omega) (by simp; omega)))
theorem Add (q l : List S37) (hq : q.all okB = true) (hql : q.length ≤ 1000) (hl : l.length ≤ 1000) : Ev (fun k => queue_Add.f k q l) (addR q l) := by
  unfold queue_Add.f
  refine ev_bind (check_eq hq (by omega)) ?_
  by_cases hg : MayQ q
  · rw [check_iff.2 hg]
    refine ev_pos rfl (ev_bind rfl ?_)
    by_cases ha : ∀ r ∈ l, mayR r = true
    · have e : (l.any fun r => !mayR r) = false := by
        rw [List.any_eq_false]; intro r hr; simp [ha r hr]
      rw [e]
      unfold addR
      rw [if_pos ⟨hg, ha⟩]
      refine Ev.step (f := fun k => (api_Ref_97.f q).bind fun t => queue_Add.l0 k t l (l.length : Int) 0) (fun k => by rw [queue_Add.j0, if_neg (by simp)]) (ev_bind (a := q) (if_pos (by omega)) ?_)
      have := add_from l (by omega) l.length 0 q (by omega) (by omega)
      rw [List.drop_zero] at this
      exact this
    · have e : (l.any fun r => !mayR r) = true := by
        rw [List.any_eq_true]
        by_cases hx : ∃ x, x ∈ l ∧ (!mayR x) = true
        · exact hx
        · exfalso; apply ha; intro r hr
          by_cases h : mayR r = true
          · exact h
          · exact absurd ⟨r, hr, by simpa using h⟩ hx
      rw [e]
      unfold addR
      rw [if_neg (fun h => ha h.2)]
      exact Ev.step (fun k => by rw [queue_Add.j0, if_pos rfl]) (Ev.now _)
  · rw [check_no hg]
    unfold addR
    rw [if_neg (fun h => hg h.1)]
    exact ev_neg (by decide) (Ev.step (fun k => by rw [queue_Add.j0, if_pos rfl]) (Ev.now _))

/-! ### Take, Drop -/
def placeI (k : Int) (n : Nat) : Nat := (k % (n : Int)).toNat
theorem place_lt {k : Int} {n : Nat} (h : 0 < n) : placeI k n < n := by
  unfold placeI
  have := Int.emod_lt_of_pos k (show (0 : Int) < n by omega)
  have := Int.emod_nonneg k (show (n : Int) ≠ 0 by omega)
  omega
theorem place_tmod {k : Int} {n : Nat} (h : 0 < n) : (if Int.tmod k n < 0 then Int.tmod k n + n else Int.tmod k n) = (placeI k n : Int) := by
  unfold placeI
  have h1 := Int.emod_lt_of_pos k (show (0 : Int) < n by omega)
  have h2 := Int.emod_nonneg k (show (n : Int) ≠ 0 by omega)
  have h3 := Int.tmod_eq_emod (a := k) (b := (n : Int))
  rw [Int.toNat_of_nonneg h2]
  split at h3 <;> split <;> omega
theorem tmod_bd {k : Int} {n : Nat} (h : 0 < n) : -(n : Int) < Int.tmod k n ∧ Int.tmod k n < n := by
  have := Int.lt_tmod_of_pos k (show (0 : Int) < n by omega)
  have := Int.tmod_lt_of_pos k (show (0 : Int) < n by omega)
  omega
def takeR (q : List S37) (k : Int) : Int × ByteArray × ByteArray × List S37 × Int :=
  if checkI q = 0 then (if q.length = 0 then (0, ⟨#[]⟩, ⟨#[]⟩, [], 3) else ((rd_T37 q (placeI k q.length)).f0, (rd_T37 q (placeI k q.length)).f1, (rd_T37 q (placeI k q.length)).f2, q.eraseIdx (placeI k q.length), 0)) else (0, ⟨#[]⟩, ⟨#[]⟩, [], 1)
theorem take_eq (q : List S37) (k : Int) (hq : q.all okB = true) (hl : q.length ≤ 1000) : queue_Take.f q k = some (takeR q k) := by
  unfold queue_Take.f takeR
  rw [check_eq hq (by omega), Option.bind_some]
  by_cases hc : checkI q = 0
  · rw [if_pos hc, if_pos hc]
    by_cases h0 : q.length = 0
    · rw [if_pos (by omega), if_pos h0]
    · rw [if_neg (by omega), if_neg h0]
      have hp := place_tmod (k := k) (n := q.length) (by omega)
      have hb := tmod_bd (k := k) (n := q.length) (by omega)
      have hlt := place_lt (k := k) (n := q.length) (by omega)
      have key : ∀ i : Int, i = (placeI k q.length : Int) → (if 0 ≤ i then (if i < (q.length : Int) then ((api_Ref_97.f q).bind fun t => ((api_Ref_98.f t i (wrap64 (i + 1))).bind fun t' => (some ((rd_T37 q i).f0, (rd_T37 q i).f1, (rd_T37 q i).f2, t', (0 : Int))))) else none) else none) = some ((rd_T37 q (placeI k q.length)).f0, (rd_T37 q (placeI k q.length)).f1, (rd_T37 q (placeI k q.length)).f2, q.eraseIdx (placeI k q.length), 0) := by
        rintro i rfl
        rw [if_pos (by omega), if_pos (by omega), api_Ref_97.f, if_pos (by omega), Option.bind_some, api_Ref_98.f, if_pos ⟨by omega, by omega, wrap_in (by omega) (by omega), by omega⟩, Option.bind_some, Int.toNat_natCast]
      by_cases hn : Int.tmod k q.length < 0
      · rw [if_pos hn] at hp
        rw [if_pos hn, wrap_in (n := Int.tmod k q.length + q.length) (by omega) (by omega)]
        exact key _ hp
      · rw [if_neg hn] at hp
        rw [if_neg hn]
        exact key _ hp
  · rw [if_neg hc, if_neg hc]
theorem drop_eq (q : List S37) (a : Int) (b c : ByteArray) (hl : q.length ≤ 1000) : queue_Drop.f q a b c = some (keep ⟨a, b, c⟩ q) := if_pos (by omega)
theorem keep_mem {r x : S37} {q : List S37} : x ∈ keep r q ↔ x ∈ q ∧ x ≠ r := by
  unfold keep
  rw [List.mem_filter]
  constructor
  · rintro ⟨h1, h2⟩; exact ⟨h1, fun e => by rw [eqB_pos e] at h2; cases h2⟩
  · rintro ⟨h1, h2⟩; exact ⟨h1, by rw [Bool.eq_false_iff.2 (eqB_neg h2)]; rfl⟩
theorem awake : Ev (fun k => tolllaw19_awake.f k) true := Ev.of (g := fun k => tolllaw19_awake.f k) tolllaw19_awake.mono tolllaw19_awake.at60

end Go.Proofs.YtcakednecmngdaaDoor.QueuePure
