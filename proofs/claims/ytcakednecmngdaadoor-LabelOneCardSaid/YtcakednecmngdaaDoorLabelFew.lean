/-
  Labels and needs in plain words: no more than are looked at, and names in order.
  Conditions: as each theorem states them.
-/
import Derived.Test.YtcakednecmngdaaDoorLW
import Derived.Test.YtcakednecmngdaaDoorLf51
import Derived.Test.YtcakednecmngdaaDoorLf53
import Derived.Test.YtcakednecmngdaaDoorLf55
import Derived.Test.YtcakednecmngdaaDoorLabelO
import Derived.Test.YtcakednecmngdaaDoorBaseFew
import Derived.Test.YtcakednecmngdaaDoorBase
set_option linter.unusedVariables false
set_option linter.unusedSimpArgs false
namespace Go.Proofs.YtcakednecmngdaaDoor.LabelPure
open Go Go.RowKit Go.Proofs.YtcakednecmngdaaDoor.L Go.Proofs.YtcakednecmngdaaDoor.P Go.Proofs.YtcakednecmngdaaDoorW.PrintWords Go.Proofs.YtcakednecmngdaaDoor.Plain Go.Proofs.YtcakednecmngdaaDoor.DnsPure Go.Proofs.YtcakednecmngdaaDoor.Label

theorem rd58 (l : List S58) (i : Nat) (h : i < l.length) : rd_T58 l (i : Int) = l[i] := by
  unfold rd_T58
  simp [List.getD_eq_getElem?_getD, List.getElem?_eq_getElem h]
theorem succ_w {i n : Nat} (h : i < n) (hn : n ≤ 1000000) : wrap64 ((i : Int) + 1) = ((i + 1 : Nat) : Int) := by rw [wrap_in (by omega) (by omega)]; omega

/-! ### no more than are looked at -/
def fewP (p : S55) : S55 := ⟨fewB p.f0, fewB p.f1⟩
def few5 (l : List S55) : List S55 := (l.take 31).map fewP
theorem few5_from (l : List S55) : ∀ (d i : Nat), min 31 l.length = i + d → Ev (fun k => tolllaw05_Few.l0 k l ((l.take i).map fewP) i) (few5 l) := by
  intro d
  induction d with
  | zero =>
    intro i hd
    have e : (l.take i).map fewP = few5 l := by
      unfold few5
      congr 1
      by_cases h : l.length ≤ 31
      · rw [List.take_of_length_le (by omega), List.take_of_length_le (by omega)]
      · rw [show i = 31 by omega]
    by_cases h : i < l.length
    · refine Ev.step (fun k => by rw [tolllaw05_Few.l0, if_pos (by omega), decide_eq_false (show ¬ ((i : Int) < 31) by omega)]) (Ev.step (f := fun _ => some _) (fun k => by rw [tolllaw05_Few.j1, if_neg (by simp)]) ?_)
      rw [e]; exact Ev.now _
    · refine Ev.step (fun k => by rw [tolllaw05_Few.l0, if_neg (by omega)]) (Ev.step (f := fun _ => some _) (fun k => by rw [tolllaw05_Few.j1, if_neg (by simp)]) ?_)
      rw [e]; exact Ev.now _
  | succ d ih =>
    intro i hd
    have hlt : i < l.length := by omega
    have hn := ih (i + 1) (by omega)
    rw [List.take_succ_eq_append_getElem hlt, List.map_append] at hn
    refine Ev.step (fun k => by rw [tolllaw05_Few.l0, if_pos (by omega), decide_eq_true (show ((i : Int) < 31) by omega)]) (Ev.step (fun k => by rw [tolllaw05_Few.j1, if_pos rfl, if_pos (by omega), if_pos (by omega), rd55 l i hlt, succ_w (n := 100) (by omega) (by omega)]) ?_)
    refine ev_bind (few_eq _) (ev_bind (few_eq _) (ev_pos (by simp; omega) ?_))
    exact hn
theorem Few5 (l : List S55) : Ev (fun k => tolllaw05_Few.f k l) (few5 l) := few5_from l (min 31 l.length) 0 (by omega)
theorem few5_length (l : List S55) : (few5 l).length ≤ 31 := by unfold few5; simp; omega
def shortP (l : List S55) : Prop := ∀ p ∈ l, p.f0.size ≤ 100 ∧ p.f1.size ≤ 100
theorem few5_short (l : List S55) : shortP (few5 l) := fun p hp => by
  obtain ⟨x, _, rfl⟩ := List.mem_map.1 hp
  exact ⟨few_size _, few_size _⟩

def fewN (n : S58) : S58 := ⟨n.f0, fewB n.f1, (n.f2.take 9).map fewB⟩
def few8 (l : List S58) : List S58 := (l.take 9).map fewN
theorem vals_from (l : List S58) (i : Nat) (hlt : i < l.length) (hi : i < 9) (x3 : List S58) (hx : x3.length ≤ 9) (t : ByteArray) (R : List S58)
    (hnext : Ev (fun k => tolllaw08_Few.l0 k l (x3 ++ [⟨l[i].f0, t, (l[i].f2.take 9).map fewB⟩]) ((i + 1 : Nat) : Int)) R) : ∀ (d j : Nat), min 9 l[i].f2.length = j + d → Ev (fun k => tolllaw08_Few.l1 k l x3 i j l[i].f0 t ((l[i].f2.take j).map fewB)) R := by
  intro d
  induction d with
  | zero =>
    intro j hd
    have e : (l[i].f2.take j).map fewB = (l[i].f2.take 9).map fewB := by
      congr 1
      by_cases h : l[i].f2.length ≤ 9
      · rw [List.take_of_length_le (by omega), List.take_of_length_le (by omega)]
      · rw [show j = 9 by omega]
    rw [e]
    by_cases h : j < l[i].f2.length
    · exact Ev.step (fun k => by rw [tolllaw08_Few.l1, if_pos (by omega), if_pos (by omega), rd58 l i hlt, if_pos (by omega), if_neg (by omega), if_pos (by omega), succ_w (n := 100) (by omega) (by omega)]) hnext
    · exact Ev.step (fun k => by rw [tolllaw08_Few.l1, if_pos (by omega), if_pos (by omega), rd58 l i hlt, if_neg (by omega), if_pos (by omega), succ_w (n := 100) (by omega) (by omega)]) hnext
  | succ d ih =>
    intro j hd
    have hj : j < l[i].f2.length := by omega
    have hn := ih (j + 1) (by omega)
    rw [List.take_succ_eq_append_getElem hj, List.map_append] at hn
    refine Ev.step (fun k => by rw [tolllaw08_Few.l1, if_pos (by omega), if_pos (by omega), rd58 l i hlt, if_pos (by omega), if_pos (by omega), if_pos (by omega), rd_at _ j hj, succ_w (i := j) (n := 100) (by omega) (by omega)]) ?_
    exact ev_bind (few_eq _) (ev_pos (by simp; omega) hn)
theorem few8_from (l : List S58) : ∀ (d i : Nat), min 9 l.length = i + d → Ev (fun k => tolllaw08_Few.l0 k l ((l.take i).map fewN) i) (few8 l) := by
  intro d
  induction d with
  | zero =>
    intro i hd
    have e : (l.take i).map fewN = few8 l := by
      unfold few8
      congr 1
      by_cases h : l.length ≤ 9
      · rw [List.take_of_length_le (by omega), List.take_of_length_le (by omega)]
      · rw [show i = 9 by omega]
    by_cases h : i < l.length
    · refine Ev.step (fun k => by rw [tolllaw08_Few.l0, if_pos (by omega), decide_eq_false (show ¬ ((i : Int) < 9) by omega)]) (Ev.step (f := fun _ => some _) (fun k => by rw [tolllaw08_Few.j1, if_neg (by simp)]) ?_)
      rw [e]; exact Ev.now _
    · refine Ev.step (fun k => by rw [tolllaw08_Few.l0, if_neg (by omega)]) (Ev.step (f := fun _ => some _) (fun k => by rw [tolllaw08_Few.j1, if_neg (by simp)]) ?_)
      rw [e]; exact Ev.now _
  | succ d ih =>
    intro i hd
    have hlt : i < l.length := by omega
    have hn := ih (i + 1) (by omega)
    rw [List.take_succ_eq_append_getElem hlt, List.map_append] at hn
    refine Ev.step (fun k => by rw [tolllaw08_Few.l0, if_pos (by omega), decide_eq_true (show ((i : Int) < 9) by omega)]) (Ev.step (fun k => by rw [tolllaw08_Few.j1, if_pos rfl, if_pos (by omega), if_pos (by omega), rd58 l i hlt]) ?_)
    refine ev_bind (few_eq _) ?_
    exact vals_from l i hlt (by omega) _ (by simp; omega) _ _ hn _ 0 (Nat.zero_add _).symm
theorem Few8 (l : List S58) : Ev (fun k => tolllaw08_Few.f k l) (few8 l) := few8_from l (min 9 l.length) 0 (by omega)
theorem few8_length (l : List S58) : (few8 l).length ≤ 9 := by unfold few8; simp; omega
def shortN (n : S58) : Prop := n.f1.size ≤ 100 ∧ n.f2.length ≤ 9 ∧ ∀ s ∈ n.f2, s.size ≤ 100
theorem few8_short (l : List S58) : ∀ n ∈ few8 l, shortN n := fun n hn => by
  obtain ⟨x, _, rfl⟩ := List.mem_map.1 hn
  refine ⟨few_size _, by simp [fewN]; omega, fun s hs => ?_⟩
  obtain ⟨y, _, rfl⟩ := List.mem_map.1 hs
  exact few_size _

/-! ### texts in order -/
theorem less_irrefl : ∀ x : List UInt8, Op.bytesLess x x = false
  | [] => rfl
  | a :: x => by rw [Op.bytesLess, less_irrefl x]; simp
theorem less_trans : ∀ x y z : List UInt8, Op.bytesLess x y = true → Op.bytesLess y z = true → Op.bytesLess x z = true
  | _, [], _, h, _ => by cases ‹List UInt8› <;> simp [Op.bytesLess] at h
  | _, _ :: _, [], _, h => by simp [Op.bytesLess] at h
  | [], _ :: _, _ :: _, _, _ => rfl
  | a :: x, b :: y, c :: z, h1, h2 => by
    rw [Op.bytesLess] at h1 h2 ⊢
    simp only [Bool.or_eq_true, decide_eq_true_eq, Bool.and_eq_true, beq_iff_eq] at h1 h2 ⊢
    rcases h1 with h1 | ⟨rfl, h1⟩
    · rcases h2 with h2 | ⟨rfl, h2⟩
      · exact .inl (UInt8.lt_trans h1 h2)
      · exact .inl h1
    · rcases h2 with h2 | ⟨rfl, h2⟩
      · exact .inl h2
      · exact .inr ⟨rfl, less_trans x y z h1 h2⟩
theorem may_above : ∀ (l : List S55) (q : ByteArray), mayFrom (some q) l = true → ∀ p ∈ l, Op.bytesLess q.toList p.f0.toList = true
  | [], _, _, _, hp => by cases hp
  | x :: l, q, h, p, hp => by
    rw [mayFrom_cons] at h
    simp only [Bool.and_eq_true] at h
    rcases List.mem_cons.1 hp with rfl | hp
    · exact h.1.2
    · exact less_trans _ _ _ h.1.2 (may_above l x.f0 h.2 p hp)
theorem may_head {x : S55} {l : List S55} {q : Option ByteArray} (h : mayFrom q (x :: l) = true) : mayFrom (some x.f0) l = true ∧ ∀ p ∈ l, p.f0 ≠ x.f0 := by
  rw [mayFrom_cons] at h
  simp only [Bool.and_eq_true] at h
  refine ⟨h.2, fun p hp e => ?_⟩
  have := may_above l x.f0 h.2 p hp
  rw [e, less_irrefl] at this
  cases this
/-- Where the names differ, what any label of that name has is what the first has. -/
theorem any_find (s : ByteArray) (f : ByteArray → Bool) : ∀ (l : List S55) (q : Option ByteArray), mayFrom q l = true → (l.any fun p => isB s p && f p.f1) = ((findB l s).elim false f)
  | [], _, _ => rfl
  | x :: l, q, h => by
    obtain ⟨h1, h2⟩ := may_head h
    have ih := any_find s f l _ h1
    rw [List.any_cons]
    unfold findB at ih ⊢
    rw [List.find?_cons]
    cases hx : isB s x with
    | false => rw [Bool.false_and, Bool.false_or]; exact ih
    | true =>
      have hno : (l.any fun p => isB s p && f p.f1) = false := by
        rw [List.any_eq_false]
        intro p hp hq
        rw [Bool.and_eq_true] at hq
        exact h2 p hp (by rw [(isB_iff s p).1 hq.1, (isB_iff s x).1 hx])
      rw [hno, Bool.or_false, Bool.true_and]
      rfl

/-! ### a need and its Not -/
theorem asks (x : Int) (s : ByteArray) (vs : List ByteArray) : isNo (askOf x s vs) = true ∨ (askOf x s vs = .among s vs ∧ askOf (notK x) s vs = .outside s vs ∧ x = 1) ∨ (askOf x s vs = .outside s vs ∧ askOf (notK x) s vs = .among s vs ∧ x = 2) ∨ (askOf x s vs = .there s ∧ askOf (notK x) s vs = .missing s ∧ x = 3) ∨ (askOf x s vs = .missing s ∧ askOf (notK x) s vs = .there s ∧ x = 4) := by
  unfold askOf notK
  cases hN : nameB s with
  | false => exact .inl rfl
  | true =>
    by_cases h1 : x = 1
    · subst h1
      cases fewVals vs with
      | true => exact .inr (.inl ⟨by simp, by simp, rfl⟩)
      | false => exact .inl (by simp [isNo])
    · by_cases h2 : x = 2
      · subst h2
        cases fewVals vs with
        | true => exact .inr (.inr (.inl ⟨by simp, by simp, rfl⟩))
        | false => exact .inl (by simp [isNo])
      · by_cases h3 : x = 3
        · subst h3
          by_cases h0 : vs.length = 0
          · exact .inr (.inr (.inr (.inl ⟨by simp [h0], by simp [h0], rfl⟩)))
          · exact .inl (by simp [isNo, h0])
        · by_cases h4 : x = 4
          · subst h4
            by_cases h0 : vs.length = 0
            · exact .inr (.inr (.inr (.inr ⟨by simp [h0], by simp [h0], rfl⟩)))
            · exact .inl (by simp [isNo, h0])
          · exact .inl (by simp [isNo, h1, h2, h3, h4])
theorem not_asks {x : Int} {s : ByteArray} {vs : List ByteArray} (h : isNo (askOf x s vs) = false) : isNo (askOf (notK x) s vs) = false ∧ notK (notK x) = x ∧ ∀ l, metB (askOf (notK x) s vs) l = !metB (askOf x s vs) l := by
  rcases asks x s vs with h1 | ⟨h1, h2, rfl⟩ | ⟨h1, h2, rfl⟩ | ⟨h1, h2, rfl⟩ | ⟨h1, h2, rfl⟩
  · rw [h] at h1; cases h1
  · rw [h1, h2]; exact ⟨rfl, rfl, fun l => rfl⟩
  · rw [h1, h2]; exact ⟨rfl, rfl, fun l => by simp [metB]⟩
  · rw [h1, h2]; exact ⟨rfl, rfl, fun l => rfl⟩
  · rw [h1, h2]; exact ⟨rfl, rfl, fun l => by simp [metB]⟩
theorem met_not {x : Int} {s : ByteArray} {vs : List ByteArray} (h : isNo (askOf x s vs) = false) (l : List S55) : metN (notK x) s vs l = (mayL l && !metN x s vs l) := by
  unfold metN
  rw [(not_asks h).2.2]
  cases mayL l <;> cases metB (askOf x s vs) l <;> rfl
theorem notN_bad {x : Int} {s : ByteArray} {vs : List ByteArray} (h : isNo (askOf x s vs) = true) : notN x s vs = (0, ⟨#[]⟩, [], false) := by unfold notN; rw [if_pos h]
theorem notN_good {x : Int} {s : ByteArray} {vs : List ByteArray} (h : isNo (askOf x s vs) = false) : notN x s vs = (notK x, s, vs, true) := by unfold notN; rw [if_neg (by simp [h])]
theorem awake_true : tolllaw08_awake.f = some true := by kernel_rfl
theorem rd_one (n : S58) : rd_T58 [n] 0 = n := rfl
/-- What came in, told by its value. -/
theorem V_of_C {W : World} {A : Option Addr} {c : Nat} {l : List ByteArray} (h : Kd.C Kd.string W A l.length l) (hc : l.length ≤ c) (e base : Nat) : Kd.V Kd.string e W base (fun _ => True) (.slice A l.length c) l := by
  refine ⟨A, c, rfl, hc, fun W' hW => ?_⟩
  have hsz : W.heap.size ≤ W'.heap.size := by
    rcases Nat.lt_or_ge W'.heap.size W.heap.size with h1 | h1
    · have := heap_lt (hW W'.heap.size trivial h1) h1
      omega
    · exact h1
  have hb : Below W.heap.size W { W' with os := W.os, tape := W.tape, output := W.output } := ⟨rfl, rfl, rfl, hsz, fun k hk => hW k trivial hk⟩
  have h2 := Kd.C_below h hb
  exact ⟨h2.1, h2.2.1, fun h0 => by
    obtain ⟨ad, e, hx⟩ := h2.2.2 h0
    exact ⟨ad, e, fun j p hj => hx j p hj⟩⟩
end Go.Proofs.YtcakednecmngdaaDoor.LabelPure
