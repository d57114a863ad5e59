/-
  The plain law of QueueTwice: added twice is as added once; what is added in two goes is as in one; dropped it is as if it had not been added, if it was not there.
  Conditions: whole numbers of 64 bits.
-/
import Derived.Test.YtcakednecmngdaaDoorQueuePure
import Derived.Test.YtcakednecmngdaaDoorQf20
namespace Go.Proofs.YtcakednecmngdaaDoor.Pure
open Go Go.RowKit Go.Proofs.YtcakednecmngdaaDoor.Q Go.Proofs.YtcakednecmngdaaDoor.P Go.Proofs.YtcakednecmngdaaDoorW.PrintWords Go.Proofs.YtcakednecmngdaaDoor.Plain Go.Proofs.YtcakednecmngdaaDoor.DnsPure Go.Proofs.YtcakednecmngdaaDoor.Queue Go.Proofs.YtcakednecmngdaaDoor.QueuePure

theorem addL_append : ∀ (a b q : List S37), addL q (a ++ b) = addL (addL q a) b
  | [], _, _ => rfl
  | r :: a, b, q => by rw [List.cons_append, addL, addL, addL_append a b]
/-- What is added lies behind, and is new. -/
theorem addL_shape : ∀ (l q : List S37), ∃ t, addL q l = q ++ t ∧ (∀ y ∈ t, y ∈ l ∧ y ∉ q) ∧ (∀ y ∈ l, y ∈ q ++ t) ∧ t.Nodup
  | [], q => ⟨[], by simp [addL], by simp, by simp, List.nodup_nil⟩
  | r :: l, q => by
    by_cases h : r ∈ q
    · obtain ⟨t, h1, h2, h3, h4⟩ := addL_shape l q
      refine ⟨t, by rw [addL, if_pos h, h1], fun y hy => ⟨List.mem_cons_of_mem _ (h2 y hy).1, (h2 y hy).2⟩, fun y hy => ?_, h4⟩
      rcases List.mem_cons.1 hy with rfl | hy
      · exact List.mem_append_left _ h
      · exact h3 y hy
    · obtain ⟨t, h1, h2, h3, h4⟩ := addL_shape l (q ++ [r])
      refine ⟨r :: t, by rw [addL, if_neg h, h1]; simp, fun y hy => ?_, fun y hy => ?_, ?_⟩
      · rcases List.mem_cons.1 hy with rfl | hy
        · exact ⟨by simp, h⟩
        · exact ⟨List.mem_cons_of_mem _ (h2 y hy).1, fun hq => (h2 y hy).2 (List.mem_append_left _ hq)⟩
      · rcases List.mem_cons.1 hy with rfl | hy
        · simp
        · have := h3 y hy
          simpa using this
      · rw [List.nodup_cons]
        exact ⟨fun hr => (h2 r hr).2 (by simp), h4⟩
theorem addL_same : ∀ (l q : List S37), (∀ r ∈ l, r ∈ q) → addL q l = q
  | [], q, _ => rfl
  | r :: l, q, h => by rw [addL, if_pos (h r (by simp)), addL_same l q (fun x hx => h x (by simp [hx]))]
theorem addL_le (l q : List S37) : q.length ≤ (addL q l).length := by
  obtain ⟨t, h, _⟩ := addL_shape l q
  rw [h, List.length_append]; omega
theorem addL_may {q l : List S37} (hq : MayQ q) (hl : ∀ r ∈ l, mayR r = true) (h : (addL q l).length ≤ 64) : MayQ (addL q l) := by
  obtain ⟨t, h1, h2, _, h4⟩ := addL_shape l q
  refine ⟨fun r hr => ?_, ?_, h⟩
  · rw [h1] at hr
    rcases List.mem_append.1 hr with hr | hr
    · exact hq.1 r hr
    · exact hl r (h2 r hr).1
  · rw [h1, List.nodup_append]
    exact ⟨hq.2.1, h4, fun a ha b hb e => (h2 b hb).2 (e ▸ ha)⟩
theorem addL_ok {q l : List S37} (hq : q.all okB = true) (hl : l.all okB = true) : (addL q l).all okB = true := by
  obtain ⟨t, h1, h2, _⟩ := addL_shape l q
  rw [List.all_eq_true] at *
  intro r hr
  rw [h1] at hr
  rcases List.mem_append.1 hr with hr | hr
  · exact hq r hr
  · exact hl r (h2 r hr).1
theorem addR_pos {q l : List S37} (hq : MayQ q) (hl : ∀ r ∈ l, mayR r = true) (h : (addL q l).length ≤ 64) : addR q l = (addL q l, 0) := by
  unfold addR
  rw [if_pos ⟨hq, hl⟩, if_neg (by omega)]
theorem addR_zero {q l : List S37} (h : (addR q l).2 = 0) : MayQ q ∧ (∀ r ∈ l, mayR r = true) ∧ (addL q l).length ≤ 64 := by
  unfold addR at h
  split at h
  · next hh =>
    split at h
    · cases h
    · next h2 => exact ⟨hh.1, hh.2, by omega⟩
  · cases h

/-! ### what was added is dropped again -/
def left (q X both : List S37) : List S37 := X.filter fun y => decide (y ∈ q) || !decide (y ∈ both)
theorem left_none (q X : List S37) : left q X [] = X := by simp [left]
theorem left_skip (q X b : List S37) (r : S37) (h : r ∈ q) : left q X (b ++ [r]) = left q X b := by
  unfold left
  refine List.filter_congr fun y _ => ?_
  by_cases e : y = r
  · subst e; simp [h]
  · simp [e]
theorem left_drop (q X b : List S37) (r : S37) (h : r ∉ q) : left q X (b ++ [r]) = keep r (left q X b) := by
  unfold left keep
  rw [List.filter_filter]
  refine List.filter_congr fun y _ => ?_
  by_cases e : y = r
  · subst e; rw [eqB_pos rfl]; simp [h]
  · rw [Bool.eq_false_iff.2 (eqB_neg e)]; simp [e]
theorem left_all {q both : List S37} : left q (addL q both) both = q := by
  obtain ⟨t, h1, h2, _⟩ := addL_shape both q
  unfold left
  rw [h1, List.filter_append, List.filter_eq_self.2 (fun y hy => by simp [hy]), List.filter_eq_nil_iff.2 (fun y hy => by simp [h2 y hy]), List.append_nil]
theorem left_length (q X b : List S37) : (left q X b).length ≤ X.length := List.length_filter_le _ _
theorem twice_from (q X both : List S37) (hX : X.length ≤ 1000) (hq : q.length ≤ 1000) (hb : both.length ≤ 1000) (he : left q X both = q) : ∀ (d i : Nat), both.length = i + d →
    Ev (fun k => tolllaw19_QueueTwice.l0 k q both (left q X (both.take i)) i) true := by
  intro d
  induction d with
  | zero =>
    intro i hd
    have h0 := left_length q X (both.take i)
    refine Ev.step (fun k => by rw [tolllaw19_QueueTwice.l0, if_neg (by omega)]) (Ev.bind (SameRefs _ _ (by omega)) ?_)
    rw [List.take_of_length_le (by omega), he, decide_eq_true rfl]
    exact ev_pos rfl (Ev.bind QueuePure.awake (Ev.now _))
  | succ d ih =>
    intro i hd
    have hlt : i < both.length := by omega
    have h0 := left_length q X (both.take i)
    have hn := ih (i + 1) (by omega)
    rw [List.take_succ_eq_append_getElem hlt] at hn
    refine Ev.step (fun k => by rw [tolllaw19_QueueTwice.l0, if_pos (by omega), if_pos (by omega), rd37 both i hlt, succ_wrap hlt (by omega)]) (Ev.bind (Has q (by omega) _ _ _) ?_)
    rw [eta37]
    by_cases h : both[i] ∈ q
    · rw [left_skip _ _ _ _ h] at hn
      exact ev_pos (decide_eq_true h) hn
    · rw [left_drop _ _ _ _ h] at hn
      exact ev_neg (by rw [decide_eq_false h]; simp) (ev_bind (drop_eq _ _ _ _ (by omega)) hn)

theorem QueueTwice (l0 l1 l2 : List S37) (h0 : ∀ r ∈ l0, (Lit.int .i64 r.f0).wf = true) (h1 : ∀ r ∈ l1, (Lit.int .i64 r.f0).wf = true) (h2 : ∀ r ∈ l2, (Lit.int .i64 r.f0).wf = true) : ∃ k, tolllaw19_QueueTwice.f k l0 l1 l2 = some true := by
  refine Ev.rounds (g := fun k => tolllaw19_QueueTwice.f k l0 l1 l2) ?_
  unfold tolllaw19_QueueTwice.f
  have o0 := fewQ_ok h0
  have o1 := fewQ_ok h1
  have o2 := fewQ_ok h2
  have s0 := fewQ_length l0
  have s1 := fewQ_length l1
  have s2 := fewQ_length l2
  refine Ev.bind (Few l0) (Ev.bind (Few l1) (Ev.bind (Few l2) ?_))
  generalize fewQ l0 = q at *
  generalize fewQ l1 = a at *
  generalize fewQ l2 = b at *
  refine ev_bind rfl (ev_pos (by simp; omega) (ev_bind rfl (ev_pos (by simp; omega) (ev_bind rfl ?_))))
  simp only [List.nil_append]
  have hbl : (a ++ b).length ≤ 1000 := by simp; omega
  have ob : (a ++ b).all okB = true := by rw [List.all_append, o1, o2]; rfl
  refine Ev.bind (Add q (a ++ b) o0 (by omega) hbl) ?_
  by_cases he : (addR q (a ++ b)).2 = 0
  · obtain ⟨hq, hab, h64⟩ := addR_zero he
    have ha : ∀ r ∈ a, mayR r = true := fun r hr => hab r (List.mem_append_left _ hr)
    have hb : ∀ r ∈ b, mayR r = true := fun r hr => hab r (List.mem_append_right _ hr)
    have h64a : (addL q a).length ≤ 64 := by
      have := addL_le b (addL q a)
      rw [addL_append] at h64
      omega
    have e1 := addR_pos hq hab h64
    have e2 := addR_pos hq ha h64a
    have hY := addL_may hq ha h64a
    have hX := addL_may hq hab h64
    have e3 : addR (addL q a) b = (addL q (a ++ b), 0) := by
      rw [addL_append] at h64 ⊢
      exact addR_pos hY hb h64
    have e4 : addR (addL q (a ++ b)) (a ++ b) = (addL q (a ++ b), 0) := by
      obtain ⟨t, g1, _, g3, _⟩ := addL_shape (a ++ b) q
      have hs := addL_same (a ++ b) (addL q (a ++ b)) (fun r hr => by rw [g1]; exact g3 r hr)
      have := addR_pos hX hab (by rw [hs]; exact h64)
      rw [hs] at this
      exact this
    have A2 := Add q a o0 (by omega) (by omega)
    have A3 := Add (addL q a) b (addL_ok o0 o1) (by omega) (by omega)
    have A4 := Add (addL q (a ++ b)) (a ++ b) (addL_ok o0 ob) (by omega) hbl
    rw [e2] at A2
    rw [e3] at A3
    rw [e4] at A4
    rw [e1]
    refine ev_pos rfl (Ev.bind A2 (Ev.bind A3 (Ev.bind A4 (ev_pos rfl (ev_pos rfl (ev_pos rfl (Ev.bind (SameRefs _ _ (by simp only; omega)) ?_)))))))
    refine ev_pos (decide_eq_true rfl) (Ev.bind (SameRefs _ _ (by simp only; omega)) ?_)
    rw [decide_eq_true rfl]
    refine Ev.step (fun k => by rw [tolllaw19_QueueTwice.j0, if_neg (by simp)]) ?_
    have := twice_from q (addL q (a ++ b)) (a ++ b) (by omega) (by omega) hbl left_all (a ++ b).length 0 (by omega)
    rw [List.take_zero, left_none] at this
    exact this
  · exact ev_neg he (Ev.bind QueuePure.awake (Ev.now _))

theorem QueueTwice_walk (A0 : Option Addr) (c0 : Nat) (l0 : List S37) (A1 : Option Addr) (c1 : Nat) (l1 : List S37) (A2 : Option Addr) (c2 : Nat) (l2 : List S37) (w : World) (hr0 : Kd.C k37 w A0 l0.length l0) (hc0 : l0.length ≤ c0) (hw0 : ∀ r ∈ l0, (Lit.int .i64 r.f0).wf = true)
    (hr1 : Kd.C k37 w A1 l1.length l1) (hc1 : l1.length ≤ c1) (hw1 : ∀ r ∈ l1, (Lit.int .i64 r.f0).wf = true) (hr2 : Kd.C k37 w A2 l2.length l2) (hc2 : l2.length ≤ c2) (hw2 : ∀ r ∈ l2, (Lit.int .i64 r.f0).wf = true) :
    Calls Tryd.prog 20 #[.slice A0 l0.length c0, .slice A1 l1.length c1, .slice A2 l2.length c2] w fun e w' => e = .returned (.bool true) ∧ Below w.heap.size w w' := by
  obtain ⟨k, hk⟩ := QueueTwice l0 l1 l2 hw0 hw1 hw2
  exact tolllaw19_QueueTwice.calls k A0 c0 l0 A1 c1 l1 A2 c2 l2 true w hr0 hc0 hr1 hc1 hr2 hc2 hk

end Go.Proofs.YtcakednecmngdaaDoor.Pure
