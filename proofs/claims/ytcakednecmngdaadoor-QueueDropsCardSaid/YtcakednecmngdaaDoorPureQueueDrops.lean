/-
  The plain law of QueueDrops: what is dropped is there no more, all others are, in order; added again it is last.
  Conditions: whole numbers of 64 bits.
-/
import Derived.Test.YtcakednecmngdaaDoorQueuePure
import Derived.Test.YtcakednecmngdaaDoorQf21
namespace Go.Proofs.YtcakednecmngdaaDoor.Pure
open Go Go.RowKit Go.Proofs.YtcakednecmngdaaDoor.Q Go.Proofs.YtcakednecmngdaaDoor.P Go.Proofs.YtcakednecmngdaaDoorW.PrintWords Go.Proofs.YtcakednecmngdaaDoor.Plain Go.Proofs.YtcakednecmngdaaDoor.DnsPure Go.Proofs.YtcakednecmngdaaDoor.Queue Go.Proofs.YtcakednecmngdaaDoor.QueuePure

theorem keep_same {r : S37} {q : List S37} (h : r ∉ q) : keep r q = q := by
  unfold keep
  rw [List.filter_eq_self]
  intro x hx
  have hne : x ≠ r := fun e => h (by rw [← e]; exact hx)
  rw [Bool.eq_false_iff.2 (eqB_neg hne)]; rfl
theorem keep_less {r : S37} {q : List S37} (h : r ∈ q) : (keep r q).length < q.length := by
  have h1 := keep_length r q
  rcases Nat.lt_or_ge (keep r q).length q.length with h2 | h2
  · exact h2
  · have := (List.filter_sublist (p := fun x => !eqB x r) (l := q)).eq_of_length (by show (keep r q).length = _; omega)
    have hm : r ∈ keep r q := by unfold keep; rw [this]; exact h
    exact absurd rfl (keep_mem.1 hm).2
theorem keep_good {r : S37} {q : List S37} (h : MayQ q) : MayQ (keep r q) := ⟨fun x hx => h.1 x (keep_mem.1 hx).1, h.2.1.filter _, by have := keep_length r q; have := h.2.2; omega⟩
theorem keep_ok {r : S37} {q : List S37} (h : q.all okB = true) : (keep r q).all okB = true := by
  rw [List.all_eq_true] at h ⊢
  exact fun x hx => h x (keep_mem.1 hx).1

theorem QueueDrops (l : List S37) (a : Int) (b c : ByteArray) (hw : ∀ r ∈ l, (Lit.int .i64 r.f0).wf = true) : ∃ k, tolllaw19_QueueDrops.f k l a b c = some true := by
  refine Ev.rounds (g := fun k => tolllaw19_QueueDrops.f k l a b c) ?_
  unfold tolllaw19_QueueDrops.f
  have hok := fewQ_ok hw
  have hl := fewQ_length l
  refine Ev.bind (Few l) (ev_bind (fewRef_eq a b c) ?_)
  generalize fewQ l = q at *
  generalize fewB b = b1
  generalize fewB c = c1
  obtain ⟨r, hr⟩ : ∃ r : S37, (⟨a, b1, c1⟩ : S37) = r := ⟨_, rfl⟩
  have hkl := keep_length r q
  have hnm : r ∉ keep r q := fun h => (keep_mem.1 h).2 rfl
  have hh : ∀ m : List S37, m.length ≤ 1000000 → Ev (fun k => queue_Has.f k m a b1 c1) (decide (r ∈ m)) := fun m hm => by rw [← hr]; exact Has m hm a b1 c1
  refine ev_bind (drop_eq q a b1 c1 (by omega)) ?_
  rw [hr]
  refine Ev.bind (hh _ (by omega)) (ev_neg (by rw [decide_eq_false hnm]; simp) (ev_bind (check_eq hok (by omega)) ?_))
  by_cases hg : MayQ q
  · rw [check_iff.2 hg]
    refine Ev.step (fun k => by rw [tolllaw19_QueueDrops.j0, if_neg (by simp), hr]) ?_
    have hA := Add (keep r q) [r] (keep_ok hok) (by omega) (by simp)
    refine Ev.bind hA ?_
    have ea : addL (keep r q) [r] = keep r q ++ [r] := by rw [addL, addL, if_neg hnm]
    unfold addR
    by_cases hm : mayR r = true
    · rw [if_pos ⟨keep_good hg, fun x hx => by rw [List.mem_singleton.1 hx]; exact hm⟩, ea, List.length_append, List.length_singleton]
      by_cases h64 : 64 < (keep r q).length + 1
      · rw [if_pos h64]
        have := hg.2.2
        exact ev_neg (by decide) (ev_neg (by decide) (ev_pos rfl (ev_pos (by omega) (Ev.bind QueuePure.awake (Ev.now _)))))
      · rw [if_neg h64]
        have e1 : ((keep r q ++ [r]).length : Int) = ((keep r q).length : Int) + 1 := by simp
        have e2 : wrap64 (((keep r q).length : Int) + 1) = ((keep r q).length : Int) + 1 := wrap_in (by omega) (by omega)
        have e3 : wrap64 ((((keep r q).length : Int) + 1) - 1) = ((keep r q).length : Int) := by rw [wrap_in (by omega) (by omega)]; omega
        have e4 : rd_T37 (keep r q ++ [r]) ((keep r q).length : Int) = r := by rw [rd37 _ _ (by simp)]; simp
        refine ev_pos rfl ?_
        have e5 := SameRefs (keep r q) (keep r q) (by omega)
        rw [decide_eq_true rfl] at e5
        refine ev_pos (by rw [e1, e2]) (ev_pos (by rw [e1, e3]; omega) (ev_pos (by rw [e1, e3]; omega) (ev_pos (by rw [e1, e3, e4, ← hr]; exact eqB_pos (x := ⟨a, b1, c1⟩) rfl) (ev_pos (by rw [e1, e3]; omega) (Ev.bind (a := true) (by rw [e1, e3, Int.toNat_natCast, List.take_left]; exact e5) (ev_pos rfl (Ev.bind (hh q (by omega)) ?_)))))))
        refine ev_pos ?_ (Ev.bind QueuePure.awake (Ev.now _))
        by_cases hrq : r ∈ q
        · have := keep_less hrq
          have h1 : (((keep r q).length : Int) == (q.length : Int)) = false := beq_eq_false_iff_ne.2 (by omega)
          rw [decide_eq_true hrq, h1]; rfl
        · rw [decide_eq_false hrq, keep_same hrq]; simp
    · rw [if_neg (fun h => hm (h.2 r (by simp)))]
      exact ev_neg (by decide) (ev_pos rfl (Ev.bind QueuePure.awake (Ev.now _)))
  · rw [check_no hg]
    refine Ev.step (fun k => by rw [tolllaw19_QueueDrops.j0, if_pos (by decide)]) ?_
    exact Ev.bind (hh _ (by omega)) (ev_neg (by rw [decide_eq_false hnm]; simp) (Ev.bind QueuePure.awake (Ev.now _)))

theorem QueueDrops_walk (A0 : Option Addr) (c0 : Nat) (l0 : List S37) (a1_0 : Int) (a1_1 a1_2 : ByteArray) (w : World) (hr0 : Kd.C k37 w A0 l0.length l0) (hc0 : l0.length ≤ c0) (hw0 : ∀ r ∈ l0, (Lit.int .i64 r.f0).wf = true) :
    Calls Tryd.prog 21 #[.slice A0 l0.length c0, .agg #[.int .i64 a1_0, .string a1_1, .string a1_2]] w fun e w' => e = .returned (.bool true) ∧ Below w.heap.size w w' := by
  obtain ⟨k, hk⟩ := QueueDrops l0 a1_0 a1_1 a1_2 hw0
  exact tolllaw19_QueueDrops.calls k A0 c0 l0 a1_0 a1_1 a1_2 true w hr0 hc0 hk

end Go.Proofs.YtcakednecmngdaaDoor.Pure
