/-
  The plain law of QueueRest: what is left behind a taking has all others, in order; by each place modulo how many there are the same one is taken.
  Conditions: whole numbers of 64 bits, a place of 8.
-/
import Derived.Test.YtcakednecmngdaaDoorQueuePure
import Derived.Test.YtcakednecmngdaaDoorQf7
namespace Go.Proofs.YtcakednecmngdaaDoor.Pure
open Go Go.RowKit Go.Proofs.YtcakednecmngdaaDoor.Q Go.Proofs.YtcakednecmngdaaDoor.P Go.Proofs.YtcakednecmngdaaDoorW.PrintWords Go.Proofs.YtcakednecmngdaaDoor.Plain Go.Proofs.YtcakednecmngdaaDoor.DnsPure Go.Proofs.YtcakednecmngdaaDoor.Queue Go.Proofs.YtcakednecmngdaaDoor.QueuePure

theorem same_neq (a : Int) (b c : ByteArray) : (!(a == a) || (!(b.toList == b.toList) || (!(c.toList == c.toList)))) = false := by simp
theorem place_add (k : Int) (n : Nat) : placeI (k + n) n = placeI k n := by unfold placeI; rw [Int.add_emod_right]
theorem place_sub (k : Int) (n : Nat) : placeI (k - n) n = placeI k n := by unfold placeI; rw [Int.sub_emod_right]
theorem rest_from (q : List S37) (hq : q.length ≤ 1000) (hn : q.Nodup) (p : Nat) (hp : p < q.length) : ∀ (d j : Nat), q.length = j + d →
    Ev (fun k => tolllaw19_QueueRest.l0 k q (q.length : Int) (q.eraseIdx p) ((if j ≤ p then j else j - 1 : Nat) : Int) j q[p].f0 q[p].f1 q[p].f2) true := by
  have hl : (q.eraseIdx p).length = q.length - 1 := by rw [List.length_eraseIdx, if_pos hp]
  intro d
  induction d with
  | zero =>
    intro j hd
    have e : ((if j ≤ p then j else j - 1 : Nat) : Int) = wrap64 ((q.length : Int) - 1) := by rw [wrap_in (by omega) (by omega), if_neg (by omega)]; omega
    refine Ev.step (fun k => by rw [tolllaw19_QueueRest.l0, if_neg (by omega), if_pos e]) ?_
    exact Ev.bind QueuePure.awake (Ev.now _)
  | succ d ih =>
    intro j hd
    have hlt : j < q.length := by omega
    have hnext := ih (j + 1) (by omega)
    by_cases h : j = p
    · subst h
      rw [if_neg (by omega), Nat.add_sub_cancel] at hnext
      rw [if_pos (Nat.le_refl _)]
      refine Ev.step (fun k => by rw [tolllaw19_QueueRest.l0, if_pos (by omega), if_pos (by omega), if_pos (by omega), rd37 q j hlt, succ_wrap hlt (by omega)]) ?_
      exact ev_pos (eqB_pos rfl) hnext
    · have hne : q[j] ≠ q[p] := fun e => h ((List.getElem_inj hn).1 e)
      obtain ⟨i, hi⟩ : ∃ i, (if j ≤ p then j else j - 1) = i := ⟨_, rfl⟩
      have hi2 : (if j + 1 ≤ p then j + 1 else j + 1 - 1) = i + 1 := by
        rw [← hi]
        by_cases h1 : j < p
        · rw [if_pos (by omega), if_pos (by omega)]
        · rw [if_neg (by omega), if_neg (by omega)]; omega
      have hil : i < (q.eraseIdx p).length := by
        rw [hl, ← hi]
        by_cases h1 : j < p
        · rw [if_pos (by omega)]; omega
        · rw [if_neg (by omega)]; omega
      have hget : (q.eraseIdx p)[i] = q[j] := by
        by_cases h1 : j < p
        · rw [if_pos (by omega)] at hi
          subst hi
          rw [List.getElem_eraseIdx, dif_pos h1]
        · rw [if_neg (by omega)] at hi
          have e : i + 1 = j := by omega
          rw [List.getElem_eraseIdx, dif_neg (by omega)]
          simp only [e]
      rw [hi2] at hnext
      rw [hi]
      refine Ev.step (fun k => by rw [tolllaw19_QueueRest.l0, if_pos (by omega), if_pos (by omega), if_pos (by omega), rd37 q j hlt, rd37 (q.eraseIdx p) i hil, hget, succ_wrap hlt (by omega), succ_wrap hil (by omega), neq_iff]) ?_
      exact ev_neg (eqB_neg hne) (ev_neg (by omega) (ev_pos (by omega) (ev_pos (by omega) (ev_neg (by rw [eqB_pos rfl]; simp) hnext))))

theorem QueueRest (l : List S37) (a : Int) (h0 : -128 ≤ a) (h1 : a < 128) (hw : ∀ r ∈ l, (Lit.int .i64 r.f0).wf = true) : ∃ k, tolllaw19_QueueRest.f k l a = some true := by
  refine Ev.rounds (g := fun k => tolllaw19_QueueRest.f k l a) ?_
  unfold tolllaw19_QueueRest.f
  have hok := fewQ_ok hw
  have hl := fewQ_length l
  refine Ev.bind (Few l) ?_
  generalize fewQ l = q at *
  rw [wrap_in (n := a) (by omega) (by omega)]
  refine ev_bind (take_eq q a hok (by omega)) ?_
  by_cases hg : MayQ q
  · by_cases hz : q.length = 0
    · have e : takeR q a = (0, ⟨#[]⟩, ⟨#[]⟩, [], 3) := by unfold takeR; rw [if_pos (check_iff.2 hg), if_pos hz]
      rw [e]
      refine ev_neg (by decide) (ev_pos (by omega) (ev_bind (check_eq hok (by omega)) ?_))
      rw [check_iff.2 hg]
      exact ev_pos rfl (Ev.bind QueuePure.awake (Ev.now _))
    · have hp := place_lt (k := a) (n := q.length) (by omega)
      have e : ∀ k, placeI k q.length = placeI a q.length → takeR q k = (q[placeI a q.length].f0, q[placeI a q.length].f1, q[placeI a q.length].f2, q.eraseIdx (placeI a q.length), 0) := fun k hk => by
        unfold takeR
        rw [if_pos (check_iff.2 hg), if_neg hz, hk, rd37 q _ hp]
      rw [e a rfl]
      refine ev_pos rfl ?_
      rw [wrap_in (n := a + q.length) (by omega) (by omega), wrap_in (n := a - q.length) (by omega) (by omega)]
      refine ev_bind (take_eq q _ hok (by omega)) (ev_bind (take_eq q _ hok (by omega)) ?_)
      rw [e _ (place_add a _), e _ (place_sub a _)]
      refine ev_neg (by rw [same_neq]; simp) (ev_neg (by rw [same_neq]; simp) (ev_pos rfl (ev_pos rfl ?_)))
      have e2 : (((q.eraseIdx (placeI a q.length)).length : Int) != wrap64 ((q.length : Int) - 1)) = false := by
        rw [wrap_in (by omega) (by omega), bne_eq_false_iff_eq, List.length_eraseIdx, if_pos hp]; omega
      rw [e2]
      refine Ev.step (fun k => by rw [tolllaw19_QueueRest.j0, if_neg (by simp)]) ?_
      have := rest_from q (by omega) hg.2.1 _ hp q.length 0 (by omega)
      rw [if_pos (Nat.zero_le _)] at this
      exact this
  · have e : takeR q a = (0, ⟨#[]⟩, ⟨#[]⟩, [], 1) := by unfold takeR; rw [check_no hg, if_neg (by decide)]
    rw [e]
    have hz : q.length ≠ 0 := fun h => hg (by
      rw [List.length_eq_zero_iff.1 h]
      exact ⟨fun r hr => (by cases hr), List.nodup_nil, by simp⟩)
    exact ev_neg (by decide) (ev_neg (by omega) (ev_pos rfl (Ev.bind QueuePure.awake (Ev.now _))))

theorem QueueRest_walk (A0 : Option Addr) (c0 : Nat) (l0 : List S37) (a1 : Int) (w : World) (hr0 : Kd.C k37 w A0 l0.length l0) (hc0 : l0.length ≤ c0) (hw0 : ∀ r ∈ l0, (Lit.int .i64 r.f0).wf = true) (h1 : (Lit.int .i8 a1).wf = true) :
    Calls Tryd.prog 7 #[.slice A0 l0.length c0, .int .i8 a1] w fun e w' => e = .returned (.bool true) ∧ Below w.heap.size w w' := by
  have hb : -128 ≤ a1 ∧ a1 < 128 := by
    simp [Lit.wf, IntKind.min, IntKind.max, IntKind.signed, IntKind.bits] at h1
    omega
  obtain ⟨k, hk⟩ := QueueRest l0 a1 hb.1 hb.2 hw0
  exact tolllaw19_QueueRest.calls k A0 c0 l0 a1 true w hr0 hc0 hk

end Go.Proofs.YtcakednecmngdaaDoor.Pure
