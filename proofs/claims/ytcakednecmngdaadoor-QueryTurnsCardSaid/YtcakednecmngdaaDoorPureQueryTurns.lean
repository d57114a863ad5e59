/-
  The plain law of QueryTurns: pairs in another order are read in that order; a pair's text alone is a part of theirs.
  Conditions: an octet is from 0 to 255.
-/
import Derived.Test.YtcakednecmngdaaDoorQueryB
import Derived.Test.YtcakednecmngdaaDoorYf28
namespace Go.Proofs.YtcakednecmngdaaDoor.Pure
open Go Go.RowKit Go.Proofs.YtcakednecmngdaaDoor.Y Go.Proofs.YtcakednecmngdaaDoor.P Go.Proofs.YtcakednecmngdaaDoorW.PrintWords Go.Proofs.YtcakednecmngdaaDoor.Plain Go.Proofs.YtcakednecmngdaaDoor.DnsPure Go.Proofs.YtcakednecmngdaaDoor.Query

theorem join_size (c : UInt8) : ∀ r : List (List UInt8), r ≠ [] → (join c r).length + 1 = (r.map List.length).sum + r.length
  | [], h => absurd rfl h
  | [x], _ => by simp [join]
  | x :: y :: r, _ => by
    have := join_size c (y :: r) (by simp)
    rw [join_cons (by simp), List.length_append, List.length_cons, List.map_cons, List.sum_cons, List.length_cons (a := x)]
    omega
theorem turned_length (x : List S55) (j : Nat) (h : x ≠ []) : (textL (x.drop j ++ x.take j)).length = (textL x).length := by
  have hp : (x.drop j ++ x.take j).Perm x := List.perm_append_comm.trans (by rw [List.take_append_drop])
  have hne : x.drop j ++ x.take j ≠ [] := by
    intro e
    have := hp.length_eq
    rw [e] at this
    exact h (List.length_eq_zero_iff.1 this.symm)
  have h1 := join_size 38 ((x.drop j ++ x.take j).map pairL) (by simpa using hne)
  have h2 := join_size 38 (x.map pairL) (by simpa using h)
  have h3 := ((hp.map pairL).map List.length).sum_nat
  have h4 := (hp.map pairL).length_eq
  unfold textL
  omega
theorem piece (x : List S55) : ∀ (j : Nat) (h : j < x.length), ∃ pre post, textL x = pre ++ pairL x[j] ++ post := by
  induction x with
  | nil => intro j h; cases h
  | cons p l ih =>
    intro j h
    cases l with
    | nil =>
      obtain rfl : j = 0 := by simp at h; omega
      exact ⟨[], [], by simp [textL, join]⟩
    | cons q l =>
      have e : textL (p :: q :: l) = pairL p ++ 38 :: textL (q :: l) := by
        unfold textL
        rw [List.map_cons, join_cons (by simp)]
      cases j with
      | zero => exact ⟨[], 38 :: textL (q :: l), by rw [e]; simp⟩
      | succ j =>
        obtain ⟨pre, post, hp⟩ := ih j (by simp at h ⊢; omega)
        exact ⟨pairL p ++ 38 :: pre, post, by rw [e, hp]; simp⟩
theorem find_from (s t : List UInt8) (hs : s.length ≤ 100000) (pre post : List UInt8) (e : s = pre ++ t ++ post) : ∀ (d i : Nat), pre.length = i + d → Ev (fun k => tolllaw04_QueryTurns.l0 k (txt s) (txt t) i) true := by
  have hlen : s.length = pre.length + t.length + post.length := by rw [e]; simp; omega
  intro d
  induction d with
  | zero =>
    intro i hd
    have e1 : wrap64 ((i : Int) + ((txt t).size : Int)) = ((i + t.length : Nat) : Int) := by rw [txt_size, wrap_in (by omega) (by omega)]; omega
    have i0 : ((i : Nat) : Int).toNat = i := by omega
    have i1 : (((i + t.length : Nat) : Int)).toNat = i + t.length := by omega
    refine Ev.step (fun k => by rw [tolllaw04_QueryTurns.l0, e1, if_pos (by rw [txt_size]; omega), if_pos (by omega), if_pos (by omega), i0, i1]) ?_
    have hx : (txt s).extract i (i + t.length) = txt t := by
      rw [← txt_of ((txt s).extract _ _), Lib.extract_data, txt_data, e]
      congr 1
      rw [show i + t.length - i = t.length by omega, List.append_assoc, List.drop_append, List.drop_eq_nil_of_le (by omega), show i - pre.length = 0 by omega]
      simp
    exact ev_pos (by rw [hx]) (Ev.bind Query.awake (Ev.now _))
  | succ d ih =>
    intro i hd
    have e1 : wrap64 ((i : Int) + ((txt t).size : Int)) = ((i + t.length : Nat) : Int) := by rw [txt_size, wrap_in (by omega) (by omega)]; omega
    have e2 : wrap64 ((i : Int) + 1) = ((i + 1 : Nat) : Int) := by rw [wrap_in (by omega) (by omega)]; omega
    refine Ev.step (fun k => by rw [tolllaw04_QueryTurns.l0, e1, if_pos (by rw [txt_size]; omega), if_pos (by omega), if_pos (by omega), e2]) ?_
    by_cases h : ((txt s).extract ((i : Nat) : Int).toNat (((i + t.length : Nat) : Int)).toNat).toList = (txt t).toList
    · exact ev_pos h (Ev.bind Query.awake (Ev.now _))
    · exact ev_neg h (ih (i + 1) (by omega))

theorem QueryTurns (l : List S55) (c : Int) (h0 : 0 ≤ c) (h1 : c < 256) : ∃ k, tolllaw04_QueryTurns.f k l c = some true := by
  refine Ev.rounds (g := fun k => tolllaw04_QueryTurns.f k l c) ?_
  unfold tolllaw04_QueryTurns.f
  have hm : ((l.take 21).map fewP).length ≤ 21 := by simp; omega
  refine ev_bind (a := (l.take 21).map fewP) rfl ?_
  generalize (l.take 21).map fewP = x at *
  have aw : ∀ s, Ev (fun k => tolllaw04_QueryTurns.j0 k x c s true) true := fun s =>
    Ev.step (fun k => by rw [tolllaw04_QueryTurns.j0, if_pos rfl]) (Ev.bind Query.awake (Ev.now _))
  refine Ev.bind (text_ev x (by omega)) ?_
  cases hx : mayB x with
  | false =>
    rw [show textB x = (⟨#[]⟩, 1) by rw [textB, hx, if_neg (by simp)]]
    exact ev_neg (by decide) (aw _)
  | true =>
    rw [show textB x = (txt (textL x), 0) by rw [textB, if_pos hx]]
    refine ev_pos rfl ?_
    by_cases he : x = []
    · subst he; exact aw _
    have hpos : 0 < x.length := List.length_pos_iff.2 he
    rw [show ((x.length : Int) == 0) = false by rw [beq_eq_false_iff_ne]; omega]
    obtain ⟨hl20, hall⟩ := may_parts hx
    obtain ⟨n, rfl⟩ : ∃ n : Nat, (n : Int) = c := ⟨c.toNat, by omega⟩
    obtain ⟨j, hj⟩ : ∃ j, n % x.length = j := ⟨_, rfl⟩
    have hjl : j < x.length := by rw [← hj]; exact Nat.mod_lt _ hpos
    have em : Int.tmod (wrap64 ((n : Nat) : Int)) (x.length : Int) = ((j : Nat) : Int) := by
      rw [wrap_in (by omega) (by omega), ← hj]
      rfl
    have e1 : wrap64 (((j : Nat) : Int) + 1) = ((j + 1 : Nat) : Int) := by rw [wrap_in (by omega) (by omega)]; omega
    have i0 : (((j : Nat) : Int)).toNat = j := by omega
    have i1 : (((j + 1 : Nat) : Int)).toNat = j + 1 := by omega
    have ht : mayB (x.drop j ++ x.take j) = true := by
      rw [mayB, Bool.and_eq_true, decide_eq_true_eq, List.all_eq_true]
      refine ⟨by simp; omega, fun p hp => hall p ?_⟩
      rcases List.mem_append.1 hp with h | h
      · exact List.mem_of_mem_drop h
      · exact List.mem_of_mem_take h
    have hone : (x.take (j + 1)).drop j = [x[j]] := by
      rw [List.take_succ_eq_append_getElem hjl, List.drop_append, List.drop_eq_nil_of_le (by simp; omega)]
      simp [Nat.min_eq_left (Nat.le_of_lt hjl)]
    have h1' : mayB [x[j]] = true := by
      rw [mayB, Bool.and_eq_true, decide_eq_true_eq, List.all_eq_true]
      refine ⟨by simp, fun p hp => hall p ?_⟩
      rw [List.mem_singleton.1 hp]; exact List.getElem_mem hjl
    have hzt := textL_length _ ht
    have hzx := textL_length _ hx
    refine Ev.step (fun k => by rw [tolllaw04_QueryTurns.j0, if_neg (by simp), if_neg (by omega)]) ?_
    simp only [em, e1, i0, i1, hone]
    refine ev_bind rfl (ev_pos (by omega) (ev_pos (by omega) (ev_bind rfl (ev_pos (by simp; omega) (ev_bind rfl (ev_bind rfl (ev_pos (by simp; omega) (ev_bind rfl ?_))))))))
    simp only [List.nil_append]
    refine Ev.bind (text_ev _ (by simp; omega)) ?_
    rw [show textB (x.drop j ++ x.take j) = (txt (textL (x.drop j ++ x.take j)), 0) by rw [textB, if_pos ht]]
    refine ev_bind (parse_f _ (by rw [txt_size]; omega)) (ev_pos (by omega) (ev_pos (by omega) (Ev.bind (text_ev _ (by simp)) ?_)))
    rw [parse_text _ ht, show textB [x[j]] = (txt (textL [x[j]]), 0) by rw [textB, if_pos h1']]
    refine ev_pos rfl (ev_pos rfl (ev_pos rfl (Ev.bind (Query.Same _ _ (by simp; omega)) (ev_pos (same_refl _) ?_))))
    rw [txt_size, txt_size, turned_length x j he, show ((((textL x).length : Int)) != ((textL x).length : Int)) = false by simp]
    refine Ev.step (fun k => by rw [tolllaw04_QueryTurns.j1, if_neg (by simp)]) ?_
    obtain ⟨pre, post, hp⟩ := piece x j hjl
    have h1t : textL [x[j]] = pairL x[j] := by simp [textL, join]
    rw [h1t]
    exact find_from _ _ (by omega) pre post hp pre.length 0 (by omega)

theorem QueryTurns_walk (A0 : Option Addr) (c0 : Nat) (l0 : List S55) (a1 : Int) (w : World) (hr0 : Kd.C k55 w A0 l0.length l0) (hc0 : l0.length ≤ c0) (h1 : (Lit.int .u8 a1).wf = true) :
    Calls Tryd.prog 28 #[.slice A0 l0.length c0, .int .u8 a1] w fun e w' => e = .returned (.bool true) ∧ Below w.heap.size w w' := by
  have hb : 0 ≤ a1 ∧ a1 < 256 := by
    simp [Lit.wf, IntKind.min, IntKind.max, IntKind.signed, IntKind.bits] at h1
    omega
  obtain ⟨k, hk⟩ := QueryTurns l0 a1 hb.1 hb.2
  exact tolllaw04_QueryTurns.calls k A0 c0 l0 a1 true w hr0 hc0 hk

end Go.Proofs.YtcakednecmngdaaDoor.Pure
