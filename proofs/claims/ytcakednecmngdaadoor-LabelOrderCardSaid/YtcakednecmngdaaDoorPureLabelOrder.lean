/-
  The plain law of LabelOrder: the order of a need's values plays no part; a label of another name plays none in a need.
  Conditions: none.
-/
import Derived.Test.YtcakednecmngdaaDoorLabelLess
import Derived.Test.YtcakednecmngdaaDoorLf13
set_option linter.unusedVariables false
set_option linter.unusedSimpArgs false
namespace Go.Proofs.YtcakednecmngdaaDoor.Pure
open Go Go.RowKit Go.Proofs.YtcakednecmngdaaDoor.L Go.Proofs.YtcakednecmngdaaDoor.P Go.Proofs.YtcakednecmngdaaDoorW.PrintWords Go.Proofs.YtcakednecmngdaaDoor.Plain Go.Proofs.YtcakednecmngdaaDoor.DnsPure Go.Proofs.YtcakednecmngdaaDoor.Label Go.Proofs.YtcakednecmngdaaDoor.LabelPure

theorem order_end (l : List S55) (a : Int) (b : Bool) (x : Int) (s : ByteArray) (vs : List ByteArray) (h0 : 0 ≤ a) (h1 : a ≤ 255) (hl : l.length ≤ 31) (hb : b = false → 0 < l.length ∧ mayL l = true) : Ev (fun k => tolllaw08_LabelOrder.j1 k l a b x s vs) true := by
  cases b with
  | true => exact Ev.step (fun k => by rw [tolllaw08_LabelOrder.j1, if_pos rfl]) (ev_bind awake_true (Ev.now _))
  | false =>
    obtain ⟨hn, hm⟩ := hb rfl
    obtain ⟨k, e, hk⟩ := mod_at h0 h1 hn (by omega)
    refine Ev.step (fun k => by rw [tolllaw08_LabelOrder.j1, if_neg (by simp)]) ?_
    rw [e]
    refine ev_neg (by omega) (ev_pos (by omega) (ev_pos (by omega) ?_))
    rw [rd55 l k hk]
    by_cases hs : l[k].f0.toList = s.toList
    · exact ev_pos hs (ev_bind awake_true (Ev.now _))
    · refine ev_neg hs (ev_bind rfl (ev_pos (by omega) (ev_bind rfl (ev_pos (by simp; omega) (ev_bind rfl ?_)))))
      rw [succ_w hk (by omega)]
      refine ev_pos (by omega) (ev_pos (by omega) (ev_bind rfl (ev_pos (by simp; omega) ?_)))
      refine ev_bind (show label_Met.f _ _ _ _ = some (metN _ _ _ _) from rfl) (ev_bind (show label_Met.f _ _ _ _ = some (metN _ _ _ _) from rfl) (ev_pos ?_ (ev_bind awake_true (Ev.now _))))
      rw [List.nil_append, Int.toNat_natCast, Int.toNat_natCast, met_less x s vs k hk hm (beq_eq_false_iff_ne.2 hs)]
      simp
theorem order_from (l : List S55) (a : Int) (x : Int) (s : ByteArray) (vs : List ByteArray) (h0 : 0 ≤ a) (h1 : a ≤ 255) (hl : l.length ≤ 31) (hv : vs.length ≤ 1000) : ∀ d : Nat, d ≤ vs.length → Ev (fun k => tolllaw08_LabelOrder.l0 k l a ((d : Int) - 1) x s vs x s (vs.drop d).reverse) true := by
  intro d
  induction d with
  | zero =>
    intro _
    refine Ev.step (fun k => by rw [tolllaw08_LabelOrder.l0, if_neg (by omega)]) ?_
    refine ev_bind (show label_Met.f _ _ _ _ = some (metN _ _ _ _) from rfl) (ev_bind (show label_Met.f _ _ _ _ = some (metN _ _ _ _) from rfl) ?_)
    rw [List.drop_zero, met_rev]
    refine ev_neg (by simp) ?_
    by_cases hn : l.length = 0
    · exact ev_pos (by omega) (order_end l a true x s vs h0 h1 hl (fun h => by cases h))
    · refine ev_neg (by omega) (Ev.bind (MayEv l (by omega)) ?_)
      exact order_end l a _ x s vs h0 h1 hl (fun h => ⟨by omega, by simpa using h⟩)
  | succ d ih =>
    intro hd
    have hlt : d < vs.length := by omega
    have hn := ih (by omega)
    rw [List.drop_eq_getElem_cons hlt, List.reverse_cons] at hn
    have e1 : ((d + 1 : Nat) : Int) - 1 = (d : Int) := by omega
    refine Ev.step (fun k => by rw [e1, tolllaw08_LabelOrder.l0, if_pos (by omega), if_pos (by omega), if_pos (by omega), if_pos (by simp; omega), rd_at vs d hlt, wrap_in (by omega) (by omega)]) hn
theorem LabelOrder (x : Int) (s : ByteArray) (vs : List ByteArray) (l : List S55) (a : Int) (h0 : 0 ≤ a) (h1 : a ≤ 255) : ∃ k, tolllaw08_LabelOrder.f k x s vs l a = some true := by
  refine Ev.rounds (g := fun k => tolllaw08_LabelOrder.f k x s vs l a) ?_
  unfold tolllaw08_LabelOrder.f
  refine Ev.bind (Few8 [⟨x, s, vs⟩]) ?_
  have hs := few8_short [⟨x, s, vs⟩] (fewN ⟨x, s, vs⟩) (by simp [few8])
  rw [show few8 [⟨x, s, vs⟩] = [fewN ⟨x, s, vs⟩] from rfl]
  generalize fewN ⟨x, s, vs⟩ = n at hs ⊢
  obtain ⟨x, s, vs⟩ := n
  have hv : vs.length ≤ 9 := hs.2.1
  refine ev_pos (by simp) (Ev.bind (Few5 l) ?_)
  rw [rd_one]
  have := order_from (few5 l) a x s vs h0 h1 (few5_length l) (by omega) vs.length (Nat.le_refl _)
  rw [List.drop_length, List.reverse_nil] at this
  show Ev (fun k => tolllaw08_LabelOrder.l0 k (few5 l) a (wrap64 ((vs.length : Int) - 1)) x s vs x s []) true
  rw [wrap_in (by omega) (by omega)]
  exact this
theorem LabelOrder_walk (a0 : Int) (a1 : ByteArray) (A2 : Option Addr) (c2 : Nat) (l2 : List ByteArray) (A1 : Option Addr) (c1 : Nat) (l1 : List S55) (a : Int) (w : World) (hr : Kd.C Kd.string w A2 l2.length l2) (hc : l2.length ≤ c2) (hr1 : Kd.C k55 w A1 l1.length l1) (hc1 : l1.length ≤ c1) (hw : (Lit.int .u8 a).wf = true) :
    Calls Tryd.prog 13 #[.agg #[.int .i64 a0, .string a1, .slice A2 l2.length c2], .slice A1 l1.length c1, .int .u8 a] w fun e w' => e = .returned (.bool true) ∧ Below w.heap.size w w' := by
  have hw2 : 0 ≤ a ∧ a ≤ 255 := by
    simp [Lit.wf, IntKind.min, IntKind.max, IntKind.signed, IntKind.bits] at hw
    omega
  obtain ⟨k, hk⟩ := LabelOrder a0 a1 l2 l1 a hw2.1 hw2.2
  exact tolllaw08_LabelOrder.calls k a0 a1 (fun _ => True) A2 c2 l2 A1 c1 l1 a w (V_of_C hr hc _ _) hr1 hc1 hk
end Go.Proofs.YtcakednecmngdaaDoor.Pure
