/-
  The plain law of QueryTexts: any pairs' text is the document's, or refused; it is read as it was; which octets are plain is told.
  Conditions: an octet is from 0 to 255.
-/
import Derived.Test.YtcakednecmngdaaDoorQueryB
import Derived.Test.YtcakednecmngdaaDoorYf23
namespace Go.Proofs.YtcakednecmngdaaDoor.Pure
open Go Go.RowKit Go.Proofs.YtcakednecmngdaaDoor.Y Go.Proofs.YtcakednecmngdaaDoor.P Go.Proofs.YtcakednecmngdaaDoorW.PrintWords Go.Proofs.YtcakednecmngdaaDoor.Plain Go.Proofs.YtcakednecmngdaaDoor.DnsPure Go.Proofs.YtcakednecmngdaaDoor.Query

theorem plain_ev (n : Fin 256) : Ev (fun k => query_Plain.f k (n.val : Int)) (plainN n.val) := Ev.of (fun k => query_Plain.mono _ k) (plain_fin n)
theorem few4_eq (l : List S55) : tolllaw04_Few.f l = some ((l.take 21).map fewP) := rfl
theorem few4_length (l : List S55) : ((l.take 21).map fewP).length ≤ 21 := by simp; omega

theorem QueryTexts (l : List S55) (c : Int) (h0 : 0 ≤ c) (h1 : c < 256) : ∃ k, tolllaw04_QueryTexts.f k l c = some true := by
  refine Ev.rounds (g := fun k => tolllaw04_QueryTexts.f k l c) ?_
  unfold tolllaw04_QueryTexts.f
  have hm := few4_length l
  refine ev_bind (few4_eq l) ?_
  generalize (l.take 21).map fewP = m at *
  obtain ⟨n, rfl⟩ : ∃ n : Fin 256, ((n.val : Nat) : Int) = c := ⟨⟨c.toNat, by omega⟩, by simp only; omega⟩
  refine Ev.bind (text_ev m (by omega)) (Ev.bind (may_ev m (by omega)) (Ev.bind (May m (by omega)) (ev_neg (by simp) (Ev.bind (plain_ev n) (ev_bind (plain_ref_fin n) ?_)))))
  rw [show (plainN n.val != plainN n.val) = false by simp]
  refine Ev.step (fun k => by rw [tolllaw04_QueryTexts.j0, if_neg (by simp)]) ?_
  refine Ev.bind (May m (by omega)) ?_
  cases h : mayB m with
  | true =>
    have hz := textL_length m h
    rw [textB, if_pos h]
    refine ev_pos rfl (ev_bind (parse_f _ (by rw [txt_size]; omega)) (Ev.bind (TextRef m h) (ev_pos rfl (ev_pos rfl ?_))))
    rw [parse_text m h]
    exact Ev.bind (Query.Same _ _ (by simp only; omega)) (ev_pos (same_refl _) (ev_pos rfl (Ev.bind Query.awake (Ev.now _))))
  | false =>
    rw [textB, h, if_neg (by simp)]
    exact ev_neg (by simp) (ev_pos (by rw [Lib.toList_data]) (ev_pos rfl (Ev.bind Query.awake (Ev.now _))))

theorem QueryTexts_walk (A0 : Option Addr) (c0 : Nat) (l0 : List S55) (a1 : Int) (w : World) (hr0 : Kd.C k55 w A0 l0.length l0) (hc0 : l0.length ≤ c0) (h1 : (Lit.int .u8 a1).wf = true) :
    Calls Tryd.prog 23 #[.slice A0 l0.length c0, .int .u8 a1] w fun e w' => e = .returned (.bool true) ∧ Below w.heap.size w w' := by
  have hb : 0 ≤ a1 ∧ a1 < 256 := by
    simp [Lit.wf, IntKind.min, IntKind.max, IntKind.signed, IntKind.bits] at h1
    omega
  obtain ⟨k, hk⟩ := QueryTexts l0 a1 hb.1 hb.2
  exact tolllaw04_QueryTexts.calls k A0 c0 l0 a1 true w hr0 hc0 hk

end Go.Proofs.YtcakednecmngdaaDoor.Pure
