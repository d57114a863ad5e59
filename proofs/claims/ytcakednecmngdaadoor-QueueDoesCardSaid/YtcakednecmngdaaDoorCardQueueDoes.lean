/-
  The tied card of QueueDoes: for every input the law returns true, each argument reads as it read, given its walk.
  Conditions: the library's two tables read as the program's text lays them (the card ties them).
-/
import Derived.Test.YtcakednecmngdaaDoorRows
import Derived.Test.YtcakednecmngdaaDoorTie
import Derived.Test.YtcakednecmngdaaDoorCards
import Derived.Test.YtcakednecmngdaaDoorFacts
import Derived.Test.YtcakednecmngdaaDoorOpenRef
import Derived.Test.YtcakednecmngdaaDoorPureQueueDoes
import Derived.WalkKit
import Derived.ProofKit
import Derived.OpenShut
import Derived.ShutString
import Derived.ChangeOld
import Derived.Below
import Derived.SizedLaws
import Derived.LaidMore
import Derived.Lay
import Derived.SevenTiedAt
import Derived.Stop.Joined
namespace Go.Proofs.YtcakednecmngdaaDoor.queueDoes
open Go Go.ChangeShapes Go.WideShapes Go.ChangeAt Go.RowKit
open Go.ChangeMaps (open_string shut_string)
theorem own : ownKnob Tryd.prog.godebug = none := by kernel_rfl
set_option maxRecDepth 100000 in
theorem lifted (os : Os) (started : os.Started) (H : Type) (enc : TypeId × Value → H) :
    ReturnsInHanded {} Tryd.checked os 19 .any (fun w args => (Rows.queueDoesSpec.pre enc Tryd.prog Tryd.f19 [] false w args ∧ laidMetH Tryd.prog Rows.queueDoesRow.laid w) ∧ sizedMet enc Tryd.prog Tryd.f19 (OpenSpec.ofChange Rows.queueDoesSpec) false w args)
      (Rows.queueDoesSpec.post enc Tryd.prog Tryd.f19 false true false false) := by
  refine returnsInHanded_of_change_and (C := Tryd.checked) (X := fun w _ => laidMetH Tryd.prog Rows.queueDoesRow.laid w) (fun _ _ _ hh h => h.of_heap hh) own started (by kernel_rfl) Tryd.func19
    (ChangeSpec.witness_shaped (enc := enc) (C := Tryd.checked) (os := os) (X := fun w _ => laidMetH Tryd.prog Rows.queueDoesRow.laid w) false (World.laidAll Tryd.prog os Rows.queueDoesRow.laid) #[.agg #[.slice none 0 0, .slice none 0 0, .int .i64 0, .string ByteArray.empty, .string ByteArray.empty, .int .i64 0]] 8 (World.laidAll_os _ _ _)
      (World.shaped_of_ZipB (by kernel_rfl) (by kernel_rfl)) (by kernel_rfl) (by kernel_rfl) (by kernel_rfl)
      (by rw [MakeChecks.laidMetH_plain _ _ _ (by kernel_rfl)]; exact laidMet_laidAll _ (by kernel_rfl) (by kernel_rfl))) ?_
  intro W base args ds gs before hval0 hW _ hsz0 _ _
  have hsz : (DataW.weightsEach Tryd.prog (Tryd.f19.params.toList ++ Rows.queueDoesSpec.plain.varTypes Tryd.prog) (ds ++ gs)).all (· ≤ reachBytes) = true := hsz0
  have hval : ∀ (j : Nat) t v, Tryd.f19.params[j]? = some t → args[j]? = some v → Value.okWide Tryd.prog W .any base t v := hval0
  have hW' := hW
  obtain ⟨p, q, hA0, hV, rfl, _, _⟩ := hW
  have hA : DataW.TrodAll enc Tryd.prog W 0 (fun _ => true) true Tryd.f19.params.toList args.toList ds p := hA0
  rw [Tryd.params19] at hA hval hsz
  obtain ⟨v0, vs0, d0, ds0, p0, q0, hargs, rfl, rfl, h0, r0⟩ := trodAll_cons hA
  obtain ⟨rfl, rfl, rfl⟩ := trodAll_nil r0
  obtain rfl : args = #[v0] := by cases args; simp_all
  obtain ⟨rfl, rfl⟩ := trodVars_none hV
  have k0 := h0
  have lt0 : ∀ x ∈ p0, x.block < W.heap.size := by obtain ⟨m, hm⟩ := k0; exact DataW.trod_lt m _ _ _ hm
  obtain ⟨A0_0, n0_0, c0_0, l0_0, A0_1, n0_1, c0_1, l0_1, a0_2, a0_3, a0_4, a0_5, rfl, ⟨z0_0, q0_0, u0_0, w0_0⟩, ⟨z0_1, q0_1, u0_1, w0_1⟩, g0, wk0⟩ := Go.Proofs.YtcakednecmngdaaDoor.P.open_79 (hval 0 79 v0 rfl rfl) h0
  subst z0_0
  subst z0_1
  clear hA0 hval0 hsz0 hsz
  refine ((Pure.QueueDoes_walk) A0_0 c0_0 l0_0 A0_1 c0_1 l0_1 a0_2 a0_3 a0_4 a0_5 W q0_0 u0_0 w0_0 q0_1 u0_1 w0_1 wk0).mono fun e W' ⟨he, bel⟩ => ?_
  subst he
  exact ⟨_, rfl, _, _, _, [], _, [], hW', trodAll_mk1 (shut_bool Tryd.underlying4 _), (trodAll_cons_mk (Below.trod Facts.laidOut (by as_aux_lemma => kernel_rfl) (of_decide_eq_true (by as_aux_lemma => kernel_rfl)) k0 bel lt0) trodAll_mk0), rfl, bel.frame _, fun h => by cases h⟩
theorem closed : joinedFacts Tryd.pinned.checked.prog 19 Tryd.f19 Rows.queueDoesSpec Rows.queueDoesRow = true := by
  unfold joinedFacts
  (with_reducible repeat' refine Bool.and_eq_true_iff.2 ⟨?_, ?_⟩)
  · as_aux_lemma => kernel_rfl
  · exact Facts.laidOut
  · exact Facts.rowed
  · as_aux_lemma => kernel_rfl
  · as_aux_lemma => kernel_rfl
  · as_aux_lemma => kernel_rfl
  · exact Facts.stops
  · as_aux_lemma => kernel_rfl
  · exact Facts.stopKnobs
  · as_aux_lemma => kernel_rfl
  · as_aux_lemma => kernel_rfl
  · as_aux_lemma => kernel_rfl
  · as_aux_lemma => kernel_rfl
  · as_aux_lemma => kernel_rfl
  · as_aux_lemma => kernel_rfl
  · as_aux_lemma => kernel_rfl
  · as_aux_lemma => kernel_rfl
  · as_aux_lemma => kernel_rfl
  · as_aux_lemma => kernel_rfl
  · as_aux_lemma => kernel_rfl
  · as_aux_lemma => kernel_rfl
  · as_aux_lemma => kernel_rfl
  · exact Facts.plainKeys
  · as_aux_lemma => kernel_rfl
  · exact Facts.stopsHeard
  · exact Facts.mayEnter
  · exact Facts.lifted
  · exact Facts.make
  · as_aux_lemma => kernel_rfl
  · as_aux_lemma => kernel_rfl
  · as_aux_lemma => kernel_rfl
  · as_aux_lemma => kernel_rfl
theorem over : Rows.queueDoesRow.holds Tryd.pinned (OpenSpec.ofChange Rows.queueDoesSpec) :=
  OpenClaim.holds_of_wide 19 Tryd.f19 rfl rfl rfl rfl rfl rfl rfl ⟨rfl, rfl, rfl, rfl, rfl⟩ rfl rfl rfl rfl rfl (by as_aux_lemma => kernel_rfl) Tryd.func19 closed
    (of_decide_eq_true (by as_aux_lemma => kernel_rfl)) (by unfold Func.isWrapper; first | (rw [if_pos (by decide +kernel)]; kernel_rfl) | (rw [if_neg (by decide +kernel)]; exact ⟨rfl, rfl⟩))
    (fun os started H enc _ => lifted os started H enc)
theorem card : Rows.QueueDoesCardSaid :=
  Claim7.holds_tied_plain_at .later [] [.data, .pinned] true (true, "d75507db2a88d81330456835d569fc8e35a844794ce3343c87ac0712c07b36f6") true over (fun _ h => by cases h) (by as_aux_lemma => kernel_rfl) (fun _ h => by cases h) queueDoes_row_tie rfl ⟨rfl, rfl⟩ Facts.mainIs rfl
    (fun f fn hf hfn => by
      obtain rfl : f = 19 := Option.some.inj ((show Tryd.prog.funcNamed Rows.queueDoesRow.func = some 19 by kernel_rfl).symm.trans hf) |>.symm
      obtain rfl : fn = Tryd.f19 := (Option.some.inj (Tryd.func19.symm.trans hfn)).symm
      exact ⟨Facts.looks, fun j t ht => by
        rw [Tryd.params19] at ht
        have hm : t ∈ [79] := by simpa using Array.mem_of_getElem? ht
        have hall : ([79].all fun u => !Tryd.prog.wantsStandIn u) = true := by as_aux_lemma => kernel_rfl
        exact (show Tryd.prog.wantsStandIn t = false by simpa using List.all_eq_true.1 hall t hm)⟩)
    (by as_aux_lemma => kernel_rfl)
end Go.Proofs.YtcakednecmngdaaDoor.queueDoes
namespace Go.Proofs.YtcakednecmngdaaDoor
/-- The card, under a short name, for the claim. -/
theorem queueDoes_card : Rows.QueueDoesCardSaid := queueDoes.card
#print axioms queueDoes_card
end Go.Proofs.YtcakednecmngdaaDoor
