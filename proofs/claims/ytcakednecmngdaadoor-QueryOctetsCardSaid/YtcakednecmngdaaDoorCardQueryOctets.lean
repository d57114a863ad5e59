/-
  The tied card of QueryOctets: for every input the law returns true, each argument reads as it read, given its walk.
  Conditions: the library's two tables read as the program's text lays them (the card ties them).
-/
import Derived.Test.YtcakednecmngdaaDoorRows
import Derived.Test.YtcakednecmngdaaDoorTie
import Derived.Test.YtcakednecmngdaaDoorCards
import Derived.Test.YtcakednecmngdaaDoorFacts
import Derived.Test.YtcakednecmngdaaDoorPureQueryOctets
import Derived.Test.YtcakednecmngdaaDoorOpenPair
import Derived.WalkKit
import Derived.ProofKit
import Derived.OpenShut
import Derived.ShutString
import Derived.ChangeOld
import Derived.Below
import Derived.SizedLaws
import Derived.LaidMore
import Derived.Lay
import Derived.SevenTiedAt
import Derived.Stop.Joined
namespace Go.Proofs.YtcakednecmngdaaDoor.queryOctets
open Go Go.ChangeShapes Go.WideShapes Go.ChangeAt Go.RowKit
open Go.ChangeMaps (open_string shut_string)
theorem own : ownKnob Tryd.prog.godebug = none := by kernel_rfl
set_option maxRecDepth 100000 in
theorem lifted (os : Os) (started : os.Started) (H : Type) (enc : TypeId × Value → H) :
    ReturnsInHanded {} Tryd.checked os 26 .any (fun w args => (Rows.queryOctetsSpec.pre enc Tryd.prog Tryd.f26 [] false w args ∧ laidMetH Tryd.prog Rows.queryOctetsRow.laid w) ∧ sizedMet enc Tryd.prog Tryd.f26 (OpenSpec.ofChange Rows.queryOctetsSpec) false w args)
      (Rows.queryOctetsSpec.post enc Tryd.prog Tryd.f26 false true false false) := by
  refine returnsInHanded_of_change_and (C := Tryd.checked) (X := fun w _ => laidMetH Tryd.prog Rows.queryOctetsRow.laid w) (fun _ _ _ hh h => h.of_heap hh) own started (by kernel_rfl) Tryd.func26
    (ChangeSpec.witness_shaped (enc := enc) (C := Tryd.checked) (os := os) (X := fun w _ => laidMetH Tryd.prog Rows.queryOctetsRow.laid w) false (World.laidAll Tryd.prog os Rows.queryOctetsRow.laid) #[.slice none 0 0, .int .u8 0] 8 (World.laidAll_os _ _ _)
      (World.shaped_of_ZipB (by kernel_rfl) (by kernel_rfl)) (by kernel_rfl) (by kernel_rfl) (by kernel_rfl)
      (by rw [MakeChecks.laidMetH_plain _ _ _ (by kernel_rfl)]; exact laidMet_laidAll _ (by kernel_rfl) (by kernel_rfl))) ?_
  intro W base args ds gs before hval0 hW _ hsz0 _ _
  have hsz : (DataW.weightsEach Tryd.prog (Tryd.f26.params.toList ++ Rows.queryOctetsSpec.plain.varTypes Tryd.prog) (ds ++ gs)).all (· ≤ reachBytes) = true := hsz0
  have hval : ∀ (j : Nat) t v, Tryd.f26.params[j]? = some t → args[j]? = some v → Value.okWide Tryd.prog W .any base t v := hval0
  have hW' := hW
  obtain ⟨p, q, hA0, hV, rfl, _, _⟩ := hW
  have hA : DataW.TrodAll enc Tryd.prog W 0 (fun _ => true) true Tryd.f26.params.toList args.toList ds p := hA0
  rw [Tryd.params26] at hA hval hsz
  obtain ⟨v0, vs0, d0, ds0, p0, q0, hargs, rfl, rfl, h0, r0⟩ := trodAll_cons hA
  obtain ⟨v1, vs1, d1, ds1, p1, q1, rfl, rfl, rfl, h1, r1⟩ := trodAll_cons r0
  obtain ⟨rfl, rfl, rfl⟩ := trodAll_nil r1
  obtain rfl : args = #[v0, v1] := by cases args; simp_all
  obtain ⟨rfl, rfl⟩ := trodVars_none hV
  obtain ⟨A0, n0, c0, rfl⟩ := okWide_slice Tryd.underlying51 (hval 0 51 v0 rfl rfl)
  have k0 := h0
  have lt0 : ∀ x ∈ p0, x.block < W.heap.size := by obtain ⟨m, hm⟩ := k0; exact DataW.trod_lt m _ _ _ hm
  obtain ⟨fu0, hf0⟩ := h0
  obtain ⟨a0, z0, g0, y0⟩ := Go.Proofs.YtcakednecmngdaaDoor.P.open_51 hf0
  subst z0
  obtain ⟨a1, rfl, rfl, rfl, w1⟩ := open_int Tryd.underlying5 (hval 1 5 v1 rfl rfl) h1
  clear hA0 hval0 hsz0 hsz
  refine (Go.Proofs.YtcakednecmngdaaDoor.Query.QueryOctets_walk A0 c0 a0 a1 W g0 y0 w1).mono fun e W' ⟨he, bel⟩ => ?_
  subst he
  exact ⟨_, rfl, _, _, _, [], _, [], hW', trodAll_mk1 (shut_bool Tryd.underlying4 _), (trodAll_cons_mk (Below.trod Facts.laidOut (by as_aux_lemma => kernel_rfl) (of_decide_eq_true (by as_aux_lemma => kernel_rfl)) k0 bel lt0) (trodAll_cons_mk (shut_int Tryd.underlying5 w1) trodAll_mk0)), rfl, bel.frame _, fun h => by cases h⟩
theorem closed : joinedFacts Tryd.pinned.checked.prog 26 Tryd.f26 Rows.queryOctetsSpec Rows.queryOctetsRow = true := by
  unfold joinedFacts
  (with_reducible repeat' refine Bool.and_eq_true_iff.2 ⟨?_, ?_⟩)
  · as_aux_lemma => kernel_rfl
  · exact Facts.laidOut
  · exact Facts.rowed
  · as_aux_lemma => kernel_rfl
  · as_aux_lemma => kernel_rfl
  · as_aux_lemma => kernel_rfl
  · exact Facts.stops
  · as_aux_lemma => kernel_rfl
  · exact Facts.stopKnobs
  · as_aux_lemma => kernel_rfl
  · as_aux_lemma => kernel_rfl
  · as_aux_lemma => kernel_rfl
  · as_aux_lemma => kernel_rfl
  · as_aux_lemma => kernel_rfl
  · as_aux_lemma => kernel_rfl
  · as_aux_lemma => kernel_rfl
  · as_aux_lemma => kernel_rfl
  · as_aux_lemma => kernel_rfl
  · as_aux_lemma => kernel_rfl
  · as_aux_lemma => kernel_rfl
  · as_aux_lemma => kernel_rfl
  · as_aux_lemma => kernel_rfl
  · exact Facts.plainKeys
  · as_aux_lemma => kernel_rfl
  · exact Facts.stopsHeard
  · exact Facts.mayEnter
  · exact Facts.lifted
  · exact Facts.make
  · as_aux_lemma => kernel_rfl
  · as_aux_lemma => kernel_rfl
  · as_aux_lemma => kernel_rfl
  · as_aux_lemma => kernel_rfl
theorem over : Rows.queryOctetsRow.holds Tryd.pinned (OpenSpec.ofChange Rows.queryOctetsSpec) :=
  OpenClaim.holds_of_wide 26 Tryd.f26 rfl rfl rfl rfl rfl rfl rfl ⟨rfl, rfl, rfl, rfl, rfl⟩ rfl rfl rfl rfl rfl (by as_aux_lemma => kernel_rfl) Tryd.func26 closed
    (of_decide_eq_true (by as_aux_lemma => kernel_rfl)) (by unfold Func.isWrapper; first | (rw [if_pos (by decide +kernel)]; kernel_rfl) | (rw [if_neg (by decide +kernel)]; exact ⟨rfl, rfl⟩))
    (fun os started H enc _ => lifted os started H enc)
theorem card : Rows.QueryOctetsCardSaid :=
  Claim7.holds_tied_plain_at .later [] [.data, .pinned] true (true, "d75507db2a88d81330456835d569fc8e35a844794ce3343c87ac0712c07b36f6") true over (fun _ h => by cases h) (by as_aux_lemma => kernel_rfl) (fun _ h => by cases h) queryOctets_row_tie rfl ⟨rfl, rfl⟩ Facts.mainIs rfl
    (fun f fn hf hfn => by
      obtain rfl : f = 26 := Option.some.inj ((show Tryd.prog.funcNamed Rows.queryOctetsRow.func = some 26 by kernel_rfl).symm.trans hf) |>.symm
      obtain rfl : fn = Tryd.f26 := (Option.some.inj (Tryd.func26.symm.trans hfn)).symm
      exact ⟨Facts.looks, fun j t ht => by
        rw [Tryd.params26] at ht
        have hm : t ∈ [51, 5] := by simpa using Array.mem_of_getElem? ht
        have hall : ([51, 5].all fun u => !Tryd.prog.wantsStandIn u) = true := by as_aux_lemma => kernel_rfl
        exact (show Tryd.prog.wantsStandIn t = false by simpa using List.all_eq_true.1 hall t hm)⟩)
    (by as_aux_lemma => kernel_rfl)
end Go.Proofs.YtcakednecmngdaaDoor.queryOctets
namespace Go.Proofs.YtcakednecmngdaaDoor
/-- The card, under a short name, for the claim. -/
theorem queryOctets_card : Rows.QueryOctetsCardSaid := queryOctets.card
#print axioms queryOctets_card
end Go.Proofs.YtcakednecmngdaaDoor
