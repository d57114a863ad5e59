/-
  Which texts are labels, and names: what dns.Label and dns.Name hand back at every text.
  Conditions: none but the model's own bound on a text's size.
-/
import Derived.Test.YtcakednecmngdaaDoorShelf
import Derived.Test.YtcakednecmngdaaDoorSplit
namespace Go.Proofs.YtcakednecmngdaaDoor.Dns
attribute [local go_sem] Oper.semAt_some
open Go Go.RowKit Go.Proofs.YtcakednecmngdaaDoor.Plain Go.Proofs.YtcakednecmngdaaDoor.Seq
set_option maxRecDepth 100000

theorem ret_bool {a b : Bool} (h : a = b) : Ending.returned (.bool a) = .returned (.bool b) := by rw [h]

theorem octR_when (r : Nat) : (octR r = false ∧ (r < 45 ∨ (45 < r ∧ r < 48) ∨ (57 < r ∧ r < 97) ∨ 122 < r)) ∨ (octR r = true ∧ (r = 45 ∨ (48 ≤ r ∧ r ≤ 57) ∨ (97 ≤ r ∧ r ≤ 122))) := by
  cases h : octR r with
  | false =>
    simp only [octR, Bool.or_eq_false_iff, Bool.and_eq_false_iff, decide_eq_false_iff_not] at h
    exact .inl ⟨rfl, by omega⟩
  | true =>
    simp only [octR, Bool.or_eq_true, Bool.and_eq_true, decide_eq_true_eq] at h
    exact .inr ⟨rfl, by omega⟩

theorem octet (r : Nat) (w : World) :
    Calls Tryd.prog 91 #[.int .i32 r] w fun e w' => e = .returned (.bool (octR r)) ∧ w' = w := by
  rcases octR_when r with ⟨e, h | ⟨h1, h2⟩ | ⟨h1, h2⟩ | h⟩ | ⟨e, rfl | ⟨h1, h2⟩ | ⟨h1, h2⟩⟩
  all_goals
    rw [e]
    clear e
    go_enter Tryd.func91, Tryd.ntmps91
    go_wp2
    go_ret
    exact ⟨ret_bool (by first | rfl | (simp; omega)), rfl⟩

theorem other (w : World) : PredAt Tryd.prog 90 #[] encR (fun r => !octR r) w := fun W r _ => by
  unfold FnGives
  go_enter Tryd.func90, Tryd.ntmps90
  go_wp2_with (go_at_call 91; refine (octet r _).mono ?_; rintro e w' ⟨rfl, rfl⟩)
  go_ret
  exact ⟨rfl, 0, rfl⟩

/-! ### dns.Label -/
theorem labelB_none {s : ByteArray} (h : s.toList = []) : labelB s = false := by
  rw [Lib.toList_data] at h
  simp [labelB, labelL, h]
theorem labelB_eq (s : ByteArray) (h0 : 0 < s.size) :
    labelB s = (decide (s.size ≤ 20) && decide (Lib.idxFunc (fun r => !octR r) true s < 0) && !(s[0].toNat == 45) && !(s[s.size - 1].toNat == 45)) := by
  have hl : s.data.toList ≠ [] := by intro h; have : s.data.toList.length = 0 := by rw [h]; rfl
                                     rw [← Lib.size_eq] at this; omega
  have e1 : (s.data.toList.head? == some 45) = (s[0].toNat == 45) := by
    have : s.data.toList.head? = some s[0] := by
      rw [List.head?_eq_getElem?, List.getElem?_eq_getElem (by rw [← Lib.size_eq]; exact h0)]; rfl
    rw [this, Bool.eq_iff_iff]
    simp [← UInt8.toNat_inj]
  have e2 : (s.data.toList.getLast? == some 45) = (s[s.size - 1].toNat == 45) := by
    have : s.data.toList.getLast? = some s[s.size - 1] := by
      rw [List.getLast?_eq_getElem?, ← Lib.size_eq, List.getElem?_eq_getElem (by rw [← Lib.size_eq]; omega)]; rfl
    rw [this, Bool.eq_iff_iff]
    simp [← UInt8.toNat_inj]
  have e3 : s.data.toList.all oct = decide (Lib.idxFunc (fun r => !octR r) true s < 0) := by
    rw [Bool.eq_iff_iff, decide_eq_true_eq]; exact (idx_neg s).symm
  have e4 : s.data.toList.isEmpty = false := by rw [List.isEmpty_eq_false_iff]; exact hl
  rw [labelB, labelL, e1, e2, e3, e4, ← Lib.size_eq]
  simp

set_option maxHeartbeats 1000000 in
theorem Label (s : ByteArray) (w : World) :
    Calls Tryd.prog 35 #[.string s] w fun e w' => e = .returned (.bool (labelB s)) ∧ Below w.heap.size w w' := by
  have hC := fun W => Tryd.strings_IndexFunc 90 #[] (enters_of Tryd.func90 (by kernel_rfl) rfl) _ s W (other W)
  by_cases he : s.toList = []
  · have HL := Lib.hid (labelB_none he)
    have h1 : (!s.toList.isEmpty) = false := by simp [he]
    go_enter Tryd.func35, Tryd.ntmps35
    go_wp2
    go_ret
    exact ⟨ret_bool HL.out.symm, Below.refl _ _⟩
  · have h0 : 0 < s.size := by
      rcases Nat.eq_zero_or_pos s.size with h | h
      · exfalso; apply he; rw [Lib.toList_data]; rw [Lib.size_eq] at h; exact List.length_eq_zero_iff.1 h
      · exact h
    have HL := Lib.hid (labelB_eq s h0)
    have h1 : (!s.toList.isEmpty) = true := by simp [he]
    go_enter Tryd.func35, Tryd.ntmps35
    go_wp2_with (go_at_call 92; refine (hC _).mono ?_; rintro e w' ⟨rfl, hb⟩)
    all_goals
      go_ret
      refine ⟨ret_bool ?_, by first | exact Below.refl _ _ | assumption⟩
      rw [HL.out, Bool.eq_iff_iff]
      simp only [Bool.false_eq_true, false_iff, Bool.and_eq_true, decide_eq_true_eq, bne_iff_ne, ne_eq, Bool.not_eq_true', beq_eq_false_iff_ne]
      omega

/-! ### dns.Name -/
theorem nameB_eq (s : ByteArray) : nameB s = (decide (s.size ≤ 60) && (partsB 46 s).all labelB) := by
  have e : (parts 46 s.data.toList).all labelL = ((parts 46 s.data.toList).map txt).all labelB := by
    rw [List.all_map]; congr 1
  rw [nameB, nameL, partsB, ← e, ← Lib.size_eq]

theorem nameB_long {s : ByteArray} (h : 60 < s.size) : nameB s = false := by rw [nameB_eq, decide_eq_false (by omega)]; rfl

set_option maxHeartbeats 2000000 in
theorem Name_long (s : ByteArray) (w : World) (h : 60 < s.size) :
    Calls Tryd.prog 34 #[.string s] w fun e w' => e = .returned (.bool (nameB s)) ∧ Below w.heap.size w w' := by
  have HL := Lib.hid (nameB_long h)
  go_enter Tryd.func34, Tryd.ntmps34
  go_wp2
  refine bodyPost_ret (v := .bool false) (by simp [results, Tryd.results34, go_sem]) rfl ⟨ret_bool HL.out.symm, ?_⟩
  exact ((Below.refl _ _).alloc (Nat.le_refl _) _)

set_option maxHeartbeats 4000000 in
theorem Name_short (s : ByteArray) (w : World) (h : s.size ≤ 60) :
    Calls Tryd.prog 34 #[.string s] w fun e w' => e = .returned (.bool (nameB s)) ∧ Below w.heap.size w w' := by
  have HN := Lib.hid (nameB_eq s)
  refine (callsIn_wide (n := 3)).1 ?_
  refine callsIn_of_wp_marks Tryd.func34 rfl trivial ?_ rfl
  simp only [Tryd.ntmps34, List.size_toArray, List.length_cons, List.length_nil, Nat.reduceAdd, Nat.reduceSub, Array.replicate_succ, Array.replicate_zero, List.push_toArray, List.append_toArray, List.nil_append, List.cons_append]
  gi_wp2_with (refine ⟨trivial, ?_⟩; gi_at_call 89; refine (callsIn_wide.2 (Split.SplitSeq _ _ _)).mono ?_; rintro e w' ⟨rfl, rfl⟩)
  -- the result's cell at w.heap.size, the text's box at w.heap.size + 1
  obtain ⟨W0, hW0⟩ : ∃ W0, (((w.alloc (.cells #[.bool false] 4)).alloc (.cells #[.string s] 9)).alloc (.cells #[.string ⟨#[46]⟩] 9)).alloc (.cells #[.int .i64 0] 3) = W0 := ⟨_, rfl⟩
  have hz : W0.heap.size = w.heap.size + 1 + 1 + 1 + 1 := by rw [← hW0]; simp
  have c0 : W0.heap[w.heap.size]? = some (.cells #[.bool false] 4 (0, 0)) := by
    rw [← hW0]; exact (Below.heap_alloc _ _ _ (by simp; omega)).trans ((Below.heap_alloc _ _ _ (by simp; omega)).trans ((Below.heap_alloc _ _ _ (by simp)).trans (World.alloc_heap_new w _)))
  have b0 : Below w.heap.size w W0 := by
    rw [← hW0]; exact ((((Below.refl _ w).alloc (Nat.le_refl _) _).alloc (by simp) _).alloc (by simp; omega) _).alloc (by simp; omega) _
  have c1 : W0.cell? ⟨w.heap.size + 1, 0, none⟩ = some (.string s) ∧ W0.frozen? ⟨w.heap.size + 1, 0, none⟩ = false ∧ W0.cell? ⟨w.heap.size + 1 + 1, 0, none⟩ = some (.string ⟨#[46]⟩) ∧ W0.cell? ⟨w.heap.size + 1 + 1 + 1, 0, none⟩ = some (.int .i64 0) := by
    rw [← hW0]; refine ⟨?_, ?_, ?_, ?_⟩ <;> simp [go_sem]
  have HZ := Lib.hid hz
  have HC0 := Lib.hid c0
  have HC1 := Lib.hid c1
  clear hz c0 c1
  rw [hW0]
  refine Seq.wp_range rfl (by omega) (gf := 145) (lb := #[.pointer (some ⟨w.heap.size + 1 + 1, 0, none⟩), .pointer (some ⟨w.heap.size + 1, 0, none⟩), .pointer (some ⟨w.heap.size + 1 + 1 + 1, 0, none⟩)]) rfl trivial (enters_of Tryd.func145 (by kernel_rfl) rfl)
    (Split.gives 46 s W0 _ (w.heap.size + 1) W0.heap.size (by rw [HZ.out]; omega) (Nat.le_refl _) (by omega) HC1.out.1 HC1.out.2.1 HC1.out.2.2.1 HC1.out.2.2.2)
    (fun r e => by rw [HZ.out, e]; omega) (Nat.le_refl _) (fun _ => rfl)
    (fun pre W => ((∀ y ∈ pre, labelB y = true) ∧ W.heap[w.heap.size]? = some (.cells #[.bool false] 4 (0, 0))) ∧ (Below w.heap.size w W ∧ W0.heap.size ≤ W.heap.size))
    (fun c pre W => ((c = .ret ∧ ∃ y ∈ pre, labelB y = false) ∧ W.heap[w.heap.size]? = some (.cells #[.bool false] 4 (0, 0))) ∧ Below w.heap.size w W)
    (((Abides2.pure _).and (Abides2.block (fun _ => .cells #[.bool false] 4 (0, 0)) (fun _ => rfl) (by omega))).and ((Abides2.below (Nat.le_refl _) (by rw [HZ.out]; omega) (fun r e => by omega)).and (Abides2.size _)))
    (fun c => ((Abides2.pure _).and (Abides2.block (fun _ => .cells #[.bool false] 4 (0, 0)) (fun _ => rfl) (by omega))).and (Abides2.below (Nat.le_refl _) (by rw [HZ.out]; omega) (fun r e => by omega)))
    ⟨⟨by simp, HC0.out⟩, b0, Nat.le_refl _⟩
    (fun x => { tmps := #[.string s, undef, .pointer (some ⟨w.heap.size, 0, none⟩), .string x, .string s, .int .i64 s.size, .bool (decide (60 < (s.size : Int))), .string s, Split.closure (w.heap.size + 1), .string x, undef, undef, undef], defers := [] }) ?assign ?body ?done ?stop
  case assign =>
    intro l x W K hK
    gi_wp2
    exact hK
  case body =>
    rintro l pre x W ⟨⟨hp, hc⟩, hB, hsz⟩
    have cr : W.cell? ⟨w.heap.size, 0, none⟩ = some (.bool false) := cell_of_one hc
    have fr : W.frozen? ⟨w.heap.size, 0, none⟩ = false := free_of_one hc
    have hlt : w.heap.size < W.heap.size := by have := HZ.out; omega
    cases hl : labelB x with
    | true =>
      have cL : ∀ V, Calls Tryd.prog 35 #[.string x] V fun e w' => e = .returned (.bool true) ∧ Below V.heap.size V w' := fun V => hl ▸ Label x V
      have HL := Lib.hid hl
      clear hl
      gi_wp2_with (refine ⟨trivial, ?_⟩; gi_at_call 35; refine (CallsIn.inRound l (callsIn_wide.2 (cL _))).mono ?_; rintro e w' ⟨rfl, hb⟩)
      refine ⟨keepsFrom_below hb, hb.mono hsz, ⟨fun y hy => ?_, (hb.block _ hlt).trans hc⟩, hB.trans (hb.mono (Nat.le_of_lt hlt)), Nat.le_trans hsz hb.size⟩
      rcases List.mem_append.1 hy with hy | hy
      · exact hp y hy
      · rw [List.mem_singleton.1 hy]; exact HL.out
    | false =>
      have cL : ∀ V, Calls Tryd.prog 35 #[.string x] V fun e w' => e = .returned (.bool false) ∧ Below V.heap.size V w' := fun V => hl ▸ Label x V
      have HL := Lib.hid hl
      clear hl
      gi_wp2_with (refine ⟨trivial, ?_⟩; gi_at_call 35; refine (CallsIn.inRound l (callsIn_wide.2 (cL _))).mono ?_; rintro e w' ⟨rfl, hb⟩; have cr' := (hb.cell (p := ⟨w.heap.size, 0, none⟩) hlt).trans cr; have fr' := (hb.frozen (p := ⟨w.heap.size, 0, none⟩) hlt).trans fr)
      exact ⟨(keepsFrom_below hb).trans (keepsFrom_set _ _ _), ⟨⟨rfl, x, by simp, HL.out⟩, one_setCell ((hb.block _ hlt).trans hc)⟩, (hB.trans (hb.mono (Nat.le_of_lt hlt))).setCell (p := ⟨w.heap.size, 0, none⟩) (Nat.le_refl _) _⟩
  case done =>
    rintro D ys W hD rfl ⟨⟨hp, hc⟩, hB, hsz⟩ hK
    have cr : W.cell? ⟨w.heap.size, 0, none⟩ = some (.bool false) := cell_of_one hc
    have fr : W.frozen? ⟨w.heap.size, 0, none⟩ = false := free_of_one hc
    have HP := Lib.hid hp
    clear hp
    gi_wp2
    have hK' := (KeepsOthers.setCell W ⟨w.heap.size, 0, none⟩ (.bool true)).same D _ hK rfl
    refine ⟨by simp, .inl ⟨_, _, rfl, run_takeDeferred hK', ?_⟩⟩
    have hD' : w.heap.size ≠ D := by have := HZ.out; omega
    have hc5 := cell_of_one ((World.putObj_heap_other (o := .deferred none) hD').trans (one_setCell (u := .bool true) hc))
    refine ⟨.bool true, ?_, ?_, ?_⟩
    · simp [results, Tryd.results34, go_sem, hc5]
    · rw [HN.out, decide_eq_true h, Bool.true_and]
      exact ret_bool (Eq.symm (List.all_eq_true.2 (fun y hy => HP.out y hy)))
    · exact (hB.setCell (p := ⟨w.heap.size, 0, none⟩) (Nat.le_refl _) _).trans (below_put _ (by have := HZ.out; omega) hK')
  case stop =>
    rintro D c pre W hD hpre ⟨⟨⟨rfl, y, hy, hl⟩, hc⟩, hB⟩ hK
    gi_wp2
    refine ⟨by simp, .inl ⟨_, _, rfl, run_takeDeferred hK, ?_⟩⟩
    have hD' : w.heap.size ≠ D := by have := HZ.out; omega
    have hc5 := cell_of_one ((World.putObj_heap_other (o := .deferred none) hD').trans hc)
    refine ⟨.bool false, ?_, ?_, ?_⟩
    · simp [results, Tryd.results34, go_sem, hc5]
    · rw [HN.out, decide_eq_true h, Bool.true_and]
      exact ret_bool (Eq.symm (List.all_eq_false.2 ⟨y, hpre.subset hy, by rw [hl]; simp⟩))
    · exact hB.trans (below_put _ (by have := HZ.out; omega) hK)

theorem Name (s : ByteArray) (w : World) :
    Calls Tryd.prog 34 #[.string s] w fun e w' => e = .returned (.bool (nameB s)) ∧ Below w.heap.size w w' := by
  by_cases h : s.size ≤ 60
  · exact Name_short s w h
  · exact Name_long s w (by omega)

end Go.Proofs.YtcakednecmngdaaDoor.Dns
