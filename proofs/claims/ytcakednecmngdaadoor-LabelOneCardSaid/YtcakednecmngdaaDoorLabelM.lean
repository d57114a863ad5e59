/-
  Whether a need is met: what label.met and label.Met hand back, walked.
  Conditions: labels, and a need's values, of at most 9223372036854775807.
-/
import Derived.Test.YtcakednecmngdaaDoorLabelB
import Derived.Test.YtcakednecmngdaaDoorLf131
import Derived.Test.YtcakednecmngdaaDoorLf52
namespace Go.Proofs.YtcakednecmngdaaDoor.Label
open Go Go.RowKit Go.Proofs.YtcakednecmngdaaDoor.Plain Go.Proofs.YtcakednecmngdaaDoor.L Go.Proofs.YtcakednecmngdaaDoor.P Go.Proofs.YtcakednecmngdaaDoorW.PrintWords Go.Proofs.YtcakednecmngdaaDoor.DnsPure
set_option maxRecDepth 100000

theorem succ_wrap {i n : Nat} (h : i < n) (hn : n ≤ 9223372036854775807) : wrap64 ((i : Int) + 1) = ((i + 1 : Nat) : Int) := by rw [wrap_in (by omega) (by omega)]; omega
/-! ### texts among texts -/
def memB (s : ByteArray) (l : List ByteArray) : Bool := l.any fun y => decide (s = y)
theorem memB_iff {s : ByteArray} {l : List ByteArray} : memB s l = true ↔ s ∈ l := by
  unfold memB
  rw [List.any_eq_true]
  constructor
  · rintro ⟨y, hy, h⟩; rw [of_decide_eq_true h]; exact hy
  · intro h; exact ⟨s, h, decide_eq_true rfl⟩
theorem indexS_from (l : List ByteArray) (hl : l.length ≤ 9223372036854775807) (s : ByteArray) : ∀ (d i : Nat), l.length = i + d → Ev (fun k => slices_Index_string_string.l0 k l s (l.length : Int) i) (idxFrom (fun y => decide (s = y)) (l.drop i) i) := by
  intro d
  induction d with
  | zero =>
    intro i hd
    refine Ev.step (f := fun _ => some _) (fun k => by rw [slices_Index_string_string.l0, if_neg (by omega)]) ?_
    rw [List.drop_eq_nil_of_le (by omega)]
    exact Ev.now _
  | succ d ih =>
    intro i hd
    have hlt : i < l.length := by omega
    have hn := ih (i + 1) (by omega)
    refine Ev.step (fun k => by rw [slices_Index_string_string.l0, if_pos (by omega), if_pos (by omega), if_pos (by omega), rd_at l i hlt, succ_wrap hlt hl]) ?_
    rw [List.drop_eq_getElem_cons hlt, idxFrom]
    by_cases h : s = l[i]
    · rw [if_pos (decide_eq_true h)]; exact ev_pos (toList_inj.2 h) (Ev.now _)
    · rw [if_neg (by rw [decide_eq_false h]; simp)]; exact ev_neg (fun z => h (toList_inj.1 z)) hn
theorem ContainsS (l : List ByteArray) (hl : l.length ≤ 9223372036854775807) (s : ByteArray) : Ev (fun k => slices_Contains_string_string.f k l s) (memB s l) := by
  unfold slices_Contains_string_string.f slices_Index_string_string.f
  refine Ev.bind (indexS_from l hl s l.length 0 (by omega)) ?_
  rw [List.drop_zero, idx_any]
  exact Ev.now _
theorem containsS (A : Option Addr) (c : Nat) (l : List ByteArray) (s : ByteArray) (w : World) (hC : Kd.C Kd.string w A l.length l) (hc : l.length ≤ c) (hl : l.length ≤ 9223372036854775807) :
    Calls Tryd.prog 131 #[.slice A l.length c, .string s] w fun e w' => e = .returned (.bool (memB s l)) ∧ Below w.heap.size w w' := by
  obtain ⟨k, hk⟩ := ContainsS l hl s
  exact (slices_Contains_string_string.calls k A c l s _ w hC hc (hk k (Nat.le_refl _))).mono fun e w' h => ⟨h.1, Drawn0.below h.2⟩

/-! ### met -/
def hasB (l : List S55) (s : ByteArray) (vs : List ByteArray) : Bool := match findB l s with
  | some v => memB v vs
  | none => false
def metB : Ask → List S55 → Bool
  | .no, _ => false
  | .among s vs, l => hasB l s vs
  | .there s, l => (findB l s).isSome
  | .outside s vs, l => !hasB l s vs
  | .missing s, l => !(findB l s).isSome
theorem amongName (s : ByteArray) (u : Value) (w : World) : Calls Tryd.prog 130 #[.agg #[.string s, u]] w fun e w' => e = .returned (.string s) ∧ Below w.heap.size w w' := by
  go_enter Tryd.func130, Tryd.ntmps130
  go_wp2
  go_ret
  exact ⟨rfl, (Below.refl _ _).alloc (Nat.le_refl _) _⟩
theorem thereName (s : ByteArray) (w : World) : Calls Tryd.prog 132 #[.string s] w fun e w' => e = .returned (.string s) ∧ Below w.heap.size w w' := by
  go_enter Tryd.func132, Tryd.ntmps132
  go_wp2
  go_ret
  exact ⟨rfl, Below.refl _ _⟩
theorem as_nil_among (W : World) : (Instr.typeAssert .nilIface 109 128 true).run Tryd.prog W = .ok (.tuple #[.agg #[.string ⟨#[]⟩, .slice none 0 0], .bool false]) W := by kernel_rfl
theorem as_among_among (v : Value) (W : World) : (Instr.typeAssert (.iface 128 v) 109 128 true).run Tryd.prog W = .ok (.tuple #[v, .bool true]) W := by kernel_rfl
theorem as_there_among (v : Value) (W : World) : (Instr.typeAssert (.iface 132 v) 109 128 true).run Tryd.prog W = .ok (.tuple #[.agg #[.string ⟨#[]⟩, .slice none 0 0], .bool false]) W := by kernel_rfl
theorem as_outside_among (v : Value) (W : World) : (Instr.typeAssert (.iface 134 v) 109 128 true).run Tryd.prog W = .ok (.tuple #[.agg #[.string ⟨#[]⟩, .slice none 0 0], .bool false]) W := by kernel_rfl
theorem as_missing_among (v : Value) (W : World) : (Instr.typeAssert (.iface 136 v) 109 128 true).run Tryd.prog W = .ok (.tuple #[.agg #[.string ⟨#[]⟩, .slice none 0 0], .bool false]) W := by kernel_rfl
theorem as_nil_there (W : World) : (Instr.typeAssert .nilIface 109 132 true).run Tryd.prog W = .ok (.tuple #[.string ⟨#[]⟩, .bool false]) W := by kernel_rfl
theorem as_among_there (v : Value) (W : World) : (Instr.typeAssert (.iface 128 v) 109 132 true).run Tryd.prog W = .ok (.tuple #[.string ⟨#[]⟩, .bool false]) W := by kernel_rfl
theorem as_there_there (v : Value) (W : World) : (Instr.typeAssert (.iface 132 v) 109 132 true).run Tryd.prog W = .ok (.tuple #[v, .bool true]) W := by kernel_rfl
theorem as_outside_there (v : Value) (W : World) : (Instr.typeAssert (.iface 134 v) 109 132 true).run Tryd.prog W = .ok (.tuple #[.string ⟨#[]⟩, .bool false]) W := by kernel_rfl
theorem as_missing_there (v : Value) (W : World) : (Instr.typeAssert (.iface 136 v) 109 132 true).run Tryd.prog W = .ok (.tuple #[.string ⟨#[]⟩, .bool false]) W := by kernel_rfl
theorem as_nil_outside (W : World) : (Instr.typeAssert .nilIface 109 134 true).run Tryd.prog W = .ok (.tuple #[.agg #[.string ⟨#[]⟩, .slice none 0 0], .bool false]) W := by kernel_rfl
theorem as_among_outside (v : Value) (W : World) : (Instr.typeAssert (.iface 128 v) 109 134 true).run Tryd.prog W = .ok (.tuple #[.agg #[.string ⟨#[]⟩, .slice none 0 0], .bool false]) W := by kernel_rfl
theorem as_there_outside (v : Value) (W : World) : (Instr.typeAssert (.iface 132 v) 109 134 true).run Tryd.prog W = .ok (.tuple #[.agg #[.string ⟨#[]⟩, .slice none 0 0], .bool false]) W := by kernel_rfl
theorem as_outside_outside (v : Value) (W : World) : (Instr.typeAssert (.iface 134 v) 109 134 true).run Tryd.prog W = .ok (.tuple #[v, .bool true]) W := by kernel_rfl
theorem as_missing_outside (v : Value) (W : World) : (Instr.typeAssert (.iface 136 v) 109 134 true).run Tryd.prog W = .ok (.tuple #[.agg #[.string ⟨#[]⟩, .slice none 0 0], .bool false]) W := by kernel_rfl
theorem as_nil_missing (W : World) : (Instr.typeAssert .nilIface 109 136 true).run Tryd.prog W = .ok (.tuple #[.agg #[.string ⟨#[]⟩], .bool false]) W := by kernel_rfl
theorem as_among_missing (v : Value) (W : World) : (Instr.typeAssert (.iface 128 v) 109 136 true).run Tryd.prog W = .ok (.tuple #[.agg #[.string ⟨#[]⟩], .bool false]) W := by kernel_rfl
theorem as_there_missing (v : Value) (W : World) : (Instr.typeAssert (.iface 132 v) 109 136 true).run Tryd.prog W = .ok (.tuple #[.agg #[.string ⟨#[]⟩], .bool false]) W := by kernel_rfl
theorem as_outside_missing (v : Value) (W : World) : (Instr.typeAssert (.iface 134 v) 109 136 true).run Tryd.prog W = .ok (.tuple #[.agg #[.string ⟨#[]⟩], .bool false]) W := by kernel_rfl
theorem as_missing_missing (v : Value) (W : World) : (Instr.typeAssert (.iface 136 v) 109 136 true).run Tryd.prog W = .ok (.tuple #[v, .bool true]) W := by kernel_rfl
attribute [local go_sem] as_nil_among as_nil_there as_nil_outside as_nil_missing as_among_among as_there_among as_outside_among as_missing_among as_among_there as_there_there as_outside_there as_missing_there as_among_outside as_there_outside as_outside_outside as_missing_outside as_among_missing as_there_missing as_outside_missing as_missing_missing
set_option maxHeartbeats 4000000 in
theorem Met_no (A : Option Addr) (c : Nat) (l : List S55) (w : World) :
    Calls Tryd.prog 101 #[.nilIface, .slice A l.length c] w fun e w' => e = .returned (.bool false) ∧ Below w.heap.size w w' := by
  go_enter Tryd.func101, Tryd.ntmps101
  go_wp2
  go_ret
  exact ⟨rfl, Below.refl _ _⟩
set_option maxHeartbeats 4000000 in
theorem Met_there (s : ByteArray) (A : Option Addr) (c : Nat) (l : List S55) (w : World) (hC : Kd.C k55 w A l.length l) :
    Calls Tryd.prog 101 #[.iface 132 (.string s), .slice A l.length c] w fun e w' => e = .returned (.bool (findB l s).isSome) ∧ Below w.heap.size w w' := by
  have cF := fun V hV => Find A c l s V hV
  generalize findB l s = f at cF ⊢
  have HC := Lib.hid hC
  clear hC
  go_enter Tryd.func101, Tryd.ntmps101
  go_wp2_with (first | (go_at_call 132; refine (thereName s _).mono ?_; rintro e w1 ⟨rfl, hb1⟩; have B1 := Aside0.mk hb1; have C1 := Aside0.mk (Kd.C_below HC.out hb1); clear hb1) | (go_at_call 129; refine (cF _ C1.out).mono ?_; rintro e w2 ⟨rfl, hb2⟩; have B2 := Aside0.mk (B1.out.trans (hb2.mono B1.out.size)); clear hb2))
  go_ret
  exact ⟨rfl, B2.out⟩
theorem box2 {W w1 : World} {x y : Value} {t : Nat} (hb : Below (W.alloc (.cells #[x, y] t)).heap.size (W.alloc (.cells #[x, y] t)) w1) : w1.cell? ⟨W.heap.size, 0, none⟩ = some x ∧ w1.cell? ⟨W.heap.size, 1, none⟩ = some y := by
  refine ⟨(hb.cell (p := ⟨W.heap.size, 0, none⟩) (by simp)).trans ?_, (hb.cell (p := ⟨W.heap.size, 1, none⟩) (by simp)).trans ?_⟩ <;> simp [go_sem]
set_option maxHeartbeats 4000000 in
theorem Met_among (s : ByteArray) (vs : List ByteArray) (u : Value) (A : Option Addr) (c : Nat) (l : List S55) (w : World) (hC : Kd.C k55 w A l.length l) (hT : Texts w u vs) (hv : vs.length ≤ 9223372036854775807) :
    Calls Tryd.prog 101 #[.iface 128 (.agg #[.string s, u]), .slice A l.length c] w fun e w' => e = .returned (.bool (hasB l s vs)) ∧ Below w.heap.size w w' := by
  have cF := fun V hV => Find A c l s V hV
  obtain ⟨Av, cv, rfl, hcv, hCv⟩ := hT
  have cS := fun v V hV => containsS Av cv vs v V hV hcv hv
  have HC := Lib.hid hC
  have HV := Lib.hid hCv
  clear hC hCv
  cases hf : findB l s with
  | none =>
    rw [hf] at cF
    have HF : Hid (hasB l s vs = false) := Lib.hid (by unfold hasB; rw [hf])
    clear hf
    rw [HF.out]
    go_enter Tryd.func101, Tryd.ntmps101
    go_wp2_with (first | (go_at_call 130; refine (amongName s _ _).mono ?_; rintro e w1 ⟨rfl, hb1⟩; have B1 := Aside0.mk (((Below.refl w.heap.size w).alloc (Nat.le_refl _) _).trans (hb1.mono (by simp))); have C1 := Aside0.mk (Kd.C_below HC.out B1.out); clear hb1) | (go_at_call 129; refine (cF _ C1.out).mono ?_; rintro e w2 ⟨rfl, hb2⟩; have B2 := Aside0.mk (B1.out.trans (hb2.mono B1.out.size)); clear hb2))
    go_ret
    exact ⟨rfl, B2.out⟩
  | some v =>
    rw [hf] at cF
    have HF : Hid (hasB l s vs = memB v vs) := Lib.hid (by unfold hasB; rw [hf])
    clear hf
    rw [HF.out]
    go_enter Tryd.func101, Tryd.ntmps101
    go_wp2_with (first | (go_at_call 130; refine (amongName s _ _).mono ?_; rintro e w1 ⟨rfl, hb1⟩; have B1 := Aside0.mk (((Below.refl w.heap.size w).alloc (Nat.le_refl _) _).trans (hb1.mono (by simp))); have C1 := Aside0.mk (Kd.C_below HC.out B1.out); have K1 := Aside0.mk (box2 hb1); clear hb1) | (go_at_call 129; refine (cF _ C1.out).mono ?_; rintro e w2 ⟨rfl, hb2⟩; have y0 := pw_cell_below hb2 K1.out.1; have y1 := pw_cell_below hb2 K1.out.2; have B2 := Aside0.mk (B1.out.trans (hb2.mono B1.out.size)); have V2 := Aside0.mk (Kd.C_below HV.out B2.out); clear hb2) | (go_at_call 131; refine (cS _ _ V2.out).mono ?_; rintro e w3 ⟨rfl, hb3⟩; have B3 := Aside0.mk (B2.out.trans (hb3.mono B2.out.size)); clear hb3))
    go_ret
    exact ⟨rfl, B3.out⟩
set_option maxHeartbeats 4000000 in
theorem Met_outside (s : ByteArray) (vs : List ByteArray) (u : Value) (A : Option Addr) (c : Nat) (l : List S55) (w : World) (hC : Kd.C k55 w A l.length l) (hT : Texts w u vs) (hv : vs.length ≤ 9223372036854775807) :
    Calls Tryd.prog 101 #[.iface 134 (.agg #[.string s, u]), .slice A l.length c] w fun e w' => e = .returned (.bool (!hasB l s vs)) ∧ Below w.heap.size w w' := by
  have hM := Met_among s vs u A c l (w.alloc (.cells #[.string s, u] 134)) (Kd.C_alloc hC _) (hT.below ((Below.refl _ _).alloc (Nat.le_refl _) _)) hv
  generalize hasB l s vs = b at hM ⊢
  obtain ⟨Av, cv, rfl, hcv, hCv⟩ := hT
  clear hC hcv hCv
  go_enter Tryd.func101, Tryd.ntmps101
  go_wp2_with (go_at_call 101; refine hM.mono ?_; rintro e w1 ⟨rfl, hb1⟩; have B1 := Aside0.mk (((Below.refl w.heap.size w).alloc (Nat.le_refl _) _).trans (hb1.mono (by simp))); clear hb1)
  exact bodyPost_ret (v := .bool (!b)) (by simp [results, Tryd.results101, go_sem]) rfl ⟨rfl, B1.out⟩
set_option maxHeartbeats 4000000 in
theorem Met_missing (s : ByteArray) (A : Option Addr) (c : Nat) (l : List S55) (w : World) (hC : Kd.C k55 w A l.length l) :
    Calls Tryd.prog 101 #[.iface 136 (.agg #[.string s]), .slice A l.length c] w fun e w' => e = .returned (.bool (!(findB l s).isSome)) ∧ Below w.heap.size w w' := by
  have hM := Met_there s A c l (w.alloc (.cells #[.string s] 136)) (Kd.C_alloc hC _)
  generalize (findB l s).isSome = b at hM ⊢
  clear hC
  go_enter Tryd.func101, Tryd.ntmps101
  go_wp2_with (go_at_call 101; refine hM.mono ?_; rintro e w1 ⟨rfl, hb1⟩; have B1 := Aside0.mk (((Below.refl w.heap.size w).alloc (Nat.le_refl _) _).trans (hb1.mono (by simp))); clear hb1)
  exact bodyPost_ret (v := .bool (!b)) (by simp [results, Tryd.results101, go_sem]) rfl ⟨rfl, B1.out⟩
/-- A need's values, no more than are looked at. -/
def askLen : Ask → Nat
  | .among _ vs => vs.length
  | .outside _ vs => vs.length
  | _ => 0
theorem met (a : Ask) (v : Value) (A : Option Addr) (c : Nat) (l : List S55) (w : World) (hA : AskV w v a) (hl : askLen a ≤ 9223372036854775807) (hC : Kd.C k55 w A l.length l) :
    Calls Tryd.prog 101 #[v, .slice A l.length c] w fun e w' => e = .returned (.bool (metB a l)) ∧ Below w.heap.size w w' := by
  cases a with
  | no => rw [show v = .nilIface from hA]; exact Met_no A c l w
  | there s => rw [show v = _ from hA]; exact Met_there s A c l w hC
  | missing s => rw [show v = _ from hA]; exact Met_missing s A c l w hC
  | among s vs => obtain ⟨u, rfl, ht⟩ := hA; exact Met_among s vs u A c l w hC ht hl
  | outside s vs => obtain ⟨u, rfl, ht⟩ := hA; exact Met_outside s vs u A c l w hC ht hl

/-! ### which labels may be -/
def mayFrom : Option ByteArray → List S55 → Bool
  | _, [] => true
  | prev, p :: r => nameB p.f0 && valueB p.f1 && (match prev with | none => true | some q => Op.bytesLess q.toList p.f0.toList) && mayFrom (some p.f0) r
theorem mayFrom_cons (prev : Option ByteArray) (p : S55) (r : List S55) : mayFrom prev (p :: r) = (nameB p.f0 && valueB p.f1 && (match prev with | none => true | some q => Op.bytesLess q.toList p.f0.toList) && mayFrom (some p.f0) r) := by cases prev <;> rfl
theorem mayFrom_nil (p : Option ByteArray) : mayFrom p [] = true := by cases p <;> rfl
def mayL (l : List S55) : Bool := mayFrom none l && decide (l.length ≤ 8)
theorem rd55 (l : List S55) (i : Nat) (h : i < l.length) : rd_T55 l (i : Int) = l[i] := by
  unfold rd_T55
  simp [List.getD_eq_getElem?_getD, List.getElem?_eq_getElem h]
theorem name_eq (s : ByteArray) : dns_Name.f s = some (nameB s) := rfl
theorem may_from (l : List S55) (hl : l.length ≤ 9223372036854775807) : ∀ (d i : Nat), l.length = i + d → Ev (fun k => label_May.l0 k l l (l.length : Int) i) (mayFrom (if i = 0 then none else (l[i - 1]?).map (·.f0)) (l.drop i) && decide (l.length ≤ 8)) := by
  intro d
  induction d with
  | zero =>
    intro i hd
    refine Ev.step (f := fun _ => some _) (fun k => by rw [label_May.l0, if_neg (by omega)]) ?_
    rw [List.drop_eq_nil_of_le (by omega), mayFrom_nil, Bool.true_and, show decide ((l.length : Int) ≤ 8) = decide (l.length ≤ 8) by rw [decide_eq_decide]; omega]
    exact Ev.now _
  | succ d ih =>
    intro i hd
    have hlt : i < l.length := by omega
    have hn := ih (i + 1) (by omega)
    rw [if_neg (by omega), Nat.add_sub_cancel, List.getElem?_eq_getElem hlt, Option.map_some] at hn
    refine Ev.step (fun k => by rw [label_May.l0, if_pos (by omega), if_pos (by omega), if_pos (by omega), rd55 l i hlt, succ_wrap hlt hl]) (ev_bind (name_eq _) ?_)
    rw [List.drop_eq_getElem_cons hlt, mayFrom_cons]
    cases nameB l[i].f0 with
    | false => exact ev_neg (by simp) (Ev.now _)
    | true =>
      refine ev_pos rfl (ev_bind (value_eq _) ?_)
      cases valueB l[i].f1 with
      | false => exact ev_neg (by simp) (Ev.now _)
      | true =>
        refine ev_pos rfl ?_
        by_cases h0 : i = 0
        · subst h0
          exact ev_neg (by omega) (by simpa using hn)
        · have e : wrap64 ((i : Int) - 1) = ((i - 1 : Nat) : Int) := by rw [wrap_in (by omega) (by omega)]; omega
          have hlt1 : i - 1 < l.length := by omega
          rw [if_neg h0, List.getElem?_eq_getElem hlt1, Option.map_some]
          rw [e, rd55 l _ hlt1]
          refine ev_pos (by omega) (ev_pos (by omega) (ev_pos (by omega) ?_))
          cases hb : Op.bytesLess l[i - 1].f0.toList l[i].f0.toList with
          | true => exact ev_pos rfl (by simpa [hb] using hn)
          | false =>
            refine ev_neg (by simp) ?_
            simp only [hb, Bool.and_false, Bool.false_and]
            exact Ev.now _
theorem MayEv (l : List S55) (hl : l.length ≤ 9223372036854775807) : Ev (fun k => label_May.f k l) (mayL l) := by
  have := may_from l hl l.length 0 (by omega)
  rw [if_pos rfl, List.drop_zero] at this
  exact this
theorem May (A : Option Addr) (c : Nat) (l : List S55) (w : World) (hC : Kd.C k55 w A l.length l) (hc : l.length ≤ c) (hl : l.length ≤ 9223372036854775807) :
    Calls Tryd.prog 52 #[.slice A l.length c] w fun e w' => e = .returned (.bool (mayL l)) ∧ Below w.heap.size w w' := by
  obtain ⟨k, hk⟩ := MayEv l hl
  exact label_May.calls k A c l _ w hC hc (hk k (Nat.le_refl _))

/-! ### Met -/
theorem askLen_le (x : Int) (s : ByteArray) (vs : List ByteArray) : askLen (askOf x s vs) ≤ vs.length := by
  unfold askOf
  split
  · split
    · exact Nat.le_refl _
    · split
      · exact Nat.le_refl _
      · split
        · exact Nat.zero_le _
        · split <;> exact Nat.zero_le _
  · exact Nat.zero_le _
def metN (x : Int) (s : ByteArray) (vs : List ByteArray) (l : List S55) : Bool := mayL l && metB (askOf x s vs) l
set_option maxHeartbeats 4000000 in
theorem Met (x : Int) (s : ByteArray) (Av : Option Addr) (cv : Nat) (vs : List ByteArray) (A : Option Addr) (c : Nat) (l : List S55) (w : World) (hV : Kd.C Kd.string w Av vs.length vs) (hcv : vs.length ≤ cv) (hC : Kd.C k55 w A l.length l) (hc : l.length ≤ c) (hv : vs.length ≤ 9223372036854775807) (hl : l.length ≤ 9223372036854775807) :
    Calls Tryd.prog 54 #[.agg #[.int .i64 x, .string s, .slice Av vs.length cv], .slice A l.length c] w fun e w' => e = .returned (.bool (metN x s vs l)) ∧ Below w.heap.size w w' := by
  have cM := fun V hV => May A c l V hV hc hl
  have cA := fun V hV => Asks x s vs Av cv V hV hcv
  simp only [AskGives] at cA
  have cT := fun v V hA hV => met (askOf x s vs) v A c l V hA (Nat.le_trans (askLen_le x s vs) hv) hV
  have HC := Lib.hid hC
  have HV := Lib.hid hV
  clear hC hV
  cases hm : mayL l with
  | false =>
    rw [hm] at cM
    have HF : Hid (metN x s vs l = false) := Lib.hid (by unfold metN; rw [hm]; rfl)
    clear hm
    rw [HF.out]
    go_enter Tryd.func54, Tryd.ntmps54
    go_wp2_with (go_at_call 52; refine (cM _ (Kd.C_alloc HC.out _)).mono ?_; rintro e w1 ⟨rfl, hb1⟩; have B1 := Aside0.mk (((Below.refl w.heap.size w).alloc (Nat.le_refl _) _).trans (hb1.mono (by simp))); clear hb1)
    go_ret
    exact ⟨rfl, B1.out⟩
  | true =>
    rw [hm] at cM
    have HF : Hid (metN x s vs l = metB (askOf x s vs) l) := Lib.hid (by unfold metN; rw [hm]; rfl)
    clear hm
    rw [HF.out]
    generalize askOf x s vs = a at cA cT ⊢
    generalize metB a l = b at cT ⊢
    go_enter Tryd.func54, Tryd.ntmps54
    go_wp2_with (first | (go_at_call 52; refine (cM _ (Kd.C_alloc HC.out _)).mono ?_; rintro e w1 ⟨rfl, hb1⟩; obtain ⟨y0, y1, y2⟩ := box3 hb1; have B1 := Aside0.mk (((Below.refl w.heap.size w).alloc (Nat.le_refl _) _).trans (hb1.mono (by simp))); have V1 := Aside0.mk (Kd.C_below HV.out B1.out); clear hb1) | (go_at_call 102; refine (cA _ V1.out).mono ?_; rintro e w2 ⟨v, rfl, hA, hb2⟩; have B2 := Aside0.mk (B1.out.trans (hb2.mono B1.out.size)); have A2 := Aside0.mk hA; have C2 := Aside0.mk (Kd.C_below HC.out B2.out); clear hb2 hA) | (go_at_call 101; refine (cT _ _ A2.out C2.out).mono ?_; rintro e w3 ⟨rfl, hb3⟩; have B3 := Aside0.mk (B2.out.trans (hb3.mono B2.out.size)); clear hb3))
    go_ret
    exact ⟨rfl, B3.out⟩

end Go.Proofs.YtcakednecmngdaaDoor.Label
namespace Go.Proofs.YtcakednecmngdaaDoor.L
open Go Go.RowKit Go.Proofs.YtcakednecmngdaaDoor.Plain Go.Proofs.YtcakednecmngdaaDoor.P Go.Proofs.YtcakednecmngdaaDoorW.PrintWords
def label_Met.f (x : Int) (s : ByteArray) (vs : List ByteArray) (l : List S55) : Option Bool := some (Label.metN x s vs l)
theorem label_Met.calls (a0_0 : Int) (a0_1 : ByteArray) (A0_2 : Option Addr) (c0_2 : Nat) (l0_2 : List ByteArray) (A1 : Option Addr) (c1 : Nat) (l1 : List S55) (r : Bool) (w : World) (hr0_2 : Kd.C Kd.string w A0_2 l0_2.length l0_2) (hc0_2 : l0_2.length ≤ c0_2) (hr1 : Kd.C k55 w A1 l1.length l1) (hc1 : l1.length ≤ c1) (h : label_Met.f a0_0 a0_1 l0_2 l1 = some r) :
    Calls Tryd.prog 54 #[.agg #[.int .i64 a0_0, .string a0_1, .slice A0_2 l0_2.length c0_2], .slice A1 l1.length c1] w fun e w' => e = .returned (.bool r) ∧ Below w.heap.size w w' := by
  obtain rfl := Option.some.inj h
  exact Label.Met a0_0 a0_1 A0_2 c0_2 l0_2 A1 c1 l1 w hr0_2 hc0_2 hr1 hc1 hr0_2.2.1 hr1.2.1
end Go.Proofs.YtcakednecmngdaaDoor.L
