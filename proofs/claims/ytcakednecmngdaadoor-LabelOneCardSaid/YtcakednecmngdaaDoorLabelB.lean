/-
  What a need asks, and whether it is met: what label.asks, label.met and label.Met hand back, walked.
  Conditions: texts, and lists of them, of at most 1000000.
-/
import Derived.Test.YtcakednecmngdaaDoorLabelA
import Derived.Test.YtcakednecmngdaaDoorLf131

set_option linter.unusedVariables false
set_option linter.unusedSimpArgs false
namespace Go.Proofs.YtcakednecmngdaaDoor.Label
open Go Go.RowKit Go.Proofs.YtcakednecmngdaaDoor.Plain Go.Proofs.YtcakednecmngdaaDoor.L Go.Proofs.YtcakednecmngdaaDoor.P Go.Proofs.YtcakednecmngdaaDoorW.PrintWords
set_option maxRecDepth 100000

inductive Ask where
  | no | among (s : ByteArray) (vs : List ByteArray) | there (s : ByteArray) | outside (s : ByteArray) (vs : List ByteArray) | missing (s : ByteArray)
def fewVals (vs : List ByteArray) : Bool := decide (1 ≤ vs.length) && decide (vs.length ≤ 8) && !(vs.any fun s => !valueB s)
def askOf (x : Int) (s : ByteArray) (vs : List ByteArray) : Ask :=
  if nameB s = true then (if x = 1 ∧ fewVals vs = true then .among s vs else if x = 2 ∧ fewVals vs = true then .outside s vs else if x = 3 ∧ vs.length = 0 then .there s else if x = 4 ∧ vs.length = 0 then .missing s else .no) else .no
def Texts (W : World) (v : Value) (vs : List ByteArray) : Prop := ∃ A c, v = .slice A vs.length c ∧ vs.length ≤ c ∧ Kd.C Kd.string W A vs.length vs
def AskV (W : World) (v : Value) : Ask → Prop
  | .no => v = .nilIface
  | .among s vs => ∃ u, v = .iface 128 (.agg #[.string s, u]) ∧ Texts W u vs
  | .there s => v = .iface 132 (.string s)
  | .outside s vs => ∃ u, v = .iface 134 (.agg #[.string s, u]) ∧ Texts W u vs
  | .missing s => v = .iface 136 (.agg #[.string s])
theorem Texts.below {W W' : World} {v : Value} {vs : List ByteArray} (h : Texts W v vs) (hb : Below W.heap.size W W') : Texts W' v vs := by
  obtain ⟨A, c, e, hc, hC⟩ := h
  exact ⟨A, c, e, hc, Kd.C_below hC hb⟩
theorem AskV.below {W W' : World} {v : Value} {a : Ask} (h : AskV W v a) (hb : Below W.heap.size W W') : AskV W' v a := by
  cases a with
  | no => exact h
  | there s => exact h
  | missing s => exact h
  | among s vs => obtain ⟨u, e, ht⟩ := h; exact ⟨u, e, ht.below hb⟩
  | outside s vs => obtain ⟨u, e, ht⟩ := h; exact ⟨u, e, ht.below hb⟩
theorem box3 {W w1 : World} {x y z : Value} {t : Nat} (hb : Below (W.alloc (.cells #[x, y, z] t)).heap.size (W.alloc (.cells #[x, y, z] t)) w1) : w1.cell? ⟨W.heap.size, 0, none⟩ = some x ∧ w1.cell? ⟨W.heap.size, 1, none⟩ = some y ∧ w1.cell? ⟨W.heap.size, 2, none⟩ = some z := by
  refine ⟨(hb.cell (p := ⟨W.heap.size, 0, none⟩) (by simp)).trans ?_, (hb.cell (p := ⟨W.heap.size, 1, none⟩) (by simp)).trans ?_, (hb.cell (p := ⟨W.heap.size, 2, none⟩) (by simp)).trans ?_⟩ <;> simp [go_sem]
theorem keep3 {W w1 w2 : World} {b : Nat} {x y z : Value} (h : w1.cell? ⟨b, 0, none⟩ = some x ∧ w1.cell? ⟨b, 1, none⟩ = some y ∧ w1.cell? ⟨b, 2, none⟩ = some z) (hb : Below w1.heap.size w1 w2) : w2.cell? ⟨b, 0, none⟩ = some x ∧ w2.cell? ⟨b, 1, none⟩ = some y ∧ w2.cell? ⟨b, 2, none⟩ = some z :=
  ⟨pw_cell_below hb h.1, pw_cell_below hb h.2.1, pw_cell_below hb h.2.2⟩

/-! ### asks -/
def AskGives (x : Int) (s : ByteArray) (vs : List ByteArray) (A : Option Addr) (c : Nat) (w : World) : Prop :=
  Calls Tryd.prog 102 #[.agg #[.int .i64 x, .string s, .slice A vs.length c]] w fun e w' => ∃ v, e = .returned v ∧ AskV w' v (askOf x s vs) ∧ Below w.heap.size w w'
set_option maxHeartbeats 2000000 in
theorem asks_zero_false (x : Int) (s : ByteArray) (vs : List ByteArray) (A : Option Addr) (c : Nat) (w : World) (hC : Kd.C Kd.string w A vs.length vs) (hc : vs.length ≤ c) (hl : vs.length = 0) (hn : nameB s = false) : AskGives x s vs A c w := by
  have hf : fewVals vs = false := by unfold fewVals; rw [hl]; rfl
  have HA : Hid (askOf x s vs = .no) := Lib.hid (by unfold askOf; simp [hn, hf])
  have hz1 : ¬ (1 : Int) ≤ (vs.length : Int) := by omega
  have hz2 : ((vs.length : Int) == 0) = true := by rw [hl]; rfl
  have cN := fun V => dns_Name.calls s (nameB s) V rfl
  rw [hn] at cN
  have HC := Lib.hid hC
  clear hC hf hn
  unfold AskGives
  rw [HA.out]
  go_enter Tryd.func102, Tryd.ntmps102
  go_wp2_with (go_at_call 34; refine (cN _).mono ?_; rintro e w2 ⟨rfl, hb2⟩; have BB2 := Aside0.mk (((Below.refl w.heap.size w).alloc (Nat.le_refl _) _).trans (hb2.mono (by simp))); obtain ⟨y3, y4, y5⟩ := box3 hb2; clear hb2)
  go_ret
  exact ⟨_, rfl, rfl, BB2.out⟩

set_option maxHeartbeats 2000000 in
theorem asks_zero_1 (x : Int) (s : ByteArray) (vs : List ByteArray) (A : Option Addr) (c : Nat) (w : World) (hC : Kd.C Kd.string w A vs.length vs) (hc : vs.length ≤ c) (hl : vs.length = 0) (hn : nameB s = true) (hx : x = 1) : AskGives x s vs A c w := by
  have hf : fewVals vs = false := by unfold fewVals; rw [hl]; rfl
  have HA : Hid (askOf x s vs = .no) := Lib.hid (by unfold askOf; simp [hn, hf, hx, hl])
  have hz1 : ¬ (1 : Int) ≤ (vs.length : Int) := by omega
  have hz2 : ((vs.length : Int) == 0) = true := by rw [hl]; rfl
  subst hx
  have cN := fun V => dns_Name.calls s (nameB s) V rfl
  rw [hn] at cN
  have HC := Lib.hid hC
  clear hC hf hn
  unfold AskGives
  rw [HA.out]
  go_enter Tryd.func102, Tryd.ntmps102
  go_wp2_with (go_at_call 34; refine (cN _).mono ?_; rintro e w2 ⟨rfl, hb2⟩; have BB2 := Aside0.mk (((Below.refl w.heap.size w).alloc (Nat.le_refl _) _).trans (hb2.mono (by simp))); obtain ⟨y3, y4, y5⟩ := box3 hb2; clear hb2)
  go_ret
  exact ⟨_, rfl, rfl, BB2.out⟩

set_option maxHeartbeats 2000000 in
theorem asks_zero_2 (x : Int) (s : ByteArray) (vs : List ByteArray) (A : Option Addr) (c : Nat) (w : World) (hC : Kd.C Kd.string w A vs.length vs) (hc : vs.length ≤ c) (hl : vs.length = 0) (hn : nameB s = true) (hx : x = 2) : AskGives x s vs A c w := by
  have hf : fewVals vs = false := by unfold fewVals; rw [hl]; rfl
  have HA : Hid (askOf x s vs = .no) := Lib.hid (by unfold askOf; simp [hn, hf, hx, hl])
  have hz1 : ¬ (1 : Int) ≤ (vs.length : Int) := by omega
  have hz2 : ((vs.length : Int) == 0) = true := by rw [hl]; rfl
  subst hx
  have cN := fun V => dns_Name.calls s (nameB s) V rfl
  rw [hn] at cN
  have HC := Lib.hid hC
  clear hC hf hn
  unfold AskGives
  rw [HA.out]
  go_enter Tryd.func102, Tryd.ntmps102
  go_wp2_with (go_at_call 34; refine (cN _).mono ?_; rintro e w2 ⟨rfl, hb2⟩; have BB2 := Aside0.mk (((Below.refl w.heap.size w).alloc (Nat.le_refl _) _).trans (hb2.mono (by simp))); obtain ⟨y3, y4, y5⟩ := box3 hb2; clear hb2)
  go_ret
  exact ⟨_, rfl, rfl, BB2.out⟩

set_option maxHeartbeats 2000000 in
theorem asks_zero_3 (x : Int) (s : ByteArray) (vs : List ByteArray) (A : Option Addr) (c : Nat) (w : World) (hC : Kd.C Kd.string w A vs.length vs) (hc : vs.length ≤ c) (hl : vs.length = 0) (hn : nameB s = true) (hx : x = 3) : AskGives x s vs A c w := by
  have hf : fewVals vs = false := by unfold fewVals; rw [hl]; rfl
  have HA : Hid (askOf x s vs = .there s) := Lib.hid (by unfold askOf; simp [hn, hf, hx, hl])
  have hz1 : ¬ (1 : Int) ≤ (vs.length : Int) := by omega
  have hz2 : ((vs.length : Int) == 0) = true := by rw [hl]; rfl
  subst hx
  have cN := fun V => dns_Name.calls s (nameB s) V rfl
  rw [hn] at cN
  have HC := Lib.hid hC
  clear hC hf hn
  unfold AskGives
  rw [HA.out]
  go_enter Tryd.func102, Tryd.ntmps102
  go_wp2_with (go_at_call 34; refine (cN _).mono ?_; rintro e w2 ⟨rfl, hb2⟩; have BB2 := Aside0.mk (((Below.refl w.heap.size w).alloc (Nat.le_refl _) _).trans (hb2.mono (by simp))); obtain ⟨y3, y4, y5⟩ := box3 hb2; clear hb2)
  go_ret
  exact ⟨_, rfl, rfl, BB2.out⟩

set_option maxHeartbeats 2000000 in
theorem asks_zero_4 (x : Int) (s : ByteArray) (vs : List ByteArray) (A : Option Addr) (c : Nat) (w : World) (hC : Kd.C Kd.string w A vs.length vs) (hc : vs.length ≤ c) (hl : vs.length = 0) (hn : nameB s = true) (hx : x = 4) : AskGives x s vs A c w := by
  have hf : fewVals vs = false := by unfold fewVals; rw [hl]; rfl
  have HA : Hid (askOf x s vs = .missing s) := Lib.hid (by unfold askOf; simp [hn, hf, hx, hl])
  have hz1 : ¬ (1 : Int) ≤ (vs.length : Int) := by omega
  have hz2 : ((vs.length : Int) == 0) = true := by rw [hl]; rfl
  subst hx
  have cN := fun V => dns_Name.calls s (nameB s) V rfl
  rw [hn] at cN
  have HC := Lib.hid hC
  clear hC hf hn
  unfold AskGives
  rw [HA.out]
  go_enter Tryd.func102, Tryd.ntmps102
  go_wp2_with (go_at_call 34; refine (cN _).mono ?_; rintro e w2 ⟨rfl, hb2⟩; have BB2 := Aside0.mk (((Below.refl w.heap.size w).alloc (Nat.le_refl _) _).trans (hb2.mono (by simp))); obtain ⟨y3, y4, y5⟩ := box3 hb2; clear hb2)
  go_ret
  exact ⟨_, rfl, rfl, BB2.out⟩

set_option maxHeartbeats 2000000 in
theorem asks_zero_0 (x : Int) (s : ByteArray) (vs : List ByteArray) (A : Option Addr) (c : Nat) (w : World) (hC : Kd.C Kd.string w A vs.length vs) (hc : vs.length ≤ c) (hl : vs.length = 0) (hn : nameB s = true) (hx1 : x ≠ 1) (hx2 : x ≠ 2) (hx3 : x ≠ 3) (hx4 : x ≠ 4) : AskGives x s vs A c w := by
  have hf : fewVals vs = false := by unfold fewVals; rw [hl]; rfl
  have HA : Hid (askOf x s vs = .no) := Lib.hid (by unfold askOf; simp [hn, hf, hx1, hx2, hx3, hx4])
  have hz1 : ¬ (1 : Int) ≤ (vs.length : Int) := by omega
  have hz2 : ((vs.length : Int) == 0) = true := by rw [hl]; rfl
  have kx1 : (x == 1) = false := beq_eq_false_iff_ne.2 hx1
  have kx2 : (x == 2) = false := beq_eq_false_iff_ne.2 hx2
  have kx3 : (x == 3) = false := beq_eq_false_iff_ne.2 hx3
  have kx4 : (x == 4) = false := beq_eq_false_iff_ne.2 hx4
  have cN := fun V => dns_Name.calls s (nameB s) V rfl
  rw [hn] at cN
  have HC := Lib.hid hC
  clear hC hf hn hx1 hx2 hx3 hx4
  unfold AskGives
  rw [HA.out]
  go_enter Tryd.func102, Tryd.ntmps102
  go_wp2_with (go_at_call 34; refine (cN _).mono ?_; rintro e w2 ⟨rfl, hb2⟩; have BB2 := Aside0.mk (((Below.refl w.heap.size w).alloc (Nat.le_refl _) _).trans (hb2.mono (by simp))); obtain ⟨y3, y4, y5⟩ := box3 hb2; clear hb2)
  go_ret
  exact ⟨_, rfl, rfl, BB2.out⟩

set_option maxHeartbeats 2000000 in
theorem asks_many_false (x : Int) (s : ByteArray) (vs : List ByteArray) (A : Option Addr) (c : Nat) (w : World) (hC : Kd.C Kd.string w A vs.length vs) (hc : vs.length ≤ c) (hl : 8 < vs.length) (hn : nameB s = false) : AskGives x s vs A c w := by
  have hf : fewVals vs = false := by unfold fewVals; rw [decide_eq_false (show ¬ vs.length ≤ 8 by omega), Bool.and_false, Bool.false_and]
  have HA : Hid (askOf x s vs = .no) := Lib.hid (by unfold askOf; simp [hn, hf])
  have hz1 : (1 : Int) ≤ (vs.length : Int) := by omega
  have hz2 : ((vs.length : Int) == 0) = false := beq_eq_false_iff_ne.2 (by omega)
  have hz8 : ¬ (vs.length : Int) ≤ 8 := by omega
  have cN := fun V => dns_Name.calls s (nameB s) V rfl
  rw [hn] at cN
  have HC := Lib.hid hC
  clear hC hf hn
  unfold AskGives
  rw [HA.out]
  go_enter Tryd.func102, Tryd.ntmps102
  go_wp2_with (go_at_call 34; refine (cN _).mono ?_; rintro e w2 ⟨rfl, hb2⟩; have BB2 := Aside0.mk (((Below.refl w.heap.size w).alloc (Nat.le_refl _) _).trans (hb2.mono (by simp))); obtain ⟨y3, y4, y5⟩ := box3 hb2; clear hb2)
  go_ret
  exact ⟨_, rfl, rfl, BB2.out⟩

set_option maxHeartbeats 2000000 in
theorem asks_many_1 (x : Int) (s : ByteArray) (vs : List ByteArray) (A : Option Addr) (c : Nat) (w : World) (hC : Kd.C Kd.string w A vs.length vs) (hc : vs.length ≤ c) (hl : 8 < vs.length) (hn : nameB s = true) (hx : x = 1) : AskGives x s vs A c w := by
  have hf : fewVals vs = false := by unfold fewVals; rw [decide_eq_false (show ¬ vs.length ≤ 8 by omega), Bool.and_false, Bool.false_and]
  have HA : Hid (askOf x s vs = .no) := Lib.hid (by unfold askOf; simp [hn, hf, hx, show ¬ vs.length = 0 by omega, show vs ≠ [] from fun e => by rw [e] at hl; simp at hl])
  have hz1 : (1 : Int) ≤ (vs.length : Int) := by omega
  have hz2 : ((vs.length : Int) == 0) = false := beq_eq_false_iff_ne.2 (by omega)
  have hz8 : ¬ (vs.length : Int) ≤ 8 := by omega
  subst hx
  have cN := fun V => dns_Name.calls s (nameB s) V rfl
  rw [hn] at cN
  have HC := Lib.hid hC
  clear hC hf hn
  unfold AskGives
  rw [HA.out]
  go_enter Tryd.func102, Tryd.ntmps102
  go_wp2_with (go_at_call 34; refine (cN _).mono ?_; rintro e w2 ⟨rfl, hb2⟩; have BB2 := Aside0.mk (((Below.refl w.heap.size w).alloc (Nat.le_refl _) _).trans (hb2.mono (by simp))); obtain ⟨y3, y4, y5⟩ := box3 hb2; clear hb2)
  go_ret
  exact ⟨_, rfl, rfl, BB2.out⟩

set_option maxHeartbeats 2000000 in
theorem asks_many_2 (x : Int) (s : ByteArray) (vs : List ByteArray) (A : Option Addr) (c : Nat) (w : World) (hC : Kd.C Kd.string w A vs.length vs) (hc : vs.length ≤ c) (hl : 8 < vs.length) (hn : nameB s = true) (hx : x = 2) : AskGives x s vs A c w := by
  have hf : fewVals vs = false := by unfold fewVals; rw [decide_eq_false (show ¬ vs.length ≤ 8 by omega), Bool.and_false, Bool.false_and]
  have HA : Hid (askOf x s vs = .no) := Lib.hid (by unfold askOf; simp [hn, hf, hx, show ¬ vs.length = 0 by omega, show vs ≠ [] from fun e => by rw [e] at hl; simp at hl])
  have hz1 : (1 : Int) ≤ (vs.length : Int) := by omega
  have hz2 : ((vs.length : Int) == 0) = false := beq_eq_false_iff_ne.2 (by omega)
  have hz8 : ¬ (vs.length : Int) ≤ 8 := by omega
  subst hx
  have cN := fun V => dns_Name.calls s (nameB s) V rfl
  rw [hn] at cN
  have HC := Lib.hid hC
  clear hC hf hn
  unfold AskGives
  rw [HA.out]
  go_enter Tryd.func102, Tryd.ntmps102
  go_wp2_with (go_at_call 34; refine (cN _).mono ?_; rintro e w2 ⟨rfl, hb2⟩; have BB2 := Aside0.mk (((Below.refl w.heap.size w).alloc (Nat.le_refl _) _).trans (hb2.mono (by simp))); obtain ⟨y3, y4, y5⟩ := box3 hb2; clear hb2)
  go_ret
  exact ⟨_, rfl, rfl, BB2.out⟩

set_option maxHeartbeats 2000000 in
theorem asks_many_3 (x : Int) (s : ByteArray) (vs : List ByteArray) (A : Option Addr) (c : Nat) (w : World) (hC : Kd.C Kd.string w A vs.length vs) (hc : vs.length ≤ c) (hl : 8 < vs.length) (hn : nameB s = true) (hx : x = 3) : AskGives x s vs A c w := by
  have hf : fewVals vs = false := by unfold fewVals; rw [decide_eq_false (show ¬ vs.length ≤ 8 by omega), Bool.and_false, Bool.false_and]
  have HA : Hid (askOf x s vs = .no) := Lib.hid (by unfold askOf; simp [hn, hf, hx, show ¬ vs.length = 0 by omega, show vs ≠ [] from fun e => by rw [e] at hl; simp at hl])
  have hz1 : (1 : Int) ≤ (vs.length : Int) := by omega
  have hz2 : ((vs.length : Int) == 0) = false := beq_eq_false_iff_ne.2 (by omega)
  have hz8 : ¬ (vs.length : Int) ≤ 8 := by omega
  subst hx
  have cN := fun V => dns_Name.calls s (nameB s) V rfl
  rw [hn] at cN
  have HC := Lib.hid hC
  clear hC hf hn
  unfold AskGives
  rw [HA.out]
  go_enter Tryd.func102, Tryd.ntmps102
  go_wp2_with (go_at_call 34; refine (cN _).mono ?_; rintro e w2 ⟨rfl, hb2⟩; have BB2 := Aside0.mk (((Below.refl w.heap.size w).alloc (Nat.le_refl _) _).trans (hb2.mono (by simp))); obtain ⟨y3, y4, y5⟩ := box3 hb2; clear hb2)
  go_ret
  exact ⟨_, rfl, rfl, BB2.out⟩

set_option maxHeartbeats 2000000 in
theorem asks_many_4 (x : Int) (s : ByteArray) (vs : List ByteArray) (A : Option Addr) (c : Nat) (w : World) (hC : Kd.C Kd.string w A vs.length vs) (hc : vs.length ≤ c) (hl : 8 < vs.length) (hn : nameB s = true) (hx : x = 4) : AskGives x s vs A c w := by
  have hf : fewVals vs = false := by unfold fewVals; rw [decide_eq_false (show ¬ vs.length ≤ 8 by omega), Bool.and_false, Bool.false_and]
  have HA : Hid (askOf x s vs = .no) := Lib.hid (by unfold askOf; simp [hn, hf, hx, show ¬ vs.length = 0 by omega, show vs ≠ [] from fun e => by rw [e] at hl; simp at hl])
  have hz1 : (1 : Int) ≤ (vs.length : Int) := by omega
  have hz2 : ((vs.length : Int) == 0) = false := beq_eq_false_iff_ne.2 (by omega)
  have hz8 : ¬ (vs.length : Int) ≤ 8 := by omega
  subst hx
  have cN := fun V => dns_Name.calls s (nameB s) V rfl
  rw [hn] at cN
  have HC := Lib.hid hC
  clear hC hf hn
  unfold AskGives
  rw [HA.out]
  go_enter Tryd.func102, Tryd.ntmps102
  go_wp2_with (go_at_call 34; refine (cN _).mono ?_; rintro e w2 ⟨rfl, hb2⟩; have BB2 := Aside0.mk (((Below.refl w.heap.size w).alloc (Nat.le_refl _) _).trans (hb2.mono (by simp))); obtain ⟨y3, y4, y5⟩ := box3 hb2; clear hb2)
  go_ret
  exact ⟨_, rfl, rfl, BB2.out⟩

set_option maxHeartbeats 2000000 in
theorem asks_many_0 (x : Int) (s : ByteArray) (vs : List ByteArray) (A : Option Addr) (c : Nat) (w : World) (hC : Kd.C Kd.string w A vs.length vs) (hc : vs.length ≤ c) (hl : 8 < vs.length) (hn : nameB s = true) (hx1 : x ≠ 1) (hx2 : x ≠ 2) (hx3 : x ≠ 3) (hx4 : x ≠ 4) : AskGives x s vs A c w := by
  have hf : fewVals vs = false := by unfold fewVals; rw [decide_eq_false (show ¬ vs.length ≤ 8 by omega), Bool.and_false, Bool.false_and]
  have HA : Hid (askOf x s vs = .no) := Lib.hid (by unfold askOf; simp [hn, hf, hx1, hx2, hx3, hx4])
  have hz1 : (1 : Int) ≤ (vs.length : Int) := by omega
  have hz2 : ((vs.length : Int) == 0) = false := beq_eq_false_iff_ne.2 (by omega)
  have hz8 : ¬ (vs.length : Int) ≤ 8 := by omega
  have kx1 : (x == 1) = false := beq_eq_false_iff_ne.2 hx1
  have kx2 : (x == 2) = false := beq_eq_false_iff_ne.2 hx2
  have kx3 : (x == 3) = false := beq_eq_false_iff_ne.2 hx3
  have kx4 : (x == 4) = false := beq_eq_false_iff_ne.2 hx4
  have cN := fun V => dns_Name.calls s (nameB s) V rfl
  rw [hn] at cN
  have HC := Lib.hid hC
  clear hC hf hn hx1 hx2 hx3 hx4
  unfold AskGives
  rw [HA.out]
  go_enter Tryd.func102, Tryd.ntmps102
  go_wp2_with (go_at_call 34; refine (cN _).mono ?_; rintro e w2 ⟨rfl, hb2⟩; have BB2 := Aside0.mk (((Below.refl w.heap.size w).alloc (Nat.le_refl _) _).trans (hb2.mono (by simp))); obtain ⟨y3, y4, y5⟩ := box3 hb2; clear hb2)
  go_ret
  exact ⟨_, rfl, rfl, BB2.out⟩

set_option maxHeartbeats 2000000 in
theorem asks_bad_false (x : Int) (s : ByteArray) (vs : List ByteArray) (A : Option Addr) (c : Nat) (w : World) (hC : Kd.C Kd.string w A vs.length vs) (hc : vs.length ≤ c) (hl : 1 ≤ vs.length) (hl8 : vs.length ≤ 8) (hv : (vs.any fun s => !valueB s) = true) (hn : nameB s = false) : AskGives x s vs A c w := by
  have hf : fewVals vs = false := by unfold fewVals; rw [hv, Bool.not_true, Bool.and_false]
  have HA : Hid (askOf x s vs = .no) := Lib.hid (by unfold askOf; simp [hn, hf])
  have hz1 : (1 : Int) ≤ (vs.length : Int) := by omega
  have hz2 : ((vs.length : Int) == 0) = false := beq_eq_false_iff_ne.2 (by omega)
  have hz8 : (vs.length : Int) ≤ 8 := by omega
  have cN := fun V => dns_Name.calls s (nameB s) V rfl
  rw [hn] at cN
  have cV := fun V hV => NoValues A c vs V hV
  rw [hv] at cV
  have HC := Lib.hid hC
  clear hC hf hn hv
  unfold AskGives
  rw [HA.out]
  go_enter Tryd.func102, Tryd.ntmps102
  go_wp2_with (first | (go_at_call 133; refine (cV _ (Kd.C_alloc HC.out _)).mono ?_; rintro e w1 ⟨rfl, hb⟩; have hk := box3 hb; have BB := Aside0.mk (((Below.refl w.heap.size w).alloc (Nat.le_refl _) _).trans (hb.mono (by simp))); obtain ⟨y0, y1, y2⟩ := hk; clear hb) | (go_at_call 34; refine (cN _).mono ?_; rintro e w2 ⟨rfl, hb2⟩; have BB2 := Aside0.mk (BB.out.trans (hb2.mono BB.out.size)); have y3 := pw_cell_below hb2 y0; have y4 := pw_cell_below hb2 y1; have y5 := pw_cell_below hb2 y2; clear hb2))
  go_ret
  exact ⟨_, rfl, rfl, BB2.out⟩

set_option maxHeartbeats 2000000 in
theorem asks_bad_1 (x : Int) (s : ByteArray) (vs : List ByteArray) (A : Option Addr) (c : Nat) (w : World) (hC : Kd.C Kd.string w A vs.length vs) (hc : vs.length ≤ c) (hl : 1 ≤ vs.length) (hl8 : vs.length ≤ 8) (hv : (vs.any fun s => !valueB s) = true) (hn : nameB s = true) (hx : x = 1) : AskGives x s vs A c w := by
  have hf : fewVals vs = false := by unfold fewVals; rw [hv, Bool.not_true, Bool.and_false]
  have HA : Hid (askOf x s vs = .no) := Lib.hid (by unfold askOf; simp [hn, hf, hx, show ¬ vs.length = 0 by omega, show vs ≠ [] from fun e => by rw [e] at hl; simp at hl])
  have hz1 : (1 : Int) ≤ (vs.length : Int) := by omega
  have hz2 : ((vs.length : Int) == 0) = false := beq_eq_false_iff_ne.2 (by omega)
  have hz8 : (vs.length : Int) ≤ 8 := by omega
  subst hx
  have cN := fun V => dns_Name.calls s (nameB s) V rfl
  rw [hn] at cN
  have cV := fun V hV => NoValues A c vs V hV
  rw [hv] at cV
  have HC := Lib.hid hC
  clear hC hf hn hv
  unfold AskGives
  rw [HA.out]
  go_enter Tryd.func102, Tryd.ntmps102
  go_wp2_with (first | (go_at_call 133; refine (cV _ (Kd.C_alloc HC.out _)).mono ?_; rintro e w1 ⟨rfl, hb⟩; have hk := box3 hb; have BB := Aside0.mk (((Below.refl w.heap.size w).alloc (Nat.le_refl _) _).trans (hb.mono (by simp))); obtain ⟨y0, y1, y2⟩ := hk; clear hb) | (go_at_call 34; refine (cN _).mono ?_; rintro e w2 ⟨rfl, hb2⟩; have BB2 := Aside0.mk (BB.out.trans (hb2.mono BB.out.size)); have y3 := pw_cell_below hb2 y0; have y4 := pw_cell_below hb2 y1; have y5 := pw_cell_below hb2 y2; clear hb2))
  go_ret
  exact ⟨_, rfl, rfl, BB2.out⟩

set_option maxHeartbeats 2000000 in
theorem asks_bad_2 (x : Int) (s : ByteArray) (vs : List ByteArray) (A : Option Addr) (c : Nat) (w : World) (hC : Kd.C Kd.string w A vs.length vs) (hc : vs.length ≤ c) (hl : 1 ≤ vs.length) (hl8 : vs.length ≤ 8) (hv : (vs.any fun s => !valueB s) = true) (hn : nameB s = true) (hx : x = 2) : AskGives x s vs A c w := by
  have hf : fewVals vs = false := by unfold fewVals; rw [hv, Bool.not_true, Bool.and_false]
  have HA : Hid (askOf x s vs = .no) := Lib.hid (by unfold askOf; simp [hn, hf, hx, show ¬ vs.length = 0 by omega, show vs ≠ [] from fun e => by rw [e] at hl; simp at hl])
  have hz1 : (1 : Int) ≤ (vs.length : Int) := by omega
  have hz2 : ((vs.length : Int) == 0) = false := beq_eq_false_iff_ne.2 (by omega)
  have hz8 : (vs.length : Int) ≤ 8 := by omega
  subst hx
  have cN := fun V => dns_Name.calls s (nameB s) V rfl
  rw [hn] at cN
  have cV := fun V hV => NoValues A c vs V hV
  rw [hv] at cV
  have HC := Lib.hid hC
  clear hC hf hn hv
  unfold AskGives
  rw [HA.out]
  go_enter Tryd.func102, Tryd.ntmps102
  go_wp2_with (first | (go_at_call 133; refine (cV _ (Kd.C_alloc HC.out _)).mono ?_; rintro e w1 ⟨rfl, hb⟩; have hk := box3 hb; have BB := Aside0.mk (((Below.refl w.heap.size w).alloc (Nat.le_refl _) _).trans (hb.mono (by simp))); obtain ⟨y0, y1, y2⟩ := hk; clear hb) | (go_at_call 34; refine (cN _).mono ?_; rintro e w2 ⟨rfl, hb2⟩; have BB2 := Aside0.mk (BB.out.trans (hb2.mono BB.out.size)); have y3 := pw_cell_below hb2 y0; have y4 := pw_cell_below hb2 y1; have y5 := pw_cell_below hb2 y2; clear hb2))
  go_ret
  exact ⟨_, rfl, rfl, BB2.out⟩

set_option maxHeartbeats 2000000 in
theorem asks_bad_3 (x : Int) (s : ByteArray) (vs : List ByteArray) (A : Option Addr) (c : Nat) (w : World) (hC : Kd.C Kd.string w A vs.length vs) (hc : vs.length ≤ c) (hl : 1 ≤ vs.length) (hl8 : vs.length ≤ 8) (hv : (vs.any fun s => !valueB s) = true) (hn : nameB s = true) (hx : x = 3) : AskGives x s vs A c w := by
  have hf : fewVals vs = false := by unfold fewVals; rw [hv, Bool.not_true, Bool.and_false]
  have HA : Hid (askOf x s vs = .no) := Lib.hid (by unfold askOf; simp [hn, hf, hx, show ¬ vs.length = 0 by omega, show vs ≠ [] from fun e => by rw [e] at hl; simp at hl])
  have hz1 : (1 : Int) ≤ (vs.length : Int) := by omega
  have hz2 : ((vs.length : Int) == 0) = false := beq_eq_false_iff_ne.2 (by omega)
  have hz8 : (vs.length : Int) ≤ 8 := by omega
  subst hx
  have cN := fun V => dns_Name.calls s (nameB s) V rfl
  rw [hn] at cN
  have cV := fun V hV => NoValues A c vs V hV
  rw [hv] at cV
  have HC := Lib.hid hC
  clear hC hf hn hv
  unfold AskGives
  rw [HA.out]
  go_enter Tryd.func102, Tryd.ntmps102
  go_wp2_with (first | (go_at_call 133; refine (cV _ (Kd.C_alloc HC.out _)).mono ?_; rintro e w1 ⟨rfl, hb⟩; have hk := box3 hb; have BB := Aside0.mk (((Below.refl w.heap.size w).alloc (Nat.le_refl _) _).trans (hb.mono (by simp))); obtain ⟨y0, y1, y2⟩ := hk; clear hb) | (go_at_call 34; refine (cN _).mono ?_; rintro e w2 ⟨rfl, hb2⟩; have BB2 := Aside0.mk (BB.out.trans (hb2.mono BB.out.size)); have y3 := pw_cell_below hb2 y0; have y4 := pw_cell_below hb2 y1; have y5 := pw_cell_below hb2 y2; clear hb2))
  go_ret
  exact ⟨_, rfl, rfl, BB2.out⟩

set_option maxHeartbeats 2000000 in
theorem asks_bad_4 (x : Int) (s : ByteArray) (vs : List ByteArray) (A : Option Addr) (c : Nat) (w : World) (hC : Kd.C Kd.string w A vs.length vs) (hc : vs.length ≤ c) (hl : 1 ≤ vs.length) (hl8 : vs.length ≤ 8) (hv : (vs.any fun s => !valueB s) = true) (hn : nameB s = true) (hx : x = 4) : AskGives x s vs A c w := by
  have hf : fewVals vs = false := by unfold fewVals; rw [hv, Bool.not_true, Bool.and_false]
  have HA : Hid (askOf x s vs = .no) := Lib.hid (by unfold askOf; simp [hn, hf, hx, show ¬ vs.length = 0 by omega, show vs ≠ [] from fun e => by rw [e] at hl; simp at hl])
  have hz1 : (1 : Int) ≤ (vs.length : Int) := by omega
  have hz2 : ((vs.length : Int) == 0) = false := beq_eq_false_iff_ne.2 (by omega)
  have hz8 : (vs.length : Int) ≤ 8 := by omega
  subst hx
  have cN := fun V => dns_Name.calls s (nameB s) V rfl
  rw [hn] at cN
  have cV := fun V hV => NoValues A c vs V hV
  rw [hv] at cV
  have HC := Lib.hid hC
  clear hC hf hn hv
  unfold AskGives
  rw [HA.out]
  go_enter Tryd.func102, Tryd.ntmps102
  go_wp2_with (first | (go_at_call 133; refine (cV _ (Kd.C_alloc HC.out _)).mono ?_; rintro e w1 ⟨rfl, hb⟩; have hk := box3 hb; have BB := Aside0.mk (((Below.refl w.heap.size w).alloc (Nat.le_refl _) _).trans (hb.mono (by simp))); obtain ⟨y0, y1, y2⟩ := hk; clear hb) | (go_at_call 34; refine (cN _).mono ?_; rintro e w2 ⟨rfl, hb2⟩; have BB2 := Aside0.mk (BB.out.trans (hb2.mono BB.out.size)); have y3 := pw_cell_below hb2 y0; have y4 := pw_cell_below hb2 y1; have y5 := pw_cell_below hb2 y2; clear hb2))
  go_ret
  exact ⟨_, rfl, rfl, BB2.out⟩

set_option maxHeartbeats 2000000 in
theorem asks_bad_0 (x : Int) (s : ByteArray) (vs : List ByteArray) (A : Option Addr) (c : Nat) (w : World) (hC : Kd.C Kd.string w A vs.length vs) (hc : vs.length ≤ c) (hl : 1 ≤ vs.length) (hl8 : vs.length ≤ 8) (hv : (vs.any fun s => !valueB s) = true) (hn : nameB s = true) (hx1 : x ≠ 1) (hx2 : x ≠ 2) (hx3 : x ≠ 3) (hx4 : x ≠ 4) : AskGives x s vs A c w := by
  have hf : fewVals vs = false := by unfold fewVals; rw [hv, Bool.not_true, Bool.and_false]
  have HA : Hid (askOf x s vs = .no) := Lib.hid (by unfold askOf; simp [hn, hf, hx1, hx2, hx3, hx4])
  have hz1 : (1 : Int) ≤ (vs.length : Int) := by omega
  have hz2 : ((vs.length : Int) == 0) = false := beq_eq_false_iff_ne.2 (by omega)
  have hz8 : (vs.length : Int) ≤ 8 := by omega
  have kx1 : (x == 1) = false := beq_eq_false_iff_ne.2 hx1
  have kx2 : (x == 2) = false := beq_eq_false_iff_ne.2 hx2
  have kx3 : (x == 3) = false := beq_eq_false_iff_ne.2 hx3
  have kx4 : (x == 4) = false := beq_eq_false_iff_ne.2 hx4
  have cN := fun V => dns_Name.calls s (nameB s) V rfl
  rw [hn] at cN
  have cV := fun V hV => NoValues A c vs V hV
  rw [hv] at cV
  have HC := Lib.hid hC
  clear hC hf hn hv hx1 hx2 hx3 hx4
  unfold AskGives
  rw [HA.out]
  go_enter Tryd.func102, Tryd.ntmps102
  go_wp2_with (first | (go_at_call 133; refine (cV _ (Kd.C_alloc HC.out _)).mono ?_; rintro e w1 ⟨rfl, hb⟩; have hk := box3 hb; have BB := Aside0.mk (((Below.refl w.heap.size w).alloc (Nat.le_refl _) _).trans (hb.mono (by simp))); obtain ⟨y0, y1, y2⟩ := hk; clear hb) | (go_at_call 34; refine (cN _).mono ?_; rintro e w2 ⟨rfl, hb2⟩; have BB2 := Aside0.mk (BB.out.trans (hb2.mono BB.out.size)); have y3 := pw_cell_below hb2 y0; have y4 := pw_cell_below hb2 y1; have y5 := pw_cell_below hb2 y2; clear hb2))
  go_ret
  exact ⟨_, rfl, rfl, BB2.out⟩

set_option maxHeartbeats 2000000 in
theorem asks_good_false (x : Int) (s : ByteArray) (vs : List ByteArray) (A : Option Addr) (c : Nat) (w : World) (hC : Kd.C Kd.string w A vs.length vs) (hc : vs.length ≤ c) (hl : 1 ≤ vs.length) (hl8 : vs.length ≤ 8) (hv : (vs.any fun s => !valueB s) = false) (hn : nameB s = false) : AskGives x s vs A c w := by
  have hf : fewVals vs = true := by unfold fewVals; rw [hv, decide_eq_true hl, decide_eq_true hl8]; rfl
  have HA : Hid (askOf x s vs = .no) := Lib.hid (by unfold askOf; simp [hn, hf])
  have hz1 : (1 : Int) ≤ (vs.length : Int) := by omega
  have hz2 : ((vs.length : Int) == 0) = false := beq_eq_false_iff_ne.2 (by omega)
  have hz8 : (vs.length : Int) ≤ 8 := by omega
  have cN := fun V => dns_Name.calls s (nameB s) V rfl
  rw [hn] at cN
  have cV := fun V hV => NoValues A c vs V hV
  rw [hv] at cV
  have HC := Lib.hid hC
  clear hC hf hn hv
  unfold AskGives
  rw [HA.out]
  go_enter Tryd.func102, Tryd.ntmps102
  go_wp2_with (first | (go_at_call 133; refine (cV _ (Kd.C_alloc HC.out _)).mono ?_; rintro e w1 ⟨rfl, hb⟩; have hk := box3 hb; have BB := Aside0.mk (((Below.refl w.heap.size w).alloc (Nat.le_refl _) _).trans (hb.mono (by simp))); obtain ⟨y0, y1, y2⟩ := hk; clear hb) | (go_at_call 34; refine (cN _).mono ?_; rintro e w2 ⟨rfl, hb2⟩; have BB2 := Aside0.mk (BB.out.trans (hb2.mono BB.out.size)); have y3 := pw_cell_below hb2 y0; have y4 := pw_cell_below hb2 y1; have y5 := pw_cell_below hb2 y2; clear hb2))
  go_ret
  exact ⟨_, rfl, rfl, BB2.out⟩

set_option maxHeartbeats 2000000 in
theorem asks_good_1 (x : Int) (s : ByteArray) (vs : List ByteArray) (A : Option Addr) (c : Nat) (w : World) (hC : Kd.C Kd.string w A vs.length vs) (hc : vs.length ≤ c) (hl : 1 ≤ vs.length) (hl8 : vs.length ≤ 8) (hv : (vs.any fun s => !valueB s) = false) (hn : nameB s = true) (hx : x = 1) : AskGives x s vs A c w := by
  have hf : fewVals vs = true := by unfold fewVals; rw [hv, decide_eq_true hl, decide_eq_true hl8]; rfl
  have HA : Hid (askOf x s vs = .among s vs) := Lib.hid (by unfold askOf; simp [hn, hf, hx, show ¬ vs.length = 0 by omega, show vs ≠ [] from fun e => by rw [e] at hl; simp at hl])
  have hz1 : (1 : Int) ≤ (vs.length : Int) := by omega
  have hz2 : ((vs.length : Int) == 0) = false := beq_eq_false_iff_ne.2 (by omega)
  have hz8 : (vs.length : Int) ≤ 8 := by omega
  subst hx
  have cN := fun V => dns_Name.calls s (nameB s) V rfl
  rw [hn] at cN
  have cV := fun V hV => NoValues A c vs V hV
  rw [hv] at cV
  have HC := Lib.hid hC
  clear hC hf hn hv
  unfold AskGives
  rw [HA.out]
  go_enter Tryd.func102, Tryd.ntmps102
  go_wp2_with (first | (go_at_call 133; refine (cV _ (Kd.C_alloc HC.out _)).mono ?_; rintro e w1 ⟨rfl, hb⟩; have hk := box3 hb; have BB := Aside0.mk (((Below.refl w.heap.size w).alloc (Nat.le_refl _) _).trans (hb.mono (by simp))); obtain ⟨y0, y1, y2⟩ := hk; clear hb) | (go_at_call 34; refine (cN _).mono ?_; rintro e w2 ⟨rfl, hb2⟩; have BB2 := Aside0.mk (BB.out.trans (hb2.mono BB.out.size)); have y3 := pw_cell_below hb2 y0; have y4 := pw_cell_below hb2 y1; have y5 := pw_cell_below hb2 y2; clear hb2))
  go_ret
  exact ⟨_, rfl, ⟨_, rfl, A, c, rfl, hc, Kd.C_below HC.out BB2.out⟩, BB2.out⟩

set_option maxHeartbeats 2000000 in
theorem asks_good_2 (x : Int) (s : ByteArray) (vs : List ByteArray) (A : Option Addr) (c : Nat) (w : World) (hC : Kd.C Kd.string w A vs.length vs) (hc : vs.length ≤ c) (hl : 1 ≤ vs.length) (hl8 : vs.length ≤ 8) (hv : (vs.any fun s => !valueB s) = false) (hn : nameB s = true) (hx : x = 2) : AskGives x s vs A c w := by
  have hf : fewVals vs = true := by unfold fewVals; rw [hv, decide_eq_true hl, decide_eq_true hl8]; rfl
  have HA : Hid (askOf x s vs = .outside s vs) := Lib.hid (by unfold askOf; simp [hn, hf, hx, show ¬ vs.length = 0 by omega, show vs ≠ [] from fun e => by rw [e] at hl; simp at hl])
  have hz1 : (1 : Int) ≤ (vs.length : Int) := by omega
  have hz2 : ((vs.length : Int) == 0) = false := beq_eq_false_iff_ne.2 (by omega)
  have hz8 : (vs.length : Int) ≤ 8 := by omega
  subst hx
  have cN := fun V => dns_Name.calls s (nameB s) V rfl
  rw [hn] at cN
  have cV := fun V hV => NoValues A c vs V hV
  rw [hv] at cV
  have HC := Lib.hid hC
  clear hC hf hn hv
  unfold AskGives
  rw [HA.out]
  go_enter Tryd.func102, Tryd.ntmps102
  go_wp2_with (first | (go_at_call 133; refine (cV _ (Kd.C_alloc HC.out _)).mono ?_; rintro e w1 ⟨rfl, hb⟩; have hk := box3 hb; have BB := Aside0.mk (((Below.refl w.heap.size w).alloc (Nat.le_refl _) _).trans (hb.mono (by simp))); obtain ⟨y0, y1, y2⟩ := hk; clear hb) | (go_at_call 34; refine (cN _).mono ?_; rintro e w2 ⟨rfl, hb2⟩; have BB2 := Aside0.mk (BB.out.trans (hb2.mono BB.out.size)); have y3 := pw_cell_below hb2 y0; have y4 := pw_cell_below hb2 y1; have y5 := pw_cell_below hb2 y2; clear hb2))
  go_ret
  exact ⟨_, rfl, ⟨_, rfl, A, c, rfl, hc, Kd.C_below HC.out BB2.out⟩, BB2.out⟩

set_option maxHeartbeats 2000000 in
theorem asks_good_3 (x : Int) (s : ByteArray) (vs : List ByteArray) (A : Option Addr) (c : Nat) (w : World) (hC : Kd.C Kd.string w A vs.length vs) (hc : vs.length ≤ c) (hl : 1 ≤ vs.length) (hl8 : vs.length ≤ 8) (hv : (vs.any fun s => !valueB s) = false) (hn : nameB s = true) (hx : x = 3) : AskGives x s vs A c w := by
  have hf : fewVals vs = true := by unfold fewVals; rw [hv, decide_eq_true hl, decide_eq_true hl8]; rfl
  have HA : Hid (askOf x s vs = .no) := Lib.hid (by unfold askOf; simp [hn, hf, hx, show ¬ vs.length = 0 by omega, show vs ≠ [] from fun e => by rw [e] at hl; simp at hl])
  have hz1 : (1 : Int) ≤ (vs.length : Int) := by omega
  have hz2 : ((vs.length : Int) == 0) = false := beq_eq_false_iff_ne.2 (by omega)
  have hz8 : (vs.length : Int) ≤ 8 := by omega
  subst hx
  have cN := fun V => dns_Name.calls s (nameB s) V rfl
  rw [hn] at cN
  have cV := fun V hV => NoValues A c vs V hV
  rw [hv] at cV
  have HC := Lib.hid hC
  clear hC hf hn hv
  unfold AskGives
  rw [HA.out]
  go_enter Tryd.func102, Tryd.ntmps102
  go_wp2_with (first | (go_at_call 133; refine (cV _ (Kd.C_alloc HC.out _)).mono ?_; rintro e w1 ⟨rfl, hb⟩; have hk := box3 hb; have BB := Aside0.mk (((Below.refl w.heap.size w).alloc (Nat.le_refl _) _).trans (hb.mono (by simp))); obtain ⟨y0, y1, y2⟩ := hk; clear hb) | (go_at_call 34; refine (cN _).mono ?_; rintro e w2 ⟨rfl, hb2⟩; have BB2 := Aside0.mk (BB.out.trans (hb2.mono BB.out.size)); have y3 := pw_cell_below hb2 y0; have y4 := pw_cell_below hb2 y1; have y5 := pw_cell_below hb2 y2; clear hb2))
  go_ret
  exact ⟨_, rfl, rfl, BB2.out⟩

set_option maxHeartbeats 2000000 in
theorem asks_good_4 (x : Int) (s : ByteArray) (vs : List ByteArray) (A : Option Addr) (c : Nat) (w : World) (hC : Kd.C Kd.string w A vs.length vs) (hc : vs.length ≤ c) (hl : 1 ≤ vs.length) (hl8 : vs.length ≤ 8) (hv : (vs.any fun s => !valueB s) = false) (hn : nameB s = true) (hx : x = 4) : AskGives x s vs A c w := by
  have hf : fewVals vs = true := by unfold fewVals; rw [hv, decide_eq_true hl, decide_eq_true hl8]; rfl
  have HA : Hid (askOf x s vs = .no) := Lib.hid (by unfold askOf; simp [hn, hf, hx, show ¬ vs.length = 0 by omega, show vs ≠ [] from fun e => by rw [e] at hl; simp at hl])
  have hz1 : (1 : Int) ≤ (vs.length : Int) := by omega
  have hz2 : ((vs.length : Int) == 0) = false := beq_eq_false_iff_ne.2 (by omega)
  have hz8 : (vs.length : Int) ≤ 8 := by omega
  subst hx
  have cN := fun V => dns_Name.calls s (nameB s) V rfl
  rw [hn] at cN
  have cV := fun V hV => NoValues A c vs V hV
  rw [hv] at cV
  have HC := Lib.hid hC
  clear hC hf hn hv
  unfold AskGives
  rw [HA.out]
  go_enter Tryd.func102, Tryd.ntmps102
  go_wp2_with (first | (go_at_call 133; refine (cV _ (Kd.C_alloc HC.out _)).mono ?_; rintro e w1 ⟨rfl, hb⟩; have hk := box3 hb; have BB := Aside0.mk (((Below.refl w.heap.size w).alloc (Nat.le_refl _) _).trans (hb.mono (by simp))); obtain ⟨y0, y1, y2⟩ := hk; clear hb) | (go_at_call 34; refine (cN _).mono ?_; rintro e w2 ⟨rfl, hb2⟩; have BB2 := Aside0.mk (BB.out.trans (hb2.mono BB.out.size)); have y3 := pw_cell_below hb2 y0; have y4 := pw_cell_below hb2 y1; have y5 := pw_cell_below hb2 y2; clear hb2))
  go_ret
  exact ⟨_, rfl, rfl, BB2.out⟩

set_option maxHeartbeats 2000000 in
theorem asks_good_0 (x : Int) (s : ByteArray) (vs : List ByteArray) (A : Option Addr) (c : Nat) (w : World) (hC : Kd.C Kd.string w A vs.length vs) (hc : vs.length ≤ c) (hl : 1 ≤ vs.length) (hl8 : vs.length ≤ 8) (hv : (vs.any fun s => !valueB s) = false) (hn : nameB s = true) (hx1 : x ≠ 1) (hx2 : x ≠ 2) (hx3 : x ≠ 3) (hx4 : x ≠ 4) : AskGives x s vs A c w := by
  have hf : fewVals vs = true := by unfold fewVals; rw [hv, decide_eq_true hl, decide_eq_true hl8]; rfl
  have HA : Hid (askOf x s vs = .no) := Lib.hid (by unfold askOf; simp [hn, hf, hx1, hx2, hx3, hx4])
  have hz1 : (1 : Int) ≤ (vs.length : Int) := by omega
  have hz2 : ((vs.length : Int) == 0) = false := beq_eq_false_iff_ne.2 (by omega)
  have hz8 : (vs.length : Int) ≤ 8 := by omega
  have kx1 : (x == 1) = false := beq_eq_false_iff_ne.2 hx1
  have kx2 : (x == 2) = false := beq_eq_false_iff_ne.2 hx2
  have kx3 : (x == 3) = false := beq_eq_false_iff_ne.2 hx3
  have kx4 : (x == 4) = false := beq_eq_false_iff_ne.2 hx4
  have cN := fun V => dns_Name.calls s (nameB s) V rfl
  rw [hn] at cN
  have cV := fun V hV => NoValues A c vs V hV
  rw [hv] at cV
  have HC := Lib.hid hC
  clear hC hf hn hv hx1 hx2 hx3 hx4
  unfold AskGives
  rw [HA.out]
  go_enter Tryd.func102, Tryd.ntmps102
  go_wp2_with (first | (go_at_call 133; refine (cV _ (Kd.C_alloc HC.out _)).mono ?_; rintro e w1 ⟨rfl, hb⟩; have hk := box3 hb; have BB := Aside0.mk (((Below.refl w.heap.size w).alloc (Nat.le_refl _) _).trans (hb.mono (by simp))); obtain ⟨y0, y1, y2⟩ := hk; clear hb) | (go_at_call 34; refine (cN _).mono ?_; rintro e w2 ⟨rfl, hb2⟩; have BB2 := Aside0.mk (BB.out.trans (hb2.mono BB.out.size)); have y3 := pw_cell_below hb2 y0; have y4 := pw_cell_below hb2 y1; have y5 := pw_cell_below hb2 y2; clear hb2))
  go_ret
  exact ⟨_, rfl, rfl, BB2.out⟩

theorem Asks (x : Int) (s : ByteArray) (vs : List ByteArray) (A : Option Addr) (c : Nat) (w : World) (hC : Kd.C Kd.string w A vs.length vs) (hc : vs.length ≤ c) : AskGives x s vs A c w := by
  have key : ∀ (f0 : nameB s = false → AskGives x s vs A c w) (f1 : nameB s = true → x = 1 → AskGives x s vs A c w) (f2 : nameB s = true → x = 2 → AskGives x s vs A c w) (f3 : nameB s = true → x = 3 → AskGives x s vs A c w) (f4 : nameB s = true → x = 4 → AskGives x s vs A c w) (f5 : nameB s = true → x ≠ 1 → x ≠ 2 → x ≠ 3 → x ≠ 4 → AskGives x s vs A c w), AskGives x s vs A c w := by
    intro f0 f1 f2 f3 f4 f5
    cases hn : nameB s with
    | false => exact f0 hn
    | true =>
      by_cases h1 : x = 1
      · exact f1 hn h1
      · by_cases h2 : x = 2
        · exact f2 hn h2
        · by_cases h3 : x = 3
          · exact f3 hn h3
          · by_cases h4 : x = 4
            · exact f4 hn h4
            · exact f5 hn h1 h2 h3 h4
  by_cases hl : vs.length = 0
  · exact key (asks_zero_false x s vs A c w hC hc hl) (asks_zero_1 x s vs A c w hC hc hl) (asks_zero_2 x s vs A c w hC hc hl) (asks_zero_3 x s vs A c w hC hc hl) (asks_zero_4 x s vs A c w hC hc hl) (asks_zero_0 x s vs A c w hC hc hl)
  · by_cases h8 : vs.length ≤ 8
    · have h1 : 1 ≤ vs.length := by omega
      cases hv : vs.any fun s => !valueB s with
      | true => exact key (asks_bad_false x s vs A c w hC hc h1 h8 hv) (asks_bad_1 x s vs A c w hC hc h1 h8 hv) (asks_bad_2 x s vs A c w hC hc h1 h8 hv) (asks_bad_3 x s vs A c w hC hc h1 h8 hv) (asks_bad_4 x s vs A c w hC hc h1 h8 hv) (asks_bad_0 x s vs A c w hC hc h1 h8 hv)
      | false => exact key (asks_good_false x s vs A c w hC hc h1 h8 hv) (asks_good_1 x s vs A c w hC hc h1 h8 hv) (asks_good_2 x s vs A c w hC hc h1 h8 hv) (asks_good_3 x s vs A c w hC hc h1 h8 hv) (asks_good_4 x s vs A c w hC hc h1 h8 hv) (asks_good_0 x s vs A c w hC hc h1 h8 hv)
    · have h9 : 8 < vs.length := by omega
      exact key (asks_many_false x s vs A c w hC hc h9) (asks_many_1 x s vs A c w hC hc h9) (asks_many_2 x s vs A c w hC hc h9) (asks_many_3 x s vs A c w hC hc h9) (asks_many_4 x s vs A c w hC hc h9) (asks_many_0 x s vs A c w hC hc h9)

end Go.Proofs.YtcakednecmngdaaDoor.Label
