/-
  Whether needs are the same: what label.Same's closure and slices.EqualFunc over needs hand back, walked.
  Conditions: none.
-/
import Derived.Lib.SliceRun
import Derived.Test.YtcakednecmngdaaDoorLabelA
import Derived.Test.YtcakednecmngdaaDoorLf115
namespace Go.Proofs.YtcakednecmngdaaDoor.Label
open Go Go.RowKit Go.Proofs.YtcakednecmngdaaDoor.Plain Go.Proofs.YtcakednecmngdaaDoor.L Go.Proofs.YtcakednecmngdaaDoor.P Go.Proofs.YtcakednecmngdaaDoorW.PrintWords Go.Proofs.YtcakednecmngdaaDoor.DnsPure
set_option maxRecDepth 100000

theorem succ_wrap63 {i n : Nat} (h : i < n) (hn : n ≤ 9223372036854775807) : wrap64 ((i : Int) + 1) = ((i + 1 : Nat) : Int) := by rw [wrap_in (by omega) (by omega)]; omega
theorem equalS_from (l m : List ByteArray) (hl : l.length ≤ 9223372036854775807) (hm : l.length = m.length) : ∀ (d i : Nat), l.length = i + d → Ev (fun k => slices_Equal_string_string.l0 k l m (l.length : Int) i) (decide (l.drop i = m.drop i)) := by
  intro d
  induction d with
  | zero =>
    intro i hd
    refine Ev.step (f := fun _ => some _) (fun k => by rw [slices_Equal_string_string.l0, if_neg (by omega)]) ?_
    rw [List.drop_eq_nil_of_le (by omega), List.drop_eq_nil_of_le (by omega), decide_eq_true rfl]
    exact Ev.now _
  | succ d ih =>
    intro i hd
    have hlt : i < l.length := by omega
    have hlt2 : i < m.length := by omega
    have hn := ih (i + 1) (by omega)
    refine Ev.step (fun k => by rw [slices_Equal_string_string.l0, if_pos (by omega), if_pos (by omega), if_pos (by omega), if_pos (by omega), rd_at l i hlt, rd_at m i hlt2, succ_wrap63 hlt hl]) ?_
    rw [List.drop_eq_getElem_cons hlt, List.drop_eq_getElem_cons hlt2]
    by_cases h : l[i] = m[i]
    · rw [h]
      refine ev_pos rfl ?_
      rw [show decide (m[i] :: List.drop (i + 1) l = m[i] :: List.drop (i + 1) m) = decide (List.drop (i + 1) l = List.drop (i + 1) m) by rw [decide_eq_decide]; exact ⟨fun z => (List.cons.inj z).2, fun z => by rw [z]⟩]
      exact hn
    · refine ev_neg (fun z => h (toList_inj.1 z)) ?_
      rw [decide_eq_false (fun z => h (List.cons.inj z).1)]
      exact Ev.now _
theorem EqualS (l m : List ByteArray) (hl : l.length ≤ 9223372036854775807) : Ev (fun k => slices_Equal_string_string.f k l m) (decide (l = m)) := by
  unfold slices_Equal_string_string.f
  by_cases h : l.length = m.length
  · have := equalS_from l m hl h l.length 0 (by omega)
    rw [List.drop_zero, List.drop_zero] at this
    exact ev_pos (by omega) this
  · refine ev_neg (by omega) ?_
    rw [decide_eq_false (fun z => h (congrArg List.length z))]
    exact Ev.now _
theorem equalS (A : Option Addr) (c : Nat) (l : List ByteArray) (A1 : Option Addr) (c1 : Nat) (m : List ByteArray) (w : World) (hC : Kd.C Kd.string w A l.length l) (hc : l.length ≤ c) (hC1 : Kd.C Kd.string w A1 m.length m) (hc1 : m.length ≤ c1) :
    Calls Tryd.prog 115 #[.slice A l.length c, .slice A1 m.length c1] w fun e w' => e = .returned (.bool (decide (l = m))) ∧ Below w.heap.size w w' := by
  obtain ⟨k, hk⟩ := EqualS l m hC.2.1
  exact (slices_Equal_string_string.calls k A c l A1 c1 m _ w hC hc hC1 hc1 (hk k (Nat.le_refl _))).mono fun e w' h => ⟨h.1, by first | exact h.2 | exact Drawn0.below h.2⟩

def sameB (x y : S58) : Bool := (x.f0 == y.f0) && ((x.f1.toList == y.f1.toList) && decide (x.f2 = y.f2))
def needV (x : S58) (A : Option Addr) (c : Nat) : Value := .agg #[.int .i64 x.f0, .string x.f1, .slice A x.f2.length c]
theorem sameNeed (x y : S58) (A : Option Addr) (c : Nat) (A1 : Option Addr) (c1 : Nat) (w : World) (hC : Kd.C Kd.string w A x.f2.length x.f2) (hc : x.f2.length ≤ c) (hC1 : Kd.C Kd.string w A1 y.f2.length y.f2) (hc1 : y.f2.length ≤ c1) :
    Calls Tryd.prog 114 #[needV x A c, needV y A1 c1] w fun e w' => e = .returned (.bool (sameB x y)) ∧ Below w.heap.size w w' := by
  have cE := fun V h1 h2 => equalS A c x.f2 A1 c1 y.f2 V h1 hc h2 hc1
  have H0 := Lib.hid hC
  have H1 := Lib.hid hC1
  clear hC hC1
  unfold needV sameB
  obtain ⟨b, hb⟩ : ∃ b, b = decide (x.f2 = y.f2) := ⟨_, rfl⟩
  rw [← hb] at cE ⊢
  clear hb
  cases h0 : x.f0 == y.f0 with
  | false =>
    go_enter Tryd.func114, Tryd.ntmps114
    go_wp2
    go_ret
    exact ⟨rfl, ((Below.refl w.heap.size w).alloc (Nat.le_refl _) _).alloc (by simp) _⟩
  | true =>
    cases h1 : x.f1.toList == y.f1.toList with
    | false =>
      go_enter Tryd.func114, Tryd.ntmps114
      go_wp2
      go_ret
      exact ⟨rfl, ((Below.refl w.heap.size w).alloc (Nat.le_refl _) _).alloc (by simp) _⟩
    | true =>
      go_enter Tryd.func114, Tryd.ntmps114
      go_wp2_with (go_at_call 115; refine (cE _ (Kd.C_alloc (Kd.C_alloc H0.out _) _) (Kd.C_alloc (Kd.C_alloc H1.out _) _)).mono ?_; rintro e w1 ⟨rfl, hb1⟩; have B1 := Aside0.mk ((((Below.refl w.heap.size w).alloc (Nat.le_refl _) _).alloc (by simp) _).trans (hb1.mono (by simp; omega))); clear hb1)
      go_ret
      exact ⟨rfl, B1.out⟩

/-! ### EqualFunc -/
def sameL : List S58 → List S58 → Bool
  | x :: l, y :: m => sameB x y && sameL l m
  | _, _ => true
def sameN (l m : List S58) : Bool := decide (l.length = m.length) && sameL l m
theorem drop_rdN' (l : List S58) (k : Nat) (h : k < l.length) : l.drop k = rd_T58 l (k : Int) :: l.drop (k + 1) := by
  rw [List.drop_eq_getElem_cons h]
  congr 1
  unfold rd_T58
  simp [List.getD_eq_getElem?_getD, List.getElem?_eq_getElem h]
theorem below2' {w w1 : World} {o o' : Obj} (hb : Below ((w.alloc o).alloc o').heap.size ((w.alloc o).alloc o') w1) : Below w.heap.size w w1 :=
  (((Below.refl w.heap.size w).alloc (Nat.le_refl _) _).alloc (by simp) _).trans (hb.mono (by simp; omega))
set_option maxHeartbeats 4000000 in
theorem EqualFuncN (A : Option Addr) (c : Nat) (l : List S58) (A1 : Option Addr) (c1 : Nat) (m : List S58) (w : World) (hC : Kd.C k58 w A l.length l) (hC1 : Kd.C k58 w A1 m.length m) :
    Calls Tryd.prog 113 #[.slice A l.length c, .slice A1 m.length c1, .func (.func 114) #[] #[]] w fun e w' => e = .returned (.bool (sameN l m)) ∧ Below w.heap.size w w' := by
  have hbig : l.length ≤ 9223372036854775807 := hC.2.1
  have H0 := Lib.hid hC
  have H1 := Lib.hid hC1
  clear hC hC1
  by_cases hlen : l.length = m.length
  · have hle : (l.length : Int) = (m.length : Int) := by omega
    have HS : Hid (sameN l m = sameL l m) := Lib.hid (by unfold sameN; rw [decide_eq_true hlen, Bool.true_and])
    rw [HS.out]
    go_enter Tryd.func113, Tryd.ntmps113
    go_wp2
    have HL := Lib.hid hlen
    clear hlen hle
    go_loopg [7, 8, 9, 17] m.length (fun gg _ _ _ s17 wr => ∃ kk : Nat, kk ≤ m.length ∧ m.length - kk ≤ gg ∧ s17 = .int .i64 kk ∧ Aside0 (Below w.heap.size w wr) ∧ Aside0 (sameL l m = sameL (l.drop kk) (m.drop kk)))
    case atStart => exact ⟨0, Nat.zero_le _, by omega, rfl, ⟨Below.refl _ w⟩, ⟨by rw [List.drop_zero, List.drop_zero]⟩⟩
    case round =>
      obtain ⟨kk, hkk, hg, rfl, BW, AI⟩ := hrel
      by_cases hlt : kk < m.length
      · have hltz : (kk : Int) < (m.length : Int) := by omega
        have hltz' : (kk : Int) < (l.length : Int) := by have := HL.out; omega
        obtain ⟨ad, A2, c2, rfl, hx0, hx1, hx2, l2, g2⟩ := at_T58 (Kd.C_below H0.out BW.out) (kk : Int) (by omega) (by omega)
        obtain ⟨ad', A3, c3, rfl, hy0, hy1, hy2, l3, g3⟩ := at_T58 (Kd.C_below H1.out BW.out) (kk : Int) (by omega) (by omega)
        rw [Int.toNat_natCast] at hx0 hx1 hx2 hy0 hy1 hy2
        have hd := drop_rdN' l kk (by have := HL.out; omega)
        have hd' := drop_rdN' m kk hlt
        obtain ⟨x, hx⟩ : ∃ x, rd_T58 l (kk : Int) = x := ⟨_, rfl⟩
        obtain ⟨y, hy⟩ : ∃ y, rd_T58 m (kk : Int) = y := ⟨_, rfl⟩
        rw [hx] at hx0 hx1 hx2 hd l2 g2
        rw [hy] at hy0 hy1 hy2 hd' l3 g3
        have cS := fun V h0 h1 => sameNeed x y A2 c2 A3 c3 V h0 l2 h1 l3
        unfold needV at cS
        have HQ : Hid (sameL l m = (sameB x y && sameL (l.drop (kk + 1)) (m.drop (kk + 1)))) := Lib.hid (by rw [AI.out, hd, hd', sameL])
        replace hy0 := Lib.cell?_alloc_some (.cells #[.int .i64 x.f0, .string x.f1, .slice A2 x.f2.length c2] 58) hy0
        replace hy1 := Lib.cell?_alloc_some (.cells #[.int .i64 x.f0, .string x.f1, .slice A2 x.f2.length c2] 58) hy1
        replace hy2 := Lib.cell?_alloc_some (.cells #[.int .i64 x.f0, .string x.f1, .slice A2 x.f2.length c2] 58) hy2
        have G2 := Lib.hid g2
        have G3 := Lib.hid g3
        clear hd hd' hx hy g2 g3
        have hgE : ∀ args w, (callFunc 114 args).run Tryd.prog w = .ok (.enter 114 args) w := enters_of Tryd.func114 (by kernel_rfl) rfl
        cases hq : sameB x y with
        | true =>
          rw [hq] at cS HQ
          clear hq
          go_wp2_with (go_at_fn 114; refine (cS _ (Kd.C_alloc (Kd.C_alloc G2.out _) _) (Kd.C_alloc (Kd.C_alloc G3.out _) _)).mono ?_; rintro e w' ⟨rfl, hb'⟩; have B' := Aside0.mk (BW.out.trans ((below2' hb').mono BW.out.size)); clear hb')
          go_roundg (m.length - (kk + 1))
          case measure => omega
          case rel => exact ⟨kk + 1, by omega, by omega, by go_num, ⟨B'.out⟩, ⟨by rw [HQ.out, Bool.true_and]⟩⟩
        | false =>
          rw [hq] at cS HQ
          clear hq
          go_wp2_with (go_at_fn 114; refine (cS _ (Kd.C_alloc (Kd.C_alloc G2.out _) _) (Kd.C_alloc (Kd.C_alloc G3.out _) _)).mono ?_; rintro e w' ⟨rfl, hb'⟩; have B' := Aside0.mk (BW.out.trans ((below2' hb').mono BW.out.size)); clear hb')
          go_ret
          exact ⟨ret_bool (by rw [HQ.out, Bool.false_and]), B'.out⟩
      · have hltz : ¬ (kk : Int) < (m.length : Int) := by omega
        go_wp2
        go_ret
        refine ⟨ret_bool ?_, BW.out⟩
        rw [AI.out, List.drop_eq_nil_of_le (by have := HL.out; omega)]
        rfl
  · have hle : ¬ (l.length : Int) = (m.length : Int) := by omega
    have hle2 : ((l.length : Int) == (m.length : Int)) = false := beq_eq_false_iff_ne.2 hle
    have HS : Hid (sameN l m = false) := Lib.hid (by unfold sameN; rw [decide_eq_false hlen, Bool.false_and])
    rw [HS.out]
    clear hlen
    go_enter Tryd.func113, Tryd.ntmps113
    go_wp2
    go_ret
    exact ⟨rfl, Below.refl _ _⟩

end Go.Proofs.YtcakednecmngdaaDoor.Label
namespace Go.Proofs.YtcakednecmngdaaDoor.L
open Go Go.RowKit Go.Proofs.YtcakednecmngdaaDoor.Plain Go.Proofs.YtcakednecmngdaaDoor.P Go.Proofs.YtcakednecmngdaaDoorW.PrintWords
def api_Need_113.f (l0 l1 : List S58) : Option Bool := some (Label.sameN l0 l1)
theorem api_Need_113.calls (A0 : Option Addr) (c0 : Nat) (l0 : List S58) (A1 : Option Addr) (c1 : Nat) (l1 : List S58) (r : Bool) (w : World) (hr0 : Kd.C k58 w A0 l0.length l0) (_hc0 : l0.length ≤ c0) (hr1 : Kd.C k58 w A1 l1.length l1) (_hc1 : l1.length ≤ c1) (h : api_Need_113.f l0 l1 = some r) :
    Calls Tryd.prog 113 #[.slice A0 l0.length c0, .slice A1 l1.length c1, .func (.func 114) #[] #[]] w fun e w' => e = .returned (.bool r) ∧ Below w.heap.size w w' := by
  obtain rfl := Option.some.inj h
  exact Label.EqualFuncN A0 c0 l0 A1 c1 l1 w hr0 hr1
end Go.Proofs.YtcakednecmngdaaDoor.L
