/-
  Whether needs may be: what label.Needs asks of each need, and slices.ContainsFunc over needs, walked.
  Conditions: none.
-/
import Derived.Test.YtcakednecmngdaaDoorLabelB
namespace Go.Proofs.YtcakednecmngdaaDoor.Label
open Go Go.RowKit Go.Proofs.YtcakednecmngdaaDoor.Plain Go.Proofs.YtcakednecmngdaaDoor.L Go.Proofs.YtcakednecmngdaaDoor.P Go.Proofs.YtcakednecmngdaaDoorW.PrintWords
set_option maxRecDepth 100000

def isNo : Ask → Bool
  | .no => true
  | _ => false
def noB (x : S58) : Bool := isNo (askOf x.f0 x.f1 x.f2)
theorem askV_none {W : World} {v : Value} {a : Ask} (h : isNo a = true) (hA : AskV W v a) : v = .nilIface := by
  cases a with
  | no => exact hA
  | there s => cases h
  | missing s => cases h
  | among s vs => cases h
  | outside s vs => cases h
theorem askV_some {W : World} {v : Value} {a : Ask} (h : isNo a = false) (hA : AskV W v a) : ∃ t u, v = .iface t u := by
  cases a with
  | no => cases h
  | there s => exact ⟨_, _, hA⟩
  | missing s => exact ⟨_, _, hA⟩
  | among s vs => obtain ⟨u, rfl, _⟩ := hA; exact ⟨_, _, rfl⟩
  | outside s vs => obtain ⟨u, rfl, _⟩ := hA; exact ⟨_, _, rfl⟩
theorem eql_no (W : World) : (binOp .eql 109 .nilIface .nilIface).run Tryd.prog W = .ok (.bool true) W := by kernel_rfl
theorem eql_some (t : Nat) (u : Value) (W : World) : (binOp .eql 109 (.iface t u) .nilIface).run Tryd.prog W = .ok (.bool false) W := by kernel_rfl
attribute [local go_sem] eql_no eql_some
set_option maxHeartbeats 2000000 in
theorem noNeed (w : World) : PredK k58 aggV 107 #[] noB w := fun W x cs _ hK => by
  obtain ⟨A2, c2, rfl, l2, g2⟩ := k58_open hK
  have cA := fun V hV => Asks x.f0 x.f1 x.f2 A2 c2 V hV l2
  simp only [AskGives] at cA
  have G := Lib.hid g2
  clear g2 hK
  show Calls Tryd.prog _ #[.agg #[.int .i64 x.f0, .string x.f1, .slice A2 x.f2.length c2]] W fun e w' => e = .returned (.bool (isNo (askOf x.f0 x.f1 x.f2))) ∧ Below W.heap.size W w'
  generalize askOf x.f0 x.f1 x.f2 = a at cA ⊢
  cases hn : isNo a with
  | true =>
    have HN := Lib.hid hn
    clear hn
    go_enter Tryd.func107, Tryd.ntmps107
    go_wp2_with (go_at_call 102; refine (cA _ (Kd.C_alloc G.out _)).mono ?_; rintro e w1 ⟨v, rfl, hA, hb1⟩; obtain rfl := askV_none HN.out hA; have B1 := Aside0.mk (((Below.refl W.heap.size W).alloc (Nat.le_refl _) _).trans (hb1.mono (by simp))); clear hb1 hA)
    go_ret
    exact ⟨rfl, B1.out⟩
  | false =>
    have HN := Lib.hid hn
    clear hn
    go_enter Tryd.func107, Tryd.ntmps107
    go_wp2_with (go_at_call 102; refine (cA _ (Kd.C_alloc G.out _)).mono ?_; rintro e w1 ⟨v, rfl, hA, hb1⟩; obtain ⟨t, u, rfl⟩ := askV_some HN.out hA; have B1 := Aside0.mk (((Below.refl W.heap.size W).alloc (Nat.le_refl _) _).trans (hb1.mono (by simp))); clear hb1 hA)
    go_ret
    exact ⟨rfl, B1.out⟩

theorem drop_rdN (l : List S58) (k : Nat) (h : k < l.length) : l.drop k = rd_T58 l (k : Int) :: l.drop (k + 1) := by
  rw [List.drop_eq_getElem_cons h]
  congr 1
  unfold rd_T58
  simp [List.getD_eq_getElem?_getD, List.getElem?_eq_getElem h]
set_option maxHeartbeats 4000000 in
theorem IndexFuncN (p : S58 → Bool) (g : Nat) (lb : Array Value) (eg : ∀ args w, (callFunc g args).run Tryd.prog w = .ok (.enter g args) w) (A : Option Addr) (c : Nat) (l : List S58) (w : World)
    (hp : PredK k58 aggV g lb p w) (hC : Kd.C k58 w A l.length l) :
    Calls Tryd.prog 135 #[.slice A l.length c, .func (.func g) #[] lb] w fun e w' => e = .returned (.int .i64 (idxFrom p l 0)) ∧ Below w.heap.size w w' := by
  have hbig : l.length ≤ 9223372036854775807 := hC.2.1
  have HC := Lib.hid hC
  have HP := Lib.hid hp
  clear hC hp
  go_enter Tryd.func135, Tryd.ntmps135
  go_wp2
  go_loopg [5, 8] l.length (fun gg _ s8 wr => ∃ kk : Nat, kk ≤ l.length ∧ l.length - kk ≤ gg ∧ s8 = .int .i64 kk ∧ Aside0 (Below w.heap.size w wr) ∧ Aside0 (idxFrom p l 0 = idxFrom p (l.drop kk) kk))
  case atStart => exact ⟨0, Nat.zero_le _, by omega, rfl, ⟨Below.refl _ w⟩, ⟨by rw [List.drop_zero]⟩⟩
  case round =>
    obtain ⟨kk, hkk, hg, rfl, BW, AI⟩ := hrel
    by_cases hlt : kk < l.length
    · have hltz : (kk : Int) < (l.length : Int) := by omega
      obtain ⟨ad, A2, c2, rfl, hx0, hx1, hx2, l2, g2⟩ := at_T58 (Kd.C_below HC.out BW.out) (kk : Int) (by omega) (by omega)
      rw [Int.toNat_natCast] at hx0 hx1 hx2
      have hd := drop_rdN l kk hlt
      obtain ⟨x, hx⟩ : ∃ x, rd_T58 l (kk : Int) = x := ⟨_, rfl⟩
      rw [hx] at hx0 hx1 hx2 hd l2 g2
      have hcall : Calls Tryd.prog g (#[.agg #[.int .i64 x.f0, .string x.f1, .slice A2 x.f2.length c2]] ++ lb) wr _ := HP.out wr x _ BW.out (k58_mk wr x l2 g2)
      have HD := Lib.hid hd
      clear hd hx g2
      have hgE := eg
      cases hq : p x with
      | true =>
        rw [hq] at hcall
        have HQ := Lib.hid hq
        clear hq
        go_wp2_with (go_at_fn g; refine hcall.mono ?_; rintro e w' ⟨rfl, hb'⟩)
        go_ret
        refine ⟨ret_i64 ?_, BW.out.trans (hb'.mono BW.out.size)⟩
        rw [AI.out, HD.out, idxFrom, HQ.out, if_pos rfl]
      | false =>
        rw [hq] at hcall
        have HQ := Lib.hid hq
        clear hq
        go_wp2_with (go_at_fn g; refine hcall.mono ?_; rintro e w' ⟨rfl, hb'⟩)
        go_roundg (l.length - (kk + 1))
        case measure => omega
        case rel => exact ⟨kk + 1, by omega, by omega, by go_num, ⟨BW.out.trans (hb'.mono BW.out.size)⟩, ⟨by rw [AI.out, HD.out, idxFrom, HQ.out, if_neg (by simp)]⟩⟩
    · have hltz : ¬ (kk : Int) < (l.length : Int) := by omega
      go_wp2
      go_ret
      refine ⟨ret_i64 ?_, BW.out⟩
      rw [AI.out, List.drop_eq_nil_of_le (by omega), idxFrom]
theorem ContainsFuncN (p : S58 → Bool) (g : Nat) (lb : Array Value) (eg : ∀ args w, (callFunc g args).run Tryd.prog w = .ok (.enter g args) w) (A : Option Addr) (c : Nat) (l : List S58) (w : World)
    (hp : PredK k58 aggV g lb p w) (hC : Kd.C k58 w A l.length l) :
    Calls Tryd.prog 106 #[.slice A l.length c, .func (.func g) #[] lb] w fun e w' => e = .returned (.bool (l.any p)) ∧ Below w.heap.size w w' := by
  have hI := IndexFuncN p g lb eg A c l w hp hC
  have HA := Lib.hid (idx_any p l 0)
  clear hC hp
  go_enter Tryd.func106, Tryd.ntmps106
  go_wp2_with (go_at_call 135; refine hI.mono ?_; rintro e w' ⟨rfl, hb⟩)
  go_ret
  exact ⟨ret_bool HA.out, hb⟩

end Go.Proofs.YtcakednecmngdaaDoor.Label
namespace Go.Proofs.YtcakednecmngdaaDoor.L
open Go Go.RowKit Go.Proofs.YtcakednecmngdaaDoor.Plain Go.Proofs.YtcakednecmngdaaDoor.P Go.Proofs.YtcakednecmngdaaDoorW.PrintWords
def api_Need_106.f (l0 : List S58) : Option Bool := some (l0.any Label.noB)
theorem api_Need_106.calls (A0 : Option Addr) (c0 : Nat) (l0 : List S58) (r : Bool) (w : World) (hr0 : Kd.C k58 w A0 l0.length l0) (_hc0 : l0.length ≤ c0) (h : api_Need_106.f l0 = some r) :
    Calls Tryd.prog 106 #[.slice A0 l0.length c0, .func (.func 107) #[] #[]] w fun e w' => e = .returned (.bool r) ∧ Below w.heap.size w w' := by
  obtain rfl := Option.some.inj h
  exact Label.ContainsFuncN _ _ _ (enters_of Tryd.func107 (by kernel_rfl) rfl) A0 c0 l0 w (Label.noNeed w) hr0
end Go.Proofs.YtcakednecmngdaaDoor.L
