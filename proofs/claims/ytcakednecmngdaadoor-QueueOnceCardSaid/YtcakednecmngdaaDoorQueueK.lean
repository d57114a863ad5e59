/-
  Which queues may be: what queue.Check hands back, walked.
  Conditions: a queue that is checked has whole numbers of 64 bits and texts of at most 1000000 octets.
-/
import Derived.Test.YtcakednecmngdaaDoorQueueA
import Derived.Test.YtcakednecmngdaaDoorFacts
import Derived.Maps.OwnSet
namespace Go.Proofs.YtcakednecmngdaaDoor.Queue
open Go Go.RowKit Go.Maps Go.Proofs.YtcakednecmngdaaDoor.Plain Go.Proofs.YtcakednecmngdaaDoor.Q Go.Proofs.YtcakednecmngdaaDoor.P Go.Proofs.YtcakednecmngdaaDoorW.PrintWords
set_option maxRecDepth 100000

instance : DecidableEq S37 := fun x y => decidable_of_iff (x.f0 = y.f0 ∧ x.f1 = y.f1 ∧ x.f2 = y.f2) (by
  cases x; cases y; simp)
def okB (r : S37) : Bool := (Lit.int .i64 r.f0).wf && decide (r.f1.size ≤ 1000000) && decide (r.f2.size ≤ 1000000)
theorem okB_iff {r : S37} : okB r = true ↔ (Lit.int .i64 r.f0).wf = true ∧ r.f1.size ≤ 1000000 ∧ r.f2.size ≤ 1000000 := by
  simp [okB, and_assoc]
def chk : List S37 → List S37 → Bool
  | _, [] => true
  | acc, r :: l => !decide (r ∈ acc) && mayR r && chk (acc ++ [r]) l
def checkI (l : List S37) : Int := if chk [] l = true ∧ l.length ≤ 64 then 0 else 1

/-! ### a ref as a map's key -/
def kl (r : S37) : Lit := .string (keyBytes [.int .i64 r.f0, .string r.f1.data.toList, .string r.f2.data.toList])
theorem refKeyed : Keyed Tryd.prog 37 :=
  Keyed.of_law (deep_law_laid (P := Tryd.prog) Facts.laidOut (m := 2) (by omega) (of_decide_eq_true (by kernel_rfl)) (by kernel_rfl) (by kernel_rfl))
theorem refKey {r : S37} (h : okB r = true) : keyOf Tryd.prog 37 (.agg #[.int .i64 r.f0, .string r.f1, .string r.f2]) = some (kl r) := by
  obtain ⟨h0, h1, h2⟩ := okB_iff.1 h
  have hm1 : r.f1.size ≤ maxLen := by unfold maxLen; omega
  have hm2 : r.f2.size ≤ maxLen := by unfold maxLen; omega
  have hk : Tryd.prog.keyType 37 = true := by kernel_rfl
  have hs : ∃ m, Tryd.prog.types.size = m + 1 := ⟨Tryd.prog.types.size - 1, by
    have : 0 < Tryd.prog.types.size := of_decide_eq_true (by kernel_rfl)
    omega⟩
  obtain ⟨m, hm⟩ := hs
  have c37 : Tryd.prog.cellsOf 37 = 3 := by kernel_rfl
  have c3 : Tryd.prog.cellsOf 3 = 1 := by kernel_rfl
  have c9 : Tryd.prog.cellsOf 9 = 1 := by kernel_rfl
  unfold keyOf
  rw [Tryd.underlying37]
  simp only [hk, Value.formed, Tryd.underlying37, c37, hm]
  simp [Program.keyLits, Tryd.underlying37, Tryd.underlying3, Tryd.underlying9, c37, c3, c9, h0, hm1, hm2, Value.cells, kl]
theorem kl_inj {r s : S37} (hr : okB r = true) (hs : okB s = true) (h : kl r = kl s) : r = s := by
  have h1 := refKey hr
  have h2 := refKey hs
  rw [h] at h1
  have := refKeyed.inj h1 h2
  injection this with this
  simp at this
  cases r; cases s
  simp_all
theorem kl_key {r : S37} (hr : okB r = true) : WideAt.IsKeyLit (kl r) := refKeyed.key (refKey hr)

/-- What a map of the call's own tells of refs: whether each is among some. -/
def Tells (D : DataW Unit) (acc : List S37) : Prop := IsMap D ∧ ∀ r, okB r = true → D.atKey (kl r) (.lit (.bool false)) = .lit (.bool (decide (r ∈ acc)))
theorem tells_none : Tells (.map []) [] := ⟨⟨_, rfl⟩, fun r _ => by simp [DataW.atKey]⟩
theorem tells_put {D : DataW Unit} {acc : List S37} (h : Tells D acc) {x : S37} (hx : okB x = true) : Tells (D.put (kl x) (.lit (.bool true))) (acc ++ [x]) := by
  obtain ⟨hD, h⟩ := h
  refine ⟨?_, fun r hr => ?_⟩
  · obtain ⟨es, rfl⟩ := hD
    exact ⟨_, rfl⟩
  · by_cases e : r = x
    · subst e
      rw [atKey_put_same hD (kl_key hr)]
      simp
    · rw [atKey_put_other (fun z => e (kl_inj hr hx z)), h r hr]
      simp [e]

/-- A look-up in such a map, at the operation. -/
theorem wpList_lookup_bool {P : Program} (w : World) {ops : Array Oper} {rest : List Oper} {o : Oper} {a : Act} {Q : Exit → Act → World → Prop}
    (hg : o.guard = none) (m x : Operand) (t : TypeId) (hop : o.op = Op.lookup t m x false)
    (k e : TypeId) (K : Keyed P k) (ht : P.underlying t = some (.map k e)) (he : P.underlying e = some .bool) (hz : (zeroValue e).run P w = .ok (.bool false) w) (b n : Nat) (D : DataW Unit)
    (hm : a.eval m = .map (some b)) (hown : w.ownsMap P k (plainElem P e) b n D) (key : Value) (kl : Lit) (hx : a.eval x = key) (hkey : keyOf P k key = some kl)
    (c : Bool) (hat : D.atKey kl (.lit (.bool false)) = .lit (.bool c)) (hK : wpList P ops Q rest (a.put o.dst (.bool c)) w) :
    wpList P ops Q (o :: rest) a w := by
  refine wpList_plain hg fun K' hK' => ?_
  obtain ⟨v, ps, hrun, hv⟩ := hown.lookup K ht hz (plainElem_bool he false) hkey
  rw [hat] at hv
  obtain rfl : v = .bool c := by
    unfold plainElem at hv
    rw [he] at hv
    cases v <;> simp at hv
    rw [hv.1]
  unfold Oper.wp
  simp [execOp, hop, hm, hx, hrun, Result.andThen]
  exact hK' _ _ hK

theorem box3 {W w1 : World} {x y z : Value} {t : Nat} (hb : Below (W.alloc (.cells #[x, y, z] t)).heap.size (W.alloc (.cells #[x, y, z] t)) w1) : w1.cell? ⟨W.heap.size, 0, none⟩ = some x ∧ w1.cell? ⟨W.heap.size, 1, none⟩ = some y ∧ w1.cell? ⟨W.heap.size, 2, none⟩ = some z := by
  refine ⟨(hb.cell (p := ⟨W.heap.size, 0, none⟩) (by simp)).trans ?_, (hb.cell (p := ⟨W.heap.size, 1, none⟩) (by simp)).trans ?_, (hb.cell (p := ⟨W.heap.size, 2, none⟩) (by simp)).trans ?_⟩ <;> simp [go_sem]

set_option maxHeartbeats 8000000 in
theorem Check (A : Option Addr) (c : Nat) (l : List S37) (w : World) (hC : Kd.C k37 w A l.length l) (hok : ∀ r ∈ l, okB r = true) (hl : l.length ≤ 1000000) :
    Calls Tryd.prog 42 #[.slice A l.length c] w fun e w' => e = .returned (.int .i64 (checkI l)) ∧ Below w.heap.size w w' := by
  have HC := Lib.hid hC
  have HO := Lib.hid hok
  have HR := Lib.hid (show checkI l = if chk [] l = true ∧ l.length ≤ 64 then 0 else 1 from rfl)
  clear hC hok
  have hmm := @run_makeMap Tryd.prog
  go_enter Tryd.func42, Tryd.ntmps42
  go_wp2
  go_loopg [9] l.length (fun gg s9 wr => ∃ (kk : Nat) (D : DataW Unit), kk ≤ l.length ∧ l.length - kk ≤ gg ∧ s9 = .int .i64 kk ∧ Aside0 (wr.ownsMap Tryd.prog 37 (plainElem Tryd.prog 4) w.heap.size kk D) ∧ Aside0 (Tells D (l.take kk)) ∧ Aside0 (Below w.heap.size w wr) ∧ Aside0 (chk [] l = chk (l.take kk) (l.drop kk)))
  case atStart => exact ⟨0, .map [], Nat.zero_le _, by omega, rfl, ⟨World.ownsMap_made _ _ _ _⟩, ⟨by rw [List.take_zero]; exact tells_none⟩, ⟨(Below.refl _ _).alloc (Nat.le_refl _) _⟩, ⟨by rw [List.take_zero, List.drop_zero]⟩⟩
  case round =>
    obtain ⟨kk, D, hkk, hg, rfl, HM, HT, HB, HQ⟩ := hrel
    by_cases hlt : kk < l.length
    · have hltz : (kk : Int) < (l.length : Int) := by omega
      obtain ⟨ad, rfl, hx0, hx1, hx2⟩ := at_T37 HC.out (kk : Int) (by omega) (by omega)
      replace hx0 := (HB.out.cell (World.block_lt_of_cell? w _ hx0)).trans hx0
      replace hx1 := (HB.out.cell (World.block_lt_of_cell? w _ hx1)).trans hx1
      replace hx2 := (HB.out.cell (World.block_lt_of_cell? w _ hx2)).trans hx2
      rw [Int.toNat_natCast] at hx0 hx1 hx2
      have hd := drop_rd l kk hlt
      have ht : l.take (kk + 1) = l.take kk ++ [rd_T37 l (kk : Int)] := by
        rw [List.take_succ_eq_append_getElem hlt]
        congr 2
        unfold rd_T37
        simp [List.getD_eq_getElem?_getD, List.getElem?_eq_getElem hlt]
      have hin : rd_T37 l (kk : Int) ∈ l := List.mem_of_mem_drop (i := kk) (by rw [hd]; simp)
      obtain ⟨x, hx⟩ : ∃ x, rd_T37 l (kk : Int) = x := ⟨_, rfl⟩
      rw [hx] at hx0 hx1 hx2 hd ht hin
      have hox := HO.out x hin
      have OX := Lib.hid hox
      have hkey := refKey hox
      have HD := Lib.hid hd
      have HT1 := Lib.hid ht
      have HKEY := Lib.hid hkey
      clear hd hx ht hin hox hkey
      have cM := fun V => object_MayRef.calls x.f0 x.f1 x.f2 (mayR x) V (mayR_eq x)
      cases hq : decide (x ∈ l.take kk) with
      | true =>
        have HH := Lib.hid (show D.atKey (kl x) (.lit (.bool false)) = .lit (.bool true) by rw [HT.out.2 x OX.out, hq])
        have HF : Hid (chk [] l = false) := Lib.hid (by rw [HQ.out, HD.out, chk, hq]; rfl)
        clear hq cM
        go_wp2_with (at_lookup; refine wpList_lookup_bool _ rfl _ _ 35 rfl 37 4 refKeyed Tryd.underlying35 Tryd.underlying4 (Tryd.zeroValue4 _) w.heap.size kk D rfl (HM.out.alloc _) _ (kl x) rfl HKEY.out true HH.out ?_)
        go_ret
        exact ⟨ret_i64 (by rw [HR.out, HF.out]; simp), HB.out.alloc HB.out.size _⟩
      | false =>
        have HH := Lib.hid (show D.atKey (kl x) (.lit (.bool false)) = .lit (.bool false) by rw [HT.out.2 x OX.out, hq])
        have HF : Hid (chk [] l = (mayR x && chk (l.take kk ++ [x]) (l.drop (kk + 1)))) := Lib.hid (by rw [HQ.out, HD.out, chk, hq]; simp)
        clear hq
        cases hm : mayR x with
        | false =>
          rw [hm] at cM
          have HM' : Hid (mayR x = false) := Lib.hid hm
          clear hm
          go_wp2_with (first | (at_lookup; refine wpList_lookup_bool _ rfl _ _ 35 rfl 37 4 refKeyed Tryd.underlying35 Tryd.underlying4 (Tryd.zeroValue4 _) w.heap.size kk D rfl (HM.out.alloc _) _ (kl x) rfl HKEY.out false HH.out ?_) | (go_at_call 96; refine (cM _).mono ?_; rintro e w' ⟨rfl, hb⟩))
          go_ret
          exact ⟨ret_i64 (by rw [HR.out, HF.out, HM'.out]; simp), (HB.out.alloc HB.out.size _).trans (hb.mono (by simp; have := HB.out.size; omega))⟩
        | true =>
          rw [hm] at cM
          have HM' : Hid (mayR x = true) := Lib.hid hm
          clear hm
          go_wp2_with (first | (at_lookup; refine wpList_lookup_bool _ rfl _ _ 35 rfl 37 4 refKeyed Tryd.underlying35 Tryd.underlying4 (Tryd.zeroValue4 _) w.heap.size kk D rfl (HM.out.alloc _) _ (kl x) rfl HKEY.out false HH.out ?_) | (go_at_call 96; refine (cM _).mono ?_; rintro e w' ⟨rfl, hb⟩; obtain ⟨y0, y1, y2⟩ := box3 hb; have HM2 := Aside0.mk ((HM.out.alloc _).kept (grown_of_below hb none) (by simp))) | (at_mapUpdate; refine wpList_mapUpdate_own _ rfl _ _ _ 35 rfl 37 4 refKeyed Tryd.underlying35 _ w.heap.size kk D rfl HM2.out (by unfold maxLen; omega) _ _ (kl x) rfl rfl HKEY.out (.lit (.bool true)) [] (plainElem_bool Tryd.underlying4 true) ?_; intro w1 hown1 hgrow1))
          have BB := Aside0.mk (((HB.out.alloc HB.out.size _).trans (hb.mono (by simp; have := HB.out.size; omega))).grown hgrow1 (by have := hb.size; simp at this; have := HB.out.size; omega) (fun k hk => by cases hk; exact Nat.le_refl _))
          clear cM
          go_roundg (l.length - (kk + 1))
          case measure => omega
          case rel => exact ⟨kk + 1, D.put (kl x) (.lit (.bool true)), by omega, by omega, by go_num, ⟨hown1⟩, ⟨by rw [HT1.out]; exact tells_put HT.out OX.out⟩, BB, ⟨by rw [HF.out, HM'.out, HT1.out]; rfl⟩⟩
    · have hltz : ¬ (kk : Int) < (l.length : Int) := by omega
      have HF : Hid (chk [] l = true) := Lib.hid (by rw [HQ.out, List.drop_eq_nil_of_le (by omega), chk])
      by_cases h64 : l.length ≤ 64
      · have h64z : ¬ (64 : Int) < (l.length : Int) := by omega
        go_wp2
        go_ret
        exact ⟨ret_i64 (by rw [HR.out, HF.out, if_pos ⟨rfl, h64⟩]), HB.out⟩
      · have h64z : (64 : Int) < (l.length : Int) := by omega
        go_wp2
        go_ret
        exact ⟨ret_i64 (by rw [HR.out, if_neg (fun h => h64 h.2)]), HB.out⟩

end Go.Proofs.YtcakednecmngdaaDoor.Queue
namespace Go.Proofs.YtcakednecmngdaaDoor.Q
open Go Go.RowKit Go.Proofs.YtcakednecmngdaaDoor.Plain Go.Proofs.YtcakednecmngdaaDoor.P Go.Proofs.YtcakednecmngdaaDoorW.PrintWords
def queue_Check.f (l0 : List S37) : Option Int := if l0.all Queue.okB = true ∧ l0.length ≤ 1000000 then some (Queue.checkI l0) else none
theorem queue_Check.calls (A0 : Option Addr) (c0 : Nat) (l0 : List S37) (r : Int) (w : World) (hr0 : Kd.C k37 w A0 l0.length l0) (_hc0 : l0.length ≤ c0) (h : queue_Check.f l0 = some r) :
    Calls Tryd.prog 42 #[.slice A0 l0.length c0] w fun e w' => e = .returned (.int .i64 r) ∧ Below w.heap.size w w' := by
  unfold queue_Check.f at h
  split at h
  · next hh =>
    obtain rfl := Option.some.inj h
    exact Queue.Check A0 c0 l0 w hr0 (fun r hr => List.all_eq_true.1 hh.1 r hr) hh.2
  · cases h
def api_Ref_94.f (l0 : List S37) : Option Bool := some (l0.any fun r => !Queue.mayR r)
theorem api_Ref_94.calls (A0 : Option Addr) (c0 : Nat) (l0 : List S37) (r : Bool) (w : World) (hr0 : Kd.C k37 w A0 l0.length l0) (_hc0 : l0.length ≤ c0) (h : api_Ref_94.f l0 = some r) :
    Calls Tryd.prog 94 #[.slice A0 l0.length c0, .func (.func 95) #[] #[]] w fun e w' => e = .returned (.bool r) ∧ Below w.heap.size w w' := by
  obtain rfl := Option.some.inj h
  exact Queue.ContainsFunc _ 95 #[] (enters_of Tryd.func95 (by kernel_rfl) rfl) A0 c0 l0 w (Queue.mayNot w) hr0
def api_Ref_97.f (l0 : List S37) : Option (List S37) := if l0.length ≤ 1000000 then some l0 else none
theorem api_Ref_97.calls (A0 : Option Addr) (c0 : Nat) (l0 : List S37) (r : List S37) (w : World) (hr0 : Kd.C k37 w A0 l0.length l0) (hc0 : l0.length ≤ c0) (h : api_Ref_97.f l0 = some r) :
    Calls Tryd.prog 97 #[.slice A0 l0.length c0] w fun e w' => ∃ v0_ : Value, e = .returned v0_ ∧ Kd.R k37 37 w' w.heap.size (fun _ => True) v0_ r ∧ Below w.heap.size w w' := by
  unfold api_Ref_97.f at h
  split at h
  · next hh =>
    obtain rfl := Option.some.inj h
    exact Queue.Clone A0 c0 l0 w hr0 hc0 hh
  · cases h
end Go.Proofs.YtcakednecmngdaaDoor.Q
