/-
  The need that is met where one is not, and whether each need is met: what label.Not and label.All hand back, walked.
  Conditions: none.
-/
import Derived.Lib.SliceRun
import Derived.Test.YtcakednecmngdaaDoorLabelN
import Derived.Test.YtcakednecmngdaaDoorLabelM
import Derived.Test.YtcakednecmngdaaDoorLf59
namespace Go.Proofs.YtcakednecmngdaaDoor.Label
open Go Go.RowKit Go.Proofs.YtcakednecmngdaaDoor.Plain Go.Proofs.YtcakednecmngdaaDoor.L Go.Proofs.YtcakednecmngdaaDoor.P Go.Proofs.YtcakednecmngdaaDoorW.PrintWords
set_option maxRecDepth 100000

/-! ### texts copied -/
theorem cells_S {w : World} {ad : Addr} {l : List ByteArray} (hC : Kd.C Kd.string w (some ad) l.length l) : ∀ j u, (l.map Value.string)[j]? = some u → w.cell? (ad.add j) = some u := by
  intro j u hj
  have hlt : j < l.length := by have := (List.getElem?_eq_some_iff.1 hj).1; simpa using this
  obtain ⟨ad', e, h⟩ := at_S hC j hlt
  obtain rfl := Option.some.inj e
  rw [h, ← hj]
  unfold rdS
  simp [List.getD_eq_getElem?_getD, List.getElem?_eq_getElem hlt]
theorem clone_none (c : Nat) (w : World) :
    Calls Tryd.prog 105 #[.slice none 0 c] w fun e w' => e = .returned (.slice none 0 0) ∧ w' = w := by
  have q22 : ∀ (w : World) (n' c' : Nat), (binOp .eql 27 (.slice none 0 c) (.slice none n' c')).run Tryd.prog w = .ok (.bool true) w := fun w n' c' => Lib.run_eql_slice_nil w _ _ none 0 c n' c' Tryd.underlying27
  go_enter Tryd.func105, Tryd.ntmps105
  go_wp2
  go_ret
  exact ⟨rfl, rfl⟩
set_option maxHeartbeats 4000000 in
theorem CloneS (A : Option Addr) (c : Nat) (l : List ByteArray) (w : World) (hC : Kd.C Kd.string w A l.length l) (hc : l.length ≤ c) (hl : l.length ≤ 1000000) :
    Calls Tryd.prog 105 #[.slice A l.length c] w fun e w' => ∃ v0_ : Value, e = .returned v0_ ∧ Kd.R Kd.string 9 w' w.heap.size (fun _ => True) v0_ l ∧ Below w.heap.size w w' := by
  cases A with
  | none =>
    obtain rfl : l = [] := by
      by_cases h : 0 < l.length
      · obtain ⟨_, e, _⟩ := hC.2.2 h; cases e
      · exact List.length_eq_zero_iff.1 (by omega)
    refine (clone_none c w).mono ?_
    rintro e w' ⟨rfl, rfl⟩
    exact ⟨_, rfl, Kd.R_nil _ _ _ _ _, Below.refl _ _⟩
  | some ad =>
    have HF := Lib.hid (cells_S hC)
    have q22 : ∀ (w : World) (n' c' : Nat), (binOp .eql 27 (.slice (some ad) l.length c) (.slice none n' c')).run Tryd.prog w = .ok (.bool false) w := fun w n' c' => Lib.run_eql_slice_nil w _ _ (some ad) l.length c n' c' Tryd.underlying27
    obtain ⟨i0, hi, hz0, hz1, hz2⟩ := info_parts L.info9
    clear hC
    go_enter Tryd.func105, Tryd.ntmps105
    go_wp2_with (at_builtin; refine wpList_append_own_at _ rfl _ _ 27 rfl w.heap.size 9 i0 _ 1 16 Tryd.underlying27 hi hz0 hz1 hz2 rfl (by decide) _ _ _ rfl (World.ownsRow_made w #[] 0 (Nat.le_refl _) (Nat.zero_le _) (by simp)) ad l.length c (l.map Value.string) rfl ?c0 ?c1 ?c2 ?c3 ?c4 ?c5 ?_)
    case c0 => simp
    case c1 =>
      intro j u hj
      exact Lib.cell?_alloc_some _ (HF.out j u hj)
    case c2 =>
      intro u hu
      obtain ⟨x, _, rfl⟩ := List.mem_map.1 hu
      rfl
    case c3 => unfold maxLen; omega
    case c4 => omega
    case c5 => simp
    intro v' w4 hown' hg hnil hat
    go_wp2
    go_ret
    refine ⟨_, rfl, ⟨fun _ _ => trivial, l.map Value.string, (show w4.ownsRow w.heap.size 9 1 v' l.length (l.map Value.string) from by simpa using hown'), reps_strings _ _ _ l⟩, ?_⟩
    exact ((Below.refl _ w).alloc (Nat.le_refl _) _).grown hg (by simp) (fun k hk => by simp [Value.ownBlock] at hk; omega)

/-! ### Not -/
def notK (x : Int) : Int := if x = 1 then 2 else if x = 2 then 1 else if x = 3 then 4 else 3
def notN (x : Int) (s : ByteArray) (vs : List ByteArray) : Int × ByteArray × List ByteArray × Bool := if isNo (askOf x s vs) = true then (0, ⟨#[]⟩, [], false) else (notK x, s, vs, true)
theorem eql_no' (W : World) : (binOp .eql 109 .nilIface .nilIface).run Tryd.prog W = .ok (.bool true) W := eql_no W
theorem eql_some' (t : Nat) (u : Value) (W : World) : (binOp .eql 109 (.iface t u) .nilIface).run Tryd.prog W = .ok (.bool false) W := eql_some t u W
attribute [local go_sem] eql_no' eql_some'
def NotGives (x : Int) (s : ByteArray) (vs : List ByteArray) (A : Option Addr) (c : Nat) (w : World) (r : Int × ByteArray × List ByteArray × Bool) : Prop :=
  Calls Tryd.prog 58 #[.agg #[.int .i64 x, .string s, .slice A vs.length c]] w fun e w' => ∃ v, e = .returned (.tuple #[.agg #[.int .i64 r.1, .string r.2.1, v], .bool r.2.2.2]) ∧ Kd.R Kd.string 9 w' w.heap.size (fun _ => True) v r.2.2.1 ∧ Below w.heap.size w w'
abbrev zeroNeed : Obj := .cells #[.int .i64 0, .string ⟨#[]⟩, .slice none 0 0] 58
theorem new2 (w : World) (o o' : Obj) : ((w.alloc o).alloc o').heap[w.heap.size + 1]? = some o' := by
  have := World.alloc_heap_new (w.alloc o) o'
  rwa [show (w.alloc o).heap.size = w.heap.size + 1 by simp] at this
theorem below2 {w w1 : World} {o o' : Obj} (hb : Below ((w.alloc o).alloc o').heap.size ((w.alloc o).alloc o') w1) : Below w.heap.size w w1 :=
  (((Below.refl w.heap.size w).alloc (Nat.le_refl _) _).alloc (by simp) _).trans (hb.mono (by simp; omega))
set_option maxHeartbeats 4000000 in
theorem Not_no (x : Int) (s : ByteArray) (vs : List ByteArray) (A : Option Addr) (c : Nat) (w : World) (hC : Kd.C Kd.string w A vs.length vs) (hc : vs.length ≤ c) (hn : isNo (askOf x s vs) = true) : NotGives x s vs A c w (0, ⟨#[]⟩, [], false) := by
  have cA := fun V hV => Asks x s vs A c V hV hc
  simp only [AskGives] at cA
  have G := Lib.hid hC
  have HN := Lib.hid hn
  have HX := Lib.hid (new2 w (.cells #[.int .i64 x, .string s, .slice A vs.length c] 58) zeroNeed)
  clear hC hn
  unfold NotGives
  go_enter Tryd.func58, Tryd.ntmps58
  go_wp2_with (go_at_call 102; refine (cA _ (Kd.C_alloc (Kd.C_alloc G.out _) _)).mono ?_; rintro e w1 ⟨v, rfl, hA, hb1⟩; obtain rfl := askV_none HN.out hA; have B1 := Aside0.mk (below2 hb1); have X1 := blk_below HX.out hb1; have z0 : w1.cell? ⟨w.heap.size + 1, 0, none⟩ = some (.int .i64 0) := (blk_cell X1 0).trans rfl; have zf0 : w1.frozen? ⟨w.heap.size + 1, 0, none⟩ = false := blk_frozen X1 0; have z1 : w1.cell? ⟨w.heap.size + 1, 1, none⟩ = some (.string ⟨#[]⟩) := (blk_cell X1 1).trans rfl; have zf1 : w1.frozen? ⟨w.heap.size + 1, 1, none⟩ = false := blk_frozen X1 1; have z2 : w1.cell? ⟨w.heap.size + 1, 2, none⟩ = some (.slice none 0 0) := (blk_cell X1 2).trans rfl; have zf2 : w1.frozen? ⟨w.heap.size + 1, 2, none⟩ = false := blk_frozen X1 2; have X2 := Lib.hid X1; clear hb1 hA X1)
  exact bodyPost_ret (v := .tuple #[.agg #[.int .i64 0, .string ⟨#[]⟩, .slice none 0 0], .bool false]) (by simp [results, Tryd.results58, go_sem, z0, z1, z2]) rfl ⟨_, rfl, Kd.R_nil _ _ _ _ _, below_set (below_set (below_set B1.out (by omega)) (by omega)) (by omega)⟩
set_option maxHeartbeats 4000000 in
theorem Not_1 (s : ByteArray) (vs : List ByteArray) (A : Option Addr) (c : Nat) (w : World) (hC : Kd.C Kd.string w A vs.length vs) (hc : vs.length ≤ c) (hl : vs.length ≤ 1000000) (hn : isNo (askOf 1 s vs) = false) : NotGives 1 s vs A c w (2, s, vs, true) := by
  have cA := fun V hV => Asks 1 s vs A c V hV hc
  simp only [AskGives] at cA
  have cC := fun V hV => CloneS A c vs V hV hc hl
  have G := Lib.hid hC
  have HN := Lib.hid hn
  have HX := Lib.hid (World.alloc_heap_new w (.cells #[.int .i64 1, .string s, .slice A vs.length c] 58))
  have HZ := Lib.hid (new2 w (.cells #[.int .i64 1, .string s, .slice A vs.length c] 58) zeroNeed)
  clear hC hn
  unfold NotGives
  go_enter Tryd.func58, Tryd.ntmps58
  go_wp2_with (first | (go_at_call 102; refine (cA _ (Kd.C_alloc (Kd.C_alloc G.out _) _)).mono ?_; rintro e w1 ⟨v, rfl, hA, hb1⟩; obtain ⟨t, u, rfl⟩ := askV_some HN.out hA; have X1 := Lib.hid (blk_below (blk_alloc HX.out zeroNeed) hb1); have y0 : w1.cell? ⟨w.heap.size, 0, none⟩ = some (.int .i64 1) := (blk_cell X1.out 0).trans rfl; have yf0 : w1.frozen? ⟨w.heap.size, 0, none⟩ = false := blk_frozen X1.out 0; have y1 : w1.cell? ⟨w.heap.size, 1, none⟩ = some (.string s) := (blk_cell X1.out 1).trans rfl; have yf1 : w1.frozen? ⟨w.heap.size, 1, none⟩ = false := blk_frozen X1.out 1; have y2 : w1.cell? ⟨w.heap.size, 2, none⟩ = some (.slice A vs.length c) := (blk_cell X1.out 2).trans rfl; have yf2 : w1.frozen? ⟨w.heap.size, 2, none⟩ = false := blk_frozen X1.out 2; have ZX1 := Lib.hid (blk_below HZ.out hb1); have B1 := Aside0.mk (below2 hb1); have G1 := Lib.hid (Kd.C_below G.out B1.out); clear hb1 hA) | (go_at_call 105; refine (cC _ G1.out).mono ?_; rintro e w2 ⟨v2, rfl, hR, hb2⟩; obtain ⟨A2, c2, rfl⟩ := Kd.R_slice hR; have R2 := Lib.hid (Kd.R_lower (Kd.R_mono (Kd.R_bound hR) (ok' := fun k => (k ≠ w.heap.size + 1 ∧ k ≠ w.heap.size) ∧ k ≠ w.heap.size + 1) (fun k hk => by have h1 := blk_lt X1.out; have h2 := blk_lt ZX1.out; have h3 := hk.2.1; omega)) B1.out.size); have X2 := Lib.hid (blk_below X1.out hb2); have B2 := Aside0.mk (B1.out.trans (hb2.mono B1.out.size)); have ZX2 := Lib.hid (blk_below ZX1.out hb2); clear yf0 yf1 yf2; have u0 : w2.cell? ⟨w.heap.size, 0, none⟩ = some (.int .i64 1) := (blk_cell X2.out 0).trans rfl; have uf0 : w2.frozen? ⟨w.heap.size, 0, none⟩ = false := blk_frozen X2.out 0; have u1 : w2.cell? ⟨w.heap.size, 1, none⟩ = some (.string s) := (blk_cell X2.out 1).trans rfl; have uf1 : w2.frozen? ⟨w.heap.size, 1, none⟩ = false := blk_frozen X2.out 1; have u2 : w2.cell? ⟨w.heap.size, 2, none⟩ = some (.slice A vs.length c) := (blk_cell X2.out 2).trans rfl; have uf2 : w2.frozen? ⟨w.heap.size, 2, none⟩ = false := blk_frozen X2.out 2; have z0 : w2.cell? ⟨w.heap.size + 1, 0, none⟩ = some (.int .i64 0) := (blk_cell ZX2.out 0).trans rfl; have zf0 : w2.frozen? ⟨w.heap.size + 1, 0, none⟩ = false := blk_frozen ZX2.out 0; have z1 : w2.cell? ⟨w.heap.size + 1, 1, none⟩ = some (.string ⟨#[]⟩) := (blk_cell ZX2.out 1).trans rfl; have zf1 : w2.frozen? ⟨w.heap.size + 1, 1, none⟩ = false := blk_frozen ZX2.out 1; have z2 : w2.cell? ⟨w.heap.size + 1, 2, none⟩ = some (.slice none 0 0) := (blk_cell ZX2.out 2).trans rfl; have zf2 : w2.frozen? ⟨w.heap.size + 1, 2, none⟩ = false := blk_frozen ZX2.out 2; clear hb2 hR))
  exact bodyPost_ret (v := .tuple #[.agg #[.int .i64 2, .string s, .slice A2 vs.length c2], .bool true]) (by simp [results, Tryd.results58, go_sem, z0, z1, z2]) rfl ⟨_, rfl, Kd.R_mono (Kd.R_far (p := ⟨w.heap.size + 1, 2, none⟩) (Kd.R_far (p := ⟨w.heap.size + 1, 1, none⟩) (Kd.R_far (p := ⟨w.heap.size + 1, 0, none⟩) (Kd.R_far (p := ⟨w.heap.size, 0, none⟩) (Kd.R_far (p := ⟨w.heap.size, 2, none⟩) R2.out (fun _ hk => hk.1.2) _) (fun _ hk => hk.1.2) _) (fun _ hk => hk.2) _) (fun _ hk => hk.2) _) (fun _ hk => hk.2) _) (fun _ _ => trivial), below_set (below_set (below_set (below_set (below_set B2.out (Nat.le_refl _)) (Nat.le_refl _)) (by omega)) (by omega)) (by omega)⟩
set_option maxHeartbeats 4000000 in
theorem Not_2 (s : ByteArray) (vs : List ByteArray) (A : Option Addr) (c : Nat) (w : World) (hC : Kd.C Kd.string w A vs.length vs) (hc : vs.length ≤ c) (hl : vs.length ≤ 1000000) (hn : isNo (askOf 2 s vs) = false) : NotGives 2 s vs A c w (1, s, vs, true) := by
  have cA := fun V hV => Asks 2 s vs A c V hV hc
  simp only [AskGives] at cA
  have cC := fun V hV => CloneS A c vs V hV hc hl
  have G := Lib.hid hC
  have HN := Lib.hid hn
  have HX := Lib.hid (World.alloc_heap_new w (.cells #[.int .i64 2, .string s, .slice A vs.length c] 58))
  have HZ := Lib.hid (new2 w (.cells #[.int .i64 2, .string s, .slice A vs.length c] 58) zeroNeed)
  clear hC hn
  unfold NotGives
  go_enter Tryd.func58, Tryd.ntmps58
  go_wp2_with (first | (go_at_call 102; refine (cA _ (Kd.C_alloc (Kd.C_alloc G.out _) _)).mono ?_; rintro e w1 ⟨v, rfl, hA, hb1⟩; obtain ⟨t, u, rfl⟩ := askV_some HN.out hA; have X1 := Lib.hid (blk_below (blk_alloc HX.out zeroNeed) hb1); have y0 : w1.cell? ⟨w.heap.size, 0, none⟩ = some (.int .i64 2) := (blk_cell X1.out 0).trans rfl; have yf0 : w1.frozen? ⟨w.heap.size, 0, none⟩ = false := blk_frozen X1.out 0; have y1 : w1.cell? ⟨w.heap.size, 1, none⟩ = some (.string s) := (blk_cell X1.out 1).trans rfl; have yf1 : w1.frozen? ⟨w.heap.size, 1, none⟩ = false := blk_frozen X1.out 1; have y2 : w1.cell? ⟨w.heap.size, 2, none⟩ = some (.slice A vs.length c) := (blk_cell X1.out 2).trans rfl; have yf2 : w1.frozen? ⟨w.heap.size, 2, none⟩ = false := blk_frozen X1.out 2; have ZX1 := Lib.hid (blk_below HZ.out hb1); have B1 := Aside0.mk (below2 hb1); have G1 := Lib.hid (Kd.C_below G.out B1.out); clear hb1 hA) | (go_at_call 105; refine (cC _ G1.out).mono ?_; rintro e w2 ⟨v2, rfl, hR, hb2⟩; obtain ⟨A2, c2, rfl⟩ := Kd.R_slice hR; have R2 := Lib.hid (Kd.R_lower (Kd.R_mono (Kd.R_bound hR) (ok' := fun k => (k ≠ w.heap.size + 1 ∧ k ≠ w.heap.size) ∧ k ≠ w.heap.size + 1) (fun k hk => by have h1 := blk_lt X1.out; have h2 := blk_lt ZX1.out; have h3 := hk.2.1; omega)) B1.out.size); have X2 := Lib.hid (blk_below X1.out hb2); have B2 := Aside0.mk (B1.out.trans (hb2.mono B1.out.size)); have ZX2 := Lib.hid (blk_below ZX1.out hb2); clear yf0 yf1 yf2; have u0 : w2.cell? ⟨w.heap.size, 0, none⟩ = some (.int .i64 2) := (blk_cell X2.out 0).trans rfl; have uf0 : w2.frozen? ⟨w.heap.size, 0, none⟩ = false := blk_frozen X2.out 0; have u1 : w2.cell? ⟨w.heap.size, 1, none⟩ = some (.string s) := (blk_cell X2.out 1).trans rfl; have uf1 : w2.frozen? ⟨w.heap.size, 1, none⟩ = false := blk_frozen X2.out 1; have u2 : w2.cell? ⟨w.heap.size, 2, none⟩ = some (.slice A vs.length c) := (blk_cell X2.out 2).trans rfl; have uf2 : w2.frozen? ⟨w.heap.size, 2, none⟩ = false := blk_frozen X2.out 2; have z0 : w2.cell? ⟨w.heap.size + 1, 0, none⟩ = some (.int .i64 0) := (blk_cell ZX2.out 0).trans rfl; have zf0 : w2.frozen? ⟨w.heap.size + 1, 0, none⟩ = false := blk_frozen ZX2.out 0; have z1 : w2.cell? ⟨w.heap.size + 1, 1, none⟩ = some (.string ⟨#[]⟩) := (blk_cell ZX2.out 1).trans rfl; have zf1 : w2.frozen? ⟨w.heap.size + 1, 1, none⟩ = false := blk_frozen ZX2.out 1; have z2 : w2.cell? ⟨w.heap.size + 1, 2, none⟩ = some (.slice none 0 0) := (blk_cell ZX2.out 2).trans rfl; have zf2 : w2.frozen? ⟨w.heap.size + 1, 2, none⟩ = false := blk_frozen ZX2.out 2; clear hb2 hR))
  exact bodyPost_ret (v := .tuple #[.agg #[.int .i64 1, .string s, .slice A2 vs.length c2], .bool true]) (by simp [results, Tryd.results58, go_sem, z0, z1, z2]) rfl ⟨_, rfl, Kd.R_mono (Kd.R_far (p := ⟨w.heap.size + 1, 2, none⟩) (Kd.R_far (p := ⟨w.heap.size + 1, 1, none⟩) (Kd.R_far (p := ⟨w.heap.size + 1, 0, none⟩) (Kd.R_far (p := ⟨w.heap.size, 0, none⟩) (Kd.R_far (p := ⟨w.heap.size, 2, none⟩) R2.out (fun _ hk => hk.1.2) _) (fun _ hk => hk.1.2) _) (fun _ hk => hk.2) _) (fun _ hk => hk.2) _) (fun _ hk => hk.2) _) (fun _ _ => trivial), below_set (below_set (below_set (below_set (below_set B2.out (Nat.le_refl _)) (Nat.le_refl _)) (by omega)) (by omega)) (by omega)⟩
set_option maxHeartbeats 4000000 in
theorem Not_3 (s : ByteArray) (vs : List ByteArray) (A : Option Addr) (c : Nat) (w : World) (hC : Kd.C Kd.string w A vs.length vs) (hc : vs.length ≤ c) (hl : vs.length ≤ 1000000) (hn : isNo (askOf 3 s vs) = false) : NotGives 3 s vs A c w (4, s, vs, true) := by
  have cA := fun V hV => Asks 3 s vs A c V hV hc
  simp only [AskGives] at cA
  have cC := fun V hV => CloneS A c vs V hV hc hl
  have G := Lib.hid hC
  have HN := Lib.hid hn
  have HX := Lib.hid (World.alloc_heap_new w (.cells #[.int .i64 3, .string s, .slice A vs.length c] 58))
  have HZ := Lib.hid (new2 w (.cells #[.int .i64 3, .string s, .slice A vs.length c] 58) zeroNeed)
  clear hC hn
  unfold NotGives
  go_enter Tryd.func58, Tryd.ntmps58
  go_wp2_with (first | (go_at_call 102; refine (cA _ (Kd.C_alloc (Kd.C_alloc G.out _) _)).mono ?_; rintro e w1 ⟨v, rfl, hA, hb1⟩; obtain ⟨t, u, rfl⟩ := askV_some HN.out hA; have X1 := Lib.hid (blk_below (blk_alloc HX.out zeroNeed) hb1); have y0 : w1.cell? ⟨w.heap.size, 0, none⟩ = some (.int .i64 3) := (blk_cell X1.out 0).trans rfl; have yf0 : w1.frozen? ⟨w.heap.size, 0, none⟩ = false := blk_frozen X1.out 0; have y1 : w1.cell? ⟨w.heap.size, 1, none⟩ = some (.string s) := (blk_cell X1.out 1).trans rfl; have yf1 : w1.frozen? ⟨w.heap.size, 1, none⟩ = false := blk_frozen X1.out 1; have y2 : w1.cell? ⟨w.heap.size, 2, none⟩ = some (.slice A vs.length c) := (blk_cell X1.out 2).trans rfl; have yf2 : w1.frozen? ⟨w.heap.size, 2, none⟩ = false := blk_frozen X1.out 2; have ZX1 := Lib.hid (blk_below HZ.out hb1); have B1 := Aside0.mk (below2 hb1); have G1 := Lib.hid (Kd.C_below G.out B1.out); clear hb1 hA) | (go_at_call 105; refine (cC _ G1.out).mono ?_; rintro e w2 ⟨v2, rfl, hR, hb2⟩; obtain ⟨A2, c2, rfl⟩ := Kd.R_slice hR; have R2 := Lib.hid (Kd.R_lower (Kd.R_mono (Kd.R_bound hR) (ok' := fun k => (k ≠ w.heap.size + 1 ∧ k ≠ w.heap.size) ∧ k ≠ w.heap.size + 1) (fun k hk => by have h1 := blk_lt X1.out; have h2 := blk_lt ZX1.out; have h3 := hk.2.1; omega)) B1.out.size); have X2 := Lib.hid (blk_below X1.out hb2); have B2 := Aside0.mk (B1.out.trans (hb2.mono B1.out.size)); have ZX2 := Lib.hid (blk_below ZX1.out hb2); clear yf0 yf1 yf2; have u0 : w2.cell? ⟨w.heap.size, 0, none⟩ = some (.int .i64 3) := (blk_cell X2.out 0).trans rfl; have uf0 : w2.frozen? ⟨w.heap.size, 0, none⟩ = false := blk_frozen X2.out 0; have u1 : w2.cell? ⟨w.heap.size, 1, none⟩ = some (.string s) := (blk_cell X2.out 1).trans rfl; have uf1 : w2.frozen? ⟨w.heap.size, 1, none⟩ = false := blk_frozen X2.out 1; have u2 : w2.cell? ⟨w.heap.size, 2, none⟩ = some (.slice A vs.length c) := (blk_cell X2.out 2).trans rfl; have uf2 : w2.frozen? ⟨w.heap.size, 2, none⟩ = false := blk_frozen X2.out 2; have z0 : w2.cell? ⟨w.heap.size + 1, 0, none⟩ = some (.int .i64 0) := (blk_cell ZX2.out 0).trans rfl; have zf0 : w2.frozen? ⟨w.heap.size + 1, 0, none⟩ = false := blk_frozen ZX2.out 0; have z1 : w2.cell? ⟨w.heap.size + 1, 1, none⟩ = some (.string ⟨#[]⟩) := (blk_cell ZX2.out 1).trans rfl; have zf1 : w2.frozen? ⟨w.heap.size + 1, 1, none⟩ = false := blk_frozen ZX2.out 1; have z2 : w2.cell? ⟨w.heap.size + 1, 2, none⟩ = some (.slice none 0 0) := (blk_cell ZX2.out 2).trans rfl; have zf2 : w2.frozen? ⟨w.heap.size + 1, 2, none⟩ = false := blk_frozen ZX2.out 2; clear hb2 hR))
  exact bodyPost_ret (v := .tuple #[.agg #[.int .i64 4, .string s, .slice A2 vs.length c2], .bool true]) (by simp [results, Tryd.results58, go_sem, z0, z1, z2]) rfl ⟨_, rfl, Kd.R_mono (Kd.R_far (p := ⟨w.heap.size + 1, 2, none⟩) (Kd.R_far (p := ⟨w.heap.size + 1, 1, none⟩) (Kd.R_far (p := ⟨w.heap.size + 1, 0, none⟩) (Kd.R_far (p := ⟨w.heap.size, 0, none⟩) (Kd.R_far (p := ⟨w.heap.size, 2, none⟩) R2.out (fun _ hk => hk.1.2) _) (fun _ hk => hk.1.2) _) (fun _ hk => hk.2) _) (fun _ hk => hk.2) _) (fun _ hk => hk.2) _) (fun _ _ => trivial), below_set (below_set (below_set (below_set (below_set B2.out (Nat.le_refl _)) (Nat.le_refl _)) (by omega)) (by omega)) (by omega)⟩
set_option maxHeartbeats 4000000 in
theorem Not_4 (s : ByteArray) (vs : List ByteArray) (A : Option Addr) (c : Nat) (w : World) (hC : Kd.C Kd.string w A vs.length vs) (hc : vs.length ≤ c) (hl : vs.length ≤ 1000000) (hn : isNo (askOf 4 s vs) = false) : NotGives 4 s vs A c w (3, s, vs, true) := by
  have cA := fun V hV => Asks 4 s vs A c V hV hc
  simp only [AskGives] at cA
  have cC := fun V hV => CloneS A c vs V hV hc hl
  have G := Lib.hid hC
  have HN := Lib.hid hn
  have HX := Lib.hid (World.alloc_heap_new w (.cells #[.int .i64 4, .string s, .slice A vs.length c] 58))
  have HZ := Lib.hid (new2 w (.cells #[.int .i64 4, .string s, .slice A vs.length c] 58) zeroNeed)
  clear hC hn
  unfold NotGives
  go_enter Tryd.func58, Tryd.ntmps58
  go_wp2_with (first | (go_at_call 102; refine (cA _ (Kd.C_alloc (Kd.C_alloc G.out _) _)).mono ?_; rintro e w1 ⟨v, rfl, hA, hb1⟩; obtain ⟨t, u, rfl⟩ := askV_some HN.out hA; have X1 := Lib.hid (blk_below (blk_alloc HX.out zeroNeed) hb1); have y0 : w1.cell? ⟨w.heap.size, 0, none⟩ = some (.int .i64 4) := (blk_cell X1.out 0).trans rfl; have yf0 : w1.frozen? ⟨w.heap.size, 0, none⟩ = false := blk_frozen X1.out 0; have y1 : w1.cell? ⟨w.heap.size, 1, none⟩ = some (.string s) := (blk_cell X1.out 1).trans rfl; have yf1 : w1.frozen? ⟨w.heap.size, 1, none⟩ = false := blk_frozen X1.out 1; have y2 : w1.cell? ⟨w.heap.size, 2, none⟩ = some (.slice A vs.length c) := (blk_cell X1.out 2).trans rfl; have yf2 : w1.frozen? ⟨w.heap.size, 2, none⟩ = false := blk_frozen X1.out 2; have ZX1 := Lib.hid (blk_below HZ.out hb1); have B1 := Aside0.mk (below2 hb1); have G1 := Lib.hid (Kd.C_below G.out B1.out); clear hb1 hA) | (go_at_call 105; refine (cC _ G1.out).mono ?_; rintro e w2 ⟨v2, rfl, hR, hb2⟩; obtain ⟨A2, c2, rfl⟩ := Kd.R_slice hR; have R2 := Lib.hid (Kd.R_lower (Kd.R_mono (Kd.R_bound hR) (ok' := fun k => (k ≠ w.heap.size + 1 ∧ k ≠ w.heap.size) ∧ k ≠ w.heap.size + 1) (fun k hk => by have h1 := blk_lt X1.out; have h2 := blk_lt ZX1.out; have h3 := hk.2.1; omega)) B1.out.size); have X2 := Lib.hid (blk_below X1.out hb2); have B2 := Aside0.mk (B1.out.trans (hb2.mono B1.out.size)); have ZX2 := Lib.hid (blk_below ZX1.out hb2); clear yf0 yf1 yf2; have u0 : w2.cell? ⟨w.heap.size, 0, none⟩ = some (.int .i64 4) := (blk_cell X2.out 0).trans rfl; have uf0 : w2.frozen? ⟨w.heap.size, 0, none⟩ = false := blk_frozen X2.out 0; have u1 : w2.cell? ⟨w.heap.size, 1, none⟩ = some (.string s) := (blk_cell X2.out 1).trans rfl; have uf1 : w2.frozen? ⟨w.heap.size, 1, none⟩ = false := blk_frozen X2.out 1; have u2 : w2.cell? ⟨w.heap.size, 2, none⟩ = some (.slice A vs.length c) := (blk_cell X2.out 2).trans rfl; have uf2 : w2.frozen? ⟨w.heap.size, 2, none⟩ = false := blk_frozen X2.out 2; have z0 : w2.cell? ⟨w.heap.size + 1, 0, none⟩ = some (.int .i64 0) := (blk_cell ZX2.out 0).trans rfl; have zf0 : w2.frozen? ⟨w.heap.size + 1, 0, none⟩ = false := blk_frozen ZX2.out 0; have z1 : w2.cell? ⟨w.heap.size + 1, 1, none⟩ = some (.string ⟨#[]⟩) := (blk_cell ZX2.out 1).trans rfl; have zf1 : w2.frozen? ⟨w.heap.size + 1, 1, none⟩ = false := blk_frozen ZX2.out 1; have z2 : w2.cell? ⟨w.heap.size + 1, 2, none⟩ = some (.slice none 0 0) := (blk_cell ZX2.out 2).trans rfl; have zf2 : w2.frozen? ⟨w.heap.size + 1, 2, none⟩ = false := blk_frozen ZX2.out 2; clear hb2 hR))
  exact bodyPost_ret (v := .tuple #[.agg #[.int .i64 3, .string s, .slice A2 vs.length c2], .bool true]) (by simp [results, Tryd.results58, go_sem, z0, z1, z2]) rfl ⟨_, rfl, Kd.R_mono (Kd.R_far (p := ⟨w.heap.size + 1, 2, none⟩) (Kd.R_far (p := ⟨w.heap.size + 1, 1, none⟩) (Kd.R_far (p := ⟨w.heap.size + 1, 0, none⟩) (Kd.R_far (p := ⟨w.heap.size, 0, none⟩) (Kd.R_far (p := ⟨w.heap.size, 2, none⟩) R2.out (fun _ hk => hk.1.2) _) (fun _ hk => hk.1.2) _) (fun _ hk => hk.2) _) (fun _ hk => hk.2) _) (fun _ hk => hk.2) _) (fun _ _ => trivial), below_set (below_set (below_set (below_set (below_set B2.out (Nat.le_refl _)) (Nat.le_refl _)) (by omega)) (by omega)) (by omega)⟩

theorem not_few {x : Int} {s : ByteArray} {vs : List ByteArray} (h : isNo (askOf x s vs) = false) : (x = 1 ∨ x = 2 ∨ x = 3 ∨ x = 4) ∧ vs.length ≤ 8 := by
  have hf : fewVals vs = true → vs.length ≤ 8 := fun h => by
    unfold fewVals at h
    rw [Bool.and_eq_true, Bool.and_eq_true] at h
    exact of_decide_eq_true h.1.2
  unfold askOf at h
  split at h
  · split at h
    · next q => exact ⟨.inl q.1, hf q.2⟩
    · split at h
      · next q => exact ⟨.inr (.inl q.1), hf q.2⟩
      · split at h
        · next q => exact ⟨.inr (.inr (.inl q.1)), by omega⟩
        · split at h
          · next q => exact ⟨.inr (.inr (.inr q.1)), by omega⟩
          · cases h
  · cases h
theorem Not (x : Int) (s : ByteArray) (vs : List ByteArray) (A : Option Addr) (c : Nat) (w : World) (hC : Kd.C Kd.string w A vs.length vs) (hc : vs.length ≤ c) : NotGives x s vs A c w (notN x s vs) := by
  unfold notN
  cases hn : isNo (askOf x s vs) with
  | true => rw [if_pos rfl]; exact Not_no x s vs A c w hC hc hn
  | false =>
    rw [if_neg (by simp)]
    obtain ⟨hx, hl⟩ := not_few hn
    rcases hx with rfl | rfl | rfl | rfl
    · exact Not_1 s vs A c w hC hc (by omega) hn
    · exact Not_2 s vs A c w hC hc (by omega) hn
    · exact Not_3 s vs A c w hC hc (by omega) hn
    · exact Not_4 s vs A c w hC hc (by omega) hn

/-! ### All -/
def needsB (l : List S58) : Bool := decide (l.length ≤ 8) && !(l.any noB)
theorem needs_eq (l : List S58) : label_Needs.f l = some (needsB l) := by
  unfold label_Needs.f needsB api_Need_106.f
  by_cases h : l.length ≤ 8
  · rw [if_pos (by omega), decide_eq_true h, Option.bind_some, Bool.true_and]
  · rw [if_neg (by omega), decide_eq_false h, Bool.false_and]
def metS (l : List S55) (x : S58) : Bool := metN x.f0 x.f1 x.f2 l
def allB (l0 : List S58) (l1 : List S55) : Bool := needsB l0 && (mayL l1 && !(l0.any fun x => !metS l1 x))
set_option maxHeartbeats 4000000 in
theorem notMet (B : Nat) (A : Option Addr) (c : Nat) (l : List S55) (w : World) (hB : w.heap[B]? = some (.cells #[.slice A l.length c] 51 (0, 0))) (hC : Kd.C k55 w A l.length l) (hc : l.length ≤ c) : PredK k58 aggV 108 #[.pointer (some ⟨B, 0, none⟩)] (fun x => !metS l x) w := fun W x cs hb hK => by
  obtain ⟨A2, c2, rfl, l2, g2⟩ := k58_open hK
  have c0 : W.cell? ⟨B, 0, none⟩ = some (.slice A l.length c) := (blk_cell ((hb.block B (blk_lt hB)).trans hB) 0).trans rfl
  have hlt : B < W.heap.size := by have := blk_lt hB; have := hb.size; omega
  have CC := Lib.hid (Kd.C_below hC hb)
  have cM := fun V hV hW => Met x.f0 x.f1 A2 c2 x.f2 A c l V hV l2 hW hc g2.2.1 hC.2.1
  have G := Lib.hid g2
  clear g2 hK hB hC
  show Calls Tryd.prog _ #[.agg #[.int .i64 x.f0, .string x.f1, .slice A2 x.f2.length c2], .pointer (some ⟨B, 0, none⟩)] W fun e w' => e = .returned (.bool (!metN x.f0 x.f1 x.f2 l)) ∧ Below W.heap.size W w'
  generalize metN x.f0 x.f1 x.f2 l = b at cM ⊢
  go_enter Tryd.func108, Tryd.ntmps108
  go_wp2_with (go_at_call 54; refine (cM _ (Kd.C_alloc G.out _) (Kd.C_alloc CC.out _)).mono ?_; rintro e w1 ⟨rfl, hb1⟩; have B1 := Aside0.mk (((Below.refl W.heap.size W).alloc (Nat.le_refl _) _).trans (hb1.mono (by simp))); clear hb1)
  go_ret
  exact ⟨rfl, B1.out⟩
theorem below1 {w w1 : World} {o : Obj} (hb : Below (w.alloc o).heap.size (w.alloc o) w1) : Below w.heap.size w w1 :=
  ((Below.refl w.heap.size w).alloc (Nat.le_refl _) _).trans (hb.mono (by simp))
set_option maxHeartbeats 4000000 in
theorem All (A0 : Option Addr) (c0 : Nat) (l0 : List S58) (A1 : Option Addr) (c1 : Nat) (l1 : List S55) (w : World) (hC0 : Kd.C k58 w A0 l0.length l0) (hc0 : l0.length ≤ c0) (hC1 : Kd.C k55 w A1 l1.length l1) (hc1 : l1.length ≤ c1) :
    Calls Tryd.prog 61 #[.slice A0 l0.length c0, .slice A1 l1.length c1] w fun e w' => e = .returned (.bool (allB l0 l1)) ∧ Below w.heap.size w w' := by
  have cN := fun V hV => label_Needs.calls A0 c0 l0 _ V hV hc0 (needs_eq l0)
  have cM := fun V hV => May A1 c1 l1 V hV hc1 hC1.2.1
  have cF := fun lb V hp hV => ContainsFuncN (fun x => !metS l1 x) 108 lb (enters_of Tryd.func108 (by kernel_rfl) rfl) A0 c0 l0 V hp hV
  have nM := Lib.hid (fun B V hB hV => notMet B A1 c1 l1 V hB hV hc1)
  have H0 := Lib.hid hC0
  have H1 := Lib.hid hC1
  have HX := Lib.hid (World.alloc_heap_new w (.cells #[.slice A1 l1.length c1] 51))
  clear hC0 hC1
  cases hn : needsB l0 with
  | false =>
    rw [hn] at cN
    have HF : Hid (allB l0 l1 = false) := Lib.hid (by unfold allB; rw [hn, Bool.false_and])
    rw [HF.out]
    clear hn
    go_enter Tryd.func61, Tryd.ntmps61
    go_wp2_with (go_at_call 59; refine (cN _ (Kd.C_alloc H0.out _)).mono ?_; rintro e w1 ⟨rfl, hb1⟩; have B1 := Aside0.mk (below1 hb1); clear hb1)
    go_ret
    exact ⟨rfl, B1.out⟩
  | true =>
    rw [hn] at cN
    cases hm : mayL l1 with
    | false =>
      rw [hm] at cM
      have HF : Hid (allB l0 l1 = false) := Lib.hid (by unfold allB; rw [hn, hm, Bool.true_and, Bool.false_and])
      rw [HF.out]
      clear hn hm
      go_enter Tryd.func61, Tryd.ntmps61
      go_wp2_with (first | (go_at_call 59; refine (cN _ (Kd.C_alloc H0.out _)).mono ?_; rintro e w1 ⟨rfl, hb1⟩; have X1 := Lib.hid (blk_below HX.out hb1); have y0 : w1.cell? ⟨w.heap.size, 0, none⟩ = some (.slice A1 l1.length c1) := (blk_cell X1.out 0).trans rfl; have B1 := Aside0.mk (below1 hb1); have K1 := Lib.hid (Kd.C_below H1.out B1.out); clear hb1) | (go_at_call 52; refine (cM _ K1.out).mono ?_; rintro e w2 ⟨rfl, hb2⟩; have B2 := Aside0.mk (B1.out.trans (hb2.mono B1.out.size)); clear hb2))
      go_ret
      exact ⟨rfl, B2.out⟩
    | true =>
      rw [hm] at cM
      have HF : Hid (allB l0 l1 = !(l0.any fun x => !metS l1 x)) := Lib.hid (by unfold allB; rw [hn, hm, Bool.true_and, Bool.true_and])
      rw [HF.out]
      clear hn hm
      generalize (l0.any fun x => !metS l1 x) = b at cF ⊢
      go_enter Tryd.func61, Tryd.ntmps61
      go_wp2_with (first | (go_at_call 59; refine (cN _ (Kd.C_alloc H0.out _)).mono ?_; rintro e w1 ⟨rfl, hb1⟩; have X1 := Lib.hid (blk_below HX.out hb1); have y0 : w1.cell? ⟨w.heap.size, 0, none⟩ = some (.slice A1 l1.length c1) := (blk_cell X1.out 0).trans rfl; have B1 := Aside0.mk (below1 hb1); have K1 := Lib.hid (Kd.C_below H1.out B1.out); clear hb1) | (go_at_call 52; refine (cM _ K1.out).mono ?_; rintro e w2 ⟨rfl, hb2⟩; have X2 := Lib.hid (blk_below X1.out hb2); have B2 := Aside0.mk (B1.out.trans (hb2.mono B1.out.size)); clear hb2) | (go_at_call 106; refine (cF _ _ (nM.out _ _ X2.out (Kd.C_below H1.out B2.out)) (Kd.C_below H0.out B2.out)).mono ?_; rintro e w3 ⟨rfl, hb3⟩; have B3 := Aside0.mk (B2.out.trans (hb3.mono B2.out.size)); clear hb3))
      go_ret
      exact ⟨rfl, B3.out⟩

end Go.Proofs.YtcakednecmngdaaDoor.Label
namespace Go.Proofs.YtcakednecmngdaaDoor.L
open Go Go.RowKit Go.Proofs.YtcakednecmngdaaDoor.Plain Go.Proofs.YtcakednecmngdaaDoor.P Go.Proofs.YtcakednecmngdaaDoorW.PrintWords
def label_Not.f (x : Int) (s : ByteArray) (vs : List ByteArray) : Option (Int × ByteArray × List ByteArray × Bool) := some (Label.notN x s vs)
theorem label_Not.calls (a0 : Int) (a1 : ByteArray) (A2 : Option Addr) (c2 : Nat) (l2 : List ByteArray) (r1 : Int) (r2 : ByteArray) (r3 : List ByteArray) (r4 : Bool) (w : World) (hr : Kd.C Kd.string w A2 l2.length l2) (hc : l2.length ≤ c2) (h : label_Not.f a0 a1 l2 = some (r1, r2, r3, r4)) :
    Calls Tryd.prog 58 #[.agg #[.int .i64 a0, .string a1, .slice A2 l2.length c2]] w fun e w' => ∃ v, e = .returned (.tuple #[.agg #[.int .i64 r1, .string r2, v], .bool r4]) ∧ Kd.R Kd.string 9 w' w.heap.size (fun _ => True) v r3 ∧ Below w.heap.size w w' := by
  have := Label.Not a0 a1 l2 A2 c2 w hr hc
  rw [Option.some.inj h] at this
  exact this
def label_All.f (l0 : List S58) (l1 : List S55) : Option Bool := some (Label.allB l0 l1)
theorem label_All.calls (A0 : Option Addr) (c0 : Nat) (l0 : List S58) (A1 : Option Addr) (c1 : Nat) (l1 : List S55) (r : Bool) (w : World) (hr0 : Kd.C k58 w A0 l0.length l0) (hc0 : l0.length ≤ c0) (hr1 : Kd.C k55 w A1 l1.length l1) (hc1 : l1.length ≤ c1) (h : label_All.f l0 l1 = some r) :
    Calls Tryd.prog 61 #[.slice A0 l0.length c0, .slice A1 l1.length c1] w fun e w' => e = .returned (.bool r) ∧ Below w.heap.size w w' := by
  obtain rfl := Option.some.inj h
  exact Label.All A0 c0 l0 A1 c1 l1 w hr0 hc0 hr1 hc1
end Go.Proofs.YtcakednecmngdaaDoor.L
