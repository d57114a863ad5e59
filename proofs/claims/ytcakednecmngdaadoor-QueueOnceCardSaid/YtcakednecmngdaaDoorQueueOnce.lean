/-
  QueueOnce: what is added is there, once; whatever is taken, one after the other, each ref comes once, and then there is none.
  Conditions: refs whose kinds are whole numbers of 64 bits.
-/
import Derived.Test.YtcakednecmngdaaDoorQueuePure
import Derived.Test.YtcakednecmngdaaDoorQf41
set_option linter.unusedVariables false
set_option linter.unusedSimpArgs false
namespace Go.Proofs.YtcakednecmngdaaDoor.QueuePure
open Go Go.RowKit Go.Maps Go.Proofs.YtcakednecmngdaaDoor.Q Go.Proofs.YtcakednecmngdaaDoor.P Go.Proofs.YtcakednecmngdaaDoorW.PrintWords Go.Proofs.YtcakednecmngdaaDoor.Plain Go.Proofs.YtcakednecmngdaaDoor.DnsPure Go.Proofs.YtcakednecmngdaaDoor.Queue
theorem once_shape : ∀ (l q : List S37), ∃ t, addL q l = q ++ t ∧ (∀ y ∈ t, y ∈ l ∧ y ∉ q) ∧ (∀ y ∈ l, y ∈ q ++ t) ∧ t.Nodup
  | [], q => ⟨[], by simp [addL], by simp, by simp, List.nodup_nil⟩
  | r :: l, q => by
    by_cases h : r ∈ q
    · obtain ⟨t, h1, h2, h3, h4⟩ := once_shape l q
      refine ⟨t, by rw [addL, if_pos h, h1], fun y hy => ⟨List.mem_cons_of_mem _ (h2 y hy).1, (h2 y hy).2⟩, fun y hy => ?_, h4⟩
      rcases List.mem_cons.1 hy with rfl | hy
      · exact List.mem_append_left _ h
      · exact h3 y hy
    · obtain ⟨t, h1, h2, h3, h4⟩ := once_shape l (q ++ [r])
      refine ⟨r :: t, by rw [addL, if_neg h, h1]; simp, fun y hy => ?_, fun y hy => ?_, ?_⟩
      · rcases List.mem_cons.1 hy with rfl | hy
        · exact ⟨by simp, h⟩
        · exact ⟨List.mem_cons_of_mem _ (h2 y hy).1, fun hq => (h2 y hy).2 (List.mem_append_left _ hq)⟩
      · rcases List.mem_cons.1 hy with rfl | hy
        · simp
        · have := h3 y hy
          simpa using this
      · rw [List.nodup_cons]
        exact ⟨fun hr => (h2 r hr).2 (by simp), h4⟩
theorem tells_del {D : DataW Unit} {acc acc' : List S37} (h : Tells D acc) {x : S37} (hx : okB x = true) (ha : ∀ r, r ∈ acc' ↔ r ∈ acc ∧ r ≠ x) : Tells (D.put (kl x) (.lit (.bool false))) acc' := by
  obtain ⟨hD, h⟩ := h
  refine ⟨?_, fun r hr => ?_⟩
  · obtain ⟨es, rfl⟩ := hD
    exact ⟨_, rfl⟩
  · by_cases e : r = x
    · subst e
      rw [atKey_put_same hD (kl_key hr), decide_eq_false (fun z => ((ha r).1 z).2 rfl)]
    · rw [atKey_put_other (fun z => e (kl_inj hr hx z)), h r hr]
      congr 3
      simp [ha, e]
theorem not_in_take {q : List S37} (hn : q.Nodup) {k : Nat} (hk : k < q.length) : q[k] ∉ q.take k := fun h => by
  obtain ⟨i, hi, e⟩ := List.getElem_of_mem h
  rw [List.getElem_take] at e
  have h1 := (List.getElem_inj hn).1 e
  rw [List.length_take] at hi
  omega
theorem erase_mem {q : List S37} (hn : q.Nodup) {p : Nat} (hp : p < q.length) (r : S37) : r ∈ q.eraseIdx p ↔ r ∈ q ∧ r ≠ q[p] := by
  constructor
  · intro h
    refine ⟨List.mem_of_mem_eraseIdx h, fun e => ?_⟩
    obtain ⟨i, hi, hne, e2⟩ := List.mem_eraseIdx_iff_getElem.1 h
    exact hne ((List.getElem_inj hn).1 (e2.trans e))
  · rintro ⟨h1, h2⟩
    obtain ⟨i, hi, e⟩ := List.getElem_of_mem h1
    exact List.mem_eraseIdx_iff_getElem.2 ⟨i, hi, fun z => h2 (by subst z; exact e.symm), e⟩
theorem may_erase {q : List S37} (h : MayQ q) (p : Nat) : MayQ (q.eraseIdx p) :=
  ⟨fun r hr => h.1 r (List.mem_of_mem_eraseIdx hr), h.2.1.eraseIdx p, Nat.le_trans (by rw [List.length_eraseIdx]; split <;> omega) h.2.2⟩
theorem C_none (W : World) : Kd.C k37 W none 0 [] := ⟨rfl, by omega, fun h => by omega⟩
theorem take_some {q : List S37} (hm : MayQ q) (hok : ∀ r ∈ q, okB r = true) (k : Int) (hn : 0 < q.length) : queue_Take.f q k = some ((rd_T37 q (placeI k q.length)).f0, (rd_T37 q (placeI k q.length)).f1, (rd_T37 q (placeI k q.length)).f2, q.eraseIdx (placeI k q.length), 0) := by
  rw [take_eq q k (List.all_eq_true.2 hok) (by have := hm.2.2; omega)]
  unfold takeR
  rw [if_pos (check_iff.2 hm), if_neg (by omega)]
theorem take_none (k : Int) : queue_Take.f [] k = some (0, ⟨#[]⟩, ⟨#[]⟩, [], 3) := by
  rw [take_eq [] k rfl (by simp)]
  unfold takeR
  rw [if_pos (check_iff.2 ⟨(fun r hr => by cases hr), List.nodup_nil, by simp⟩)]
  rfl

set_option maxRecDepth 100000
set_option maxHeartbeats 40000000 in
theorem Once_ok (A0 : Option Addr) (c0 : Nat) (l0 : List S37) (A1 : Option Addr) (c1 : Nat) (l1 : List Int) (w : World) (hr0 : Kd.C k37 w A0 l0.length l0) (hc0 : l0.length ≤ c0) (hr1 : Kd.C (Kd.int .i64) w A1 l1.length l1)
    (fq Q : List S37) (kF : Nat) (hF : tolllaw19_Few.f kF l0 = some fq) (kA : Nat) (hA : queue_Add.f kA [] fq = some (Q, 0)) (hQ : MayQ Q) (hok : ∀ r ∈ Q, okB r = true) (hfq : fq.length ≤ 70) (hin : ∀ r ∈ fq, r ∈ Q) :
    Calls Tryd.prog 6 #[.slice A0 l0.length c0, .slice A1 l1.length c1] w fun e w' => e = .returned (.bool true) ∧ Below w.heap.size w w' := by
  have cF : ∀ V, Kd.C k37 V A0 l0.length l0 → Calls Tryd.prog 38 #[.slice A0 l0.length c0] V fun e w' => ∃ v0_ : Value, e = .returned (v0_) ∧ Kd.R k37 37 w' V.heap.size (fun _ => True) v0_ fq ∧ Below V.heap.size V w' := fun V hV => tolllaw19_Few.calls kF A0 c0 l0 fq V hV hc0 hF
  have cA : ∀ A c V, Kd.C k37 V A fq.length fq → fq.length ≤ c → Calls Tryd.prog 37 #[.slice none 0 0, .slice A fq.length c] V fun e w' => ∃ v0_ : Value, e = .returned (.tuple #[v0_, .int .i64 0]) ∧ Kd.R k37 37 w' V.heap.size (fun _ => True) v0_ Q ∧ Below V.heap.size V w' := fun A c V hC hc => queue_Add.calls kA none 0 [] A c fq Q 0 V (C_none V) (Nat.le_refl _) hC hc hA
  obtain ⟨kW, hW⟩ := QueuePure.awake
  have cW := fun V => tolllaw19_awake.calls kW true V (hW kW (Nat.le_refl _))
  have cT0 : ∀ A c V, Kd.C k37 V A 0 [] → Calls Tryd.prog 40 #[.slice A 0 c, .int .i64 0] V fun e w' => ∃ v3_ : Value, e = .returned (.tuple #[.agg #[.int .i64 0, .string ⟨#[]⟩, .string ⟨#[]⟩], v3_, .int .i64 3]) ∧ Kd.R k37 37 w' V.heap.size (fun _ => True) v3_ [] ∧ Below V.heap.size V w' := fun A c V hC => queue_Take.calls A c [] 0 0 ⟨#[]⟩ ⟨#[]⟩ [] 3 V hC (Nat.zero_le _) (take_none 0)
  have H0 := Lib.hid hr0
  have H1 := Lib.hid hr1
  have HF := Lib.hid hok
  have HQ := Lib.hid hQ
  have HI := Lib.hid hin
  have hq64 := hQ.2.2
  clear hr0 hr1 hF hA hok hQ hin hW
  have hmm := @run_makeMap Tryd.prog
  go_enter Tryd.func6, Tryd.ntmps6
  go_wp2_with (first
    | (go_at_call 38; refine (cF _ H0.out).mono ?_; rintro e w1 ⟨v1, rfl, hR1, hb1⟩; obtain ⟨A2, c2, rfl⟩ := Kd.R_slice hR1; have D1 := Aside0.mk (Kd.R_reads' hR1); have B1 := Aside0.mk hb1; clear hR1 hb1)
    | (go_at_call 37; refine (cA _ _ _ D1.out.2.2 D1.out.2.1).mono ?_; rintro e w2 ⟨v2, rfl, hR2, hb2⟩; obtain ⟨A3, c3, rfl⟩ := Kd.R_slice hR2; have R2 := Aside0.mk (Kd.R_lower (Kd.R_mono (Kd.R_bound hR2) (ok' := fun k => k ≠ w2.heap.size) (fun k hk => Nat.ne_of_lt hk.2.2.1)) B1.out.size); have B2 := Aside0.mk (B1.out.trans (hb2.mono B1.out.size)); clear hR2 hb2))
  have HW := Aside0.mk B2.out.size
  go_loopg [8] Q.length (fun gg s8 wr => ∃ (kk : Nat) (D : DataW Unit), kk ≤ Q.length ∧ Q.length - kk ≤ gg ∧ s8 = .int .i64 kk ∧ Aside0 (wr.ownsMap Tryd.prog 37 (plainElem Tryd.prog 4) w2.heap.size kk D) ∧ Aside0 (Tells D (Q.take kk)) ∧ Aside0 (Below w2.heap.size w2 wr))
  case atStart => exact ⟨0, .map [], Nat.zero_le _, by omega, rfl, ⟨World.ownsMap_made _ _ _ _⟩, ⟨by rw [List.take_zero]; exact tells_none⟩, ⟨(Below.refl _ _).alloc (Nat.le_refl _) _⟩⟩
  case round =>
    obtain ⟨kk, D, hkk, hg, rfl, HM, HT, HB⟩ := hrel
    by_cases hlt : kk < Q.length
    · have hltz : (kk : Int) < (Q.length : Int) := by omega
      obtain ⟨ad, eA, hx0, hx1, hx2⟩ := at_T37 (Kd.C_below (Kd.R_reads' R2.out).2.2 HB.out) (kk : Int) (by omega) (by omega)
      subst eA
      rw [Int.toNat_natCast] at hx0 hx1 hx2
      obtain ⟨x, hx⟩ : ∃ x, rd_T37 Q (kk : Int) = x := ⟨_, rfl⟩
      rw [hx] at hx0 hx1 hx2
      have hxq : Q[kk] = x := by rw [← hx, rd37 Q kk hlt]
      have OX := Lib.hid (HF.out x (by rw [← hxq]; exact List.getElem_mem hlt))
      have HKEY := Lib.hid (refKey OX.out)
      have HH := Lib.hid (show D.atKey (kl x) (.lit (.bool false)) = .lit (.bool false) by rw [HT.out.2 x OX.out, decide_eq_false (by rw [← hxq]; exact not_in_take HQ.out.2.1 hlt)])
      have HT1 := Lib.hid (show Q.take (kk + 1) = Q.take kk ++ [x] by rw [List.take_succ_eq_append_getElem hlt, hxq])
      clear hx hxq
      go_wp2_with (first | (at_lookup; (try (refine gate_guard (by rfl) ?_; dsimp only)); refine wpList_lookup_bool _ rfl _ _ 35 rfl 37 4 refKeyed Tryd.underlying35 Tryd.underlying4 (Tryd.zeroValue4 _) w2.heap.size kk D rfl HM.out _ (kl x) rfl HKEY.out false HH.out ?_) | (at_mapUpdate; refine wpList_mapUpdate_own _ rfl _ _ _ 35 rfl 37 4 refKeyed Tryd.underlying35 _ w2.heap.size kk D rfl HM.out (by unfold maxLen; omega) _ _ (kl x) rfl rfl HKEY.out (.lit (.bool true)) [] (plainElem_bool Tryd.underlying4 true) ?_; intro w9 hown hgrow))
      have BB := Aside0.mk (HB.out.grown hgrow HB.out.size (fun k hk => by cases hk; exact Nat.le_refl _))
      go_roundg (Q.length - (kk + 1))
      case measure => omega
      case rel => exact ⟨kk + 1, D.put (kl x) (.lit (.bool true)), by omega, by omega, by go_num, ⟨hown⟩, ⟨by rw [HT1.out]; exact tells_put HT.out OX.out⟩, BB⟩
    · have hltz : ¬ (kk : Int) < (Q.length : Int) := by omega
      obtain rfl : kk = Q.length := by omega
      have TQ : Aside0 (Tells D Q) := ⟨by have := HT.out; rwa [List.take_length] at this⟩
      clear HT
      go_wp2_with (go_at_call 38; refine (cF _ (Kd.C_below H0.out (B2.out.trans (HB.out.mono B2.out.size)))).mono ?_; rintro e w3 ⟨v3, rfl, hR3, hb3⟩; obtain ⟨A4, c4, rfl⟩ := Kd.R_slice hR3; have D3 := Aside0.mk (Kd.R_reads' hR3); have M3 := Aside0.mk (HM.out.kept (grown_of_below hb3 none) (by simp)); have B3 := Aside0.mk ((B2.out.trans (HB.out.mono B2.out.size)).trans (hb3.mono (Nat.le_trans B2.out.size HB.out.size))); have R3 := Aside0.mk (Kd.R_below (Kd.R_below R2.out HB.out) hb3); clear hR3 hb3)
      clear HM HB
      go_loopg [9] fq.length (fun gg s9 wr => ∃ jj : Nat, jj ≤ fq.length ∧ fq.length - jj ≤ gg ∧ s9 = .int .i64 jj ∧ Aside0 (Below w3.heap.size w3 wr))
      case atStart => exact ⟨0, Nat.zero_le _, by omega, rfl, ⟨Below.refl _ _⟩⟩
      case round =>
        obtain ⟨jj, hjj, hg, rfl, HB⟩ := hrel
        by_cases hlt : jj < fq.length
        · have hltz : (jj : Int) < (fq.length : Int) := by omega
          obtain ⟨ad, eA, hx0, hx1, hx2⟩ := at_T37 (Kd.C_below D3.out.2.2 HB.out) (jj : Int) (by omega) (by omega)
          subst eA
          rw [Int.toNat_natCast] at hx0 hx1 hx2
          obtain ⟨x, hx⟩ : ∃ x, rd_T37 fq (jj : Int) = x := ⟨_, rfl⟩
          rw [hx] at hx0 hx1 hx2
          have hxq : x ∈ Q := HI.out x (by rw [← hx, rd37 fq jj hlt]; exact List.getElem_mem hlt)
          have OX := Lib.hid (HF.out x hxq)
          have HKEY := Lib.hid (refKey OX.out)
          have HH := Lib.hid (show D.atKey (kl x) (.lit (.bool false)) = .lit (.bool true) by rw [TQ.out.2 x OX.out, decide_eq_true hxq])
          have M4 := Aside0.mk (M3.out.kept (grown_of_below HB.out none) (by simp))
          clear hx hxq
          go_wp2_with (at_lookup; (try (refine gate_guard (by rfl) ?_; dsimp only)); refine wpList_lookup_bool _ rfl _ _ 35 rfl 37 4 refKeyed Tryd.underlying35 Tryd.underlying4 (Tryd.zeroValue4 _) w2.heap.size Q.length D rfl M4.out _ (kl x) rfl HKEY.out true HH.out ?_)
          go_roundg (fq.length - (jj + 1))
          case measure => omega
          case rel => exact ⟨jj + 1, by omega, by omega, by go_num, HB⟩
        · have hltz : ¬ (jj : Int) < (fq.length : Int) := by omega
          go_wp2
          have M4 := Aside0.mk (M3.out.kept (grown_of_below HB.out none) (by simp))
          have B4 := Aside0.mk (B3.out.trans (HB.out.mono B3.out.size))
          have R4 := Aside0.mk (Kd.R_below R3.out HB.out)
          clear HB M3 B3 R3
          go_loopg [5, 11, 12, 13, 14, 15] Q.length (fun gg s5 s11 _ _ _ _ wr => ∃ (i : Nat) (q : List S37) (D : DataW Unit) (A : Option Addr) (c : Nat), i ≤ Q.length ∧ Q.length - i ≤ gg ∧ s11 = .int .i64 i ∧ s5 = .slice A q.length c ∧ q.length + i = Q.length ∧ Aside0 (q.length ≤ c) ∧ Aside0 (MayQ q ∧ ∀ r ∈ q, okB r = true) ∧ Aside0 (wr.ownsMap Tryd.prog 37 (plainElem Tryd.prog 4) w2.heap.size (Q.length + i) D) ∧ Aside0 (Tells D q) ∧ Aside0 (Below w.heap.size w wr) ∧ Aside0 (Kd.R k37 37 wr w.heap.size (fun k => k ≠ w2.heap.size) (.slice A q.length c) q))
          case atStart => exact ⟨0, Q, D, A3, c3, Nat.zero_le _, by omega, rfl, rfl, rfl, ⟨(Kd.R_reads' R4.out).2.1⟩, ⟨HQ.out, HF.out⟩, M4, TQ, B4, R4⟩
          case round =>
            obtain ⟨i, q, D, A, c, hi, hg, rfl, rfl, hqi, HC, HQQ, HM, HT, HB, HR⟩ := hrel
            by_cases hlt : i < Q.length
            · have hltz : (i : Int) < (Q.length : Int) := by omega
              have hqn : 0 < q.length := by omega
              obtain ⟨kv, hk1, hk2⟩ : ∃ kv : Int, (i < l1.length → rd l1 (i : Int) = kv) ∧ (¬ i < l1.length → kv = (i : Int)) := by
                by_cases h : i < l1.length
                · exact ⟨_, fun _ => rfl, fun z => absurd h z⟩
                · exact ⟨i, fun z => absurd z h, fun _ => rfl⟩
              obtain ⟨p, hp⟩ : ∃ p, placeI kv q.length = p := ⟨_, rfl⟩
              have hpl : p < q.length := by rw [← hp]; exact place_lt hqn
              have hT := take_some HQQ.out.1 HQQ.out.2 kv hqn
              rw [hp] at hT
              obtain ⟨x, hx⟩ : ∃ x, rd_T37 q (p : Int) = x := ⟨_, rfl⟩
              have hxq : q[p] = x := by rw [← hx, rd37 q p hpl]
              rw [hx] at hT
              have HMEM := Lib.hid (show ∀ r, r ∈ q.eraseIdx p ↔ r ∈ q ∧ r ≠ x by rw [← hxq]; exact erase_mem HQQ.out.1.2.1 hpl)
              have HREST : Aside0 (MayQ (q.eraseIdx p) ∧ ∀ r ∈ q.eraseIdx p, okB r = true) := ⟨may_erase HQQ.out.1 p, fun r hr => HQQ.out.2 r (List.mem_of_mem_eraseIdx hr)⟩
              have hlen : (q.eraseIdx p).length = q.length - 1 := by rw [List.length_eraseIdx, if_pos hpl]
              generalize q.eraseIdx p = rest at hT HMEM HREST hlen
              have hxin : x ∈ q := by rw [← hxq]; exact List.getElem_mem hpl
              have OX := Lib.hid (HQQ.out.2 x hxin)
              have HKEY := Lib.hid (refKey OX.out)
              have HH := Lib.hid (show D.atKey (kl x) (.lit (.bool false)) = .lit (.bool true) by rw [HT.out.2 x OX.out, decide_eq_true hxin])
              have cT : ∀ V, Kd.C k37 V A q.length q → Calls Tryd.prog 40 #[.slice A q.length c, .int .i64 kv] V fun e w' => ∃ v3_ : Value, e = .returned (.tuple #[.agg #[.int .i64 x.f0, .string x.f1, .string x.f2], v3_, .int .i64 0]) ∧ Kd.R k37 37 w' V.heap.size (fun _ => True) v3_ rest ∧ Below V.heap.size V w' := fun V hC => queue_Take.calls A c q kv x.f0 x.f1 x.f2 rest 0 V hC HC.out hT
              obtain ⟨kH, hH⟩ := Has rest (by have := HREST.out.1.2.2; omega) x.f0 x.f1 x.f2
              have hH2 := hH kH (Nat.le_refl _)
              rw [eta37, decide_eq_false (fun z => ((HMEM.out x).1 z).2 rfl)] at hH2
              have cH : ∀ A c V, Kd.C k37 V A rest.length rest → rest.length ≤ c → Calls Tryd.prog 41 #[.slice A rest.length c, .agg #[.int .i64 x.f0, .string x.f1, .string x.f2]] V fun e w' => e = .returned (.bool false) ∧ Below V.heap.size V w' := fun A c V hC hc => queue_Has.calls kH A c rest x.f0 x.f1 x.f2 false V hC hc hH2
              have hw1 : wrap64 ((q.length : Int) - 1) = (rest.length : Int) := by rw [wrap_in (by omega) (by omega)]; omega
              have hw2 : ((rest.length : Int) != (q.length : Int) - 1) = false := bne_eq_false_iff_eq.2 (by omega)
              have HLEN := Lib.hid hlen
              clear hlen
              clear hT hH hH2 hx hxq hp hpl hxin
              by_cases hpi : i < l1.length
              · have hpz : (i : Int) < (l1.length : Int) := by omega
                obtain ⟨ad1, eA1, hxp⟩ := Kd.at_int (Kd.C_below H1.out HB.out) (i : Int) (by omega) hpz
                subst eA1
                rw [Int.toNat_natCast, hk1 hpi] at hxp
                clear hk1 hk2
                go_wp2_with (first
                        | (go_at_call 40; refine (cT _ (Kd.R_reads' HR.out).2.2).mono ?_; rintro e w5 ⟨v5, rfl, hR5, hb5⟩; obtain ⟨A5, c5, rfl⟩ := Kd.R_slice hR5; have M5 := Aside0.mk (HM.out.kept (grown_of_below hb5 none) (by simp)); have R5 := Aside0.mk (Kd.R_lower (Kd.R_mono (Kd.R_bound hR5) (ok' := fun k => k ≠ w2.heap.size) (fun k hk => by have h1 := hk.2.1; have h2 := HM.out.lt; omega)) HB.out.size); have B5 := Aside0.mk (HB.out.trans (hb5.mono HB.out.size)); clear hR5 hb5)
                        | ((with_reducible refine gate_dst (N := 13) rfl ?_); refine box_event ?hg (N := 13) ?hd (cs := #[.int .i64 0, .string (⟨#[]⟩ : ByteArray), .string (⟨#[]⟩ : ByteArray)]) (t := 37) ?hr ?_; (case hd => rfl); (case hg => rfl); (case hr => first | (go_simp; done) | (go_simp; rfl)); intro g hg6 w6 hbox hb6; have X6 := Lib.hid hbox; have G6 := Aside0.mk hg6; have B6 := Aside0.mk hb6; clear hbox hb6 hg6; have hcz0 : w6.cell? ⟨g, 0, none⟩ = some (.int .i64 0) := (blk_cell X6.out 0).trans rfl; have hcz1 : w6.cell? ⟨g, 1, none⟩ = some (.string (⟨#[]⟩ : ByteArray)) := (blk_cell X6.out 1).trans rfl; have hcz2 : w6.cell? ⟨g, 2, none⟩ = some (.string (⟨#[]⟩ : ByteArray)) := (blk_cell X6.out 2).trans rfl; have hfz0 := blk_frozen X6.out 0; have hfz1 := blk_frozen X6.out 1; have hfz2 := blk_frozen X6.out 2)
                        | ((with_reducible refine gate_store (t := 37) (p := 13) rfl ?_); refine store_event (t := 37) (p := 13) (v := ?vo1) (w1 := ((w6.setCell ⟨g, 0, none⟩ (.int .i64 x.f0)).setCell ⟨g, 1, none⟩ (.string x.f1)).setCell ⟨g, 2, none⟩ (.string x.f2)) ?hg ?ho ?hn ?hr ?_; (case ho => rfl); (case hg => rfl); (case hn => rfl); (case hr => first | (go_simp; done) | (go_simp; rfl)); intro w7 hw7; have W7 := Lib.hid hw7; clear hw7 hcz0 hcz1 hcz2 hfz0 hfz1 hfz2; have X7 : Hid (w7.heap[g]? = some (.cells #[.int .i64 x.f0, .string x.f1, .string x.f2] 37 (0, 0))) := Lib.hid (by rw [W7.out]; exact blk_put (cs := #[.int .i64 x.f0, .string x.f1, .string (⟨#[]⟩ : ByteArray)]) (blk_put (cs := #[.int .i64 x.f0, .string (⟨#[]⟩ : ByteArray), .string (⟨#[]⟩ : ByteArray)]) (blk_put (cs := #[.int .i64 0, .string (⟨#[]⟩ : ByteArray), .string (⟨#[]⟩ : ByteArray)]) X6.out 0 _ rfl) 1 _ rfl) 2 _ rfl); have S7 : Aside0 (Below w5.heap.size w5 w7) := ⟨by rw [W7.out]; exact below_set (below_set (below_set B6.out (Nat.le_of_eq G6.out.symm)) (Nat.le_of_eq G6.out.symm)) (Nat.le_of_eq G6.out.symm)⟩; have M7 := Aside0.mk (M5.out.kept (grown_of_below S7.out none) (by simp)); have R7 := Aside0.mk (Kd.R_below R5.out S7.out); have B7 := Aside0.mk (B5.out.trans (S7.out.mono B5.out.size)); have y0 : w7.cell? ⟨g, 0, none⟩ = some (.int .i64 x.f0) := (blk_cell X7.out 0).trans rfl; have y1 : w7.cell? ⟨g, 1, none⟩ = some (.string x.f1) := (blk_cell X7.out 1).trans rfl; have y2 : w7.cell? ⟨g, 2, none⟩ = some (.string x.f2) := (blk_cell X7.out 2).trans rfl)
                        | (at_lookup; (try (refine gate_guard (by rfl) ?_; dsimp only)); refine wpList_lookup_bool _ rfl _ _ 35 rfl 37 4 refKeyed Tryd.underlying35 Tryd.underlying4 (Tryd.zeroValue4 _) w2.heap.size (Q.length + i) D rfl M7.out _ (kl x) rfl HKEY.out true HH.out ?_)
                        | (go_at_call 41; refine (cH _ _ _ (Kd.R_reads' R7.out).2.2 (Kd.R_reads' R7.out).2.1).mono ?_; rintro e w8 ⟨rfl, hb8⟩; have X8 := Lib.hid (blk_below X7.out hb8); have M8 := Aside0.mk (M7.out.kept (grown_of_below hb8 none) (by simp)); have R8 := Aside0.mk (Kd.R_below R7.out hb8); have B8 := Aside0.mk (B7.out.trans (hb8.mono B7.out.size)); clear hb8; clear y0 y1 y2; have y0 : w8.cell? ⟨g, 0, none⟩ = some (.int .i64 x.f0) := (blk_cell X8.out 0).trans rfl; have y1 : w8.cell? ⟨g, 1, none⟩ = some (.string x.f1) := (blk_cell X8.out 1).trans rfl; have y2 : w8.cell? ⟨g, 2, none⟩ = some (.string x.f2) := (blk_cell X8.out 2).trans rfl)
                        | (at_mapUpdate; refine wpList_mapUpdate_own _ rfl _ _ _ 35 rfl 37 4 refKeyed Tryd.underlying35 _ w2.heap.size (Q.length + i) D rfl M8.out (by unfold maxLen; omega) _ _ (kl x) rfl rfl HKEY.out (.lit (.bool false)) [] (plainElem_bool Tryd.underlying4 false) ?_; intro w9 hown hgrow))
                have BB := Aside0.mk (B8.out.grown hgrow B8.out.size (fun k hk => by cases hk; exact HW.out))
                have RB := Aside0.mk (Kd.R_grown R8.out hgrow (fun k hk e => hk (Option.some.inj e)))
                go_roundg (Q.length - (i + 1))
                case measure => omega
                case rel => exact ⟨i + 1, rest, D.put (kl x) (.lit (.bool false)), A5, c5, by omega, by omega, by go_num, rfl, by have := HLEN.out; omega, ⟨(Kd.R_reads' RB.out).2.1⟩, HREST, ⟨hown⟩, ⟨tells_del HT.out OX.out HMEM.out⟩, BB, RB⟩
              · have hpz : ¬ (i : Int) < (l1.length : Int) := by omega
                obtain rfl := hk2 hpi
                clear hk1 hk2
                go_wp2_with (first
                        | (go_at_call 40; refine (cT _ (Kd.R_reads' HR.out).2.2).mono ?_; rintro e w5 ⟨v5, rfl, hR5, hb5⟩; obtain ⟨A5, c5, rfl⟩ := Kd.R_slice hR5; have M5 := Aside0.mk (HM.out.kept (grown_of_below hb5 none) (by simp)); have R5 := Aside0.mk (Kd.R_lower (Kd.R_mono (Kd.R_bound hR5) (ok' := fun k => k ≠ w2.heap.size) (fun k hk => by have h1 := hk.2.1; have h2 := HM.out.lt; omega)) HB.out.size); have B5 := Aside0.mk (HB.out.trans (hb5.mono HB.out.size)); clear hR5 hb5)
                        | ((with_reducible refine gate_dst (N := 13) rfl ?_); refine box_event ?hg (N := 13) ?hd (cs := #[.int .i64 0, .string (⟨#[]⟩ : ByteArray), .string (⟨#[]⟩ : ByteArray)]) (t := 37) ?hr ?_; (case hd => rfl); (case hg => rfl); (case hr => first | (go_simp; done) | (go_simp; rfl)); intro g hg6 w6 hbox hb6; have X6 := Lib.hid hbox; have G6 := Aside0.mk hg6; have B6 := Aside0.mk hb6; clear hbox hb6 hg6; have hcz0 : w6.cell? ⟨g, 0, none⟩ = some (.int .i64 0) := (blk_cell X6.out 0).trans rfl; have hcz1 : w6.cell? ⟨g, 1, none⟩ = some (.string (⟨#[]⟩ : ByteArray)) := (blk_cell X6.out 1).trans rfl; have hcz2 : w6.cell? ⟨g, 2, none⟩ = some (.string (⟨#[]⟩ : ByteArray)) := (blk_cell X6.out 2).trans rfl; have hfz0 := blk_frozen X6.out 0; have hfz1 := blk_frozen X6.out 1; have hfz2 := blk_frozen X6.out 2)
                        | ((with_reducible refine gate_store (t := 37) (p := 13) rfl ?_); refine store_event (t := 37) (p := 13) (v := ?vo2) (w1 := ((w6.setCell ⟨g, 0, none⟩ (.int .i64 x.f0)).setCell ⟨g, 1, none⟩ (.string x.f1)).setCell ⟨g, 2, none⟩ (.string x.f2)) ?hg ?ho ?hn ?hr ?_; (case ho => rfl); (case hg => rfl); (case hn => rfl); (case hr => first | (go_simp; done) | (go_simp; rfl)); intro w7 hw7; have W7 := Lib.hid hw7; clear hw7 hcz0 hcz1 hcz2 hfz0 hfz1 hfz2; have X7 : Hid (w7.heap[g]? = some (.cells #[.int .i64 x.f0, .string x.f1, .string x.f2] 37 (0, 0))) := Lib.hid (by rw [W7.out]; exact blk_put (cs := #[.int .i64 x.f0, .string x.f1, .string (⟨#[]⟩ : ByteArray)]) (blk_put (cs := #[.int .i64 x.f0, .string (⟨#[]⟩ : ByteArray), .string (⟨#[]⟩ : ByteArray)]) (blk_put (cs := #[.int .i64 0, .string (⟨#[]⟩ : ByteArray), .string (⟨#[]⟩ : ByteArray)]) X6.out 0 _ rfl) 1 _ rfl) 2 _ rfl); have S7 : Aside0 (Below w5.heap.size w5 w7) := ⟨by rw [W7.out]; exact below_set (below_set (below_set B6.out (Nat.le_of_eq G6.out.symm)) (Nat.le_of_eq G6.out.symm)) (Nat.le_of_eq G6.out.symm)⟩; have M7 := Aside0.mk (M5.out.kept (grown_of_below S7.out none) (by simp)); have R7 := Aside0.mk (Kd.R_below R5.out S7.out); have B7 := Aside0.mk (B5.out.trans (S7.out.mono B5.out.size)); have y0 : w7.cell? ⟨g, 0, none⟩ = some (.int .i64 x.f0) := (blk_cell X7.out 0).trans rfl; have y1 : w7.cell? ⟨g, 1, none⟩ = some (.string x.f1) := (blk_cell X7.out 1).trans rfl; have y2 : w7.cell? ⟨g, 2, none⟩ = some (.string x.f2) := (blk_cell X7.out 2).trans rfl)
                        | (at_lookup; (try (refine gate_guard (by rfl) ?_; dsimp only)); refine wpList_lookup_bool _ rfl _ _ 35 rfl 37 4 refKeyed Tryd.underlying35 Tryd.underlying4 (Tryd.zeroValue4 _) w2.heap.size (Q.length + i) D rfl M7.out _ (kl x) rfl HKEY.out true HH.out ?_)
                        | (go_at_call 41; refine (cH _ _ _ (Kd.R_reads' R7.out).2.2 (Kd.R_reads' R7.out).2.1).mono ?_; rintro e w8 ⟨rfl, hb8⟩; have X8 := Lib.hid (blk_below X7.out hb8); have M8 := Aside0.mk (M7.out.kept (grown_of_below hb8 none) (by simp)); have R8 := Aside0.mk (Kd.R_below R7.out hb8); have B8 := Aside0.mk (B7.out.trans (hb8.mono B7.out.size)); clear hb8; clear y0 y1 y2; have y0 : w8.cell? ⟨g, 0, none⟩ = some (.int .i64 x.f0) := (blk_cell X8.out 0).trans rfl; have y1 : w8.cell? ⟨g, 1, none⟩ = some (.string x.f1) := (blk_cell X8.out 1).trans rfl; have y2 : w8.cell? ⟨g, 2, none⟩ = some (.string x.f2) := (blk_cell X8.out 2).trans rfl)
                        | (at_mapUpdate; refine wpList_mapUpdate_own _ rfl _ _ _ 35 rfl 37 4 refKeyed Tryd.underlying35 _ w2.heap.size (Q.length + i) D rfl M8.out (by unfold maxLen; omega) _ _ (kl x) rfl rfl HKEY.out (.lit (.bool false)) [] (plainElem_bool Tryd.underlying4 false) ?_; intro w9 hown hgrow))
                have BB := Aside0.mk (B8.out.grown hgrow B8.out.size (fun k hk => by cases hk; exact HW.out))
                have RB := Aside0.mk (Kd.R_grown R8.out hgrow (fun k hk e => hk (Option.some.inj e)))
                go_roundg (Q.length - (i + 1))
                case measure => omega
                case rel => exact ⟨i + 1, rest, D.put (kl x) (.lit (.bool false)), A5, c5, by omega, by omega, by go_num, rfl, by have := HLEN.out; omega, ⟨(Kd.R_reads' RB.out).2.1⟩, HREST, ⟨hown⟩, ⟨tells_del HT.out OX.out HMEM.out⟩, BB, RB⟩
            · have hltz : ¬ (i : Int) < (Q.length : Int) := by omega
              obtain rfl : q = [] := List.length_eq_zero_iff.1 (by omega)
              go_wp2_with (first
                | (go_at_call 40; refine (cT0 _ _ _ (Kd.R_reads' HR.out).2.2).mono ?_; rintro e w5 ⟨v5, rfl, hR5, hb5⟩; obtain ⟨A5, c5, rfl⟩ := Kd.R_slice hR5; have B5 := Aside0.mk (HB.out.trans (hb5.mono HB.out.size)); clear hR5 hb5)
                | ((with_reducible refine gate_dst (N := 16) rfl ?_); refine box_event ?hg (N := 16) ?hd (cs := #[.int .i64 0, .string (⟨#[]⟩ : ByteArray), .string (⟨#[]⟩ : ByteArray)]) (t := 37) ?hr ?_; (case hd => rfl); (case hg => rfl); (case hr => first | (go_simp; done) | (go_simp; rfl)); intro g hg6 w6 hbox hb6; have X6 := Lib.hid hbox; have G6 := Aside0.mk hg6; have B6 := Aside0.mk hb6; clear hbox hb6 hg6; have hcz0 : w6.cell? ⟨g, 0, none⟩ = some (.int .i64 0) := (blk_cell X6.out 0).trans rfl; have hcz1 : w6.cell? ⟨g, 1, none⟩ = some (.string (⟨#[]⟩ : ByteArray)) := (blk_cell X6.out 1).trans rfl; have hcz2 : w6.cell? ⟨g, 2, none⟩ = some (.string (⟨#[]⟩ : ByteArray)) := (blk_cell X6.out 2).trans rfl; have hfz0 := blk_frozen X6.out 0; have hfz1 := blk_frozen X6.out 1; have hfz2 := blk_frozen X6.out 2)
                | ((with_reducible refine gate_store (t := 37) (p := 16) rfl ?_); refine store_event (t := 37) (p := 16) (v := ?vo3) (w1 := ((w6.setCell ⟨g, 0, none⟩ (.int .i64 0)).setCell ⟨g, 1, none⟩ (.string (⟨#[]⟩ : ByteArray))).setCell ⟨g, 2, none⟩ (.string (⟨#[]⟩ : ByteArray))) ?hg ?ho ?hn ?hr ?_; (case ho => rfl); (case hg => rfl); (case hn => rfl); (case hr => first | (go_simp; done) | (go_simp; rfl)); intro w7 hw7; have W7 := Lib.hid hw7; clear hw7 hcz0 hcz1 hcz2 hfz0 hfz1 hfz2; have S7 : Aside0 (Below w5.heap.size w5 w7) := ⟨by rw [W7.out]; exact below_set (below_set (below_set B6.out (Nat.le_of_eq G6.out.symm)) (Nat.le_of_eq G6.out.symm)) (Nat.le_of_eq G6.out.symm)⟩; have B7 := Aside0.mk (B5.out.trans (S7.out.mono B5.out.size)))
                | (go_at_call 39; refine (cW _).mono ?_; rintro e w8 ⟨rfl, hb8⟩; have B8 := Aside0.mk (B7.out.trans (hb8.mono B7.out.size)); clear hb8))
              go_ret
              exact ⟨rfl, B8.out⟩
set_option maxHeartbeats 8000000 in
theorem Once_no (e : Int) (he : e = 1 ∨ e = 5) (A0 : Option Addr) (c0 : Nat) (l0 : List S37) (A1 : Option Addr) (c1 : Nat) (l1 : List Int) (w : World) (hr0 : Kd.C k37 w A0 l0.length l0) (hc0 : l0.length ≤ c0)
    (fq : List S37) (kF : Nat) (hF : tolllaw19_Few.f kF l0 = some fq) (kA : Nat) (hA : queue_Add.f kA [] fq = some ([], e)) :
    Calls Tryd.prog 6 #[.slice A0 l0.length c0, .slice A1 l1.length c1] w fun e w' => e = .returned (.bool true) ∧ Below w.heap.size w w' := by
  have cF : ∀ V, Kd.C k37 V A0 l0.length l0 → Calls Tryd.prog 38 #[.slice A0 l0.length c0] V fun e w' => ∃ v0_ : Value, e = .returned (v0_) ∧ Kd.R k37 37 w' V.heap.size (fun _ => True) v0_ fq ∧ Below V.heap.size V w' := fun V hV => tolllaw19_Few.calls kF A0 c0 l0 fq V hV hc0 hF
  have cA : ∀ A c V, Kd.C k37 V A fq.length fq → fq.length ≤ c → Calls Tryd.prog 37 #[.slice none 0 0, .slice A fq.length c] V fun r w' => ∃ v0_ : Value, r = .returned (.tuple #[v0_, .int .i64 e]) ∧ Kd.R k37 37 w' V.heap.size (fun _ => True) v0_ [] ∧ Below V.heap.size V w' := fun A c V hC hc => queue_Add.calls kA none 0 [] A c fq [] e V (C_none V) (Nat.le_refl _) hC hc hA
  obtain ⟨kW, hW⟩ := QueuePure.awake
  have cW := fun V => tolllaw19_awake.calls kW true V (hW kW (Nat.le_refl _))
  have H0 := Lib.hid hr0
  clear hr0 hF hA hW
  rcases he with rfl | rfl
  all_goals
    go_enter Tryd.func6, Tryd.ntmps6
    go_wp2_with (first
      | (go_at_call 38; refine (cF _ H0.out).mono ?_; rintro e w1 ⟨v1, rfl, hR1, hb1⟩; obtain ⟨A2, c2, rfl⟩ := Kd.R_slice hR1; have D1 := Aside0.mk (Kd.R_reads' hR1); have B1 := Aside0.mk hb1; clear hR1 hb1)
      | (go_at_call 37; refine (cA _ _ _ D1.out.2.2 D1.out.2.1).mono ?_; rintro e w2 ⟨v2, rfl, hR2, hb2⟩; obtain ⟨A3, c3, rfl⟩ := Kd.R_slice hR2; have B2 := Aside0.mk (B1.out.trans (hb2.mono B1.out.size)); clear hR2 hb2)
      | (go_at_call 39; refine (cW _).mono ?_; rintro e w8 ⟨rfl, hb8⟩; have B8 := Aside0.mk (B2.out.trans (hb8.mono B2.out.size)); clear hb8))
    go_ret
    exact ⟨rfl, B8.out⟩
theorem QueueOnce_walk (A0 : Option Addr) (c0 : Nat) (l0 : List S37) (A1 : Option Addr) (c1 : Nat) (l1 : List Int) (w : World) (hr0 : Kd.C k37 w A0 l0.length l0) (hc0 : l0.length ≤ c0) (hs0 : ∀ r ∈ l0, (Lit.int .i64 r.f0).wf = true) (hr1 : Kd.C (Kd.int .i64) w A1 l1.length l1) (_hc1 : l1.length ≤ c1) :
    Calls Tryd.prog 6 #[.slice A0 l0.length c0, .slice A1 l1.length c1] w fun e w' => e = .returned (.bool true) ∧ Below w.heap.size w w' := by
  obtain ⟨kF, hF0⟩ := Few l0
  have hF := hF0 kF (Nat.le_refl _)
  have hlen := fewQ_length l0
  have hokq := fewQ_ok hs0
  obtain ⟨kA, hA0⟩ := Add [] (fewQ l0) rfl (by simp) (by omega)
  have hA := hA0 kA (Nat.le_refl _)
  obtain ⟨t, ht, h1, h2, h3⟩ := once_shape (fewQ l0) []
  rw [List.nil_append] at ht
  simp only [List.nil_append] at h2
  have hn : MayQ [] := ⟨(fun r hr => by cases hr), List.nodup_nil, by simp⟩
  unfold addR at hA
  by_cases hm : ∀ r ∈ fewQ l0, mayR r = true
  · rw [if_pos ⟨hn, hm⟩, ht] at hA
    by_cases h64 : 64 < t.length
    · rw [if_pos h64] at hA
      exact Once_no 5 (.inr rfl) A0 c0 l0 A1 c1 l1 w hr0 hc0 _ kF hF kA hA
    · rw [if_neg h64] at hA
      exact Once_ok A0 c0 l0 A1 c1 l1 w hr0 hc0 hr1 _ t kF hF kA hA ⟨fun r hr => hm r (h1 r hr).1, h3, by omega⟩ (fun r hr => List.all_eq_true.1 hokq r (h1 r hr).1) hlen h2
  · rw [if_neg (fun z => hm z.2)] at hA
    exact Once_no 1 (.inl rfl) A0 c0 l0 A1 c1 l1 w hr0 hc0 _ kF hF kA hA
end Go.Proofs.YtcakednecmngdaaDoor.QueuePure
