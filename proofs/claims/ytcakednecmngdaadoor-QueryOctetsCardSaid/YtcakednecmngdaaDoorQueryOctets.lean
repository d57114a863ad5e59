/-
  QueryOctets: each octet is written as one that is read again; in a text that is written there are plain octets, + , % , = and & alone.
  Conditions: an octet is from 0 to 255.
-/
import Derived.Test.YtcakednecmngdaaDoorQueryB
import Derived.Test.YtcakednecmngdaaDoorYf80
import Derived.Deep.RegionHeldLaw
set_option linter.unusedVariables false
set_option linter.unusedSimpArgs false
namespace Go.Proofs.YtcakednecmngdaaDoor.Query
open Go Go.RowKit Go.Proofs.YtcakednecmngdaaDoor.Y Go.Proofs.YtcakednecmngdaaDoor.P Go.Proofs.YtcakednecmngdaaDoorW.PrintWords Go.Proofs.YtcakednecmngdaaDoor.Plain Go.Proofs.YtcakednecmngdaaDoor.DnsPure
set_option maxRecDepth 100000

/-! ### plain -/
theorem octets_fin : ∀ n : Fin 256, (∀ o ∈ wr1 (UInt8.ofNat n.val), plainB o = true ∨ o = 43 ∨ o = 37) ∧ decide (wr1 (UInt8.ofNat n.val) ++ 61 :: (wr1 (UInt8.ofNat n.val) ++ wr1 (UInt8.ofNat n.val)) = [UInt8.ofNat n.val, 61, UInt8.ofNat n.val, UInt8.ofNat n.val]) = plainB (UInt8.ofNat n.val) := by decide +kernel
theorem octets_at (c : UInt8) : (∀ o ∈ wr1 c, plainB o = true ∨ o = 43 ∨ o = 37) ∧ decide (wr1 c ++ 61 :: (wr1 c ++ wr1 c) = [c, 61, c, c]) = plainB c := by
  have h := octets_fin ⟨c.toNat, c.toNat_lt⟩
  have e : UInt8.ofNat c.toNat = c := by simp
  simp only [e] at h
  exact h
theorem join_mem {c o : UInt8} : ∀ {r : List (List UInt8)}, o ∈ join c r → o = c ∨ ∃ x ∈ r, o ∈ x
  | [], h => by simp [join] at h
  | [l], h => .inr ⟨l, by simp, by simpa [join] using h⟩
  | l :: m :: r, h => by
    rw [join] at h
    rcases List.mem_append.1 h with h | h
    · exact .inr ⟨l, by simp, h⟩
    · rcases List.mem_cons.1 h with h | h
      · exact .inl h
      · rcases join_mem h with h | ⟨x, hx, h⟩
        · exact .inl h
        · exact .inr ⟨x, List.mem_cons_of_mem _ hx, h⟩
def cleanO (o : UInt8) : Prop := plainB o = true ∨ o = 43 ∨ o = 37 ∨ o = 61 ∨ o = 38
theorem wrL_octets (l : List UInt8) : ∀ o ∈ wrL l, cleanO o := fun o ho => by
  obtain ⟨c, _, hc⟩ := List.mem_flatMap.1 ho
  rcases (octets_at c).1 o hc with h | h | h
  · exact .inl h
  · exact .inr (.inl h)
  · exact .inr (.inr (.inl h))
theorem textL_octets (l : List S55) : ∀ o ∈ textL l, cleanO o := fun o ho => by
  rcases join_mem ho with rfl | ⟨x, hx, h⟩
  · exact .inr (.inr (.inr (.inr rfl)))
  · obtain ⟨p, _, rfl⟩ := List.mem_map.1 hx
    unfold pairL at h
    rcases List.mem_append.1 h with h | h
    · exact wrL_octets _ o h
    · rcases List.mem_cons.1 h with rfl | h
      · exact .inr (.inr (.inr (.inl rfl)))
      · exact wrL_octets _ o h
theorem octet_mem (l : List UInt8) (i : Nat) (h : i < (txt l).size) : (txt l)[i] ∈ l := by
  have h2 : i < l.length := by rwa [txt_size] at h
  exact (List.getElem_mem h2 : l[i] ∈ l)
theorem textB_octets (l : List S55) (i : Nat) (h : i < (textB l).1.size) : cleanO ((textB l).1[i]) := by
  by_cases hm : mayB l = true
  · have e : textB l = (txt (textL l), 0) := by unfold textB; rw [if_pos hm]
    generalize textB l = z at h e ⊢
    subst e
    exact textL_octets l _ (octet_mem _ i h)
  · have e : textB l = (⟨#[]⟩, 1) := by unfold textB; rw [if_neg hm]
    generalize textB l = z at h e ⊢
    subst e
    exact absurd h (Nat.not_lt_zero i)

/-! ### string([]byte{..}) -/
theorem nums_txt (l : List UInt8) : strOfNums (l.map fun o => (o.toNat : Int)) = txt l := by
  simp [strOfNums, txt, Function.comp_def]
theorem conv_txt (W : World) (g : Nat) (l : List UInt8) (h : W.heap[g]? = some (.cells (l.map fun o => Value.int .u8 (o.toNat : Int)).toArray 5 (0, 0))) (hl : l.length ≤ 1000) :
    (convert 46 9 (.slice (some ⟨g, 0, none⟩) l.length l.length)).run Tryd.prog W = .ok (.string (txt l)) W := by
  rw [← nums_txt]
  refine string_of_reads Tryd.underlying46 Tryd.underlying5 Tryd.underlying9 ⟨by simp, by omega, fun _ => ⟨_, rfl, fun j hj => ?_⟩⟩
  have := blk_cell h j
  rw [show (⟨g, 0, none⟩ : Addr).add j = ⟨g, j, none⟩ from (by simp [Addr.add]; exact fun h => h.symm), this]
  simp [hj, List.getD_eq_getElem?_getD]
theorem conv1 (W : World) (o : UInt8) (g : Nat) (hg : g = W.heap.size) : (convert 46 9 (.slice (some ⟨g, 0, none⟩) 1 1)).run Tryd.prog ((W.alloc (.cells #[.int .u8 (o.toNat : Int)] 5))) = .ok (.string (txt [o])) ((W.alloc (.cells #[.int .u8 (o.toNat : Int)] 5))) := by
  subst hg
  exact conv_txt _ _ [o] (World.alloc_heap_new _ _) (by simp)
theorem conv1w (W : World) (o : UInt8) (g : Nat) (hg : g = W.heap.size) : (convert 46 9 (.slice (some ⟨g, 0, none⟩) 1 1)).run Tryd.prog (((W.alloc (.cells #[.int .u8 (o.toNat : Int)] 5))).drew) = .ok (.string (txt [o])) (((W.alloc (.cells #[.int .u8 (o.toNat : Int)] 5))).drew) := by
  subst hg
  exact conv_txt _ _ [o] (World.alloc_heap_new _ _) (by simp)
theorem conv1n (W : World) (o : UInt8) (q : Nat) (g : Nat) (hg : g = W.heap.size) : (convert 46 9 (.slice (some ⟨g, 0, none⟩) 1 1)).run Tryd.prog (((W.alloc (.cells #[.int .u8 (o.toNat : Int)] 5))).drewN q) = .ok (.string (txt [o])) (((W.alloc (.cells #[.int .u8 (o.toNat : Int)] 5))).drewN q) := by
  subst hg
  exact conv_txt _ _ [o] (World.alloc_heap_new _ _) (by simp)
theorem conv1wn (W : World) (o : UInt8) (q : Nat) (g : Nat) (hg : g = W.heap.size) : (convert 46 9 (.slice (some ⟨g, 0, none⟩) 1 1)).run Tryd.prog ((((W.alloc (.cells #[.int .u8 (o.toNat : Int)] 5))).drew).drewN q) = .ok (.string (txt [o])) ((((W.alloc (.cells #[.int .u8 (o.toNat : Int)] 5))).drew).drewN q) := by
  subst hg
  exact conv_txt _ _ [o] (World.alloc_heap_new _ _) (by simp)
theorem conv1nw (W : World) (o : UInt8) (q : Nat) (g : Nat) (hg : g = W.heap.size) : (convert 46 9 (.slice (some ⟨g, 0, none⟩) 1 1)).run Tryd.prog ((((W.alloc (.cells #[.int .u8 (o.toNat : Int)] 5))).drewN q).drew) = .ok (.string (txt [o])) ((((W.alloc (.cells #[.int .u8 (o.toNat : Int)] 5))).drewN q).drew) := by
  subst hg
  exact conv_txt _ _ [o] (World.alloc_heap_new _ _) (by simp)
theorem conv2 (W : World) (o : UInt8) (g : Nat) (hg : g = W.heap.size) : (convert 46 9 (.slice (some ⟨g, 0, none⟩) 2 2)).run Tryd.prog ((W.alloc (.cells #[.int .u8 (o.toNat : Int), .int .u8 (o.toNat : Int)] 5))) = .ok (.string (txt [o, o])) ((W.alloc (.cells #[.int .u8 (o.toNat : Int), .int .u8 (o.toNat : Int)] 5))) := by
  subst hg
  exact conv_txt _ _ [o, o] (World.alloc_heap_new _ _) (by simp)
theorem conv2w (W : World) (o : UInt8) (g : Nat) (hg : g = W.heap.size) : (convert 46 9 (.slice (some ⟨g, 0, none⟩) 2 2)).run Tryd.prog (((W.alloc (.cells #[.int .u8 (o.toNat : Int), .int .u8 (o.toNat : Int)] 5))).drew) = .ok (.string (txt [o, o])) (((W.alloc (.cells #[.int .u8 (o.toNat : Int), .int .u8 (o.toNat : Int)] 5))).drew) := by
  subst hg
  exact conv_txt _ _ [o, o] (World.alloc_heap_new _ _) (by simp)
theorem conv2n (W : World) (o : UInt8) (q : Nat) (g : Nat) (hg : g = W.heap.size) : (convert 46 9 (.slice (some ⟨g, 0, none⟩) 2 2)).run Tryd.prog (((W.alloc (.cells #[.int .u8 (o.toNat : Int), .int .u8 (o.toNat : Int)] 5))).drewN q) = .ok (.string (txt [o, o])) (((W.alloc (.cells #[.int .u8 (o.toNat : Int), .int .u8 (o.toNat : Int)] 5))).drewN q) := by
  subst hg
  exact conv_txt _ _ [o, o] (World.alloc_heap_new _ _) (by simp)
theorem conv2wn (W : World) (o : UInt8) (q : Nat) (g : Nat) (hg : g = W.heap.size) : (convert 46 9 (.slice (some ⟨g, 0, none⟩) 2 2)).run Tryd.prog ((((W.alloc (.cells #[.int .u8 (o.toNat : Int), .int .u8 (o.toNat : Int)] 5))).drew).drewN q) = .ok (.string (txt [o, o])) ((((W.alloc (.cells #[.int .u8 (o.toNat : Int), .int .u8 (o.toNat : Int)] 5))).drew).drewN q) := by
  subst hg
  exact conv_txt _ _ [o, o] (World.alloc_heap_new _ _) (by simp)
theorem conv2nw (W : World) (o : UInt8) (q : Nat) (g : Nat) (hg : g = W.heap.size) : (convert 46 9 (.slice (some ⟨g, 0, none⟩) 2 2)).run Tryd.prog ((((W.alloc (.cells #[.int .u8 (o.toNat : Int), .int .u8 (o.toNat : Int)] 5))).drewN q).drew) = .ok (.string (txt [o, o])) ((((W.alloc (.cells #[.int .u8 (o.toNat : Int), .int .u8 (o.toNat : Int)] 5))).drewN q).drew) := by
  subst hg
  exact conv_txt _ _ [o, o] (World.alloc_heap_new _ _) (by simp)
theorem conv4 (W : World) (o : UInt8) (g : Nat) (hg : g = W.heap.size) : (convert 46 9 (.slice (some ⟨g, 0, none⟩) 4 4)).run Tryd.prog ((W.alloc (.cells #[.int .u8 (o.toNat : Int), .int .u8 61, .int .u8 (o.toNat : Int), .int .u8 (o.toNat : Int)] 5))) = .ok (.string (txt [o, 61, o, o])) ((W.alloc (.cells #[.int .u8 (o.toNat : Int), .int .u8 61, .int .u8 (o.toNat : Int), .int .u8 (o.toNat : Int)] 5))) := by
  subst hg
  exact conv_txt _ _ [o, 61, o, o] (World.alloc_heap_new _ _) (by simp)
theorem conv4w (W : World) (o : UInt8) (g : Nat) (hg : g = W.heap.size) : (convert 46 9 (.slice (some ⟨g, 0, none⟩) 4 4)).run Tryd.prog (((W.alloc (.cells #[.int .u8 (o.toNat : Int), .int .u8 61, .int .u8 (o.toNat : Int), .int .u8 (o.toNat : Int)] 5))).drew) = .ok (.string (txt [o, 61, o, o])) (((W.alloc (.cells #[.int .u8 (o.toNat : Int), .int .u8 61, .int .u8 (o.toNat : Int), .int .u8 (o.toNat : Int)] 5))).drew) := by
  subst hg
  exact conv_txt _ _ [o, 61, o, o] (World.alloc_heap_new _ _) (by simp)
theorem conv4n (W : World) (o : UInt8) (q : Nat) (g : Nat) (hg : g = W.heap.size) : (convert 46 9 (.slice (some ⟨g, 0, none⟩) 4 4)).run Tryd.prog (((W.alloc (.cells #[.int .u8 (o.toNat : Int), .int .u8 61, .int .u8 (o.toNat : Int), .int .u8 (o.toNat : Int)] 5))).drewN q) = .ok (.string (txt [o, 61, o, o])) (((W.alloc (.cells #[.int .u8 (o.toNat : Int), .int .u8 61, .int .u8 (o.toNat : Int), .int .u8 (o.toNat : Int)] 5))).drewN q) := by
  subst hg
  exact conv_txt _ _ [o, 61, o, o] (World.alloc_heap_new _ _) (by simp)
theorem conv4wn (W : World) (o : UInt8) (q : Nat) (g : Nat) (hg : g = W.heap.size) : (convert 46 9 (.slice (some ⟨g, 0, none⟩) 4 4)).run Tryd.prog ((((W.alloc (.cells #[.int .u8 (o.toNat : Int), .int .u8 61, .int .u8 (o.toNat : Int), .int .u8 (o.toNat : Int)] 5))).drew).drewN q) = .ok (.string (txt [o, 61, o, o])) ((((W.alloc (.cells #[.int .u8 (o.toNat : Int), .int .u8 61, .int .u8 (o.toNat : Int), .int .u8 (o.toNat : Int)] 5))).drew).drewN q) := by
  subst hg
  exact conv_txt _ _ [o, 61, o, o] (World.alloc_heap_new _ _) (by simp)
theorem conv4nw (W : World) (o : UInt8) (q : Nat) (g : Nat) (hg : g = W.heap.size) : (convert 46 9 (.slice (some ⟨g, 0, none⟩) 4 4)).run Tryd.prog ((((W.alloc (.cells #[.int .u8 (o.toNat : Int), .int .u8 61, .int .u8 (o.toNat : Int), .int .u8 (o.toNat : Int)] 5))).drewN q).drew) = .ok (.string (txt [o, 61, o, o])) ((((W.alloc (.cells #[.int .u8 (o.toNat : Int), .int .u8 61, .int .u8 (o.toNat : Int), .int .u8 (o.toNat : Int)] 5))).drewN q).drew) := by
  subst hg
  exact conv_txt _ _ [o, 61, o, o] (World.alloc_heap_new _ _) (by simp)
attribute [local go_sem high] conv1 conv1w conv1n conv1wn conv1nw conv2 conv2w conv2n conv2wn conv2nw conv4 conv4w conv4n conv4wn conv4nw
theorem cell_drew {W : World} {a : Addr} {v : Value} (h : W.cell? a = some v) : W.drew.cell? a = some v := h
theorem cell_drewN {W : World} {a : Addr} {v : Value} {q : Nat} (h : W.cell? a = some v) : (W.drewN q).cell? a = some v := h
theorem pair_row (W : World) (g : Nat) (p : S55) (h : W.heap[g]? = some (.cells #[.string p.f0, .string p.f1] 55 (0, 0))) : Kd.C k55 W (some ⟨g, 0, none⟩) 1 [p] := by
  refine ⟨rfl, by omega, fun _ => ⟨_, rfl, fun j x hj => ?_⟩⟩
  obtain ⟨hj1, rfl⟩ := List.getElem?_eq_some_iff.1 hj
  obtain rfl : j = 0 := by simpa using hj1
  refine ⟨[.string p.f0, .string p.f1], rfl, k55_mk W p, fun t u ht => ?_⟩
  have := blk_cell h t
  rw [show (⟨g, 0, none⟩ : Addr).add (0 * k55.sz + t) = ⟨g, t, none⟩ from (by simp [Addr.add]; exact fun h => h.symm), this]
  simpa using ht

set_option maxHeartbeats 40000000 in
theorem Octets_walk (o : UInt8) (A0 : Option Addr) (c0 : Nat) (l0 : List S55) (w : World) (hr0 : Kd.C k55 w A0 l0.length l0) (hc0 : l0.length ≤ c0)
    (t1 s : ByteArray) (e2 : Int) (fl : List S55) (k1 k2 : Nat) (hT1 : query_Text.f k1 [⟨txt [o], txt [o, o]⟩] = some (t1, 0)) (hP : query_Parse.f t1 = some ([⟨txt [o], txt [o, o]⟩], 0)) (hE : (t1.toList == (txt [o, 61, o, o]).toList) = plainB o)
    (hF : tolllaw04_Few.f l0 = some fl) (hT2 : query_Text.f k2 fl = some (s, e2)) (hs : s.size ≤ 100000) (hclean : ∀ (i : Nat) (h : i < s.size), cleanO s[i]) :
    Calls Tryd.prog 26 #[.slice A0 l0.length c0, .int .u8 (o.toNat : Int)] w fun e w' => e = .returned (.bool true) ∧ Below w.heap.size w w' := by
  have cT1 : ∀ (V : World) (g : Nat), g = V.heap.size → Calls Tryd.prog 77 #[.slice (some ⟨g, 0, none⟩) 1 1] (V.alloc (.cells #[.string (txt [o]), .string (txt [o, o])] 55)) fun e w' => e = .returned (.tuple #[.string t1, .int .i64 0]) ∧ Below (V.alloc (.cells #[.string (txt [o]), .string (txt [o, o])] 55)).heap.size (V.alloc (.cells #[.string (txt [o]), .string (txt [o, o])] 55)) w' := fun V g hg => by subst hg; exact query_Text.calls k1 _ 1 [⟨txt [o], txt [o, o]⟩] t1 0 _ (pair_row _ _ ⟨txt [o], txt [o, o]⟩ (World.alloc_heap_new _ _)) (Nat.le_refl _) hT1
  have cP := fun V => query_Parse.calls t1 _ 0 V hP
  have cO := fun V => Plain o V
  have cF := fun V hV => tolllaw04_Few.calls A0 c0 l0 fl V hV hc0 hF
  have cT2 := fun A c V hC hc => query_Text.calls k2 A c fl s e2 V hC hc hT2
  obtain ⟨kW, hW⟩ := Query.awake
  have cW := fun V => tolllaw04_awake.calls kW true V (hW kW (Nat.le_refl _))
  have H0 := Lib.hid hr0
  have HC := Lib.hid hclean
  clear hr0 hT1 hP hF hT2 hclean hW
  generalize plainB o = b at hE cO
  go_enter Tryd.func26, Tryd.ntmps26
  go_wp2_with (first
    | (go_at_call 77; refine (cT1 _ _ (by simp)).mono ?_; rintro e w1 ⟨rfl, hb1⟩; have B1 : Aside0 (Below w.heap.size w w1) := ⟨below_step (by repeat (first | exact Below.refl _ _ | apply below_alloc)) hb1⟩; clear hb1)
    | (go_at_call 83; refine (cP _).mono ?_; rintro e w2 ⟨v2, rfl, hR2, hb2⟩; obtain ⟨A3, c3, rfl⟩ := Kd.R_slice hR2; have D2 := Aside0.mk (Kd.R_reads' hR2); have B2 := Aside0.mk (below_step B1.out hb2); clear hR2 hb2))
  obtain ⟨ad, eA, hx0, hx1⟩ := at_T55 D2.out.2.2 0 (Int.le_refl 0) (by simp)
  subst eA
  rw [show ((0 : Int)).toNat = 0 from rfl, Nat.zero_mul, Addr.add_zero'] at hx0 hx1
  have hx0' : w2.cell? ad = some (.string (txt [o])) := hx0
  have hx1' : w2.cell? ⟨ad.block, ad.off + 1, none⟩ = some (.string (txt [o, o])) := hx1
  clear hx0 hx1
  go_region_held_law (fun w' => w'.cell? ad = some (.string (txt [o])) ∧ w'.cell? ⟨ad.block, ad.off + 1, none⟩ = some (.string (txt [o, o]))) (first | (go_keep; done) | (refine ⟨?_, ?_⟩ <;> (repeat (first | assumption | exact hx0' | exact hx1' | exact hHeld.1 | exact hHeld.2 | apply cell_drew | apply cell_drewN | apply Lib.cell?_alloc_some))) | (trace_state; fail)) (first | (go_at_call 80; refine (cO _).mono ?_; rintro e w4 ⟨rfl, q, rfl⟩))
  all_goals
    go_wp2_with (first
      | (go_at_call 76; refine (cF _ (Kd.C_below H0.out (by repeat (first | exact B2.out | apply below_alloc | apply pw_below_drewN | apply below_drew)))).mono ?_; rintro e w5 ⟨v5, rfl, hR5, hb5⟩; obtain ⟨A5, c5, rfl⟩ := Kd.R_slice hR5; have D5 := Aside0.mk (Kd.R_reads' hR5); have B5 : Aside0 (Below w.heap.size w w5) := ⟨below_step (by repeat (first | exact B2.out | apply below_alloc | apply pw_below_drewN | apply below_drew)) hb5⟩; clear hR5 hb5)
      | (go_at_call 77; refine (cT2 _ _ _ D5.out.2.2 D5.out.2.1).mono ?_; rintro e w6 ⟨rfl, hb6⟩; have B6 := Aside0.mk (below_step B5.out hb6); clear hb6))
    go_loopg [11] s.size (fun gf v wr => ∃ k : Nat, k + gf = s.size ∧ v = .int .i64 k ∧ Aside0 (Below w.heap.size w wr))
    case atStart => exact ⟨0, by omega, rfl, B6⟩
    case round =>
      obtain ⟨k, hk, rfl, hB⟩ := hrel
      cases gk with
      | zero =>
        obtain rfl : k = s.size := by omega
        go_wp2_with (go_at_call 82; refine (cW _).mono ?_; rintro e w7 ⟨rfl, hb7⟩; have B7 := Aside0.mk (below_step hB.out hb7); clear hb7)
        go_ret
        exact ⟨rfl, B7.out⟩
      | succ g1 =>
        have hlt : k < s.size := by omega
        have hk' : (k : Int) < s.size := by omega
        obtain ⟨c, hc⟩ : ∃ c, s[k] = c := ⟨_, rfl⟩
        have hcl : cleanO c := hc ▸ HC.out k hlt
        have HK := Lib.hid hk
        clear hk
        have CP := fun V => Plain c V
        cases hp : plainB c with
        | true =>
          simp only [hp] at CP
          clear hcl hp
          go_wp2_with (go_at_call 80; refine (CP _).mono ?_; rintro e w7 ⟨rfl, ⟨q7, rfl⟩⟩)
          go_roundg g1
          case measure => omega
          case rel => exact ⟨k + 1, by have := HK.out; omega, by go_num, ⟨pw_below_drewN hB.out _⟩⟩
        | false =>
          have hv : (c.toNat : Int) = 43 ∨ (c.toNat : Int) = 37 ∨ (c.toNat : Int) = 61 ∨ (c.toNat : Int) = 38 := by
            rcases hcl with h | rfl | rfl | rfl | rfl
            · rw [hp] at h; cases h
            · exact .inl rfl
            · exact .inr (.inl rfl)
            · exact .inr (.inr (.inl rfl))
            · exact .inr (.inr (.inr rfl))
          simp only [hp] at CP
          clear hcl hp
          rcases hv with hv | hv | hv | hv
          all_goals
            go_wp2_with (go_at_call 80; (try rw [← hv]); refine (CP _).mono ?_; rintro e w7 ⟨rfl, ⟨q7, rfl⟩⟩)
            go_roundg g1
            case measure => omega
            case rel => exact ⟨k + 1, by have := HK.out; omega, by go_num, ⟨pw_below_drewN hB.out _⟩⟩
end Go.Proofs.YtcakednecmngdaaDoor.Query
