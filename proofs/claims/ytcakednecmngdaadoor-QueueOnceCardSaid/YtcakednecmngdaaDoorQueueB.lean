/-
  Refs taken out of a row of the call's own (slices.Delete, slices.DeleteFunc), and a queue without a ref (queue.Drop): what the code hands back, walked.
  Conditions: queues of at most 1000000 refs.
-/
import Derived.Test.YtcakednecmngdaaDoorQueueK
import Derived.Test.YtcakednecmngdaaDoorQe1
import Derived.Test.YtcakednecmngdaaDoorBase
import Derived.Deep.RegionLaw
import Derived.Deep.QuietTactic
import Derived.BigQuiet
import Derived.Laws.IdiomCopy
namespace Go.Proofs.YtcakednecmngdaaDoor.Queue
open Go Go.RowKit Go.Proofs.YtcakednecmngdaaDoor.Plain Go.Proofs.YtcakednecmngdaaDoor.Q Go.Proofs.YtcakednecmngdaaDoor.P Go.Proofs.YtcakednecmngdaaDoorW.PrintWords
attribute [local go_sem high] eqA37
set_option maxRecDepth 100000

/-! ### cells laid over a row's -/
def spl : Array Value → Nat → List Value → Array Value
  | cur, _, [] => cur
  | cur, o, v :: r => spl (cur.setIfInBounds o v) (o + 1) r
theorem spl_get (vs : List Value) : ∀ (cur : Array Value) (o j : Nat), o + vs.length ≤ cur.size → (spl cur o vs)[j]? = if j < o then cur[j]? else if j < o + vs.length then vs[j - o]? else cur[j]? := by
  induction vs with
  | nil => intro cur o j _; simp [spl]; intros; omega
  | cons v r ih =>
    intro cur o j h
    rw [List.length_cons] at h ⊢
    rw [spl, ih _ _ _ (by simp; omega), Array.getElem?_setIfInBounds]
    by_cases h1 : j < o
    · rw [if_pos (by omega), if_neg (by omega), if_pos h1]
    · by_cases h2 : j = o
      · subst h2
        rw [if_pos (by omega), if_pos rfl, if_pos (by omega), if_neg h1, if_pos (by omega)]; simp
      · rw [if_neg (by omega), if_neg h1]
        by_cases h3 : j < o + 1 + r.length
        · rw [if_pos h3, if_pos (by omega), show j - o = (j - (o + 1)) + 1 by omega, List.getElem?_cons_succ]
        · rw [if_neg h3, if_neg (by omega), if_neg (by omega)]
theorem spl_size (vs : List Value) : ∀ (cur : Array Value) (o : Nat), (spl cur o vs).size = cur.size := by
  induction vs with
  | nil => intro cur o; rfl
  | cons v r ih => intro cur o; rw [spl, ih]; simp
theorem heap_setCells {g t : Nat} (vs : List Value) : ∀ (o : Nat) (w : World) (cur : Array Value), w.heap[g]? = some (.cells cur t (0, 0)) → (w.setCells g o vs).heap[g]? = some (.cells (spl cur o vs) t (0, 0)) := by
  induction vs with
  | nil => intro o w cur h; exact h
  | cons v r ih => intro o w cur h; exact ih _ _ _ (blk_set h o v)
theorem grown_setCells {g : Nat} (vs : List Value) : ∀ (o : Nat) (w : World), w.grownBy (w.setCells g o vs) (some g) := by
  induction vs with
  | nil => intro o w; exact World.grownBy.refl _ _
  | cons v r ih =>
    intro o w
    have h1 : w.grownBy (w.setCell ⟨g, o, none⟩ v) (some g) := ⟨rfl, rfl, rfl, by simp, fun k _ hne => Below.heap_setCell w ⟨g, o, none⟩ v k (fun e => hne (by rw [e]))⟩
    exact h1.trans (ih (o + 1) _)
/-- 'clear' of n refs of a row. -/
theorem run_clear3 (w : World) (g o n c : Nat) (cur : Array Value) (hn : 0 < n) (hh : w.heap[g]? = some (.cells cur 37 (0, 0))) (hs : o + n * 3 ≤ cur.size) :
    ∃ cs : List Value, cs.length = n * 3 ∧ ∀ ty, (Builtin.clear_ #[29] ty #[.slice (some ⟨g, o, none⟩) n c]).run Tryd.prog w = .ok (.tuple #[]) (w.setCells g o cs) := by
  have hz : (Value.agg #[.int .i64 0, .string ⟨#[]⟩, .string ⟨#[]⟩]).cells = #[.int .i64 0, .string ⟨#[]⟩, .string ⟨#[]⟩] := rfl
  refine ⟨(Builtin.zeroCells #[.int .i64 0, .string ⟨#[]⟩, .string ⟨#[]⟩] n).toList, by simp [Builtin.zeroCells], fun ty => ?_⟩
  have hl : (Builtin.zeroCells #[.int .i64 0, .string ⟨#[]⟩, .string ⟨#[]⟩] n).toList.length = n * 3 := by simp [Builtin.zeroCells]
  have hst := run_storeCells_cells (P := Tryd.prog) g o (Builtin.zeroCells #[.int .i64 0, .string ⟨#[]⟩, .string ⟨#[]⟩] n).toList 0 w
    (fun j hj => by rw [Nat.add_zero, blk_cell hh, Array.getElem?_eq_getElem (by omega)]; rfl) (fun j _ => blk_frozen hh _) (fun v hv => by
      simp only [Builtin.zeroCells, Array.toList_map, List.mem_map] at hv
      obtain ⟨i, _, rfl⟩ := hv
      have : i % 3 < 3 := Nat.mod_lt _ (by omega)
      show (#[Value.int .i64 0, .string ⟨#[]⟩, .string ⟨#[]⟩][i % 3]!).oneCell' = true
      match i % 3, this with
      | 0, _ => rfl
      | 1, _ => rfl
      | 2, _ => rfl)
  rw [Nat.add_zero] at hst
  obtain ⟨m, rfl⟩ : ∃ m, n = m + 1 := ⟨n - 1, by omega⟩
  simp [Builtin.clear_, run_underlying Tryd.underlying29, Tryd.zeroValue37, hz, hst]

/-- A row of refs of the call's own, taken apart. -/
theorem row_parts {base : Nat} {ok : Nat → Prop} {W : World} {v : Value} {l : List S37} (h : Kd.R k37 37 W base ok v l) :
    (v = .slice none 0 0 ∧ l = []) ∨ ∃ g cap cur, v = .slice (some ⟨g, 0, none⟩) l.length cap ∧ ok g ∧ base ≤ g ∧ W.heap[g]? = some (.cells cur 37 (0, 0)) ∧ l.length ≤ cap ∧ cap ≤ maxLen ∧ cur.size = cap * 3 ∧ ∀ j, j < l.length * 3 → cur[j]? = (flat l)[j]? := by
  obtain ⟨h0, xs, hown, hreps⟩ := h
  have hx : xs = flat l := by
    refine List.ext_getElem? fun j => ?_
    have e1 : xs.length = l.length * 3 := hreps.1
    by_cases hj : j < l.length * 3
    · have ej : j = j / 3 * 3 + j % 3 := by omega
      have hjl : j / 3 < l.length := by omega
      have hK : k37.M W base (fun k => ok k ∧ some k ≠ v.ownBlock) l[j / 3] ((xs.drop (j / 3 * 3)).take 3) := hreps.2 (j / 3) _ (List.getElem?_eq_getElem hjl)
      have hc := k37_openM hK
      have hc' := congrArg (fun z => z[j % 3]?) hc
      rw [List.getElem?_take, if_pos (Nat.mod_lt _ (by decide : 0 < 3)), List.getElem?_drop, ← ej] at hc'
      rw [hc']
      conv => rhs; rw [ej]
      rw [flat_get l _ _ (Nat.mod_lt _ (by omega)), List.getElem?_eq_getElem hjl]
      rfl
    · rw [List.getElem?_eq_none (by omega), List.getElem?_eq_none (by rw [flat_length]; omega)]
  subst hx
  rcases hown.2 with ⟨rfl, hl⟩ | ⟨g, cap, cur, rfl, hb, hh, hc, hm, hs, ht⟩
  · exact .inl ⟨rfl, List.length_eq_zero_iff.1 hl⟩
  · refine .inr ⟨g, cap, cur, rfl, h0 g rfl, hb, hh, hc, hm, hs, fun j hj => ?_⟩
    rw [← ht, List.getElem?_take, if_pos (show j < l.length * k37.sz from hj)]
    simp
theorem row_mk {base : Nat} {ok : Nat → Prop} {W : World} {g cap : Nat} {cur : Array Value} {l : List S37} (hok : ok g) (hb : base ≤ g) (hh : W.heap[g]? = some (.cells cur 37 (0, 0))) (hc : l.length ≤ cap) (hm : cap ≤ maxLen) (hs : cur.size = cap * 3) (ht : ∀ j, j < l.length * 3 → cur[j]? = (flat l)[j]?) :
    Kd.R k37 37 W base ok (.slice (some ⟨g, 0, none⟩) l.length cap) l := by
  refine ⟨fun k hk => by simp [Value.ownBlock] at hk; subst hk; exact hok, flat l, ⟨flat_length l, .inr ⟨g, cap, cur, rfl, hb, hh, hc, hm, hs, ?_⟩⟩, reps_flat _ _ _ l⟩
  refine List.ext_getElem? fun j => ?_
  have e1 := flat_length l
  by_cases hj : j < l.length * 3
  · rw [List.getElem?_take, if_pos (show j < l.length * k37.sz from hj), ← ht j hj]; simp
  · rw [List.getElem?_take, if_neg (show ¬ j < l.length * k37.sz from hj), List.getElem?_eq_none (by omega)]
theorem below_row {base g : Nat} {W W' : World} (hb : base ≤ g) (hlt : g < W.heap.size) (hg : W.grownBy W' (some g)) : Below base W W' :=
  (Below.refl base W).grown hg (by omega) (fun k hk => by cases hk; exact hb)
theorem flat_drop (l : List S37) (i j : Nat) : (flat (l.drop i))[j]? = (flat l)[i * 3 + j]? := by
  have ej : j = j / 3 * 3 + j % 3 := by omega
  have e1 : i * 3 + j = (i + j / 3) * 3 + j % 3 := by omega
  rw [e1, flat_get l _ _ (Nat.mod_lt _ (by omega))]
  conv => lhs; rw [ej]
  rw [flat_get _ _ _ (Nat.mod_lt _ (by omega)), List.getElem?_drop]
theorem flat_erase (l : List S37) (i j : Nat) (_hi : i < l.length) : (flat (l.eraseIdx i))[j]? = if j < i * 3 then (flat l)[j]? else (flat l)[j + 3]? := by
  have ej : j = j / 3 * 3 + j % 3 := by omega
  have e1 : j + 3 = (j / 3 + 1) * 3 + j % 3 := by omega
  rw [e1, flat_get l _ _ (Nat.mod_lt _ (by omega))]
  conv => lhs; rw [ej]
  rw [flat_get _ _ _ (Nat.mod_lt _ (by omega)), List.getElem?_eraseIdx]
  by_cases h : j < i * 3
  · rw [if_pos (by omega), if_pos h]
    conv => rhs; rw [ej]
    rw [flat_get _ _ _ (Nat.mod_lt _ (by omega))]
  · rw [if_neg (by omega), if_neg h]

theorem ret_slice {A : Option Addr} {a b c : Nat} (h : a = b) : Ending.returned (.slice A a c) = .returned (.slice A b c) := by rw [h]

/-! ### slices.Delete, of one ref -/
set_option maxHeartbeats 8000000 in
theorem DeleteOne (g cap i : Nat) (cur : Array Value) (l : List S37) (w : World) (hh : w.heap[g]? = some (.cells cur 37 (0, 0))) (hc : l.length ≤ cap) (hm : cap ≤ maxLen) (hs : cur.size = cap * 3) (ht : ∀ j, j < l.length * 3 → cur[j]? = (flat l)[j]?) (hi : i < l.length) :
    Calls Tryd.prog 98 #[.slice (some ⟨g, 0, none⟩) l.length cap, .int .i64 (i : Nat), .int .i64 (i + 1 : Nat)] w fun e w' => e = .returned (.slice (some ⟨g, 0, none⟩) (l.length - 1) cap) ∧
      (∃ cur', w'.heap[g]? = some (.cells cur' 37 (0, 0)) ∧ cur'.size = cap * 3 ∧ ∀ j, j < (l.length - 1) * 3 → cur'[j]? = (flat (l.eraseIdx i))[j]?) ∧ w.grownBy w' (some g) := by
  unfold maxLen at hm
  obtain ⟨i0, hi0, hz0, hz1, hz2⟩ := info_parts info37
  obtain ⟨news, hnews⟩ : ∃ news, news = flat (l.drop (i + 1)) := ⟨_, rfl⟩
  have hlen : news.length = (l.length - (i + 1)) * 3 := by rw [hnews, flat_length]; simp
  have hone : ∀ u ∈ news, u.oneCell' = true := by rw [hnews]; exact flat_one _
  have hsrc : ∀ t u, news[t]? = some u → w.drew.cell? ⟨g, (i + 1) * 3 + t, none⟩ = some u := fun t u hu => by
    have htl := (List.getElem?_eq_some_iff.1 hu).1
    show w.cell? _ = _
    rw [blk_cell hh, ht _ (by omega), ← flat_drop, ← hnews, hu]
  have hspare : ∀ t, t < news.length → (w.drew.cell? ⟨g, 0 + i * 3 + t, none⟩).isSome = true ∧ w.drew.frozen? ⟨g, 0 + i * 3 + t, none⟩ = false := fun t htl => by
    refine ⟨?_, blk_frozen (w := w) hh _⟩
    show (w.cell? _).isSome = true
    rw [blk_cell hh, Array.getElem?_eq_getElem (by omega)]; rfl
  have hh1 := heap_setCells news (0 + i * 3) w.drew cur hh
  have hg1 : w.grownBy (w.drew.setCells g (0 + i * 3) news) (some g) := (show w.grownBy w.drew (some g) from ⟨rfl, rfl, rfl, Nat.le_refl _, fun _ _ _ => rfl⟩).trans (grown_setCells news _ _)
  have hsz1 := spl_size news cur (0 + i * 3)
  have hget1 := fun j => spl_get news cur (0 + i * 3) j (by omega)
  obtain ⟨W1, hW1⟩ : ∃ W1, W1 = w.drew.setCells g (0 + i * 3) news := ⟨_, rfl⟩
  rw [← hW1] at hh1 hg1
  obtain ⟨cs, hcsl, hclr⟩ := run_clear3 W1 g ((l.length - 1) * 3) 1 (cap - (l.length - 1)) _ (by omega) hh1 (by rw [hsz1]; omega)
  have HFIN : Hid ((∃ cur', (W1.setCells g ((l.length - 1) * 3) cs).heap[g]? = some (.cells cur' 37 (0, 0)) ∧ cur'.size = cap * 3 ∧ ∀ j, j < (l.length - 1) * 3 → cur'[j]? = (flat (l.eraseIdx i))[j]?) ∧ w.grownBy (W1.setCells g ((l.length - 1) * 3) cs) (some g)) := by
    refine Lib.hid ⟨⟨_, heap_setCells cs _ _ _ hh1, by rw [spl_size, hsz1, hs], fun j hj => ?_⟩, hg1.trans (grown_setCells cs _ _)⟩
    rw [spl_get cs _ _ j (by rw [hsz1]; omega), if_pos hj, hget1 j, flat_erase l i j hi]
    by_cases h1 : j < i * 3
    · rw [if_pos (by omega), if_pos h1, ht j (by omega)]
    · rw [if_neg (by omega), if_neg h1, if_pos (by omega), hnews, flat_drop]
      congr 1
      omega
  have HS := Lib.hid hsrc
  have HP := Lib.hid hspare
  have HL := Lib.hid hlen
  have HO := Lib.hid hone
  have HW := Lib.hid hW1
  have hiz : ((i : Nat) : Int) ≤ ((i + 1 : Nat) : Int) := by omega
  have hne : (((i : Nat) : Int) == ((i + 1 : Nat) : Int)) = false := beq_eq_false_iff_ne.2 (by omega)
  clear hsrc hspare hlen hone hW1 hnews hh hh1 hg1 hsz1 hget1 hs ht hcsl
  go_enter Tryd.func98, Tryd.ntmps98
  go_wp2_with fail
  have hic : i ≤ cap := by omega
  have hjc : i + 1 ≤ cap := by omega
  have hjl : i + 1 ≤ l.length := by omega
  have hicz : (i : Int) ≤ (cap : Int) := by omega
  have hjlz : (i : Int) + 1 ≤ (l.length : Int) := by omega
  have h0z : (0 : Int) ≤ (i : Int) + 1 := by omega
  have hiiz : (i : Int) ≤ (i : Int) + 1 := by omega
  by_cases hcap : cap = i + 1
  · have hsrc0 : Hid (∀ t u, news[t]? = some u → w.drew.cell? ((⟨g, 0, none⟩ : Addr).add t) = some u) := Lib.hid fun t u hu => by
      have := (List.getElem?_eq_some_iff.1 hu).1
      have := HL.out
      omega
    subst hcap
    go_region_law (refine step_append_room rfl (.tmp 22) (.tmp 25) 29 rfl 37 i0 3 Tryd.underlying29 hi0 hz1 g 0 i (i + 1) (by simp [Act.eval, Act.put]) ⟨g, 0, none⟩ 0 0 news (by simp [Act.eval, Act.put]) (by have := HL.out; omega) hsrc0.out HO.out (by omega) HP.out ?_; rw [← HW.out])
    have e1 : l.length - 1 = i := by omega
    have hclr1 : ∀ ty, (Builtin.clear_ #[29] ty #[.slice (some ⟨g, i * 3, none⟩) (l.length - i) 1]).run Tryd.prog W1 = .ok (.tuple #[]) (W1.setCells g ((l.length - 1) * 3) cs) := fun ty => by
      have := hclr ty
      rw [show l.length - i = 1 by omega]
      rw [show i + 1 - (l.length - 1) = 1 by omega, show (l.length - 1) * 3 = i * 3 by omega] at this
      rw [show (l.length - 1) * 3 = i * 3 by omega]
      exact this
    clear hclr e1
    go_wp2
    go_ret
    exact ⟨ret_slice (by omega), HFIN.out⟩
  · have hsrc0 : Hid (∀ t u, news[t]? = some u → w.drew.cell? ((⟨g, (i + 1) * 3, none⟩ : Addr).add t) = some u) := Lib.hid fun t u hu => by
      rw [add_at]
      exact HS.out t u hu
    go_region_law (refine step_append_room rfl (.tmp 22) (.tmp 25) 29 rfl 37 i0 3 Tryd.underlying29 hi0 hz1 g 0 i cap (by simp [Act.eval, Act.put]) ⟨g, (i + 1) * 3, none⟩ (l.length - (i + 1)) (cap - (i + 1)) news (by simp [Act.eval, Act.put]) HL.out hsrc0.out HO.out (by omega) HP.out ?_; rw [← HW.out])
    have hclr1 : ∀ ty, (Builtin.clear_ #[29] ty #[.slice (some ⟨g, (i + (l.length - (i + 1))) * 3, none⟩) (l.length - (i + (l.length - (i + 1)))) (cap - (i + (l.length - (i + 1))))]).run Tryd.prog W1 = .ok (.tuple #[]) (W1.setCells g ((l.length - 1) * 3) cs) := fun ty => by
      have := hclr ty
      rw [show l.length - (i + (l.length - (i + 1))) = 1 by omega, show i + (l.length - (i + 1)) = l.length - 1 by omega]
      exact this
    clear hclr
    go_wp2
    go_ret
    exact ⟨ret_slice (by omega), HFIN.out⟩

theorem DeleteR {base : Nat} {ok : Nat → Prop} {A : Option Addr} {c : Nat} {l r : List S37} {i j : Int} {W : World} (hR : Kd.R k37 37 W base ok (.slice A l.length c) l) (h : (if 0 ≤ i ∧ i < l.length ∧ j = i + 1 ∧ l.length ≤ 1000000 then some (l.eraseIdx i.toNat) else none) = some r) :
    Calls Tryd.prog 98 #[.slice A l.length c, .int .i64 i, .int .i64 j] W fun e w' => ∃ v0_ : Value, e = .returned v0_ ∧ Kd.R k37 37 w' base ok v0_ r ∧ (∀ k o, W.heap[k]? = some o → ¬ ok k → w'.heap[k]? = some o) ∧ Below base W w' := by
  split at h
  · next hh =>
    obtain ⟨h0, h1, rfl, h2⟩ := hh
    obtain rfl := Option.some.inj h
    obtain ⟨k, rfl⟩ : ∃ k : Nat, i = (k : Nat) := ⟨i.toNat, by omega⟩
    have hk : k < l.length := by omega
    rcases row_parts hR with ⟨e, rfl⟩ | ⟨g, cap, cur, e, hok, hb, hh, hc, hm, hs, ht⟩
    · simp at hk
    · injection e with e1 _ e3
      subst e1; subst e3
      rw [show ((k : Nat) : Int) + 1 = ((k + 1 : Nat) : Int) by omega, Int.toNat_natCast]
      refine (DeleteOne g c k cur l W hh hc hm hs ht hk).mono ?_
      rintro e w' ⟨rfl, ⟨cur', hh', hs', ht'⟩, hg⟩
      have hlen : (l.eraseIdx k).length = l.length - 1 := by rw [List.length_eraseIdx, if_pos hk]
      refine ⟨_, rfl, ?_, fun k o ho hn => (hg.block k (Array.getElem?_eq_some_iff.1 ho).1 (fun e => hn (by cases e; exact hok))).trans ho, below_row hb (Array.getElem?_eq_some_iff.1 hh).1 hg⟩
      rw [← hlen]
      exact row_mk hok hb hh' (by omega) hm hs' (by rw [hlen]; exact ht')
  · cases h

/-! ### slices.DeleteFunc, of the refs that are a given one -/
def eqB (x r : S37) : Bool := x.f0 == r.f0 && (x.f1.toList == r.f1.toList && x.f2.toList == r.f2.toList)
theorem eqB_iff (x r : S37) : eqB x r = true ↔ x = r := by
  cases x; cases r
  simp [eqB, DnsPure.toList_inj]
theorem eqB_dec (x r : S37) : eqB x r = decide (x = r) := by
  rw [Bool.eq_iff_iff, eqB_iff, decide_eq_true_eq]

set_option maxHeartbeats 2000000 in
theorem isRef (B : Nat) (r : S37) (W : World) (hB : W.heap[B]? = some (.cells #[.int .i64 r.f0, .string r.f1, .string r.f2] 37 (0, 0))) (x : S37) :
    Calls Tryd.prog 112 #[.agg #[.int .i64 x.f0, .string x.f1, .string x.f2], .pointer (some ⟨B, 0, none⟩)] W fun e w' => e = .returned (.bool (eqB x r)) ∧ Below W.heap.size W w' := by
  have c0 : W.cell? ⟨B, 0, none⟩ = some (.int .i64 r.f0) := (blk_cell hB 0).trans rfl
  have c1 : W.cell? ⟨B, 1, none⟩ = some (.string r.f1) := (blk_cell hB 1).trans rfl
  have c2 : W.cell? ⟨B, 2, none⟩ = some (.string r.f2) := (blk_cell hB 2).trans rfl
  have hlt : B < W.heap.size := blk_lt hB
  have hE : Hid (eqB x r = (x.f0 == r.f0 && (x.f1.toList == r.f1.toList && x.f2.toList == r.f2.toList))) := Lib.hid rfl
  clear hB
  go_enter Tryd.func112, Tryd.ntmps112
  go_wp2
  go_ret
  exact ⟨ret_bool (by rw [hE.out]), (Below.refl _ _).alloc (Nat.le_refl _) _⟩

theorem isRefK (B : Nat) (r : S37) (w : World) (hB : w.heap[B]? = some (.cells #[.int .i64 r.f0, .string r.f1, .string r.f2] 37 (0, 0))) : PredK k37 112 #[.pointer (some ⟨B, 0, none⟩)] (fun x => eqB x r) w := fun W x cs hb hK => by
  obtain rfl := k37_open hK
  exact isRef B r W ((hb.block B (blk_lt hB)).trans hB) x

theorem idx_cases {α : Type} (p : α → Bool) : ∀ (l : List α) (i : Nat), (idxFrom p l i = -1 ∧ l.filter (fun x => !p x) = l) ∨ ∃ k, k < l.length ∧ idxFrom p l i = ((i + k : Nat) : Int) ∧ (l.take (k + 1)).filter (fun x => !p x) = l.take k
  | [], _ => .inl ⟨rfl, rfl⟩
  | x :: l, i => by
    cases h : p x with
    | true => exact .inr ⟨0, by simp, by simp [idxFrom, h], by simp [h]⟩
    | false =>
      rcases idx_cases p l (i + 1) with ⟨e, hf⟩ | ⟨k, hk, e, hf⟩
      · exact .inl ⟨by simp [idxFrom, h, e], by simp [h, hf]⟩
      · exact .inr ⟨k + 1, by simpa using hk, by simp only [idxFrom, h]; rw [if_neg (by simp), e]; congr 1; omega, by rw [List.take_succ_cons, List.filter_cons, h, if_pos (by simp), hf, List.take_succ_cons]⟩

def keep (r : S37) (l : List S37) : List S37 := l.filter fun x => !eqB x r
theorem keep_length (r : S37) (l : List S37) : (keep r l).length ≤ l.length := List.length_filter_le _ _
theorem keep_snoc (r : S37) (l : List S37) (j : Nat) (h : j < l.length) : keep r (l.take (j + 1)) = keep r (l.take j) ++ if eqB (rd_T37 l (j : Int)) r then [] else [rd_T37 l (j : Int)] := by
  have e : l.take (j + 1) = l.take j ++ [rd_T37 l (j : Int)] := by
    rw [List.take_succ_eq_append_getElem h]
    congr 2
    unfold rd_T37
    simp [List.getD_eq_getElem?_getD, List.getElem?_eq_getElem h]
  rw [keep, e, List.filter_append, ← keep, List.filter_cons]
  cases eqB (rd_T37 l (j : Int)) r <;> rfl
theorem flat_append (a b : List S37) : flat (a ++ b) = flat a ++ flat b := by simp [flat]
theorem rd_flat (l : List S37) (j t : Nat) (h : j < l.length) (ht : t < 3) : (flat l)[j * 3 + t]? = (cells3 (rd_T37 l (j : Int)))[t]? := by
  rw [flat_get l j t ht, List.getElem?_eq_getElem h]
  unfold rd_T37
  simp [List.getD_eq_getElem?_getD, List.getElem?_eq_getElem h]

/-- What holds of the row at the head of a round: what is kept lies ahead, what is still to come lies as it lay. -/
structure RowInv (W : World) (g cap B : Nat) (l : List S37) (r : S37) (i j : Nat) (wr : World) (cur : Array Value) : Prop where
  grown : W.grownBy wr (some g)
  heap : wr.heap[g]? = some (.cells cur 37 (0, 0))
  size : cur.size = cap * 3
  box : wr.heap[B]? = some (.cells #[.int .i64 r.f0, .string r.f1, .string r.f2] 37 (0, 0))
  len : i = (keep r (l.take j)).length
  low : ∀ t, t < i * 3 → cur[t]? = (flat (keep r (l.take j)))[t]?
  high : ∀ t, j * 3 ≤ t → t < l.length * 3 → cur[t]? = (flat l)[t]?
theorem RowInv.below {W w1 wr : World} {g cap B : Nat} {l : List S37} {r : S37} {i j : Nat} {cur : Array Value} (h : RowInv W g cap B l r i j wr cur) (hb : Below wr.heap.size wr w1) : RowInv W g cap B l r i j w1 cur :=
  ⟨h.grown.trans (grown_of_below hb _), (hb.block g (blk_lt h.heap)).trans h.heap, h.size, (hb.block B (blk_lt h.box)).trans h.box, h.len, h.low, h.high⟩
theorem RowInv.skip {W wr : World} {g cap B : Nat} {l : List S37} {r : S37} {i j : Nat} {cur : Array Value} (h : RowInv W g cap B l r i j wr cur) (hj : j < l.length) (he : eqB (rd_T37 l (j : Int)) r = true) : RowInv W g cap B l r i (j + 1) wr cur := by
  have e : keep r (l.take (j + 1)) = keep r (l.take j) := by rw [keep_snoc r l j hj, he, if_pos rfl, List.append_nil]
  exact ⟨h.grown, h.heap, h.size, h.box, by rw [e]; exact h.len, by rw [e]; exact h.low, fun t h1 h2 => h.high t (by omega) h2⟩
theorem RowInv.put {W wr : World} {g cap B : Nat} {l : List S37} {r : S37} {i j : Nat} {cur : Array Value} (h : RowInv W g cap B l r i j wr cur) (hg : B ≠ g) (hc : l.length ≤ cap) (hj : j < l.length) (hij : i < j) (he : eqB (rd_T37 l (j : Int)) r = false) :
    RowInv W g cap B l r (i + 1) (j + 1) (wr.setCells g (i * 3) (cells3 (rd_T37 l (j : Int)))) (spl cur (i * 3) (cells3 (rd_T37 l (j : Int)))) := by
  have e : keep r (l.take (j + 1)) = keep r (l.take j) ++ [rd_T37 l (j : Int)] := by rw [keep_snoc r l j hj, he]; simp
  have hl3 : (cells3 (rd_T37 l (j : Int))).length = 3 := rfl
  have hs := h.size
  have hfl : (flat (keep r (l.take j))).length = i * 3 := by rw [flat_length, ← h.len]
  refine ⟨h.grown.trans (grown_setCells _ _ _), heap_setCells _ _ _ _ h.heap, by rw [spl_size, hs], ?_, by rw [e, List.length_append, ← h.len]; rfl, fun t ht => ?_, fun t h1 h2 => ?_⟩
  · exact ((grown_setCells (cells3 (rd_T37 l (j : Int))) (i * 3) wr).block B (blk_lt h.box) (fun e => hg (Option.some.inj e))).trans h.box
  · rw [spl_get _ _ _ _ (by rw [hl3]; omega), e, flat_append, hl3]
    by_cases h1 : t < i * 3
    · rw [if_pos h1, h.low t h1, List.getElem?_append_left (by omega)]
    · rw [if_neg h1, if_pos (by omega), List.getElem?_append_right (by omega), hfl]
      simp [flat]
  · rw [spl_get _ _ _ _ (by rw [hl3]; omega), hl3, if_neg (by omega), if_neg (by omega), h.high t (by omega) h2]

theorem RowInv.old {W wr : World} {g cap B : Nat} {l : List S37} {r : S37} {i j : Nat} {cur : Array Value} (h : RowInv W g cap B l r i j wr cur) (hi : i < cap) :
    ∃ u0 u1 u2, wr.cell? ⟨g, i * 3, none⟩ = some u0 ∧ wr.cell? ⟨g, i * 3 + 1, none⟩ = some u1 ∧ wr.cell? ⟨g, i * 3 + 2, none⟩ = some u2 ∧ wr.frozen? ⟨g, i * 3, none⟩ = false ∧ wr.frozen? ⟨g, i * 3 + 1, none⟩ = false ∧ wr.frozen? ⟨g, i * 3 + 2, none⟩ = false := by
  have hs := h.size
  exact ⟨_, _, _, (blk_cell h.heap _).trans (Array.getElem?_eq_getElem (by omega)), (blk_cell h.heap _).trans (Array.getElem?_eq_getElem (by omega)), (blk_cell h.heap _).trans (Array.getElem?_eq_getElem (by omega)), blk_frozen h.heap _, blk_frozen h.heap _, blk_frozen h.heap _⟩
theorem RowInv.called {W wr w2 : World} {g cap B : Nat} {l : List S37} {r x : S37} {i j : Nat} {cur : Array Value} (h : RowInv W g cap B l r i j wr cur) (hb : Below (wr.alloc (.cells #[.int .i64 x.f0, .string x.f1, .string x.f2] 37)).heap.size (wr.alloc (.cells #[.int .i64 x.f0, .string x.f1, .string x.f2] 37)) w2) : RowInv W g cap B l r i j w2 cur :=
  (h.below ((Below.refl _ _).alloc (Nat.le_refl _) _)).below hb

set_option maxHeartbeats 8000000 in
theorem DeleteFunc {base : Nat} {ok : Nat → Prop} {A : Option Addr} {c B : Nat} {l : List S37} {r : S37} {W : World} (hR : Kd.R k37 37 W base ok (.slice A l.length c) l) (hB : W.heap[B]? = some (.cells #[.int .i64 r.f0, .string r.f1, .string r.f2] 37 (0, 0))) (hnB : ¬ ok B) (hbs : base ≤ W.heap.size) :
    Calls Tryd.prog 111 #[.slice A l.length c, .func (.func 112) #[] #[.pointer (some ⟨B, 0, none⟩)]] W fun e w' => ∃ v0_ : Value, e = .returned v0_ ∧ Kd.R k37 37 w' base ok v0_ (keep r l) ∧ Below base W w' := by
  have hC := (Kd.R_reads' hR).2.2
  have hI := IndexFunc (fun x => eqB x r) 112 #[.pointer (some ⟨B, 0, none⟩)] (enters_of Tryd.func112 (by kernel_rfl) rfl) A c l W (isRefK B r W hB) hC
  have eg : ∀ args w, (callFunc 112 args).run Tryd.prog w = .ok (.enter 112 args) w := enters_of Tryd.func112 (by kernel_rfl) rfl
  rcases idx_cases (fun x => eqB x r) l 0 with ⟨e, hf⟩ | ⟨k0, hk0, e, hf⟩
  · rw [e] at hI
    have HF := Lib.hid (show keep r l = l from hf)
    have HR := Lib.hid hR
    clear hR hB hC hf e
    go_enter Tryd.func111, Tryd.ntmps111
    go_wp2_with (go_at_call 126; refine hI.mono ?_; rintro e w1 ⟨rfl, hb⟩)
    go_ret
    exact ⟨_, rfl, by rw [HF.out]; exact Kd.R_below HR.out hb, hb.mono hbs⟩
  · rcases row_parts hR with ⟨_, rfl⟩ | ⟨g, cap, cur, e', hok, hbg, hh, hc, hm, hs, ht⟩
    · simp at hk0
    injection e' with e1 _ e3
    subst e1; subst e3
    rw [e, Nat.zero_add] at hI
    have hgB : B ≠ g := fun z => hnB (by rw [z]; exact hok)
    have hf' : keep r (l.take (k0 + 1)) = l.take k0 := hf
    have H0 : RowInv W g c B l r k0 (k0 + 1) W cur := by
      refine ⟨World.grownBy.refl _ _, hh, hs, hB, by rw [hf', List.length_take]; omega, fun t h1 => ?_, fun t _ h2 => ht t h2⟩
      rw [hf', ht t (by omega)]
      have e2 : flat l = flat (l.take k0) ++ flat (l.drop k0) := by rw [← flat_append, List.take_append_drop]
      rw [e2, List.getElem?_append_left (by rw [flat_length, List.length_take]; omega)]
    have HH := Lib.hid H0
    have HM := Lib.hid hm
    have hne1 : ((k0 : Int) == -1) = false := beq_eq_false_iff_ne.2 (by omega)
    have hbig : l.length ≤ 9223372036854775807 := hC.2.1
    clear hR hB hC hf hf' e hh hs ht H0 hm
    go_enter Tryd.func111, Tryd.ntmps111
    go_wp2_with (go_at_call 126; refine hI.mono ?_; rintro e w1 ⟨rfl, hb⟩)
    go_loopg [5, 6, 7] l.length (fun gg s5 s6 _ wr => ∃ (i j : Nat) (cur : Array Value), s5 = .int .i64 i ∧ s6 = .int .i64 j ∧ j ≤ l.length ∧ l.length - j ≤ gg ∧ i < j ∧ Aside0 (RowInv W g c B l r i j wr cur))
    case atStart => exact ⟨k0, k0 + 1, cur, rfl, by go_num, by omega, by omega, by omega, ⟨HH.out.below hb⟩⟩
    case round =>
      obtain ⟨i, j, cu, rfl, rfl, hjn, hgg, hij, HI⟩ := hrel
      by_cases hlt : j < l.length
      · have hltz : (j : Int) < (l.length : Int) := by omega
        have cx0 : wr.cell? ⟨g, j * 3, none⟩ = some (.int .i64 (rd_T37 l (j : Int)).f0) := by rw [blk_cell HI.out.heap, HI.out.high _ (by omega) (by omega)]; exact rd_flat l j 0 hlt (by omega)
        have cx1 : wr.cell? ⟨g, j * 3 + 1, none⟩ = some (.string (rd_T37 l (j : Int)).f1) := by rw [blk_cell HI.out.heap, HI.out.high _ (by omega) (by omega)]; exact rd_flat l j 1 hlt (by omega)
        have cx2 : wr.cell? ⟨g, j * 3 + 2, none⟩ = some (.string (rd_T37 l (j : Int)).f2) := by rw [blk_cell HI.out.heap, HI.out.high _ (by omega) (by omega)]; exact rd_flat l j 2 hlt (by omega)
        obtain ⟨x, hx⟩ : ∃ x, rd_T37 l (j : Int) = x := ⟨_, rfl⟩
        rw [hx] at cx0 cx1 cx2
        have hcall := isRef B r (wr.alloc (.cells #[.int .i64 x.f0, .string x.f1, .string x.f2] 37)) (blk_alloc HI.out.box _) x
        cases hq : eqB x r with
        | true =>
          rw [hq] at hcall
          have HN := Lib.hid (HI.out.skip hlt (by rw [hx]; exact hq))
          clear hq hx
          go_wp2_with (go_at_fn 112; refine hcall.mono ?_; rintro e w2 ⟨rfl, hb2⟩)
          have HN2 := Lib.hid ((HN.out.below ((Below.refl _ _).alloc (Nat.le_refl _) _)).below hb2)
          go_roundg (l.length - (j + 1))
          case measure => omega
          case rel => exact ⟨i, j + 1, cu, rfl, by go_num, by omega, by omega, by omega, ⟨HN2.out⟩⟩
        | false =>
          rw [hq] at hcall
          have HX := Lib.hid hx
          have HQ := Lib.hid hq
          have hic0 : i < c := by omega
          have hiz : (i : Int) < (l.length : Int) := by omega
          clear hq hx
          go_wp2_with (go_at_fn 112; refine hcall.mono ?_; rintro e w2 ⟨rfl, hb2⟩; obtain ⟨y0, y1, y2⟩ := box3 hb2; have HJ := Aside0.mk (HI.out.called hb2); obtain ⟨u0, u1, u2, o0, o1, o2, q0, q1, q2⟩ := HJ.out.old hic0; skip)
          have HP := HJ.out.put hgB hc hlt hij (by rw [HX.out]; exact HQ.out)
          rw [HX.out] at HP
          have HP2 := Lib.hid HP
          clear HP
          go_roundg (l.length - (j + 1))
          case measure => omega
          case rel => exact ⟨i + 1, j + 1, _, by go_num, by go_num, by omega, by omega, by omega, ⟨HP2.out⟩⟩
      · obtain rfl : j = l.length := by omega
        have hltz : ¬ (l.length : Int) < (l.length : Int) := by omega
        have hci : ¬ c = i := by omega
        have hinz : (i : Int) ≤ (l.length : Int) := by omega
        have hicz : (i : Int) ≤ (c : Int) := by omega
        have hin : i ≤ l.length := by omega
        have hic : i ≤ c := by omega
        obtain ⟨cs, hcsl, hclr⟩ := run_clear3 wr g (i * 3) (l.length - i) (c - i) cu (by omega) HI.out.heap (by rw [HI.out.size]; omega)
        have hlen : i = (keep r l).length := by rw [HI.out.len, List.take_length]
        have HR : Hid (Kd.R k37 37 (wr.setCells g (i * 3) cs) base ok (.slice (some ⟨g, 0, none⟩) i c) (keep r l)) := by
          have h := row_mk (l := keep r l) hok hbg (heap_setCells cs (i * 3) wr cu HI.out.heap) (by omega) HM.out (by rw [spl_size, HI.out.size]) (fun t h1 => by
            rw [spl_get _ _ _ _ (by rw [HI.out.size]; omega), if_pos (by omega)]
            have h2 := HI.out.low t (by omega)
            rwa [List.take_length] at h2)
          rw [← hlen] at h
          exact Lib.hid h
        have HBB : Hid (Below base W (wr.setCells g (i * 3) cs)) := Lib.hid ((Below.refl base W).grown (HI.out.grown.trans (grown_setCells cs (i * 3) wr)) hbs (fun k hk => by cases hk; exact hbg))
        clear hcsl hlen
        go_wp2
        go_ret
        exact ⟨_, rfl, HR.out, HBB.out⟩

/-! ### queue.Drop -/
set_option maxHeartbeats 4000000 in
theorem Drop (A : Option Addr) (c : Nat) (l : List S37) (r : S37) (w : World) (hC : Kd.C k37 w A l.length l) (hc : l.length ≤ c) (hl : l.length ≤ 1000000) :
    Calls Tryd.prog 70 #[.slice A l.length c, .agg #[.int .i64 r.f0, .string r.f1, .string r.f2]] w fun e w' => ∃ v0_ : Value, e = .returned v0_ ∧ Kd.R k37 37 w' w.heap.size (fun _ => True) v0_ (keep r l) ∧ Below w.heap.size w w' := by
  have hCl := Clone A c l (w.alloc (.cells #[.int .i64 r.f0, .string r.f1, .string r.f2] 37)) (Kd.C_alloc hC _) hc hl
  have hbox : (w.alloc (.cells #[.int .i64 r.f0, .string r.f1, .string r.f2] 37)).heap[w.heap.size]? = some (.cells #[.int .i64 r.f0, .string r.f1, .string r.f2] 37 (0, 0)) := World.alloc_heap_new _ _
  have HX := Lib.hid hbox
  clear hbox hC
  go_enter Tryd.func70, Tryd.ntmps70
  go_wp2_with (first | (go_at_call 97; refine hCl.mono ?_; rintro e w1 ⟨v1, rfl, hR1, hb1⟩; obtain ⟨A1, c1, rfl⟩ := Kd.R_slice hR1; have HB1 := Lib.hid ((hb1.block w.heap.size (by simp)).trans HX.out); have HR1 := Lib.hid (Kd.R_newB hR1 HX.out); have HZ := Lib.hid hb1; clear hR1 hb1) | (go_at_call 111; refine (DeleteFunc HR1.out HB1.out (fun h => h.2 rfl) HZ.out.size).mono ?_; rintro e w2 ⟨v2, rfl, hR2, hb2⟩; have HR2 := Lib.hid hR2; have HZ2 := Lib.hid hb2; clear hR2 hb2))
  go_ret
  refine ⟨_, rfl, Kd.R_lower (Kd.R_mono HR2.out (fun _ _ => trivial)) (by simp), ?_⟩
  exact ((Below.refl _ w).alloc (Nat.le_refl _) _).trans ((HZ.out.mono (by simp)).trans (HZ2.out.mono (by simp)))

end Go.Proofs.YtcakednecmngdaaDoor.Queue
namespace Go.Proofs.YtcakednecmngdaaDoor.Q
open Go Go.RowKit Go.Proofs.YtcakednecmngdaaDoor.Plain Go.Proofs.YtcakednecmngdaaDoor.P Go.Proofs.YtcakednecmngdaaDoorW.PrintWords
def api_Ref_98.f (l0 : List S37) (a1 a2 : Int) : Option (List S37) := if 0 ≤ a1 ∧ a1 < l0.length ∧ a2 = a1 + 1 ∧ l0.length ≤ 1000000 then some (l0.eraseIdx a1.toNat) else none
def queue_Drop.f (l0 : List S37) (a1_0 : Int) (a1_1 : ByteArray) (a1_2 : ByteArray) : Option (List S37) := if l0.length ≤ 1000000 then some (Queue.keep ⟨a1_0, a1_1, a1_2⟩ l0) else none
theorem queue_Drop.calls (A0 : Option Addr) (c0 : Nat) (l0 : List S37) (a1_0 : Int) (a1_1 : ByteArray) (a1_2 : ByteArray) (r : List S37) (w : World) (hr0 : Kd.C k37 w A0 l0.length l0) (hc0 : l0.length ≤ c0) (h : queue_Drop.f l0 a1_0 a1_1 a1_2 = some r) :
    Calls Tryd.prog 70 #[.slice A0 l0.length c0, .agg #[.int .i64 a1_0, .string a1_1, .string a1_2]] w fun e w' => ∃ v0_ : Value, e = .returned (v0_) ∧ Kd.R k37 37 w' w.heap.size (fun _ => True) v0_ r ∧ Below w.heap.size w w' := by
  unfold queue_Drop.f at h
  split at h
  · next hh =>
    obtain rfl := Option.some.inj h
    exact Queue.Drop A0 c0 l0 ⟨a1_0, a1_1, a1_2⟩ w hr0 hc0 hh
  · cases h
end Go.Proofs.YtcakednecmngdaaDoor.Q
