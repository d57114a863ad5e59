/-
  Which refs may be, the library's searches over refs, a copy of refs, and which queues may be: what the code hands back, walked.
  Conditions: a queue that is checked has whole numbers of 64 bits and texts of at most 1000000 octets.
-/
import Derived.Test.YtcakednecmngdaaDoorQf96
import Derived.Test.YtcakednecmngdaaDoorQf41
import Derived.Test.YtcakednecmngdaaDoorPlugDns
import Derived.Lib.Hide
import Derived.Maps.AppendAt
import Derived.Maps.Own
import Derived.Maps.OwnOps
import Derived.Maps.Views
import Derived.Deep.LoopGhost
import Derived.DeepKeys4
import Derived.Lib.SliceRun
import Derived.Lib.Walk
import Derived.WalkSpells
namespace Go.Proofs.YtcakednecmngdaaDoor.Queue
open Go Go.RowKit Go.Proofs.YtcakednecmngdaaDoor.Plain Go.Proofs.YtcakednecmngdaaDoor.Q Go.Proofs.YtcakednecmngdaaDoor.P Go.Proofs.YtcakednecmngdaaDoorW.PrintWords
set_option maxRecDepth 100000

theorem ret_bool {a b : Bool} (h : a = b) : Ending.returned (.bool a) = .returned (.bool b) := by rw [h]
theorem ret_i64 {a b : Int} (h : a = b) : Ending.returned (.int .i64 a) = .returned (.int .i64 b) := by rw [h]

/-! ### refs -/
def mayR (r : S37) : Bool := if r.f0 = 1 then decide (r.f1.size = 0) && nameB r.f2 else if r.f0 = 2 then decide (r.f1.size = 0) && labelB r.f2 else decide (1 ≤ r.f0) && decide (r.f0 ≤ 7) && labelB r.f1 && nameB r.f2
theorem nil_iff (s : ByteArray) : s.toList = [] ↔ s.size = 0 := by
  rw [Lib.toList_data, Lib.size_eq]; exact List.length_eq_zero_iff.symm
theorem mayR_eq (r : S37) : object_MayRef.f r.f0 r.f1 r.f2 = some (mayR r) := by
  unfold object_MayRef.f mayR object_kind.f dns_Name.f dns_Label.f
  simp only [Option.bind_some, nil_iff]
  by_cases h1 : r.f0 = 1
  · simp only [h1]; by_cases h2 : r.f1.size = 0 <;> simp [h2]
  · by_cases h2 : r.f0 = 2
    · simp only [h2]; by_cases h2 : r.f1.size = 0 <;> simp [h2]
    · by_cases h3 : 1 ≤ r.f0 <;> by_cases h4 : r.f0 ≤ 7 <;> simp [h1, h2, h3, h4] <;> cases labelB r.f1 <;> cases nameB r.f2 <;> simp

/-- What a closure over refs tells of each ref: in every world in which all that lay in w lies unturned. -/
def PredK {α : Type} (d : Kd α) (g : Nat) (lb : Array Value) (p : α → Bool) (w : World) : Prop :=
  ∀ (W : World) (x : α) (cs : List Value), Below w.heap.size w W → d.K W x cs → Calls Tryd.prog g (#[.agg cs.toArray] ++ lb) W fun e w' => e = .returned (.bool (p x)) ∧ Below W.heap.size W w'

def idxFrom {α : Type} (p : α → Bool) : List α → Nat → Int
  | [], _ => -1
  | x :: l, i => if p x then (i : Int) else idxFrom p l (i + 1)
theorem idx_any {α : Type} (p : α → Bool) : ∀ (l : List α) (i : Nat), decide (idxFrom p l i ≥ 0) = l.any p
  | [], _ => rfl
  | x :: l, i => by
    rw [idxFrom, List.any_cons]
    cases h : p x with
    | true => simp
    | false => simpa using idx_any p l (i + 1)
theorem drop_rd (l : List S37) (k : Nat) (h : k < l.length) : l.drop k = rd_T37 l (k : Int) :: l.drop (k + 1) := by
  rw [List.drop_eq_getElem_cons h]
  congr 1
  unfold rd_T37
  simp [List.getD_eq_getElem?_getD, List.getElem?_eq_getElem h]

theorem mayNot (w : World) : PredK k37 95 #[] (fun r => !mayR r) w := fun W x cs _ hK => by
  obtain rfl := k37_open hK
  have cM := fun V => object_MayRef.calls x.f0 x.f1 x.f2 (mayR x) V (mayR_eq x)
  go_enter Tryd.func95, Tryd.ntmps95
  go_wp2_with (go_at_call 96; refine (cM _).mono ?_; rintro e w' ⟨rfl, hb⟩)
  go_ret
  exact ⟨ret_bool rfl, ((Below.refl _ _).alloc (Nat.le_refl _) _).trans (hb.mono (by simp))⟩

set_option maxHeartbeats 4000000 in
theorem IndexFunc (p : S37 → Bool) (g : Nat) (lb : Array Value) (eg : ∀ args w, (callFunc g args).run Tryd.prog w = .ok (.enter g args) w) (A : Option Addr) (c : Nat) (l : List S37) (w : World)
    (hp : PredK k37 g lb p w) (hC : Kd.C k37 w A l.length l) :
    Calls Tryd.prog 126 #[.slice A l.length c, .func (.func g) #[] lb] w fun e w' => e = .returned (.int .i64 (idxFrom p l 0)) ∧ Below w.heap.size w w' := by
  have hbig : l.length ≤ 9223372036854775807 := hC.2.1
  have HC := Lib.hid hC
  have HP := Lib.hid hp
  clear hC hp
  go_enter Tryd.func126, Tryd.ntmps126
  go_wp2
  go_loopg [5, 8] l.length (fun gg _ s8 wr => ∃ kk : Nat, kk ≤ l.length ∧ l.length - kk ≤ gg ∧ s8 = .int .i64 kk ∧ Aside0 (Below w.heap.size w wr) ∧ Aside0 (idxFrom p l 0 = idxFrom p (l.drop kk) kk))
  case atStart => exact ⟨0, Nat.zero_le _, by omega, rfl, ⟨Below.refl _ w⟩, ⟨by rw [List.drop_zero]⟩⟩
  case round =>
    obtain ⟨kk, hkk, hg, rfl, BW, AI⟩ := hrel
    by_cases hlt : kk < l.length
    · have hltz : (kk : Int) < (l.length : Int) := by omega
      obtain ⟨ad, rfl, hx0, hx1, hx2⟩ := at_T37 HC.out (kk : Int) (by omega) (by omega)
      replace hx0 := (BW.out.cell (World.block_lt_of_cell? w _ hx0)).trans hx0
      replace hx1 := (BW.out.cell (World.block_lt_of_cell? w _ hx1)).trans hx1
      replace hx2 := (BW.out.cell (World.block_lt_of_cell? w _ hx2)).trans hx2
      rw [Int.toNat_natCast] at hx0 hx1 hx2
      have hd := drop_rd l kk hlt
      obtain ⟨x, hx⟩ : ∃ x, rd_T37 l (kk : Int) = x := ⟨_, rfl⟩
      rw [hx] at hx0 hx1 hx2 hd
      have hcall := HP.out wr x _ BW.out (k37_mk wr x)
      have HD := Lib.hid hd
      clear hd hx
      have hgE := eg
      cases hq : p x with
      | true =>
        rw [hq] at hcall
        have HQ := Lib.hid hq
        clear hq
        go_wp2_with (go_at_fn g; refine hcall.mono ?_; rintro e w' ⟨rfl, hb'⟩)
        go_ret
        refine ⟨ret_i64 ?_, BW.out.trans (hb'.mono BW.out.size)⟩
        rw [AI.out, HD.out, idxFrom, HQ.out, if_pos rfl]
      | false =>
        rw [hq] at hcall
        have HQ := Lib.hid hq
        clear hq
        go_wp2_with (go_at_fn g; refine hcall.mono ?_; rintro e w' ⟨rfl, hb'⟩)
        go_roundg (l.length - (kk + 1))
        case measure => omega
        case rel => exact ⟨kk + 1, by omega, by omega, by go_num, ⟨BW.out.trans (hb'.mono BW.out.size)⟩, ⟨by rw [AI.out, HD.out, idxFrom, HQ.out, if_neg (by simp)]⟩⟩
    · have hltz : ¬ (kk : Int) < (l.length : Int) := by omega
      go_wp2
      go_ret
      refine ⟨ret_i64 ?_, BW.out⟩
      rw [AI.out, List.drop_eq_nil_of_le (by omega), idxFrom]

theorem ContainsFunc (p : S37 → Bool) (g : Nat) (lb : Array Value) (eg : ∀ args w, (callFunc g args).run Tryd.prog w = .ok (.enter g args) w) (A : Option Addr) (c : Nat) (l : List S37) (w : World)
    (hp : PredK k37 g lb p w) (hC : Kd.C k37 w A l.length l) :
    Calls Tryd.prog 94 #[.slice A l.length c, .func (.func g) #[] lb] w fun e w' => e = .returned (.bool (l.any p)) ∧ Below w.heap.size w w' := by
  have hI := IndexFunc p g lb eg A c l w hp hC
  have HA := Lib.hid (idx_any p l 0)
  clear hp hC
  go_enter Tryd.func94, Tryd.ntmps94
  go_wp2_with (go_at_call 126; refine hI.mono ?_; rintro e w' ⟨rfl, hb⟩)
  go_ret
  exact ⟨ret_bool HA.out, hb⟩

/-! ### a copy -/
def cells3 (x : S37) : List Value := [.int .i64 x.f0, .string x.f1, .string x.f2]
def flat (l : List S37) : List Value := l.flatMap cells3
theorem flat_length (l : List S37) : (flat l).length = l.length * 3 := by
  induction l with
  | nil => rfl
  | cons x l ih => rw [flat, List.flatMap_cons, List.length_append, List.length_cons, ← flat, ih]; simp [cells3]; omega
theorem flat_get (l : List S37) : ∀ (j t : Nat), t < 3 → (flat l)[j * 3 + t]? = (l[j]?).bind fun x => (cells3 x)[t]? := by
  induction l with
  | nil => intro j t _; simp [flat]
  | cons x l ih =>
    intro j t ht
    rw [flat, List.flatMap_cons, ← flat]
    cases j with
    | zero => rw [List.getElem?_append_left (by simp [cells3]; omega)]; simp
    | succ j =>
      rw [List.getElem?_append_right (by simp [cells3]; omega), show (j + 1) * 3 + t - (cells3 x).length = j * 3 + t by simp [cells3]; omega, ih j t ht]
      simp
theorem reps_flat (w : World) (base : Nat) (ok : Nat → Prop) (l : List S37) : Reps (k37.M w base ok) 3 l (flat l) := by
  refine ⟨flat_length l, fun j p hj => ?_⟩
  have e : ((flat l).drop (j * 3)).take 3 = cells3 p := by
    refine List.ext_getElem? fun t => ?_
    rw [List.getElem?_take]
    by_cases ht : t < 3
    · rw [if_pos ht, List.getElem?_drop, flat_get l j t ht, hj]; rfl
    · rw [if_neg ht, List.getElem?_eq_none (by simp [cells3]; omega)]
  rw [e]
  exact k37_mkM w base ok p
theorem flat_one (l : List S37) : ∀ u ∈ flat l, u.oneCell' = true := by
  intro u hu
  obtain ⟨x, _, hx⟩ := List.mem_flatMap.1 hu
  simp [cells3] at hx
  rcases hx with rfl | rfl | rfl <;> rfl
theorem flat_cells {w : World} {ad : Addr} {l : List S37} (hC : Kd.C k37 w (some ad) l.length l) : ∀ j u, (flat l)[j]? = some u → w.cell? (ad.add j) = some u := by
  intro j u hj
  have hjl : j < l.length * 3 := by rw [← flat_length]; exact (List.getElem?_eq_some_iff.1 hj).1
  have ej : j = j / 3 * 3 + j % 3 := by omega
  rw [ej, flat_get l (j / 3) (j % 3) (Nat.mod_lt _ (by omega))] at hj
  obtain ⟨ad', e, hc⟩ := hC.2.2 (by omega)
  obtain rfl := Option.some.inj e
  obtain ⟨c, _, hK, hcell⟩ := hc (j / 3) _ (List.getElem?_eq_getElem (by omega))
  obtain rfl := k37_open hK
  rw [List.getElem?_eq_getElem (by omega), Option.bind_some] at hj
  have := hcell (j % 3) u hj
  rw [ej]
  exact this

set_option maxHeartbeats 4000000 in
theorem Clone (A : Option Addr) (c : Nat) (l : List S37) (w : World) (hC : Kd.C k37 w A l.length l) (hc : l.length ≤ c) (hl : l.length ≤ 1000000) :
    Calls Tryd.prog 97 #[.slice A l.length c] w fun e w' => ∃ v0_ : Value, e = .returned v0_ ∧ Kd.R k37 37 w' w.heap.size (fun _ => True) v0_ l ∧ Below w.heap.size w w' := by
  cases A with
  | none =>
    obtain rfl : l = [] := by
      by_cases h : 0 < l.length
      · obtain ⟨_, e, _⟩ := hC.2.2 h; cases e
      · exact List.length_eq_zero_iff.1 (by omega)
    have q22 : ∀ (w : World) (n' c' : Nat), (binOp .eql 29 (.slice none 0 c) (.slice none n' c')).run Tryd.prog w = .ok (.bool true) w := fun w n' c' => Lib.run_eql_slice_nil w _ _ none 0 c n' c' Tryd.underlying29
    clear hC
    go_enter Tryd.func97, Tryd.ntmps97
    go_wp2
    go_ret
    exact ⟨_, rfl, Kd.R_nil _ _ _ _ _, Below.refl _ _⟩
  | some ad =>
    have HF := Lib.hid (flat_cells hC)
    have q22 : ∀ (w : World) (n' c' : Nat), (binOp .eql 29 (.slice (some ad) l.length c) (.slice none n' c')).run Tryd.prog w = .ok (.bool false) w := fun w n' c' => Lib.run_eql_slice_nil w _ _ (some ad) l.length c n' c' Tryd.underlying29
    obtain ⟨i0, hi, hz0, hz1, hz2⟩ := info_parts info37
    have HL := Lib.hid (flat_length l)
    clear hC
    go_enter Tryd.func97, Tryd.ntmps97
    go_wp2_with (at_builtin; refine wpList_append_own_at _ rfl _ _ 29 rfl w.heap.size 37 i0 _ 3 40 Tryd.underlying29 hi hz0 hz1 hz2 rfl (by decide) _ _ _ rfl (World.ownsRow_made w #[] 0 (Nat.le_refl _) (Nat.zero_le _) (by simp)) ad l.length c (flat l) rfl ?c0 ?c1 ?c2 ?c3 ?c4 ?c5 ?_)
    case c0 => exact HL.out
    case c1 =>
      intro j u hj
      exact Lib.cell?_alloc_some _ (HF.out j u hj)
    case c2 => exact flat_one l
    case c3 => unfold maxLen; omega
    case c4 => omega
    case c5 => simp
    intro v' w4 hown' hg hnil hat
    go_wp2
    go_ret
    refine ⟨_, rfl, ⟨fun _ _ => trivial, flat l, (show w4.ownsRow w.heap.size 37 3 v' l.length (flat l) from by simpa using hown'), reps_flat _ _ _ l⟩, ?_⟩
    exact ((Below.refl _ w).alloc (Nat.le_refl _) _).grown hg (by simp) (fun k hk => by simp [Value.ownBlock] at hk; omega)

end Go.Proofs.YtcakednecmngdaaDoor.Queue
