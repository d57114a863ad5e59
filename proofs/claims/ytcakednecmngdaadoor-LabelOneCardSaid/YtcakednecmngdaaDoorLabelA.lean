/-
  A label's value among labels, which texts may be values, and what a need asks: what label.find, slices.ContainsFunc over texts, label.asks and label.met hand back, walked.
  Conditions: none.
-/
import Derived.Test.YtcakednecmngdaaDoorL0
import Derived.Test.YtcakednecmngdaaDoorLf100
import Derived.Test.YtcakednecmngdaaDoorPlugDns
import Derived.Test.YtcakednecmngdaaDoorBase
import Derived.Lib.Hide
import Derived.Deep.LoopGhost

namespace Go.Proofs.YtcakednecmngdaaDoor.Label
open Go Go.RowKit Go.Proofs.YtcakednecmngdaaDoor.Plain Go.Proofs.YtcakednecmngdaaDoor.L Go.Proofs.YtcakednecmngdaaDoor.P Go.Proofs.YtcakednecmngdaaDoorW.PrintWords
set_option maxRecDepth 100000

theorem ret_bool {a b : Bool} (h : a = b) : Ending.returned (.bool a) = .returned (.bool b) := by rw [h]
theorem ret_i64 {a b : Int} (h : a = b) : Ending.returned (.int .i64 a) = .returned (.int .i64 b) := by rw [h]
theorem nil_iff (s : ByteArray) : s.toList = [] ↔ s.size = 0 := by
  rw [Lib.toList_data, Lib.size_eq]; exact List.length_eq_zero_iff.symm

def idxFrom {α : Type} (p : α → Bool) : List α → Nat → Int
  | [], _ => -1
  | x :: l, i => if p x then (i : Int) else idxFrom p l (i + 1)
theorem idx_any {α : Type} (p : α → Bool) : ∀ (l : List α) (i : Nat), decide (idxFrom p l i ≥ 0) = l.any p
  | [], _ => rfl
  | x :: l, i => by
    rw [idxFrom, List.any_cons]
    cases h : p x with
    | true => simp
    | false => simpa using idx_any p l (i + 1)
/-- The first place, and what stands there. -/
theorem idx_find {α : Type} (p : α → Bool) : ∀ (l : List α) (i : Nat), (idxFrom p l i = -1 ∧ l.find? p = none) ∨ ∃ k x, k < l.length ∧ l[k]? = some x ∧ idxFrom p l i = ((i + k : Nat) : Int) ∧ l.find? p = some x
  | [], _ => .inl ⟨rfl, rfl⟩
  | x :: l, i => by
    cases h : p x with
    | true => exact .inr ⟨0, x, by simp, rfl, by simp [idxFrom, h], by simp [h]⟩
    | false =>
      rcases idx_find p l (i + 1) with ⟨e, hf⟩ | ⟨k, y, hk, hy, e, hf⟩
      · exact .inl ⟨by simp [idxFrom, h, e], by simp [h, hf]⟩
      · exact .inr ⟨k + 1, y, by simpa using hk, by simpa using hy, by simp only [idxFrom, h]; rw [if_neg (by simp), e]; congr 1; omega, by simp [h, hf]⟩
/-- What a closure tells of each thing: in every world in which all that lay in w lies unturned. -/
def PredK {α : Type} (d : Kd α) (f : List Value → Value) (g : Nat) (lb : Array Value) (p : α → Bool) (w : World) : Prop :=
  ∀ (W : World) (x : α) (cs : List Value), Below w.heap.size w W → d.K W x cs → Calls Tryd.prog g (#[f cs] ++ lb) W fun e w' => e = .returned (.bool (p x)) ∧ Below W.heap.size W w'
def aggV (cs : List Value) : Value := .agg cs.toArray
def oneV (cs : List Value) : Value := cs.headD undef

/-! ### texts -/
def valueB (s : ByteArray) : Bool := decide (s.size = 0) || labelB s
theorem value_eq (s : ByteArray) : label_value.f s = some (valueB s) := by
  unfold label_value.f valueB dns_Label.f
  simp only [Option.bind_some, nil_iff]
  by_cases h : s.size = 0 <;> simp [h]
theorem noValue (w : World) : PredK Kd.string oneV 134 #[] (fun s => !valueB s) w := fun W x cs _ hK => by
  obtain rfl : cs = [.string x] := hK
  have cV := fun V => label_value.calls x (valueB x) V (value_eq x)
  show Calls Tryd.prog _ #[.string x] W _
  go_enter Tryd.func134, Tryd.ntmps134
  go_wp2_with (go_at_call 100; refine (cV _).mono ?_; rintro e w' ⟨rfl, hb⟩)
  go_ret
  exact ⟨ret_bool rfl, hb⟩
def rdS (l : List ByteArray) (k : Nat) : ByteArray := l.getD k ⟨#[]⟩
theorem drop_rdS (l : List ByteArray) (k : Nat) (h : k < l.length) : l.drop k = rdS l k :: l.drop (k + 1) := by
  rw [List.drop_eq_getElem_cons h]
  congr 1
  unfold rdS
  simp [List.getD_eq_getElem?_getD, List.getElem?_eq_getElem h]
theorem at_S {w : World} {A : Option Addr} {l : List ByteArray} (h : Kd.C Kd.string w A l.length l) (k : Nat) (hk : k < l.length) : ∃ ad, A = some ad ∧ w.cell? (ad.add k) = some (.string (rdS l k)) := by
  obtain ⟨ad, e, hc⟩ := h.2.2 (by omega)
  obtain ⟨c, _, hK, hcell⟩ := hc k _ (List.getElem?_eq_getElem hk)
  obtain rfl : c = [.string l[k]] := hK
  refine ⟨ad, e, ?_⟩
  have := hcell 0 _ rfl
  rw [show k * Kd.string.sz + 0 = k from Nat.mul_one k] at this
  rw [this]
  unfold rdS
  simp [List.getD_eq_getElem?_getD, List.getElem?_eq_getElem hk]
set_option maxHeartbeats 4000000 in
theorem IndexFuncS (p : ByteArray → Bool) (g : Nat) (lb : Array Value) (eg : ∀ args w, (callFunc g args).run Tryd.prog w = .ok (.enter g args) w) (A : Option Addr) (c : Nat) (l : List ByteArray) (w : World)
    (hp : PredK Kd.string oneV g lb p w) (hC : Kd.C Kd.string w A l.length l) :
    Calls Tryd.prog 153 #[.slice A l.length c, .func (.func g) #[] lb] w fun e w' => e = .returned (.int .i64 (idxFrom p l 0)) ∧ Below w.heap.size w w' := by
  have hbig : l.length ≤ 9223372036854775807 := hC.2.1
  have HC := Lib.hid hC
  have HP := Lib.hid hp
  clear hC hp
  go_enter Tryd.func153, Tryd.ntmps153
  go_wp2
  go_loopg [5, 8] l.length (fun gg _ s8 wr => ∃ kk : Nat, kk ≤ l.length ∧ l.length - kk ≤ gg ∧ s8 = .int .i64 kk ∧ Aside0 (Below w.heap.size w wr) ∧ Aside0 (idxFrom p l 0 = idxFrom p (l.drop kk) kk))
  case atStart => exact ⟨0, Nat.zero_le _, by omega, rfl, ⟨Below.refl _ w⟩, ⟨by rw [List.drop_zero]⟩⟩
  case round =>
    obtain ⟨kk, hkk, hg, rfl, BW, AI⟩ := hrel
    by_cases hlt : kk < l.length
    · have hltz : (kk : Int) < (l.length : Int) := by omega
      obtain ⟨ad, rfl, hx0⟩ := at_S HC.out kk hlt
      replace hx0 := (BW.out.cell (World.block_lt_of_cell? w _ hx0)).trans hx0
      have hd := drop_rdS l kk hlt
      obtain ⟨x, hx⟩ : ∃ x, rdS l kk = x := ⟨_, rfl⟩
      rw [hx] at hx0 hd
      have hcall : Calls Tryd.prog g (#[.string x] ++ lb) wr _ := HP.out wr x [.string x] BW.out rfl
      have HD := Lib.hid hd
      clear hd hx
      have hgE := eg
      cases hq : p x with
      | true =>
        rw [hq] at hcall
        have HQ := Lib.hid hq
        clear hq
        go_wp2_with (go_at_fn g; refine hcall.mono ?_; rintro e w' ⟨rfl, hb'⟩)
        go_ret
        refine ⟨ret_i64 ?_, BW.out.trans (hb'.mono BW.out.size)⟩
        rw [AI.out, HD.out, idxFrom, HQ.out, if_pos rfl]
      | false =>
        rw [hq] at hcall
        have HQ := Lib.hid hq
        clear hq
        go_wp2_with (go_at_fn g; refine hcall.mono ?_; rintro e w' ⟨rfl, hb'⟩)
        go_roundg (l.length - (kk + 1))
        case measure => omega
        case rel => exact ⟨kk + 1, by omega, by omega, by go_num, ⟨BW.out.trans (hb'.mono BW.out.size)⟩, ⟨by rw [AI.out, HD.out, idxFrom, HQ.out, if_neg (by simp)]⟩⟩
    · have hltz : ¬ (kk : Int) < (l.length : Int) := by omega
      go_wp2
      go_ret
      refine ⟨ret_i64 ?_, BW.out⟩
      rw [AI.out, List.drop_eq_nil_of_le (by omega), idxFrom]
theorem NoValues (A : Option Addr) (c : Nat) (l : List ByteArray) (w : World) (hC : Kd.C Kd.string w A l.length l) :
    Calls Tryd.prog 133 #[.slice A l.length c, .func (.func 134) #[] #[]] w fun e w' => e = .returned (.bool (l.any fun s => !valueB s)) ∧ Below w.heap.size w w' := by
  have hI := IndexFuncS _ 134 #[] (enters_of Tryd.func134 (by kernel_rfl) rfl) A c l w (noValue w) hC
  have HA := Lib.hid (idx_any (fun s => !valueB s) l 0)
  clear hC
  go_enter Tryd.func133, Tryd.ntmps133
  go_wp2_with (go_at_call 153; refine hI.mono ?_; rintro e w' ⟨rfl, hb⟩)
  go_ret
  exact ⟨ret_bool HA.out, hb⟩

/-! ### pairs: a label's value -/
def isB (s : ByteArray) (p : S55) : Bool := p.f0.toList == s.toList
theorem isB_iff (s : ByteArray) (p : S55) : isB s p = true ↔ p.f0 = s := by unfold isB; rw [beq_iff_eq, DnsPure.toList_inj]
theorem isName (B : Nat) (s : ByteArray) (w : World) (hB : w.heap[B]? = some (.cells #[.string s] 9 (0, 0))) : PredK k55 aggV 151 #[.pointer (some ⟨B, 0, none⟩)] (isB s) w := fun W x cs hb hK => by
  obtain rfl := k55_open hK
  have c0 : W.cell? ⟨B, 0, none⟩ = some (.string s) := (blk_cell ((hb.block B (blk_lt hB)).trans hB) 0).trans rfl
  have hlt : B < W.heap.size := by have := blk_lt hB; have := hb.size; omega
  have hE : Hid (isB s x = (x.f0.toList == s.toList)) := Lib.hid rfl
  clear hB hK
  show Calls Tryd.prog _ #[.agg #[.string x.f0, .string x.f1], .pointer (some ⟨B, 0, none⟩)] W _
  go_enter Tryd.func151, Tryd.ntmps151
  go_wp2
  go_ret
  exact ⟨ret_bool (by rw [hE.out]), (Below.refl _ _).alloc (Nat.le_refl _) _⟩
theorem drop_rdP (l : List S55) (k : Nat) (h : k < l.length) : l.drop k = rd_T55 l (k : Int) :: l.drop (k + 1) := by
  rw [List.drop_eq_getElem_cons h]
  congr 1
  unfold rd_T55
  simp [List.getD_eq_getElem?_getD, List.getElem?_eq_getElem h]
set_option maxHeartbeats 4000000 in
theorem IndexFuncP (p : S55 → Bool) (g : Nat) (lb : Array Value) (eg : ∀ args w, (callFunc g args).run Tryd.prog w = .ok (.enter g args) w) (A : Option Addr) (c : Nat) (l : List S55) (w : World)
    (hp : PredK k55 aggV g lb p w) (hC : Kd.C k55 w A l.length l) :
    Calls Tryd.prog 150 #[.slice A l.length c, .func (.func g) #[] lb] w fun e w' => e = .returned (.int .i64 (idxFrom p l 0)) ∧ Below w.heap.size w w' := by
  have hbig : l.length ≤ 9223372036854775807 := hC.2.1
  have HC := Lib.hid hC
  have HP := Lib.hid hp
  clear hC hp
  go_enter Tryd.func150, Tryd.ntmps150
  go_wp2
  go_loopg [5, 8] l.length (fun gg _ s8 wr => ∃ kk : Nat, kk ≤ l.length ∧ l.length - kk ≤ gg ∧ s8 = .int .i64 kk ∧ Aside0 (Below w.heap.size w wr) ∧ Aside0 (idxFrom p l 0 = idxFrom p (l.drop kk) kk))
  case atStart => exact ⟨0, Nat.zero_le _, by omega, rfl, ⟨Below.refl _ w⟩, ⟨by rw [List.drop_zero]⟩⟩
  case round =>
    obtain ⟨kk, hkk, hg, rfl, BW, AI⟩ := hrel
    by_cases hlt : kk < l.length
    · have hltz : (kk : Int) < (l.length : Int) := by omega
      obtain ⟨ad, rfl, hx0, hx1⟩ := at_T55 HC.out (kk : Int) (by omega) (by omega)
      replace hx0 := (BW.out.cell (World.block_lt_of_cell? w _ hx0)).trans hx0
      replace hx1 := (BW.out.cell (World.block_lt_of_cell? w _ hx1)).trans hx1
      rw [Int.toNat_natCast] at hx0 hx1
      have hd := drop_rdP l kk hlt
      obtain ⟨x, hx⟩ : ∃ x, rd_T55 l (kk : Int) = x := ⟨_, rfl⟩
      rw [hx] at hx0 hx1 hd
      have hcall : Calls Tryd.prog g (#[.agg #[.string x.f0, .string x.f1]] ++ lb) wr _ := HP.out wr x _ BW.out (k55_mk wr x)
      have HD := Lib.hid hd
      clear hd hx
      have hgE := eg
      cases hq : p x with
      | true =>
        rw [hq] at hcall
        have HQ := Lib.hid hq
        clear hq
        go_wp2_with (go_at_fn g; refine hcall.mono ?_; rintro e w' ⟨rfl, hb'⟩)
        go_ret
        refine ⟨ret_i64 ?_, BW.out.trans (hb'.mono BW.out.size)⟩
        rw [AI.out, HD.out, idxFrom, HQ.out, if_pos rfl]
      | false =>
        rw [hq] at hcall
        have HQ := Lib.hid hq
        clear hq
        go_wp2_with (go_at_fn g; refine hcall.mono ?_; rintro e w' ⟨rfl, hb'⟩)
        go_roundg (l.length - (kk + 1))
        case measure => omega
        case rel => exact ⟨kk + 1, by omega, by omega, by go_num, ⟨BW.out.trans (hb'.mono BW.out.size)⟩, ⟨by rw [AI.out, HD.out, idxFrom, HQ.out, if_neg (by simp)]⟩⟩
    · have hltz : ¬ (kk : Int) < (l.length : Int) := by omega
      go_wp2
      go_ret
      refine ⟨ret_i64 ?_, BW.out⟩
      rw [AI.out, List.drop_eq_nil_of_le (by omega), idxFrom]

def findB (l : List S55) (s : ByteArray) : Option ByteArray := (l.find? (isB s)).map (·.f1)
set_option maxHeartbeats 4000000 in
theorem Find (A : Option Addr) (c : Nat) (l : List S55) (s : ByteArray) (w : World) (hC : Kd.C k55 w A l.length l) :
    Calls Tryd.prog 129 #[.slice A l.length c, .string s] w fun e w' => e = .returned (.tuple #[.string ((findB l s).getD ⟨#[]⟩), .bool (findB l s).isSome]) ∧ Below w.heap.size w w' := by
  have hbox : (w.alloc (.cells #[.string s] 9)).heap[w.heap.size]? = some (.cells #[.string s] 9 (0, 0)) := World.alloc_heap_new _ _
  have hI := IndexFuncP (isB s) 151 #[.pointer (some ⟨w.heap.size, 0, none⟩)] (enters_of Tryd.func151 (by kernel_rfl) rfl) A c l (w.alloc (.cells #[.string s] 9)) (isName w.heap.size s _ hbox) (Kd.C_alloc hC _)
  rcases idx_find (isB s) l 0 with ⟨e, hf⟩ | ⟨k, x, hk, hx, e, hf⟩
  · rw [e] at hI
    have HF : Hid (findB l s = none) := Lib.hid (by unfold findB; rw [hf]; rfl)
    rw [HF.out]
    clear hbox hC e hf
    go_enter Tryd.func129, Tryd.ntmps129
    go_wp2_with (go_at_call 150; refine hI.mono ?_; rintro e w' ⟨rfl, hb⟩)
    go_ret2
    exact ⟨rfl, ((Below.refl _ _).alloc (Nat.le_refl _) _).trans (hb.mono (by simp))⟩
  · rw [e, Nat.zero_add] at hI
    have HF : Hid (findB l s = some x.f1) := Lib.hid (by unfold findB; rw [hf]; rfl)
    rw [HF.out]
    obtain ⟨ad, rfl, _, hx1⟩ := at_T55 hC (k : Int) (by omega) (by omega)
    have ex : rd_T55 l (k : Int) = x := by
      unfold rd_T55
      rw [Int.toNat_natCast, List.getD_eq_getElem?_getD, hx]; rfl
    rw [ex, Int.toNat_natCast] at hx1
    have hlt := World.block_lt_of_cell? w _ hx1
    have hkz : (k : Int) < (l.length : Int) := by omega
    have h0z : ¬ (k : Int) < 0 := by omega
    have hb1 : Below w.heap.size w (w.alloc (.cells #[.string s] 9)) := (Below.refl _ _).alloc (Nat.le_refl _) _
    have HX := Lib.hid hx1
    clear hbox hC e hf ex hx1 hx
    go_enter Tryd.func129, Tryd.ntmps129
    go_wp2_with (go_at_call 150; refine hI.mono ?_; rintro e w' ⟨rfl, hb⟩; have hcx := (((hb1.trans (hb.mono (by simp))).cell (p := ⟨(ad.add (k * 2)).block, (ad.add (k * 2)).off + 1, none⟩) hlt)).trans HX.out)
    go_ret2
    exact ⟨rfl, hb1.trans (hb.mono (by simp))⟩

end Go.Proofs.YtcakednecmngdaaDoor.Label
