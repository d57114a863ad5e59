/-
  query.read, pairs, the iterator's law, query.Parse, tolllaw04.Few.
  Conditions: as each part states them.
-/
import Derived.Test.YtcakednecmngdaaDoorYf119
import Derived.Test.YtcakednecmngdaaDoorYf78
import Derived.Test.YtcakednecmngdaaDoorYf109
import Derived.Test.YtcakednecmngdaaDoorQueryW
import Derived.Test.YtcakednecmngdaaDoorBase
import Derived.Test.YtcakednecmngdaaDoorSplit
import Derived.Test.YtcakednecmngdaaDoorDns
import Derived.Maps.OwnIn
import Derived.Test.YtcakednecmngdaaDoorY0
import Derived.Test.YtcakednecmngdaaDoorPlain
import Derived.Lib.Hide
import Derived.Maps.AppendAt
import Derived.Deep.LoopGhost

namespace Go.Proofs.YtcakednecmngdaaDoor.Query
open Go Go.RowKit Go.Proofs.YtcakednecmngdaaDoor.Plain Go.Proofs.YtcakednecmngdaaDoor.Y Go.Proofs.YtcakednecmngdaaDoor.P Go.Proofs.YtcakednecmngdaaDoorW.PrintWords Go.Proofs.YtcakednecmngdaaDoor.DnsPure

/-- A digit of base sixteen, of either size. -/
def hexV (c : UInt8) : Option Nat := if 48 ≤ c.toNat ∧ c.toNat ≤ 57 then some (c.toNat - 48) else if 65 ≤ c.toNat ∧ c.toNat ≤ 70 then some (c.toNat - 55) else if 97 ≤ c.toNat ∧ c.toNat ≤ 102 then some (c.toNat - 87) else none
def plus (c : UInt8) : UInt8 := if c = 43 then 32 else c
def oct16 (x y : Nat) : UInt8 := UInt8.ofNat (16 * x + y)
/-- Octets that were written, read. -/
def readL : List UInt8 → Option (List UInt8)
  | [] => some []
  | [c] => if c = 37 then none else some [plus c]
  | [c, d] => if c = 37 then none else if d = 37 then none else some [plus c, plus d]
  | c :: a :: b :: l => if c = 37 then (hexV a).bind fun x => (hexV b).bind fun y => (readL l).map (oct16 x y :: ·) else (readL (a :: b :: l)).map (plus c :: ·)
theorem readL_cons {c : UInt8} (h : c ≠ 37) (l : List UInt8) : readL (c :: l) = (readL l).map (plus c :: ·) := by
  match l with
  | [] => simp [readL, h]
  | [d] => simp only [readL, if_neg h]; split <;> simp
  | a :: b :: l => rw [readL, if_neg h]
theorem readL_short {l : List UInt8} (h : l.length < 2) : readL (37 :: l) = none := by
  match l, h with
  | [], _ => simp [readL]
  | [d], _ => simp [readL]
theorem readL_oct (a b : UInt8) (l : List UInt8) : readL (37 :: a :: b :: l) = (hexV a).bind fun x => (hexV b).bind fun y => (readL l).map (oct16 x y :: ·) := by rw [readL, if_pos rfl]
theorem hexV_lt {c : UInt8} {x : Nat} (h : hexV c = some x) : x < 16 := by
  unfold hexV at h
  split at h
  · cases h; omega
  · split at h
    · cases h; omega
    · split at h
      · cases h; omega
      · cases h
def hexI (n : Nat) : Int := match hexV (UInt8.ofNat n) with
  | some x => x
  | none => -1
set_option maxRecDepth 100000 in
theorem digit_fin : ∀ n : Fin 256, query_digit.f (n.val : Int) = some (hexI n.val) := by decide
theorem digit_eq (c : UInt8) : query_digit.f (c.toNat : Int) = some (match hexV c with | some x => (x : Int) | none => -1) := by
  have h := digit_fin ⟨c.toNat, c.toNat_lt⟩
  simp only [hexI] at h
  rw [h]
  have : UInt8.ofNat c.toNat = c := by simp
  rw [this]
set_option maxRecDepth 100000 in
theorem glue_fin : ∀ x y : Fin 16, (Go.bits .or .i64 (wrap64 ((x.val : Int) * 16)) (y.val : Int)) % 256 = ((oct16 x.val y.val).toNat : Int) := by decide +kernel

theorem nums_append' (a b : List Int) : strOfNums (a ++ b) = strOfNums a ++ strOfNums b := by
  apply ByteArray.ext
  simp [strOfNums]
def ints (l : List UInt8) : List Int := l.map fun c => (c.toNat : Int)
theorem ints_text (l : List UInt8) : strOfNums (ints l) = txt l := by
  unfold strOfNums ints txt
  rw [List.map_map]
  congr 2
  rw [List.map_congr_left (g := id) (fun c _ => by simp), List.map_id]
def readEnd (q l : List UInt8) : ByteArray × Bool := match readL l with
  | some r => (txt (q ++ r), true)
  | none => (⟨#[]⟩, false)
theorem plus_int (c : UInt8) (h : c ≠ 43) : plus c = c := if_neg h

theorem read_from (s : ByteArray) (hs : s.size ≤ 6000) : ∀ (d i : Nat) (q : List UInt8), s.size - i ≤ d → i ≤ s.size → q.length ≤ i →
    Ev (fun k => query_read.l0 k s (ints q) i) (readEnd q (s.data.toList.drop i)) := by
  intro d
  induction d with
  | zero =>
    intro i q hd hi hq
    refine Ev.step (f := fun _ => some (strOfNums (ints q), true)) (fun k => by rw [query_read.l0, if_neg (by omega)]) ?_
    rw [List.drop_eq_nil_of_le (by simp; omega), readEnd, readL, ints_text]
    simpa using Ev.now _
  | succ d ih =>
    intro i q hd hi hq
    by_cases hlt : i < s.size
    · have hl : i < s.data.toList.length := by simpa using hlt
      have e1 : wrap64 ((i : Int) + 1) = ((i + 1 : Nat) : Int) := by rw [wrap_in (by omega) (by omega)]; omega
      have e2 : wrap64 ((i : Int) + 2) = ((i + 2 : Nat) : Int) := by rw [wrap_in (by omega) (by omega)]; omega
      have e3 : wrap64 (((i + 2 : Nat) : Int) + 1) = ((i + 3 : Nat) : Int) := by rw [wrap_in (by omega) (by omega)]; omega
      have eb := bt_list s i hlt
      have hdr : s.data.toList.drop i = s.data.toList[i] :: s.data.toList.drop (i + 1) := List.drop_eq_getElem_cons hl
      have hroom : (ints q).length < 140737488355328 := by simp [ints]; omega
      obtain ⟨c, hc⟩ : ∃ c, s.data.toList[i] = c := ⟨_, rfl⟩
      rw [hc] at eb hdr
      rw [hdr]
      have stepped : ∀ c' : UInt8, readEnd q (c :: s.data.toList.drop (i + 1)) = readEnd (q ++ [c']) (s.data.toList.drop (i + 1)) →
          Ev (fun k => query_read.l0 k s (ints q ++ [(c'.toNat : Int)]) ((i + 1 : Nat) : Int)) (readEnd q (c :: s.data.toList.drop (i + 1))) := by
        intro c' he
        rw [he]
        have := ih (i + 1) (q ++ [c']) (by omega) (by omega) (by simp; omega)
        simpa [ints] using this
      by_cases h43 : c = 43
      · subst h43
        refine Ev.step (f := fun k => query_read.l0 k s (ints q ++ [((32 : UInt8).toNat : Int)]) ((i + 1 : Nat) : Int)) (fun k => ?_) (stepped 32 ?_)
        · rw [query_read.l0, if_pos (by omega), if_pos (by omega), if_pos (by rw [eb]; rfl), if_pos hroom, e1]; rfl
        · rw [readEnd, readL_cons (by decide), readEnd]
          cases readL (s.data.toList.drop (i + 1)) <;> simp [plus]
      · have hn43 : ¬ (bt s (i : Int) = 43) := by
          rw [eb]; intro h; apply h43; exact UInt8.toNat_inj.1 (show c.toNat = 43 by omega)
        by_cases h37 : c = 37
        · subst h37
          have hy37 : bt s (i : Int) = 37 := by rw [eb]; rfl
          by_cases hsh : s.size ≤ i + 2
          · have hls : (s.data.toList.drop (i + 1)).length < 2 := by simp; omega
            refine Ev.step (f := fun k => query_read.j1 k s (ints q) (i : Int) true) (fun k => ?_) ?_
            · rw [query_read.l0, if_pos (by omega), if_pos (by omega), if_neg hn43, if_pos hy37, e2, if_pos (by omega)]
            · rw [readEnd, readL_short hls]
              refine Ev.step (f := fun _ => some _) (fun k => by rw [query_read.j1, if_pos rfl]) (Ev.now _)
          · have h1 : i + 1 < s.data.toList.length := by simp; omega
            have h2 : i + 2 < s.data.toList.length := by simp; omega
            have hdr2 : s.data.toList.drop (i + 1) = s.data.toList[i + 1] :: s.data.toList[i + 2] :: s.data.toList.drop (i + 3) := by
              rw [List.drop_eq_getElem_cons h1, List.drop_eq_getElem_cons h2]
            have eb1 := bt_list s (i + 1) (by omega)
            have eb2 := bt_list s (i + 2) (by omega)
            obtain ⟨a, ha⟩ : ∃ a, s.data.toList[i + 1] = a := ⟨_, rfl⟩
            obtain ⟨b, hb⟩ : ∃ b, s.data.toList[i + 2] = b := ⟨_, rfl⟩
            rw [ha] at eb1 hdr2
            rw [hb] at eb2 hdr2
            rw [hdr2, readEnd, readL_oct]
            refine Ev.step (f := fun k => (query_digit.f (a.toNat : Int)).bind fun t111 => (if t111 < 0 then (query_read.j1 k s (ints q) i true) else (if 0 ≤ ((i + 2 : Nat) : Int) then (if ((i + 2 : Nat) : Int) < (s.size : Int) then ((query_digit.f (b.toNat : Int)).bind fun t112 => (query_read.j1 k s (ints q) i (decide (t112 < 0)))) else (none)) else (none)))) (fun k => ?_) ?_
            · rw [query_read.l0, if_pos (by omega), if_pos (by omega), if_neg hn43, if_pos hy37, e1, e2, if_neg (by omega), if_pos (by omega), if_pos (by omega), eb1, eb2]
            · have fail : Ev (fun k => query_read.j1 k s (ints q) i true) ((⟨#[]⟩ : ByteArray), false) := Ev.step (f := fun _ => some _) (fun k => by rw [query_read.j1, if_pos rfl]) (Ev.now _)
              refine ev_bind (digit_eq a) ?_
              cases hxa : hexV a with
              | none => exact ev_pos (by decide) fail
              | some x =>
                refine ev_neg (by simp only; omega) (ev_pos (by omega) (ev_pos (by omega) (ev_bind (digit_eq b) ?_)))
                cases hxb : hexV b with
                | none => exact fail
                | some y =>
                  have hx := hexV_lt hxa
                  have hy := hexV_lt hxb
                  have eg := glue_fin ⟨x, hx⟩ ⟨y, hy⟩
                  have hne : decide (((y : Nat) : Int) < 0) = false := decide_eq_false (by omega)
                  simp only [hne]
                  refine Ev.step (f := fun k => query_read.l0 k s (ints q ++ [((oct16 x y).toNat : Int)]) ((i + 3 : Nat) : Int)) (fun k => ?_) ?_
                  · rw [query_read.j1, if_neg (by simp), e1, e2, if_pos (by omega), if_pos (by omega), eb1, digit_eq, hxa, Option.bind_some, if_pos (by omega), if_pos (by omega), eb2, digit_eq, hxb, Option.bind_some, if_pos hroom, e3]
                    simp only at eg ⊢
                    rw [eg]
                  · have := ih (i + 3) (q ++ [oct16 x y]) (by omega) (by omega) (by simp; omega)
                    have e : ints (q ++ [oct16 x y]) = ints q ++ [((oct16 x y).toNat : Int)] := by simp [ints]
                    rw [e] at this
                    simp only [Option.bind_some]
                    rw [readEnd] at this
                    cases hr : readL (s.data.toList.drop (i + 3)) with
                    | none => rw [hr] at this; simpa using this
                    | some r => rw [hr] at this; simpa using this
        · have hn37 : ¬ (bt s (i : Int) = 37) := by
            rw [eb]; intro h; apply h37; exact UInt8.toNat_inj.1 (show c.toNat = 37 by omega)
          refine Ev.step (f := fun k => query_read.l0 k s (ints q ++ [(c.toNat : Int)]) ((i + 1 : Nat) : Int)) (fun k => ?_) (stepped c ?_)
          · rw [query_read.l0, if_pos (by omega), if_pos (by omega), if_neg hn43, if_neg hn37, if_pos hroom, e1, eb]
          · rw [readEnd, readL_cons h37, readEnd, plus_int c h43]
            cases readL (s.data.toList.drop (i + 1)) <;> simp
    · refine Ev.step (f := fun _ => some (strOfNums (ints q), true)) (fun k => by rw [query_read.l0, if_neg (by omega)]) ?_
      rw [List.drop_eq_nil_of_le (by simp; omega), readEnd, readL, ints_text]
      simpa using Ev.now _

theorem read_ev (s : ByteArray) (hs : s.size ≤ 6000) : Ev (fun k => query_read.f k s) (readEnd [] s.data.toList) := by
  unfold query_read.f
  refine ev_pos hs ?_
  exact read_from s hs s.size 0 [] (by omega) (by omega) (by simp)
theorem Read (s : ByteArray) (w : World) (hs : s.size ≤ 6000) :
    Calls Tryd.prog 119 #[.string s] w fun e w' => e = .returned (.tuple #[.string (readEnd [] s.data.toList).1, .bool (readEnd [] s.data.toList).2]) ∧ Below w.heap.size w w' := by
  obtain ⟨k, hk⟩ := read_ev s hs
  exact query_read.calls k s _ _ w (hk k (Nat.le_refl _))

end Go.Proofs.YtcakednecmngdaaDoor.Query

namespace Go.Proofs.YtcakednecmngdaaDoor.Query
open Go Go.RowKit Go.Proofs.YtcakednecmngdaaDoor.Plain Go.Proofs.YtcakednecmngdaaDoor.Y Go.Proofs.YtcakednecmngdaaDoor.P Go.Proofs.YtcakednecmngdaaDoorW.PrintWords Go.Proofs.YtcakednecmngdaaDoor.DnsPure

/-! ### the first of an octet -/
theorem index_split {c : UInt8} (a b : List UInt8) (h : c ∉ a) : Lib.indexByte (a ++ c :: b) c = (a.length : Int) := by
  induction a with
  | nil => simp [Lib.indexByte]
  | cons x a ih =>
    simp only [List.mem_cons, not_or] at h
    rw [List.cons_append, Lib.indexByte, if_neg (fun z => h.1 (eq_of_beq z).symm), ih h.2, List.length_cons]
    simp <;> omega
theorem index_no {c : UInt8} (l : List UInt8) (h : c ∉ l) : Lib.indexByte l c = -1 := by
  induction l with
  | nil => rfl
  | cons x l ih =>
    simp only [List.mem_cons, not_or] at h
    rw [Lib.indexByte, if_neg (fun z => h.1 (eq_of_beq z).symm), ih h.2]
    rfl
theorem one_of (c : UInt8) : oneOf (⟨#[c]⟩ : ByteArray) = some c := rfl
def before (c : UInt8) (l : List UInt8) : List UInt8 := l.takeWhile (· != c)
def behind (c : UInt8) (l : List UInt8) : List UInt8 := (l.dropWhile (· != c)).drop 1
theorem before_split {c : UInt8} (a b : List UInt8) (h : c ∉ a) : before c (a ++ c :: b) = a ∧ behind c (a ++ c :: b) = b := by
  induction a with
  | nil => simp [before, behind]
  | cons x a ih =>
    simp only [List.mem_cons, not_or] at h
    have hx : (x != c) = true := by simpa using Ne.symm h.1
    obtain ⟨h1, h2⟩ := ih h.2
    unfold before behind at *
    simp only [List.cons_append, List.takeWhile_cons, List.dropWhile_cons, hx, if_true]
    exact ⟨by rw [h1], h2⟩
theorem before_no {c : UInt8} (l : List UInt8) (h : c ∉ l) : before c l = l ∧ behind c l = [] := by
  induction l with
  | nil => simp [before, behind]
  | cons x a ih =>
    simp only [List.mem_cons, not_or] at h
    have hx : (x != c) = true := by simpa using Ne.symm h.1
    obtain ⟨h1, h2⟩ := ih h.2
    unfold before behind at *
    simp only [List.takeWhile_cons, List.dropWhile_cons, hx, if_true]
    exact ⟨by rw [h1], h2⟩
theorem first_split {c : UInt8} {l : List UInt8} (h : c ∈ l) : ∃ a b, l = a ++ c :: b ∧ c ∉ a := by
  obtain ⟨a, b, e, hn⟩ := List.eq_append_cons_of_mem h
  exact ⟨a, b, e, hn⟩
theorem cut_eq (c : UInt8) (s : ByteArray) (hs : s.size ≤ 1000000) : ∃ b, strings_Cut.f s (⟨#[c]⟩ : ByteArray) = some (txt (before c s.data.toList), txt (behind c s.data.toList), b) := by
  unfold strings_Cut.f stringslite_Cut.f stringslite_Index.f
  rw [one_of, Option.map_some, Option.bind_some]
  by_cases hm : c ∈ s.data.toList
  · obtain ⟨a, b, e, hn⟩ := first_split hm
    have hz : s.size = a.length + (b.length + 1) := by rw [Lib.size_eq, e]; simp
    have e1 : wrap64 ((a.length : Int) + (((⟨#[c]⟩ : ByteArray).size : Nat) : Int)) = ((a.length + 1 : Nat) : Int) := by
      show wrap64 ((a.length : Int) + 1) = _
      rw [wrap_in (by omega) (by omega)]; omega
    refine ⟨true, ?_⟩
    rw [e, index_split _ _ hn, e1, if_pos (by omega), if_pos (by omega), if_pos (by omega), if_pos (by omega), if_pos (by omega), Option.bind_some, (before_split a b hn).1, (before_split a b hn).2]
    have x1 : s.extract 0 ((a.length : Nat) : Int).toNat = txt a := by
      rw [← txt_of (s.extract _ _), Lib.extract_data, e]
      simp
    have x2 : s.extract (((a.length + 1 : Nat) : Int)).toNat s.size = txt b := by
      rw [← txt_of (s.extract _ _), Lib.extract_data, e, hz]
      have : (((a.length + 1 : Nat) : Int)).toNat = a.length + 1 := by omega
      rw [this, List.drop_append, List.drop_eq_nil_of_le (by omega)]
      simp only [List.nil_append]
      rw [show a.length + 1 - a.length = 1 by omega, List.drop_one, List.tail_cons, List.take_of_length_le (by omega)]
    rw [x1, x2]
  · refine ⟨false, ?_⟩
    rw [index_no _ hm, if_neg (by decide), Option.bind_some, (before_no _ hm).1, (before_no _ hm).2, txt_of]
    rfl
theorem before_le (c : UInt8) (l : List UInt8) : (before c l).length ≤ l.length := by unfold before; exact (List.takeWhile_sublist _).length_le
theorem behind_le (c : UInt8) (l : List UInt8) : (behind c l).length ≤ l.length := by
  unfold behind
  rw [List.length_drop]
  have := (List.dropWhile_sublist (l := l) (· != c)).length_le
  omega

/-! ### pairs -/
def mayP (p : S55) : Bool := decide (1 ≤ p.f0.size) && decide (p.f0.size ≤ 40) && decide (p.f1.size ≤ 40)
def mayB (l : List S55) : Bool := decide (l.length ≤ 20) && l.all mayP
theorem rd_at (l : List S55) (i : Nat) (h : i < l.length) : rd_T55 l (i : Int) = l[i] := by
  unfold rd_T55
  rw [Int.toNat_natCast, List.getD_eq_getElem?_getD, List.getElem?_eq_getElem h]
  rfl
theorem may_from (l : List S55) (hl : l.length ≤ 1000000) : ∀ (d i : Nat), l.length = i + d → Ev (fun k => query_May.l0 k l l (l.length : Int) i) ((l.drop i).all mayP && decide (l.length ≤ 20)) := by
  intro d
  induction d with
  | zero =>
    intro i hd
    refine Ev.step (f := fun _ => some (decide ((l.length : Int) ≤ 20))) (fun k => by rw [query_May.l0, if_neg (by omega)]) ?_
    rw [List.drop_eq_nil_of_le (by omega), List.all_nil, Bool.true_and, show decide (l.length ≤ 20) = decide ((l.length : Int) ≤ 20) by rw [decide_eq_decide]; omega]
    exact Ev.now _
  | succ d ih =>
    intro i hd
    have hlt : i < l.length := by omega
    have e1 : wrap64 ((i : Int) + 1) = ((i + 1 : Nat) : Int) := by rw [wrap_in (by omega) (by omega)]; omega
    rw [List.drop_eq_getElem_cons hlt, List.all_cons]
    refine Ev.step (fun k => by rw [query_May.l0, if_pos (by omega), if_pos (by omega), if_pos (by omega), rd_at l i hlt, e1]) ?_
    have h0 : (l[i].f0.toList = ([] : List UInt8)) ↔ l[i].f0.size = 0 := by rw [Lib.toList_data, Lib.size_eq, List.length_eq_zero_iff]
    by_cases h1 : l[i].f0.size = 0
    · refine ev_pos (h0.2 h1) ?_
      rw [mayP, decide_eq_false (by omega)]; exact Ev.now _
    · refine ev_neg (fun z => h1 (h0.1 z)) ?_
      by_cases h2 : l[i].f0.size ≤ 40
      · refine ev_neg (by omega) ?_
        by_cases h3 : l[i].f1.size ≤ 40
        · refine ev_neg (by omega) ?_
          rw [mayP, decide_eq_true (by omega), decide_eq_true h2, decide_eq_true h3]
          exact ih (i + 1) (by omega)
        · refine ev_pos (by omega) ?_
          rw [mayP, decide_eq_false h3, Bool.and_false, Bool.false_and]; exact Ev.now _
      · refine ev_pos (by omega) ?_
        rw [mayP, decide_eq_false h2, Bool.and_false, Bool.false_and]; exact Ev.now _
theorem may_ev (l : List S55) (hl : l.length ≤ 1000000) : Ev (fun k => query_May.f k l) (mayB l) := by
  unfold query_May.f mayB
  rw [Bool.and_comm]
  exact may_from l hl l.length 0 (by omega)

/-- One pair, read. -/
def pairB (x : ByteArray) : Option S55 := (readL (before 61 x.data.toList)).bind fun a => (readL (behind 61 x.data.toList)).map fun b => ⟨txt a, txt b⟩
/-- Pairs, each read. -/
def pairsB : List ByteArray → Option (List S55)
  | [] => some []
  | x :: l => (pairB x).bind fun p => (pairsB l).map (p :: ·)
theorem pairsB_snoc (l : List ByteArray) (x : ByteArray) : pairsB (l ++ [x]) = (pairsB l).bind fun ps => (pairB x).map fun p => ps ++ [p] := by
  induction l with
  | nil => simp only [List.nil_append, pairsB, Option.bind_some]; cases pairB x <;> rfl
  | cons y l ih =>
    rw [List.cons_append, pairsB, ih, pairsB]
    cases pairB y with
    | none => rfl
    | some p => cases pairsB l <;> simp only [Option.bind_some, Option.map_some, Option.bind_none, Option.map_none, Option.map_map] <;> cases pairB x <;> rfl
theorem pairsB_none {l : List ByteArray} {x : ByteArray} (h : x ∈ l) (hx : pairB x = none) : pairsB l = none := by
  induction l with
  | nil => cases h
  | cons y l ih =>
    rw [pairsB]
    rcases List.mem_cons.1 h with rfl | h
    · rw [hx]; rfl
    · rw [ih h]; cases pairB y <;> rfl
theorem pairsB_length {l : List ByteArray} {r : List S55} (h : pairsB l = some r) : r.length = l.length := by
  induction l generalizing r with
  | nil => cases h; rfl
  | cons y l ih =>
    rw [pairsB] at h
    obtain ⟨p, _, h⟩ := Option.bind_eq_some_iff.1 h
    obtain ⟨q, hq, rfl⟩ := Option.map_eq_some_iff.1 h
    simp [ih hq]
/-- A text's pairs, and the error's number. -/
def parseB (s : ByteArray) : List S55 × Int :=
  if s.size = 0 then ([], 0) else match pairsB (partsB 38 s) with
    | none => ([], 2)
    | some l => if mayB l = true then (l, 0) else ([], 2)

end Go.Proofs.YtcakednecmngdaaDoor.Query

namespace Go.Proofs.YtcakednecmngdaaDoor.Seq
open Go Go.RowKit

variable {F : Fence} {n : Nat} {P : Program}

/-- The blocks from lo on, below n₀, lie as they lay. -/
def Keeps2 (lo n₀ : Nat) (A B : World) : Prop := ∀ k, lo ≤ k → k < n₀ → B.heap[k]? = A.heap[k]?
theorem Keeps2.trans {lo n₀ : Nat} {A B C : World} (h : Keeps2 lo n₀ A B) (k : Keeps2 lo n₀ B C) : Keeps2 lo n₀ A C := fun i h1 h2 => (k i h1 h2).trans (h i h1 h2)
theorem Keeps2.of_below {lo n₀ : Nat} {A B : World} (h : Below n₀ A B) : Keeps2 lo n₀ A B := fun i _ h2 => h.block i h2
theorem Keeps2.put {lo n₀ l : Nat} {W : World} (o' : Obj) (hn : n₀ ≤ l) : Keeps2 lo n₀ W (W.putObj l o') := fun i _ h2 => World.putObj_heap_other (by omega)
theorem Keeps2.set {lo n₀ : Nat} (W : World) (a : Addr) (v : Value) (ha : a.block < lo) : Keeps2 lo n₀ W (W.setCell a v) := fun i h1 _ => Below.heap_setCell W a v i (by omega)
theorem Keeps2.cell {lo n₀ : Nat} {A B : World} (h : Keeps2 lo n₀ A B) {p : Addr} (h1 : lo ≤ p.block) (h2 : p.block < n₀) : B.cell? p = A.cell? p := by unfold World.cell?; rw [h _ h1 h2]
theorem Keeps2.frozen {lo n₀ : Nat} {A B : World} (h : Keeps2 lo n₀ A B) {p : Addr} (h1 : lo ≤ p.block) (h2 : p.block < n₀) : B.frozen? p = A.frozen? p := by unfold World.frozen?; rw [h _ h1 h2]

/-- What an iterator owes: whatever the caller's word J on the heap, it hands 'encs x' to each round, one x after the other, and comes to an end. -/
def Gives2 {α : Type} (F : Fence) (n : Nat) (P : Program) (g : Nat) (lb : Array Value) (encs : α → Array Value) (ok : Nat → Prop) (lo n₀ : Nat) (S Sp : List α → Prop) (G : List α → α → Prop) (w : World) : Prop :=
  ∀ (l : Nat) (J Jx : List α → World → Prop) (W : World), Below w.heap.size w W → Abides ok J → Abides ok Jx →
    (∀ pre x W1, J pre W1 → G pre x → YieldAt F (n - 1) P l (encs x) W1 fun e W' =>
      (e = .returned (.bool true) ∧ J (pre ++ [x]) W' ∧ Keeps2 lo n₀ W1 W') ∨ (e = .returned (.bool false) ∧ Jx (pre ++ [x]) W')) →
    J [] W →
    CallsIn F n P g (#[.func (.yield l) #[] #[]] ++ lb) W fun e W' => (∃ v, e = .returned v) ∧ ((∃ xs, S xs ∧ J xs W') ∨ (∃ pre, Sp pre ∧ Jx pre W'))

/-- THE STATEMENT 'for .. := range g', its iterator writing blocks of its own. -/
theorem wp_range2 {α : Type} {g : Operand} {ps : Array Tmp} {assign body : Code} {Q : Exit → Act → World → Prop} {a : Act} {w : World}
    (hro : F.round = none) (h1 : 1 ≤ n) {gf : Nat} {lb : Array Value} (hg : a.eval g = .func (.func gf) #[] lb) (hFg : F.fn gf) (eg : ∀ args w, (callFunc gf args).run P w = .ok (.enter gf args) w)
    {encs : α → Array Value} {ok : Nat → Prop} {lo n₀ : Nat} {S Sp : List α → Prop} {G : List α → α → Prop} (hseq : Gives2 F (n - 1) P gf lb encs ok lo n₀ S Sp G w)
    (hok : ∀ r, ok r → r < w.heap.size) (hn₀ : n₀ ≤ w.heap.size) (hps : ∀ x, (encs x).size = ps.size)
    (I : List α → World → Prop) (Ix : Code → List α → World → Prop) (hI : Abides2 ok w.heap.size I) (hIx : ∀ c, Abides2 ok w.heap.size (Ix c)) (h0 : I [] w) (a₁ : α → Act)
    (hassign : ∀ (l : Nat) (x : α) (W : World) (K : Act → World → Prop), K (a₁ x) W →
      assign.wpIn (F.inRound l) (n - 1 - 1) P (Exit.then K (fun _ _ _ => False)) { tmps := (ps.zip (encs x)).foldl (fun t (p, v) => t.setIfInBounds p v) a.tmps, defers := [] } W)
    (hbody : ∀ (l : Nat) (pre : List α) (x : α) (W : World), I pre W → G pre x → body.wpIn (F.inRound l) (n - 1 - 1) P (ownPostG w.heap.size (Keeps2 lo n₀) I Ix (pre ++ [x]) W) (a₁ x) W)
    (hdone : ∀ (D : Nat) (xs : List α) (W : World), w.heap.size ≤ D → S xs → I xs W → W.heap[D]? = some (.deferred (some [])) → Q .normal { a with defers := { target := .collected D, args := #[] } :: a.defers } W)
    (hstop : ∀ (D : Nat) (c : Code) (pre : List α) (W : World), w.heap.size ≤ D → Sp pre → Ix c pre W → W.heap[D]? = some (.deferred (some [])) → c.wpIn F n P Q { a with defers := { target := .collected D, args := #[] } :: a.defers } W) :
    (Code.rangeFunc g ps assign body).wpIn F n P Q a w := by
  refine wpIn_rangeFunc fun fn hfn => ?_
  rw [hro]
  -- the two blocks of book-keeping: the deferred calls' block D, the loop's record L
  generalize hD : w.heap.size = D at *
  let rec_ (st : LoopState) (pe : Option Code) : Loop := { state := st, pending := pe, fn, tmps := a.tmps, params := ps, assign, body, defers := D }
  let W1 : World := (w.alloc (.deferred (some []))).alloc (.loop (rec_ .ready none))
  have hL1 : W1.heap[D + 1]? = some (.loop (rec_ .ready none)) := by
    have h := World.alloc_heap_new (w.alloc (.deferred (some []))) (.loop (rec_ .ready none))
    rwa [World.size_alloc, hD] at h
  have hK1 : W1.heap[D]? = some (.deferred (some [])) := by
    have h := World.alloc_heap_new w (.deferred (some []))
    rw [hD] at h
    exact (Below.heap_alloc _ _ _ (by simp [hD])).trans h
  have hI1 : I [] W1 := hI.alloc _ (hI.alloc _ h0)
  have hb1 : Below D w W1 := by
    refine ((Below.refl D w).alloc (by omega) _).alloc (by simp; omega) _
  refine ⟨D + 1, [{ target := .collected D, args := #[] }], W1, { target := .fn (.func gf) lb, args := #[.func (.yield (D + 1)) #[] #[]] }, W1, gf, #[.func (.yield (D + 1)) #[] #[]] ++ lb, W1, ?_, ?_, ?_, ?_, fun _ => h1, ?_⟩
  · have h := run_enterLoop_outer (P := P) (w := w) fn a.tmps ps assign body
    rw [hD] at h; exact h
  · simp only [resolve, hg]
    simp [go_sem]
  · intro f' hf'; simp [Target.leads] at hf'; subst hf'; exact hFg
  · simp [invoke, go_sem, eg]
  -- what of the book-keeping abides the iterator's own steps
  have keepD : ∀ {A B : World} {row : Option Nat} {k : Nat} {o : Obj}, D ≤ k → A.grownBy B row → (∀ r, row = some r → ok r) → A.heap[k]? = some o → B.heap[k]? = some o :=
    fun hk hg' hr h => (hg'.block _ (Array.getElem?_eq_some_iff.1 h).1 (fun e => by have := hok _ (hr _ e.symm); omega)).trans h
  refine (hseq (D + 1)
    (fun pre W => I pre W ∧ W.heap[D + 1]? = some (.loop (rec_ .ready none)) ∧ W.heap[D]? = some (.deferred (some [])))
    (fun pre W => ∃ c, Ix c pre W ∧ W.heap[D + 1]? = some (.loop (rec_ .done (some c))) ∧ W.heap[D]? = some (.deferred (some [])))
    W1 (hD ▸ hb1)
    (fun s A B row hs hg' hr => ⟨hI s A B row hs.1 hg' (fun r e => .inl (hr r e)), keepD (by omega) hg' hr hs.2.1, keepD (Nat.le_refl _) hg' hr hs.2.2⟩)
    (fun s A B row hs hg' hr => by
      obtain ⟨c, hc, hl, hk⟩ := hs
      exact ⟨c, hIx c s A B row hc hg' (fun r e => .inl (hr r e)), keepD (by omega) hg' hr hl, keepD (Nat.le_refl _) hg' hr hk⟩)
    ?_ ⟨hI1, hL1, hK1⟩).mono ?_
  · -- one round
    rintro pre x W ⟨hi, hl, hk⟩ hG
    have hlt : D + 1 < W.heap.size := (Array.getElem?_eq_some_iff.1 hl).1
    refine ⟨fn, _, assign, body, run_yield (P := P) (args := encs x) hl (hps x), roundIn_of_wpIn hfn (hassign _ x W _ ⟨_, run_beginRound hl rfl, ?_⟩)⟩
    have hl2 : (W.putObj (D + 1) (.loop { rec_ .ready none with state := .busy })).heap[D + 1]? = some (.loop { rec_ .ready none with state := .busy }) := World.putObj_heap_same hlt
    have hk2 : (W.putObj (D + 1) (.loop { rec_ .ready none with state := .busy })).heap[D]? = some (.deferred (some [])) := (World.putObj_heap_other (by omega)).trans hk
    have hw2 : Keeps2 lo n₀ W (W.putObj (D + 1) (.loop { rec_ .ready none with state := .busy })) := Keeps2.put _ (by omega)
    -- the round's end, by the jump that it leaves
    have fin : ∀ (jump : Option Code) (W3 : World), KeepsFrom D (W.putObj (D + 1) (.loop { rec_ .ready none with state := .busy })) W3 →
        (Instr.endRound (D + 1) jump).run P W3 = .ok (.bool jump.isNone) (W3.putObj (D + 1) (.loop (rec_ (if jump.isNone then .ready else .done) jump))) ∧
        W3.heap[D + 1]? = some (.loop { rec_ .ready none with state := .busy }) ∧
        (W3.putObj (D + 1) (.loop (rec_ (if jump.isNone then .ready else .done) jump))).heap[D + 1]? = some (.loop (rec_ (if jump.isNone then .ready else .done) jump)) ∧
        (W3.putObj (D + 1) (.loop (rec_ (if jump.isNone then .ready else .done) jump))).heap[D]? = some (.deferred (some [])) := fun jump W3 hk3 => by
      have hl3 := hk3.same _ _ (by omega) hl2 rfl
      exact ⟨run_endRound (P := P) jump hl3, hl3, World.putObj_heap_same (Array.getElem?_eq_some_iff.1 hl3).1, (World.putObj_heap_other (by omega)).trans (hk3.same _ _ (Nat.le_refl _) hk2 rfl)⟩
    have left : ∀ (c : Code) (W3 : World), KeepsFrom D (W.putObj (D + 1) (.loop { rec_ .ready none with state := .busy })) W3 ∧ Ix c (pre ++ [x]) W3 →
        ∃ v w', (Instr.endRound (D + 1) (some c)).run P W3 = .ok v w' ∧ ((Ending.returned v = .returned (.bool true) ∧ (I (pre ++ [x]) w' ∧ w'.heap[D + 1]? = some (.loop (rec_ .ready none)) ∧ w'.heap[D]? = some (.deferred (some []))) ∧ Keeps2 lo n₀ W w') ∨
          (Ending.returned v = .returned (.bool false) ∧ ∃ c, Ix c (pre ++ [x]) w' ∧ w'.heap[D + 1]? = some (.loop (rec_ .done (some c))) ∧ w'.heap[D]? = some (.deferred (some [])))) := fun c W3 hp => by
      obtain ⟨hr, hl3, hl4, hk4⟩ := fin (some c) W3 hp.1
      exact ⟨_, _, hr, .inr ⟨rfl, c, (hIx _).put _ hp.2 (by omega) hl3 rfl, hl4, hk4⟩⟩
    refine wpIn_mono (hbody _ pre x _ (hI.put _ hi (by omega) hl rfl) hG) ?_
    intro e a3 W3 hp
    cases e with
    | normal =>
      obtain ⟨hk3, hkp3, hi3⟩ := hp
      obtain ⟨hr, hl3, hl4, hk4⟩ := fin none W3 hk3
      exact ⟨_, _, hr, .inl ⟨rfl, ⟨hI.put _ hi3 (by omega) hl3 rfl, hl4, hk4⟩, (hw2.trans hkp3).trans (Keeps2.put _ (by omega))⟩⟩
    | ret => exact left _ _ hp
    | exit id => exact left _ _ hp
    | goto t => exact left _ _ hp
    | panic ch => exact hp.elim
    | outgrown => exact hp.elim
  · -- behind the iterator
    rintro e W2 ⟨⟨v, rfl⟩, (⟨xs, hS, hi, hl, hk⟩ | ⟨pre, hSp, c, hi, hl, hk⟩)⟩
    · exact ⟨none, _, run_endLoop (P := P) hl (by simp [rec_]), hdone _ xs _ (Nat.le_refl _) hS (hI.put _ hi (by omega) hl rfl) ((World.putObj_heap_other (by omega)).trans hk)⟩
    · exact ⟨some c, _, run_endLoop (P := P) hl (by simp [rec_]), hstop _ c pre _ (Nat.le_refl _) hSp ((hIx c).put _ hi (by omega) hl rfl) ((World.putObj_heap_other (by omega)).trans hk)⟩

end Go.Proofs.YtcakednecmngdaaDoor.Seq
namespace Go.Proofs.YtcakednecmngdaaDoor.Split
open Go Go.RowKit Go.Proofs.YtcakednecmngdaaDoor.Plain Go.Proofs.YtcakednecmngdaaDoor.Seq

set_option maxHeartbeats 4000000 in
set_option maxRecDepth 100000 in
/-- The iterator hands out the parts. -/
theorem gives2 (c : UInt8) (s : ByteArray) (w : World) (n b lo n₀ : Nat) (hlo : lo ≤ b) (hb : b + 1 + 1 < n₀) (hn : n₀ ≤ w.heap.size) (hs : s.size ≤ 9223372036854775806)
    (cs : w.cell? ⟨b, 0, none⟩ = some (.string s)) (fs : w.frozen? ⟨b, 0, none⟩ = false)
    (cp : w.cell? ⟨b + 1, 0, none⟩ = some (.string ⟨#[c]⟩)) (cv : w.cell? ⟨b + 1 + 1, 0, none⟩ = some (.int .i64 0)) :
    Gives2 Fence.wide n Tryd.prog 145 #[.pointer (some ⟨b + 1, 0, none⟩), .pointer (some ⟨b, 0, none⟩), .pointer (some ⟨b + 1 + 1, 0, none⟩)] (fun x : ByteArray => #[.string x]) (fun r => r = b) lo n₀
      (fun xs => xs = partsB c s) (fun pre => pre <+: partsB c s) (fun pre x => pre ++ [x] <+: partsB c s) w := by
  intro l J Jx W hW hJ hJx hY h0
  replace cs : W.cell? ⟨b, 0, none⟩ = some (.string s) := (hW.cell (p := ⟨b, 0, none⟩) (by simp; omega)).trans cs
  replace fs : W.frozen? ⟨b, 0, none⟩ = false := (hW.frozen (p := ⟨b, 0, none⟩) (by simp; omega)).trans fs
  replace cp : W.cell? ⟨b + 1, 0, none⟩ = some (.string ⟨#[c]⟩) := (hW.cell (p := ⟨b + 1, 0, none⟩) (by simp; omega)).trans cp
  replace cv : W.cell? ⟨b + 1 + 1, 0, none⟩ = some (.int .i64 0) := (hW.cell (p := ⟨b + 1 + 1, 0, none⟩) (by simp; omega)).trans cv
  have hz : b < W.heap.size := Nat.lt_of_lt_of_le (by omega) hW.size
  clear hW
  refine callsIn_of_wp Tryd.func145 rfl trivial ?_ rfl
  simp only [Tryd.ntmps145, List.size_toArray, List.length_cons, List.length_nil, Nat.reduceAdd, Nat.reduceSub, Array.replicate_succ, Array.replicate_zero, List.push_toArray, List.append_toArray, List.nil_append, List.cons_append]
  gi_wp2
  gi_loopg [] s.size (fun gf wx => ∃ (pre : List ByteArray) (cur : ByteArray), wx.cell? ⟨b, 0, none⟩ = some (.string cur) ∧ wx.frozen? ⟨b, 0, none⟩ = false ∧ wx.cell? ⟨b + 1, 0, none⟩ = some (.string ⟨#[c]⟩) ∧ wx.cell? ⟨b + 1 + 1, 0, none⟩ = some (.int .i64 0) ∧ Hid (partsB c s = pre ++ partsB c cur) ∧ J pre wx ∧ cur.size ≤ gf ∧ cur.size ≤ s.size)
  case atStart => exact ⟨[], s, cs, fs, cp, cv, Lib.hid (by simp), h0, Nat.le_refl _, Nat.le_refl _⟩
  case round =>
    clear cs fs cp cv h0
    obtain ⟨pre, cur, ca, fa, cb, cc, hp, hj, hle, hle2⟩ := hrel
    by_cases hi : Lib.indexByte cur.data.toList c = -1
    · -- the last part
      have cI : ∀ V : World, Calls Tryd.prog 147 #[.string cur, .string ⟨#[c]⟩] V fun e w' => e = .returned (.int .i64 (-1)) ∧ w' = V := fun V => by rw [← hi]; exact Text.Index cur c V
      have HP : Hid (partsB c s = pre ++ [cur]) := Lib.hid (by rw [hp.out, partsB_none hi])
      clear hi hp
      obtain ⟨fn, tmps, asg, bod, hy, hR⟩ := hY pre cur wr hj (by rw [HP.out]; exact List.prefix_refl _)
      gi_wp2_with (refine ⟨trivial, fun h => (by cases h), ?_⟩; gi_at_call 147; refine (callsIn_wide.2 (cI _)).mono ?_; rintro e w' ⟨rfl, rfl⟩)
      refine ⟨fun h => (by cases h), ?_⟩
      refine hR.mono ?_
      rintro e W3 (⟨rfl, hJ3, _⟩ | ⟨rfl, hJx3⟩)
      · gi_wp2
        go_end0
        exact ⟨⟨_, rfl⟩, .inl ⟨_, HP.out.symm, hJ3⟩⟩
      · gi_wp2
        go_end0
        exact ⟨⟨_, rfl⟩, .inr ⟨_, by rw [HP.out]; exact List.prefix_refl _, hJx3⟩⟩
    · obtain ⟨o, ho⟩ : ∃ o : Nat, Lib.indexByte cur.data.toList c = o := ⟨(Lib.indexByte cur.data.toList c).toNat, by have := Lib.indexByte_ge cur.data.toList c; omega⟩
      clear hi
      obtain ⟨hlt, he⟩ := partsB_some ho
      have cI : ∀ V : World, Calls Tryd.prog 147 #[.string cur, .string ⟨#[c]⟩] V fun e w' => e = .returned (.int .i64 o) ∧ w' = V := fun V => by rw [← ho]; exact Text.Index cur c V
      have HP : Hid (partsB c s = pre ++ [cur.extract 0 o] ++ partsB c (cur.extract (o + 1) cur.size)) := Lib.hid (by rw [hp.out, he]; simp)
      clear ho hp he
      obtain ⟨fn, tmps, asg, bod, hy, hR⟩ := hY pre (cur.extract 0 o) wr hj (by rw [HP.out]; exact List.prefix_append _ _)
      gi_wp2_with (refine ⟨trivial, fun h => (by cases h), ?_⟩; gi_at_call 147; refine (callsIn_wide.2 (cI _)).mono ?_; rintro e w' ⟨rfl, rfl⟩)
      refine ⟨fun h => (by cases h), ?_⟩
      refine hR.mono ?_
      rintro e W3 (⟨rfl, hJ3, hk3⟩ | ⟨rfl, hJx3⟩)
      · -- the round goes on: the rest is written back
        have c3 : W3.cell? ⟨b, 0, none⟩ = some (.string cur) := (hk3.cell (p := ⟨b, 0, none⟩) (by simp; omega) (by simp; omega)).trans ca
        have f3 : W3.frozen? ⟨b, 0, none⟩ = false := (hk3.frozen (p := ⟨b, 0, none⟩) (by simp; omega) (by simp; omega)).trans fa
        have p3 : W3.cell? ⟨b + 1, 0, none⟩ = some (.string ⟨#[c]⟩) := (hk3.cell (p := ⟨b + 1, 0, none⟩) (by simp; omega) (by simp; omega)).trans cb
        have v3 : W3.cell? ⟨b + 1 + 1, 0, none⟩ = some (.int .i64 0) := (hk3.cell (p := ⟨b + 1 + 1, 0, none⟩) (by simp; omega) (by simp; omega)).trans cc
        obtain ⟨g1, rfl⟩ : ∃ g1, gk = g1 + 1 := ⟨gk - 1, by omega⟩
        have hsz : (cur.extract (o + 1) cur.size).size = cur.size - (o + 1) := by simp
        have HS := Lib.hid hsz
        clear hsz
        gi_wp2
        gi_roundg g1
        case measure => omega
        case rel =>
          refine ⟨pre ++ [cur.extract 0 o], cur.extract (o + 1) cur.size, ?_, ?_, ?_, ?_, HP, ?_, ?_, ?_⟩
          · exact World.cell?_setCell_same' _ _ _ (by rw [c3]; rfl)
          · rw [World.frozen?_setCell]; exact f3
          · exact (World.cell?_setCell_other _ _ ⟨b + 1, 0, none⟩ _ (by simp)).trans p3
          · exact (World.cell?_setCell_other _ _ ⟨b + 1 + 1, 0, none⟩ _ (by simp)).trans v3
          · exact hJ _ _ _ _ hJ3 (grownBy_setCell' W3 b _) (fun r e => by cases e; rfl)
          · rw [HS.out]; omega
          · rw [HS.out]; omega
      · gi_wp2
        refine bodyPost_ret (results_none rfl _ _ _) rfl ?_
        exact ⟨⟨_, rfl⟩, .inr ⟨_, by rw [HP.out]; exact List.prefix_append _ _, hJx3⟩⟩

end Go.Proofs.YtcakednecmngdaaDoor.Split

namespace Go.Proofs.YtcakednecmngdaaDoor.Query
attribute [local go_sem] Oper.semAt_some
open Go Go.RowKit Go.Proofs.YtcakednecmngdaaDoor.Plain Go.Proofs.YtcakednecmngdaaDoor.Y Go.Proofs.YtcakednecmngdaaDoor.P Go.Proofs.YtcakednecmngdaaDoorW.PrintWords Go.Proofs.YtcakednecmngdaaDoor.Seq
set_option maxRecDepth 100000

/-- A row of the call's own, told by what has been, abides an iterator's steps. -/
theorem abides_row {α β : Type} {d : Kd α} {e base hi : Nat} {ok : Nat → Prop} (f : β → Value → List α → Prop) (b t : Nat) (hb : ¬ ok b) (hok : ∀ r, ok r → r < base) :
    Abides2 ok hi (fun s W => ∃ v xs, f s v xs ∧ W.heap[b]? = some (.cells #[v] t (0, 0)) ∧ d.R e W base (fun _ => True) v xs) := by
  intro s A B row hs hg hr
  obtain ⟨v, xs, hf, hc, hR⟩ := hs
  refine ⟨v, xs, hf, ?_, ?_⟩
  · exact Abides2.block (ok := ok) (hi := hi) (fun _ : β => .cells #[v] t (0, 0)) (fun _ => rfl) hb s A B row hc hg hr
  · refine Kd.R_mono (Kd.R_move (Kd.R_bound hR) fun k hk => ?_) (fun _ _ => trivial)
    obtain ⟨_, hbk, hlt, q, _, cells, hcell⟩ := hk
    refine hg.block k hlt fun e => ?_
    rcases hr k e.symm with h | ⟨_, o, ho, hco⟩
    · have := hok k h; omega
    · rw [hcell] at ho; cases ho; cases hco

theorem Cut61 (x : ByteArray) (hx : x.size ≤ 1000000) : ∃ b, ∀ w, Calls Tryd.prog 109 #[.string x, .string ⟨#[61]⟩] w fun e w' => e = .returned (.tuple #[.string (txt (before 61 x.data.toList)), .string (txt (behind 61 x.data.toList)), .bool b]) ∧ Drawn0 w w' := by
  obtain ⟨b, hb⟩ := cut_eq 61 x hx
  exact ⟨b, fun w => strings_Cut.calls _ _ _ _ _ w hb⟩

theorem Parse_empty (w : World) :
    Calls Tryd.prog 83 #[.string ⟨#[]⟩] w fun e w' => ∃ v0_, e = .returned (.tuple #[v0_, .int .i64 0]) ∧ Kd.R k55 55 w' w.heap.size (fun _ => True) v0_ [] ∧ Below w.heap.size w w' := by
  go_enter Tryd.func83, Tryd.ntmps83
  go_wp2
  refine bodyPost_ret (v := .tuple #[.slice none 0 0, .int .i64 0]) (by simp [results, Tryd.results83, go_sem]) rfl ⟨_, rfl, Kd.R_nil _ _ _ _ _, ?_⟩
  exact (((Below.refl _ _).alloc (Nat.le_refl _) _).alloc (by simp) _)

theorem infoPair : (Tryd.prog.info? 55).map (fun i => (i.zero, i.size, i.bytes)) = some (some (.agg #[.string ⟨#[]⟩, .string ⟨#[]⟩]), 2, 32) := by kernel_rfl
set_option maxHeartbeats 8000000 in
theorem Parse_some (s : ByteArray) (w : World) (h0 : s.size ≠ 0) (hs : s.size ≤ 6000) :
    Calls Tryd.prog 83 #[.string s] w fun e w' => ∃ v0_, e = .returned (.tuple #[v0_, .int .i64 (parseB s).2]) ∧ Kd.R k55 55 w' w.heap.size (fun _ => True) v0_ (parseB s).1 ∧ Below w.heap.size w w' := by
  have hne : s.toList.isEmpty = false := by rw [Lib.toList_data, List.isEmpty_eq_false_iff]; intro h; apply h0; rw [Lib.size_eq, h]; rfl
  have HPs := Lib.hid (show (parseB s) = match pairsB (partsB 38 s) with | none => ([], 2) | some l => if mayB l = true then (l, 0) else ([], 2) from if_neg h0)
  refine (callsIn_wide (n := 3)).1 ?_
  refine callsIn_of_wp_marks Tryd.func83 rfl trivial ?_ rfl
  simp only [Tryd.ntmps83, List.size_toArray, List.length_cons, List.length_nil, Nat.reduceAdd, Nat.reduceSub, Array.replicate_succ, Array.replicate_zero, List.push_toArray, List.append_toArray, List.nil_append, List.cons_append]
  gi_wp2_with (refine ⟨trivial, ?_⟩; gi_at_call 89; refine (callsIn_wide.2 (Split.SplitSeq _ _ _)).mono ?_; rintro e w' ⟨rfl, rfl⟩)
  obtain ⟨W0, hW0⟩ : ∃ W0, ((((((w.alloc (.cells #[.slice none 0 0] 51)).alloc (.cells #[.int .i64 0] 31)).alloc (.cells #[.slice none 0 0] 51)).alloc (.cells #[.string s] 9)).alloc (.cells #[.string ⟨#[38]⟩] 9)).alloc (.cells #[.int .i64 0] 3)) = W0 := ⟨_, rfl⟩
  have hz : W0.heap.size = w.heap.size + 1 + 1 + 1 + 1 + 1 + 1 := by rw [← hW0]; simp
  have cells0 : W0.heap[w.heap.size]? = some (.cells #[.slice none 0 0] 51 (0, 0)) ∧ W0.heap[w.heap.size + 1]? = some (.cells #[.int .i64 0] 31 (0, 0)) ∧ W0.heap[w.heap.size + 1 + 1]? = some (.cells #[.slice none 0 0] 51 (0, 0)) := by
    rw [← hW0]
    refine ⟨?_, ?_, ?_⟩
    · exact (Below.heap_alloc _ _ _ (by simp <;> omega)).trans ((Below.heap_alloc _ _ _ (by simp <;> omega)).trans ((Below.heap_alloc _ _ _ (by simp <;> omega)).trans ((Below.heap_alloc _ _ _ (by simp <;> omega)).trans ((Below.heap_alloc _ _ _ (by simp)).trans (World.alloc_heap_new w _)))))
    · exact (Below.heap_alloc _ _ _ (by simp <;> omega)).trans ((Below.heap_alloc _ _ _ (by simp <;> omega)).trans ((Below.heap_alloc _ _ _ (by simp <;> omega)).trans ((Below.heap_alloc _ _ _ (by simp)).trans (by have h := World.alloc_heap_new (w.alloc (.cells #[.slice none 0 0] 51)) (.cells #[.int .i64 0] 31); simpa using h))))
    · exact (Below.heap_alloc _ _ _ (by simp <;> omega)).trans ((Below.heap_alloc _ _ _ (by simp <;> omega)).trans ((Below.heap_alloc _ _ _ (by simp)).trans (by have h := World.alloc_heap_new ((w.alloc (.cells #[.slice none 0 0] 51)).alloc (.cells #[.int .i64 0] 31)) (.cells #[.slice none 0 0] 51); simpa using h)))
  have b0 : Below w.heap.size w W0 := by
    rw [← hW0]; exact ((((((Below.refl _ w).alloc (Nat.le_refl _) _).alloc (by simp) _).alloc (by simp; omega) _).alloc (by simp; omega) _).alloc (by simp; omega) _).alloc (by simp; omega) _
  have c1 : W0.cell? ⟨w.heap.size + 1 + 1 + 1, 0, none⟩ = some (.string s) ∧ W0.frozen? ⟨w.heap.size + 1 + 1 + 1, 0, none⟩ = false ∧ W0.cell? ⟨w.heap.size + 1 + 1 + 1 + 1, 0, none⟩ = some (.string ⟨#[38]⟩) ∧ W0.cell? ⟨w.heap.size + 1 + 1 + 1 + 1 + 1, 0, none⟩ = some (.int .i64 0) := by
    rw [← hW0]; refine ⟨?_, ?_, ?_, ?_⟩ <;> simp [go_sem]
  have HZ := Lib.hid hz
  have HC0 := Lib.hid cells0
  have HC1 := Lib.hid c1
  clear hz cells0 c1
  rw [hW0]
  refine Seq.wp_range2 rfl (by omega) (gf := 145) (lb := #[.pointer (some ⟨w.heap.size + 1 + 1 + 1 + 1, 0, none⟩), .pointer (some ⟨w.heap.size + 1 + 1 + 1, 0, none⟩), .pointer (some ⟨w.heap.size + 1 + 1 + 1 + 1 + 1, 0, none⟩)]) rfl trivial (enters_of Tryd.func145 (by kernel_rfl) rfl)
    (Split.gives2 38 s W0 _ (w.heap.size + 1 + 1 + 1) (w.heap.size + 1 + 1 + 1) W0.heap.size (Nat.le_refl _) (by rw [HZ.out]; omega) (Nat.le_refl _) (by omega) HC1.out.1 HC1.out.2.1 HC1.out.2.2.1 HC1.out.2.2.2)
    (fun r e => by rw [HZ.out, e]; omega) (Nat.le_refl _) (fun _ => rfl)
    (fun pre W => ((∃ v xs, pairsB pre = some xs ∧ W.heap[w.heap.size + 1 + 1]? = some (.cells #[v] 51 (0, 0)) ∧ k55.R 55 W W0.heap.size (fun _ => True) v xs) ∧ W.heap[w.heap.size]? = some (.cells #[.slice none 0 0] 51 (0, 0)) ∧ W.heap[w.heap.size + 1]? = some (.cells #[.int .i64 0] 31 (0, 0))) ∧ (Below w.heap.size w W ∧ W0.heap.size ≤ W.heap.size))
    (fun c pre W => ((c = .ret ∧ ∃ y ∈ pre, pairB y = none) ∧ W.heap[w.heap.size]? = some (.cells #[.slice none 0 0] 51 (0, 0)) ∧ W.heap[w.heap.size + 1]? = some (.cells #[.int .i64 2] 31 (0, 0))) ∧ Below w.heap.size w W)
    ((((abides_row _ _ _ (by omega) (fun r e => by rw [HZ.out, e]; omega)).and ((Abides2.block (fun _ => .cells #[.slice none 0 0] 51 (0, 0)) (fun _ => rfl) (by omega)).and (Abides2.block (fun _ => .cells #[.int .i64 0] 31 (0, 0)) (fun _ => rfl) (by omega))))).and ((Abides2.below (Nat.le_refl _) (by rw [HZ.out]; omega) (fun r e => by omega)).and (Abides2.size _)))
    (fun c => (((Abides2.pure _).and ((Abides2.block (fun _ => .cells #[.slice none 0 0] 51 (0, 0)) (fun _ => rfl) (by omega)).and (Abides2.block (fun _ => .cells #[.int .i64 2] 31 (0, 0)) (fun _ => rfl) (by omega))))).and (Abides2.below (Nat.le_refl _) (by rw [HZ.out]; omega) (fun r e => by omega)))
    ⟨⟨⟨.slice none 0 0, [], rfl, HC0.out.2.2, Kd.R_nil _ _ _ _ _⟩, HC0.out.1, HC0.out.2.1⟩, b0, Nat.le_refl _⟩
    (fun x => { tmps := #[.string s, undef, .pointer (some ⟨w.heap.size, 0, none⟩), .pointer (some ⟨w.heap.size + 1, 0, none⟩), .pointer (some ⟨w.heap.size + 1 + 1, 0, none⟩), .string x, undef, undef, undef, undef, undef, undef, undef, .string s, .bool false, .string s, Split.closure (w.heap.size + 1 + 1 + 1), .string x, undef, undef, undef, undef, undef, undef, undef, undef, undef, undef, undef, undef, undef, undef, undef, undef, undef, undef, undef, undef, undef, undef, undef, undef, undef, undef, undef, undef, undef, undef, undef, undef], defers := [] }) ?assign ?body ?done ?stop
  case assign =>
    intro l x W K hK
    gi_wp2
    exact hK
  case body =>
    rintro l pre x W ⟨⟨⟨v, xs, hp, hbox, hR⟩, hr1, hr2⟩, hB, hW⟩ hG
    have hxs : x.size ≤ 6000 := by have := DnsPure.partsB_le (hG.subset (by simp : x ∈ pre ++ [x])); omega
    have hmany := hG.length_le
    have hmany2 := DnsPure.partsB_many 38 s
    obtain ⟨bb, hcut⟩ := Cut61 x (by omega)
    have hlt : w.heap.size + 1 + 1 < W.heap.size := by have := HZ.out; omega
    have hn1 : (txt (before 61 x.data.toList)).size ≤ 6000 := by have := before_le 61 x.data.toList; rw [txt_size]; rw [Lib.size_eq] at hxs; omega
    have hn2 : (txt (behind 61 x.data.toList)).size ≤ 6000 := by have := behind_le 61 x.data.toList; rw [txt_size]; rw [Lib.size_eq] at hxs; omega
    have cR1 := fun V => Read (txt (before 61 x.data.toList)) V hn1
    have cR2 := fun V => Read (txt (behind 61 x.data.toList)) V hn2
    rw [txt_data] at cR1 cR2
    gi_wp2_with (refine ⟨trivial, ?_⟩; gi_at_call 109; refine (CallsIn.inRound l (callsIn_wide.2 (hcut _))).mono ?_)
    rintro e w1 ⟨rfl, ⟨q, rfl⟩⟩
    gi_wp2_with (refine ⟨trivial, ?_⟩; gi_at_call 119; refine (CallsIn.inRound l (callsIn_wide.2 (cR1 _))).mono ?_)
    rintro e w2 ⟨rfl, hb2⟩
    gi_wp2_with (refine ⟨trivial, ?_⟩; gi_at_call 119; refine (CallsIn.inRound l (callsIn_wide.2 (cR2 _))).mono ?_)
    rintro e w3 ⟨rfl, hb3⟩
    have hb : Below W.heap.size W w3 := (pw_below_drewN (Below.refl _ W) q).trans ((hb2.mono (Nat.le_refl _)).trans (hb3.mono hb2.size))
    have hbW : Below W0.heap.size W w3 := hb.mono hW
    have keep : ∀ k o, k < W.heap.size → W.heap[k]? = some o → w3.heap[k]? = some o := fun k o hk h => (hb.block k hk).trans h
    replace hbox := keep _ _ hlt hbox
    replace hr1 := keep _ _ (by omega) hr1
    replace hr2 := keep _ _ (by omega) hr2
    replace hR := Kd.R_below hR hb
    replace hB := hB.trans (hb.mono (by omega))
    replace hW := Nat.le_trans hW hb.size
    have hkf : KeepsFrom W0.heap.size W w3 := keepsFrom_below hb
    have cb1 := cell_of_one hbox
    have cr1 := cell_of_one hr1
    have cr2 := cell_of_one hr2
    have fb1 := free_of_one hbox
    have fr1 := free_of_one hr1
    have fr2 := free_of_one hr2
    have fin := Lib.hid (show pairB x = none → (((∃ y ∈ pre ++ [x], pairB y = none) ∧ ((w3.setCell ⟨w.heap.size, 0, none⟩ (.slice none 0 0)).setCell ⟨w.heap.size + 1, 0, none⟩ (.int .i64 2)).heap[w.heap.size]? = some (.cells #[.slice none 0 0] 51 (0, 0)) ∧ ((w3.setCell ⟨w.heap.size, 0, none⟩ (.slice none 0 0)).setCell ⟨w.heap.size + 1, 0, none⟩ (.int .i64 2)).heap[w.heap.size + 1]? = some (.cells #[.int .i64 2] 31 (0, 0))) ∧ Below w.heap.size w ((w3.setCell ⟨w.heap.size, 0, none⟩ (.slice none 0 0)).setCell ⟨w.heap.size + 1, 0, none⟩ (.int .i64 2))) from fun hpn => by
      refine ⟨⟨⟨x, by simp, hpn⟩, ?_, ?_⟩, ?_⟩
      · rw [Below.heap_setCell _ _ _ _ (by simp)]; exact one_setCell hr1
      · exact one_setCell ((Below.heap_setCell _ _ _ _ (by simp)).trans hr2)
      · exact (hB.setCell (p := ⟨w.heap.size, 0, none⟩) (Nat.le_refl _) _).setCell (p := ⟨w.heap.size + 1, 0, none⟩) (by simp) _)
    cases hra : readL (before 61 x.data.toList) with
    | none =>
      have e1 : (readEnd [] (before 61 x.data.toList)).2 = false := by rw [readEnd, hra]
      rw [e1]
      gi_wp2
      obtain ⟨⟨f1, f2⟩, f3⟩ := fin.out (by rw [pairB, hra]; rfl)
      exact ⟨hkf.trans ((keepsFrom_set _ _ _).trans (keepsFrom_set _ _ _)), ⟨⟨rfl, f1⟩, f2⟩, f3⟩
    | some a =>
      have e1 : readEnd [] (before 61 x.data.toList) = (txt a, true) := by rw [readEnd, hra]; simp
      cases hrb : readL (behind 61 x.data.toList) with
      | none =>
        have e2 : (readEnd [] (behind 61 x.data.toList)).2 = false := by rw [readEnd, hrb]
        rw [e1, e2]
        gi_wp2
        obtain ⟨⟨f1, f2⟩, f3⟩ := fin.out (by rw [pairB, hra, hrb]; rfl)
        exact ⟨hkf.trans ((keepsFrom_set _ _ _).trans (keepsFrom_set _ _ _)), ⟨⟨rfl, f1⟩, f2⟩, f3⟩
      | some b =>
        have e2 : readEnd [] (behind 61 x.data.toList) = (txt b, true) := by rw [readEnd, hrb]; simp
        rw [e1, e2]
        clear fin
        have hps : pairsB (pre ++ [x]) = some (xs ++ [⟨txt a, txt b⟩]) := by rw [pairsB_snoc, hp, pairB, hra, hrb]; rfl
        have HPS := Lib.hid hps
        have hlen := pairsB_length hps
        obtain ⟨i0, hi, hz0, hz1, hz2⟩ := info_parts infoPair
        have hRa := Kd.R_alloc hR (.cells #[.string (txt a), .string (txt b)] 55)
        obtain ⟨h0R, inner, hown, hreps⟩ := hRa
        obtain ⟨Ao, no, co, rfl⟩ : ∃ A n c, v = .slice A n c := by obtain ⟨A, c, e⟩ := Kd.R_slice hR; exact ⟨A, _, c, e⟩
        have HI := Lib.hid hp
        clear hp hps hra hrb e1 e2
        gi_wp2_with (gi_at_builtin; refine wpListIn_append_own_at _ rfl _ _ 51 rfl W0.heap.size 55 i0 _ 2 32 Tryd.underlying51 hi hz0 hz1 hz2 rfl (by decide) _ _ _ rfl hown ⟨w3.heap.size, 0, none⟩ 1 1 [.string (txt a), .string (txt b)] rfl rfl ?c1 ?c2 ?c3 ?c4 ?c5 ?_)
        case c1 =>
          intro j u hj
          match j, hj with
          | 0, hj => simp at hj; subst hj; simp [Addr.add]
          | 1, hj => simp at hj; subst hj; simp [Addr.add]
        case c2 => intro u hu; simp at hu; rcases hu with rfl | rfl <;> rfl
        case c3 => unfold maxLen; simp at hlen hmany; omega
        case c4 => simp at hlen hmany; omega
        case c5 => simp; omega
        intro v' w4 hown' hg hnil hat
        have hlt4 : w.heap.size + 1 + 1 < (w3.alloc (.cells #[.string (txt a), .string (txt b)] 55)).heap.size := by simp; have := hb.size; omega
        have hnot : ∀ k, k < W0.heap.size → some k ≠ (Value.slice Ao no co).ownBlock := fun k hk e => by have := own_base hown k e.symm; omega
        have hblk : ∀ k o, k < w.heap.size + 1 + 1 + 1 → w3.heap[k]? = some o → w4.heap[k]? = some o := fun k o hk h =>
          (hg.block k (by omega) (hnot k (by have := HZ.out; omega))).trans ((Below.heap_alloc _ _ _ (by have := hb.size; omega)).trans h)
        have hat' : v'.ownBlock = (Value.slice Ao no co).ownBlock ∨ ∃ gb, v'.ownBlock = some gb ∧ (w3.alloc (.cells #[.string (txt a), .string (txt b)] 55)).heap.size ≤ gb := by
          rcases hat with h | h
          · exact .inl h
          · exact .inr ⟨_, h, by simp⟩
        replace hbox := hblk _ _ (by omega) hbox
        replace hr1 := hblk _ _ (by omega) hr1
        replace hr2 := hblk _ _ (by omega) hr2
        have cb1 := cell_of_one hbox
        have fb1 := free_of_one hbox
        have hRn := Kd.R_appended (d := k55) (e := 55) (ok := fun _ => True) (okp := fun _ => False) (p := ⟨txt a, txt b⟩) h0R hreps (k55_mkM _ _ _ ⟨txt a, txt b⟩) (fun _ h => h.elim) (fun _ _ => trivial) hown' hg hat'
        obtain ⟨An, nn, cn, rfl⟩ : ∃ A n c, v' = .slice A n c := by obtain ⟨A, c, e⟩ := Kd.R_slice hRn; exact ⟨A, _, c, e⟩
        have hRs := Kd.R_set hRn hbox (by decide) 0 (.slice An nn cn)
        have hB4 : Below w.heap.size w w4 := (hB.alloc (by have := hB.size; omega) _).grown hg (by simp; have := hB.size; omega) (fun k hk => by have := own_base hown k hk; have := HZ.out; omega)
        have hB5 : Below W0.heap.size W w4 := (hbW.alloc (by omega) _).grown hg (by simp; omega) (fun k hk => own_base hown k hk)
        have hk4 : KeepsFrom W0.heap.size w3 w4 := by
          refine ⟨by have := hg.size; simp at this; omega, fun k o hDk hk hc => ?_⟩
          have hlk := (Array.getElem?_eq_some_iff.1 hk).1
          have hka := (Below.heap_alloc w3 (.cells #[.string (txt a), .string (txt b)] 55) k hlk).trans hk
          refine (hg.block k (by simp; omega) (fun e => ?_)).trans hka
          obtain ⟨cells, hcell⟩ := own_typed hown k e.symm
          rw [hka] at hcell
          cases hcell
          cases hc
        clear hR hown hown' hreps h0R hat hat' hnil
        gi_wp2
        refine ⟨hkf.trans (hk4.trans (keepsFrom_set _ _ _)), (Keeps2.of_below hB5).trans (Keeps2.set _ _ _ (by simp)), ⟨⟨_, _, HPS.out, one_setCell hbox, hRs⟩, ?_, ?_⟩, hB4.setCell (p := ⟨w.heap.size + 1 + 1, 0, none⟩) (by simp; omega) _, ?_⟩
        · rw [Below.heap_setCell _ _ _ _ (by simp; omega)]; exact hr1
        · rw [Below.heap_setCell _ _ _ _ (by simp)]; exact hr2
        · have := hg.size; simp at this ⊢; omega
  case done =>
    rintro D ys W hD rfl ⟨⟨⟨v, xs, hp, hbox, hR⟩, hr1, hr2⟩, hB, hW⟩ hK
    have hlen := pairsB_length hp
    have hmany2 := DnsPure.partsB_many 38 s
    obtain ⟨k, hk⟩ := may_ev xs (by omega)
    have hm := hk k (Nat.le_refl _)
    obtain ⟨A, c, rfl, hc, hC⟩ := Kd.R_reads hR
    have hlt : w.heap.size + 1 + 1 < W.heap.size := by have := HZ.out; omega
    have hDlt : D < W.heap.size := (Array.getElem?_eq_some_iff.1 hK).1
    have cM := fun V hC => query_May.calls k A c xs (mayB xs) V hC hc hm
    have hcb := cell_of_one hbox
    have HP := Lib.hid hp
    have HC := Lib.hid hC
    clear hp hk hm hC hlen
    gi_wp2_with (refine ⟨trivial, ?_⟩; gi_at_call 78; refine (callsIn_wide.2 (cM _ HC.out)).mono ?_)
    rintro e w2 ⟨rfl, hb⟩
    clear cM
    replace hbox := (hb.block _ hlt).trans hbox
    replace hr1 := (hb.block _ (by omega)).trans hr1
    replace hr2 := (hb.block _ (by omega)).trans hr2
    replace hK := (hb.block _ hDlt).trans hK
    replace hR := Kd.R_below hR hb
    replace hB := hB.trans (hb.mono (by omega))
    have hcb := cell_of_one hbox
    have hc1 := cell_of_one hr1
    have hc2 := cell_of_one hr2
    have hf1 := free_of_one hr1
    have hf2 := free_of_one hr2
    have hD1 : w.heap.size ≠ D := by have := HZ.out; omega
    have hD2 : w.heap.size + 1 ≠ D := by have := HZ.out; omega
    cases hmay : mayB xs with
    | false =>
      gi_wp2
      have hK' := (KeepsOthers.setCell (w2.setCell ⟨w.heap.size, 0, none⟩ (.slice none 0 0)) ⟨w.heap.size + 1, 0, none⟩ (.int .i64 2)).same D _ ((KeepsOthers.setCell w2 ⟨w.heap.size, 0, none⟩ (.slice none 0 0)).same D _ hK rfl) rfl
      refine ⟨by simp, .inl ⟨_, _, rfl, run_takeDeferred hK', ?_⟩⟩
      have z1 := one_setCell (u := .slice none 0 0) hr1
      have z2 := (Below.heap_setCell w2 ⟨w.heap.size, 0, none⟩ (.slice none 0 0) (w.heap.size + 1) (by simp)).trans hr2
      have z3 := (Below.heap_setCell _ ⟨w.heap.size + 1, 0, none⟩ (.int .i64 2) w.heap.size (by simp)).trans z1
      have z4 := one_setCell (u := .int .i64 2) z2
      have y3 := cell_of_one ((World.putObj_heap_other (o := .deferred none) hD1).trans z3)
      have y4 := cell_of_one ((World.putObj_heap_other (o := .deferred none) hD2).trans z4)
      refine ⟨.tuple #[.slice none 0 0, .int .i64 2], ?_, .slice none 0 0, ?_, ?_, ?_⟩
      · simp [results, Tryd.results83, go_sem, y3, y4]
      · rw [HPs.out, HP.out]; simp [hmay]
      · rw [HPs.out, HP.out]; simp only [hmay]; exact Kd.R_nil _ _ _ _ _
      · exact ((hB.setCell (p := ⟨w.heap.size, 0, none⟩) (Nat.le_refl _) _).setCell (p := ⟨w.heap.size + 1, 0, none⟩) (by simp) _).trans (below_put _ (by have := HZ.out; omega) hK')
    | true =>
      gi_wp2
      have hK' := (KeepsOthers.setCell (w2.setCell ⟨w.heap.size, 0, none⟩ (.slice A xs.length c)) ⟨w.heap.size + 1, 0, none⟩ (.int .i64 0)).same D _ ((KeepsOthers.setCell w2 ⟨w.heap.size, 0, none⟩ (.slice A xs.length c)).same D _ hK rfl) rfl
      refine ⟨by simp, .inl ⟨_, _, rfl, run_takeDeferred hK', ?_⟩⟩
      have z1 := one_setCell (u := .slice A xs.length c) hr1
      have z2 := (Below.heap_setCell w2 ⟨w.heap.size, 0, none⟩ (.slice A xs.length c) (w.heap.size + 1) (by simp)).trans hr2
      have z3 := (Below.heap_setCell _ ⟨w.heap.size + 1, 0, none⟩ (.int .i64 0) w.heap.size (by simp)).trans z1
      have z4 := one_setCell (u := .int .i64 0) z2
      have y3 := cell_of_one ((World.putObj_heap_other (o := .deferred none) hD1).trans z3)
      have y4 := cell_of_one ((World.putObj_heap_other (o := .deferred none) hD2).trans z4)
      have hR1 := Kd.R_set hR hr1 (by decide) 0 (.slice A xs.length c)
      have hR2 := Kd.R_set hR1 z2 (by decide) 0 (.int .i64 0)
      have hR3 : k55.R 55 (((w2.setCell ⟨w.heap.size, 0, none⟩ (.slice A xs.length c)).setCell ⟨w.heap.size + 1, 0, none⟩ (.int .i64 0)).putObj D (.deferred none)) w.heap.size (fun _ => True) (.slice A xs.length c) xs := by
        refine Kd.R_lower (Kd.R_mono (Kd.R_move (Kd.R_bound hR2) fun k hk => ?_) (fun _ _ => trivial)) (by have := HZ.out; omega)
        obtain ⟨_, _, _, q, _, cells, hcell⟩ := hk
        refine World.putObj_heap_other fun e => ?_
        subst e
        rw [hK'] at hcell
        cases hcell
      refine ⟨.tuple #[.slice A xs.length c, .int .i64 0], ?_, .slice A xs.length c, ?_, ?_, ?_⟩
      · simp [results, Tryd.results83, go_sem, y3, y4]
      · rw [HPs.out, HP.out]; simp [hmay]
      · rw [HPs.out, HP.out]; simp only [hmay]; exact hR3
      · exact ((hB.setCell (p := ⟨w.heap.size, 0, none⟩) (Nat.le_refl _) _).setCell (p := ⟨w.heap.size + 1, 0, none⟩) (by simp) _).trans (below_put _ (by have := HZ.out; omega) hK')
  case stop =>
    rintro D c pre W hD hpre ⟨⟨⟨rfl, y, hy, hl⟩, hc1, hc2⟩, hB⟩ hK
    gi_wp2
    refine ⟨by simp, .inl ⟨_, _, rfl, run_takeDeferred hK, ?_⟩⟩
    have hD1 : w.heap.size ≠ D := by have := HZ.out; omega
    have hD2 : w.heap.size + 1 ≠ D := by have := HZ.out; omega
    have hc3 := cell_of_one ((World.putObj_heap_other (o := .deferred none) hD1).trans hc1)
    have hc4 := cell_of_one ((World.putObj_heap_other (o := .deferred none) hD2).trans hc2)
    refine ⟨.tuple #[.slice none 0 0, .int .i64 2], ?_, .slice none 0 0, ?_, ?_, ?_⟩
    · simp [results, Tryd.results83, go_sem, hc3, hc4]
    · rw [HPs.out, pairsB_none (hpre.subset hy) hl]
    · rw [HPs.out, pairsB_none (hpre.subset hy) hl]; exact Kd.R_nil _ _ _ _ _
    · exact hB.trans (below_put _ (by have := HZ.out; omega) hK)

theorem Parse (s : ByteArray) (w : World) (hs : s.size ≤ 6000) :
    Calls Tryd.prog 83 #[.string s] w fun e w' => ∃ v0_, e = .returned (.tuple #[v0_, .int .i64 (parseB s).2]) ∧ Kd.R k55 55 w' w.heap.size (fun _ => True) v0_ (parseB s).1 ∧ Below w.heap.size w w' := by
  by_cases h0 : s.size = 0
  · obtain rfl : s = ⟨#[]⟩ := by
      have h := Lib.size_eq s
      rw [h0] at h
      rw [← txt_of s, List.eq_nil_of_length_eq_zero h.symm]
      rfl
    exact Parse_empty w
  · exact Parse_some s w h0 hs

end Go.Proofs.YtcakednecmngdaaDoor.Query
namespace Go.Proofs.YtcakednecmngdaaDoor.P
open Go Go.RowKit Go.Proofs.YtcakednecmngdaaDoor.Plain Go.Proofs.YtcakednecmngdaaDoor.Y Go.Proofs.YtcakednecmngdaaDoorW.PrintWords
def query_Parse.f (a0 : ByteArray) : Option (List S55 × Int) := if a0.size ≤ 6000 then some (Query.parseB a0) else none
theorem query_Parse.calls (a0 : ByteArray) (r1 : List S55) (r2 : Int) (w : World) (h : query_Parse.f a0 = some (r1, r2)) :
    Calls Tryd.prog 83 #[.string a0] w fun e w' => ∃ v0_, e = .returned (.tuple #[v0_, .int .i64 r2]) ∧ Kd.R k55 55 w' w.heap.size (fun _ => True) v0_ r1 ∧ Below w.heap.size w w' := by
  unfold query_Parse.f at h
  split at h
  · next hs =>
    have h1 := Option.some.inj h
    have := Query.Parse a0 w hs
    rw [h1] at this
    exact this
  · cases h
end Go.Proofs.YtcakednecmngdaaDoor.P

namespace Go.Proofs.YtcakednecmngdaaDoor.P
open Go Go.RowKit Go.Proofs.YtcakednecmngdaaDoor.Plain Go.Proofs.YtcakednecmngdaaDoor.Y Go.Proofs.YtcakednecmngdaaDoorW.PrintWords
set_option maxRecDepth 100000

def cut41 (s : ByteArray) : ByteArray := if 41 < s.size then s.extract 0 41 else s
def fewP (p : S55) : S55 := ⟨cut41 p.f0, cut41 p.f1⟩
def tolllaw04_Few.f (l0 : List S55) : Option (List S55) := some ((l0.take 21).map fewP)
theorem infoPair4 : (Tryd.prog.info? 55).map (fun i => (i.zero, i.size, i.bytes)) = some (some (.agg #[.string ⟨#[]⟩, .string ⟨#[]⟩]), 2, 32) := by kernel_rfl

set_option maxHeartbeats 8000000 in
theorem tolllaw04_Few.calls (A0 : Option Addr) (c0 : Nat) (l0 : List S55) (r : List S55) (w : World) (hr0 : Kd.C k55 w A0 l0.length l0) (_hc0 : l0.length ≤ c0) (h : tolllaw04_Few.f l0 = some r) :
    Calls Tryd.prog 76 #[.slice A0 l0.length c0] w fun e w' => ∃ v0_, e = .returned (v0_) ∧ Kd.R k55 55 w' w.heap.size (fun _ => True) v0_ r ∧ Below w.heap.size w w' := by
  have HR := Lib.hid (Option.some.inj h)
  clear h
  have HC := Lib.hid hr0
  clear hr0
  obtain ⟨i0, hi, hz0, hz1, hz2⟩ := info_parts infoPair4
  go_enter Tryd.func76, Tryd.ntmps76
  go_wp2
  go_loopg [3, 4] 21 (fun gf v3 v4 w' => ∃ k : Nat, k + gf = 21 ∧ k ≤ l0.length ∧ v4 = .int .i64 k ∧ Hid (Kd.R k55 55 w' w.heap.size (fun _ => True) v3 ((l0.take k).map fewP)) ∧ Below w.heap.size w w')
  case atStart => exact ⟨0, by omega, by omega, rfl, Lib.hid (Kd.R_nil _ _ _ _ _), Below.refl _ _⟩
  case round =>
    obtain ⟨k, hk, hkl, rfl, hR, hB⟩ := hrel
    by_cases hlt : k < l0.length
    · by_cases h21 : k < 21
      · have hkI : (k : Int) < l0.length := by omega
        have h21I : (k : Int) < 21 := by omega
        obtain ⟨ad, rfl, hx0, hx1⟩ := at_T55 HC.out (k : Int) (by omega) (by omega)
        replace hx0 := (hB.cell (World.block_lt_of_cell? w _ hx0)).trans hx0
        replace hx1 := (hB.cell (World.block_lt_of_cell? w _ hx1)).trans hx1
        rw [Int.toNat_natCast] at hx0 hx1
        have hnext : (l0.take (k + 1)).map fewP = (l0.take k).map fewP ++ [fewP (rd_T55 l0 (k : Int))] := by
          rw [List.take_succ_eq_append_getElem hlt, List.map_append]
          congr 2
          unfold rd_T55
          simp [List.getD_eq_getElem?_getD, List.getElem?_eq_getElem hlt]
        obtain ⟨n, m, hp⟩ : ∃ n m, rd_T55 l0 (k : Int) = ⟨n, m⟩ := ⟨_, _, rfl⟩
        rw [hp] at hx0 hx1 hnext
        simp only at hx0 hx1
        have HN := Lib.hid hnext
        clear hp hnext
        obtain ⟨g1, rfl⟩ : ∃ g1, gk = g1 + 1 := ⟨gk - 1, by omega⟩
        by_cases hn : 41 < n.size
        · have hnI : (41 : Int) < n.size := by omega
          have hnI' : (41 : Int) ≤ n.size := by omega
          by_cases hm : 41 < m.size
          · have hmI : (41 : Int) < m.size := by omega
            have hmI' : (41 : Int) ≤ m.size := by omega
            have hx : cut41 n = (n.extract 0 41) := by rw [cut41, if_pos (by omega)]
            have hy : cut41 m = (m.extract 0 41) := by rw [cut41, if_pos (by omega)]
            have HX := Lib.hid hx
            have HY := Lib.hid hy
            clear hx hy
            have hRa := Kd.R_alloc (Kd.R_alloc hR.out (.cells #[.string (n.extract 0 41), .string (m.extract 0 41)] 55)) (.cells #[.string (n.extract 0 41), .string (m.extract 0 41)] 55)
            obtain ⟨h0R, inner, hown, hreps⟩ := hRa
            have hlenk : ((l0.take k).map fewP).length ≤ 21 := by simp; omega
            rw [show ((l0.take k).map fewP).length = k by simp; omega] at hown
            go_wp2_with (at_builtin; refine wpList_append_own_at _ rfl _ _ 51 rfl w.heap.size 55 i0 _ 2 32 Tryd.underlying51 hi hz0 hz1 hz2 rfl (by decide) _ _ _ rfl hown ⟨wr.heap.size + 1, 0, none⟩ 1 1 [.string (n.extract 0 41), .string (m.extract 0 41)] rfl rfl ?ca1 ?ca2 ?ca3 ?ca4 ?ca5 ?_)
            try case ca1 =>
              intro j u hj
              match j, hj with
              | 0, hj => simp at hj; subst hj; simp [Addr.add]
              | 1, hj => simp at hj; subst hj; simp [Addr.add]
            case ca2 => first | exact ⟨rfl, rfl⟩ | (intro u hu; simp at hu; rcases hu with rfl | rfl <;> rfl)
            case ca3 => unfold maxLen; omega
            case ca4 => omega
            case ca5 => (have := hB.size; first | omega | (simp; omega))
            intro v' w4 hown' hg hnil hat
            have hat' : v'.ownBlock = u3.ownBlock ∨ ∃ gb, v'.ownBlock = some gb ∧ ((wr.alloc (.cells #[.string (n.extract 0 41), .string (m.extract 0 41)] 55)).alloc (.cells #[.string (n.extract 0 41), .string (m.extract 0 41)] 55)).heap.size ≤ gb := by
              rcases hat with h | h
              · exact .inl h
              · exact .inr ⟨_, h, by simp⟩
            have hRn := Kd.R_appended (d := k55) (e := 55) (ok := fun _ => True) (okp := fun _ => False) (xs := (l0.take k).map fewP) (p := ⟨(n.extract 0 41), (m.extract 0 41)⟩) h0R hreps (k55_mkM _ _ _ ⟨(n.extract 0 41), (m.extract 0 41)⟩) (fun _ h => h.elim) (fun _ _ => trivial) (by rw [show ((l0.take k).map fewP).length = k by simp; omega]; exact hown') hg hat'
            have hB4 : Below w.heap.size w w4 := ((hB.alloc (by have := hB.size; omega) _).alloc (by simp; have := hB.size; omega) _).grown hg (by simp; have := hB.size; omega) (fun k hk => own_base hown k hk)
            clear hown hown' hreps h0R hat hat' hnil
            go_wp2
            go_roundg g1
            case measure => omega
            case rel => exact ⟨k + 1, by omega, by omega, by go_num, Lib.hid (by rw [HN.out, fewP, HX.out, HY.out]; exact hRn), hB4⟩
          · have hmI : ¬ (41 : Int) < m.size := by omega
            have hx : cut41 n = (n.extract 0 41) := by rw [cut41, if_pos (by omega)]
            have hy : cut41 m = m := by rw [cut41, if_neg (by omega)]
            have HX := Lib.hid hx
            have HY := Lib.hid hy
            clear hx hy
            have hRa := Kd.R_alloc (Kd.R_alloc hR.out (.cells #[.string (n.extract 0 41), .string m] 55)) (.cells #[.string (n.extract 0 41), .string m] 55)
            obtain ⟨h0R, inner, hown, hreps⟩ := hRa
            have hlenk : ((l0.take k).map fewP).length ≤ 21 := by simp; omega
            rw [show ((l0.take k).map fewP).length = k by simp; omega] at hown
            go_wp2_with (at_builtin; refine wpList_append_own_at _ rfl _ _ 51 rfl w.heap.size 55 i0 _ 2 32 Tryd.underlying51 hi hz0 hz1 hz2 rfl (by decide) _ _ _ rfl hown ⟨wr.heap.size + 1, 0, none⟩ 1 1 [.string (n.extract 0 41), .string m] rfl rfl ?cb1 ?cb2 ?cb3 ?cb4 ?cb5 ?_)
            try case cb1 =>
              intro j u hj
              match j, hj with
              | 0, hj => simp at hj; subst hj; simp [Addr.add]
              | 1, hj => simp at hj; subst hj; simp [Addr.add]
            case cb2 => first | exact ⟨rfl, rfl⟩ | (intro u hu; simp at hu; rcases hu with rfl | rfl <;> rfl)
            case cb3 => unfold maxLen; omega
            case cb4 => omega
            case cb5 => (have := hB.size; first | omega | (simp; omega))
            intro v' w4 hown' hg hnil hat
            have hat' : v'.ownBlock = u3.ownBlock ∨ ∃ gb, v'.ownBlock = some gb ∧ ((wr.alloc (.cells #[.string (n.extract 0 41), .string m] 55)).alloc (.cells #[.string (n.extract 0 41), .string m] 55)).heap.size ≤ gb := by
              rcases hat with h | h
              · exact .inl h
              · exact .inr ⟨_, h, by simp⟩
            have hRn := Kd.R_appended (d := k55) (e := 55) (ok := fun _ => True) (okp := fun _ => False) (xs := (l0.take k).map fewP) (p := ⟨(n.extract 0 41), m⟩) h0R hreps (k55_mkM _ _ _ ⟨(n.extract 0 41), m⟩) (fun _ h => h.elim) (fun _ _ => trivial) (by rw [show ((l0.take k).map fewP).length = k by simp; omega]; exact hown') hg hat'
            have hB4 : Below w.heap.size w w4 := ((hB.alloc (by have := hB.size; omega) _).alloc (by simp; have := hB.size; omega) _).grown hg (by simp; have := hB.size; omega) (fun k hk => own_base hown k hk)
            clear hown hown' hreps h0R hat hat' hnil
            go_wp2
            go_roundg g1
            case measure => omega
            case rel => exact ⟨k + 1, by omega, by omega, by go_num, Lib.hid (by rw [HN.out, fewP, HX.out, HY.out]; exact hRn), hB4⟩
        · have hnI : ¬ (41 : Int) < n.size := by omega
          by_cases hm : 41 < m.size
          · have hmI : (41 : Int) < m.size := by omega
            have hmI' : (41 : Int) ≤ m.size := by omega
            have hx : cut41 n = n := by rw [cut41, if_neg (by omega)]
            have hy : cut41 m = (m.extract 0 41) := by rw [cut41, if_pos (by omega)]
            have HX := Lib.hid hx
            have HY := Lib.hid hy
            clear hx hy
            have hRa := Kd.R_alloc (Kd.R_alloc hR.out (.cells #[.string n, .string (m.extract 0 41)] 55)) (.cells #[.string n, .string (m.extract 0 41)] 55)
            obtain ⟨h0R, inner, hown, hreps⟩ := hRa
            have hlenk : ((l0.take k).map fewP).length ≤ 21 := by simp; omega
            rw [show ((l0.take k).map fewP).length = k by simp; omega] at hown
            go_wp2_with (at_builtin; refine wpList_append_own_at _ rfl _ _ 51 rfl w.heap.size 55 i0 _ 2 32 Tryd.underlying51 hi hz0 hz1 hz2 rfl (by decide) _ _ _ rfl hown ⟨wr.heap.size + 1, 0, none⟩ 1 1 [.string n, .string (m.extract 0 41)] rfl rfl ?cc1 ?cc2 ?cc3 ?cc4 ?cc5 ?_)
            try case cc1 =>
              intro j u hj
              match j, hj with
              | 0, hj => simp at hj; subst hj; simp [Addr.add]
              | 1, hj => simp at hj; subst hj; simp [Addr.add]
            case cc2 => first | exact ⟨rfl, rfl⟩ | (intro u hu; simp at hu; rcases hu with rfl | rfl <;> rfl)
            case cc3 => unfold maxLen; omega
            case cc4 => omega
            case cc5 => (have := hB.size; first | omega | (simp; omega))
            intro v' w4 hown' hg hnil hat
            have hat' : v'.ownBlock = u3.ownBlock ∨ ∃ gb, v'.ownBlock = some gb ∧ ((wr.alloc (.cells #[.string n, .string (m.extract 0 41)] 55)).alloc (.cells #[.string n, .string (m.extract 0 41)] 55)).heap.size ≤ gb := by
              rcases hat with h | h
              · exact .inl h
              · exact .inr ⟨_, h, by simp⟩
            have hRn := Kd.R_appended (d := k55) (e := 55) (ok := fun _ => True) (okp := fun _ => False) (xs := (l0.take k).map fewP) (p := ⟨n, (m.extract 0 41)⟩) h0R hreps (k55_mkM _ _ _ ⟨n, (m.extract 0 41)⟩) (fun _ h => h.elim) (fun _ _ => trivial) (by rw [show ((l0.take k).map fewP).length = k by simp; omega]; exact hown') hg hat'
            have hB4 : Below w.heap.size w w4 := ((hB.alloc (by have := hB.size; omega) _).alloc (by simp; have := hB.size; omega) _).grown hg (by simp; have := hB.size; omega) (fun k hk => own_base hown k hk)
            clear hown hown' hreps h0R hat hat' hnil
            go_wp2
            go_roundg g1
            case measure => omega
            case rel => exact ⟨k + 1, by omega, by omega, by go_num, Lib.hid (by rw [HN.out, fewP, HX.out, HY.out]; exact hRn), hB4⟩
          · have hmI : ¬ (41 : Int) < m.size := by omega
            have hx : cut41 n = n := by rw [cut41, if_neg (by omega)]
            have hy : cut41 m = m := by rw [cut41, if_neg (by omega)]
            have HX := Lib.hid hx
            have HY := Lib.hid hy
            clear hx hy
            have hRa := Kd.R_alloc (Kd.R_alloc hR.out (.cells #[.string n, .string m] 55)) (.cells #[.string n, .string m] 55)
            obtain ⟨h0R, inner, hown, hreps⟩ := hRa
            have hlenk : ((l0.take k).map fewP).length ≤ 21 := by simp; omega
            rw [show ((l0.take k).map fewP).length = k by simp; omega] at hown
            go_wp2_with (at_builtin; refine wpList_append_own_at _ rfl _ _ 51 rfl w.heap.size 55 i0 _ 2 32 Tryd.underlying51 hi hz0 hz1 hz2 rfl (by decide) _ _ _ rfl hown ⟨wr.heap.size + 1, 0, none⟩ 1 1 [.string n, .string m] rfl rfl ?cd1 ?cd2 ?cd3 ?cd4 ?cd5 ?_)
            try case cd1 =>
              intro j u hj
              match j, hj with
              | 0, hj => simp at hj; subst hj; simp [Addr.add]
              | 1, hj => simp at hj; subst hj; simp [Addr.add]
            case cd2 => first | exact ⟨rfl, rfl⟩ | (intro u hu; simp at hu; rcases hu with rfl | rfl <;> rfl)
            case cd3 => unfold maxLen; omega
            case cd4 => omega
            case cd5 => (have := hB.size; first | omega | (simp; omega))
            intro v' w4 hown' hg hnil hat
            have hat' : v'.ownBlock = u3.ownBlock ∨ ∃ gb, v'.ownBlock = some gb ∧ ((wr.alloc (.cells #[.string n, .string m] 55)).alloc (.cells #[.string n, .string m] 55)).heap.size ≤ gb := by
              rcases hat with h | h
              · exact .inl h
              · exact .inr ⟨_, h, by simp⟩
            have hRn := Kd.R_appended (d := k55) (e := 55) (ok := fun _ => True) (okp := fun _ => False) (xs := (l0.take k).map fewP) (p := ⟨n, m⟩) h0R hreps (k55_mkM _ _ _ ⟨n, m⟩) (fun _ h => h.elim) (fun _ _ => trivial) (by rw [show ((l0.take k).map fewP).length = k by simp; omega]; exact hown') hg hat'
            have hB4 : Below w.heap.size w w4 := ((hB.alloc (by have := hB.size; omega) _).alloc (by simp; have := hB.size; omega) _).grown hg (by simp; have := hB.size; omega) (fun k hk => own_base hown k hk)
            clear hown hown' hreps h0R hat hat' hnil
            go_wp2
            go_roundg g1
            case measure => omega
            case rel => exact ⟨k + 1, by omega, by omega, by go_num, Lib.hid (by rw [HN.out, fewP, HX.out, HY.out]; exact hRn), hB4⟩
      · obtain rfl : k = 21 := by omega
        have hkI : (21 : Int) < l0.length := by omega
        have hr := HR.out
        go_wp2
        go_ret
        exact ⟨_, rfl, by rw [← hr]; exact hR.out, hB⟩
    · have hkI : ¬ (k : Int) < l0.length := by omega
      have hr := HR.out
      have he : (l0.take k).map fewP = (l0.take 21).map fewP := by rw [List.take_of_length_le (by omega), List.take_of_length_le (by omega)]
      have HE := Lib.hid he
      clear he
      go_wp2
      go_ret
      exact ⟨_, rfl, by rw [← hr, ← HE.out]; exact hR.out, hB⟩

end Go.Proofs.YtcakednecmngdaaDoor.P
