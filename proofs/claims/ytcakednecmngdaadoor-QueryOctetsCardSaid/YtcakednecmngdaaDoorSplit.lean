/-
  strings.SplitSeq at a separator of one octet: the iterator that it makes hands out the parts of the text, in order, to any loop body.
  Conditions: the separator is one octet.
-/
import Derived.Test.YtcakednecmngdaaDoorPlain
import Derived.Test.YtcakednecmngdaaDoorSeq
import Derived.Test.YtcakednecmngdaaDoorText
import Derived.RangeFuncNested
import Derived.RangeFuncBound
import Derived.RangeFuncCalls
import Derived.RangeFuncLeaves
import Derived.WalkKit
import Derived.OwnWalkIn
import Derived.TacticsInMore
import Derived.LoopNIn
import Derived.LoopIn
import Derived.Sort.LoopGhostIn
import Derived.Lib.IndexLaws
import Derived.Lib.Hide
import Derived.Outline
namespace Go.Proofs.YtcakednecmngdaaDoor.Split
open Go Go.RowKit Go.Proofs.YtcakednecmngdaaDoor.Plain Go.Proofs.YtcakednecmngdaaDoor.Seq
attribute [local go_sem] Oper.semAt_some
set_option maxRecDepth 100000

/-! ### plain -/
theorem partsB_none {c : UInt8} {s : ByteArray} (h : Lib.indexByte s.data.toList c = -1) : partsB c s = [s] := by
  have hn : c ∉ s.data.toList := fun hm => by
    obtain ⟨k, hk, e⟩ := List.getElem_of_mem hm
    exact Lib.indexByte_none h k (by rw [List.getElem?_eq_getElem hk, e])
  rw [partsB, parts_none hn]
  simp [txt_of]
theorem partsB_some {c : UInt8} {s : ByteArray} {o : Nat} (h : Lib.indexByte s.data.toList c = o) :
    o < s.size ∧ partsB c s = s.extract 0 o :: partsB c (s.extract (o + 1) s.size) := by
  obtain ⟨h1, h2⟩ := Lib.indexByte_some h
  obtain ⟨hlt, he⟩ := List.getElem?_eq_some_iff.1 h1
  have hlt' : o < s.size := by simpa using hlt
  refine ⟨hlt', ?_⟩
  have hs : s.data.toList = s.data.toList.take o ++ c :: s.data.toList.drop (o + 1) := by
    rw [← he, List.getElem_cons_drop, List.take_append_drop]
  have hn : c ∉ s.data.toList.take o := fun hm => by
    obtain ⟨k, hk, e⟩ := List.getElem_of_mem hm
    have hk' : k < o := by simp at hk; omega
    refine h2 k hk' ?_
    rw [← e, List.getElem?_eq_getElem (by omega)]
    simp
  have e1 : (s.extract 0 o).data.toList = s.data.toList.take o := by simp
  have e2 : (s.extract (o + 1) s.size).data.toList = s.data.toList.drop (o + 1) := by
    rw [Lib.extract_data]
    exact List.take_of_length_le (by simp)
  rw [partsB, partsB, e2]
  conv => lhs; rw [hs, parts_split _ _ hn]
  rw [List.map_cons, ← e1, txt_of]

/-! ### what splitSeq hands back -/
abbrev closure (b : Nat) : Value := .func (.func 145) #[] #[.pointer (some ⟨b + 1, 0, none⟩), .pointer (some ⟨b, 0, none⟩), .pointer (some ⟨b + 1 + 1, 0, none⟩)]

theorem splitSeq (s sep : ByteArray) (k : Int) (w : World) :
    Calls Tryd.prog 123 #[.string s, .string sep, .int .i64 k] w fun e w' => e = .returned (closure w.heap.size) ∧ w' = ((w.alloc (.cells #[.string s] 9)).alloc (.cells #[.string sep] 9)).alloc (.cells #[.int .i64 k] 3) := by
  go_enter Tryd.func123, Tryd.ntmps123
  go_wp2
  go_ret
  exact ⟨rfl, rfl⟩
theorem SplitSeq (s sep : ByteArray) (w : World) :
    Calls Tryd.prog 89 #[.string s, .string sep] w fun e w' => e = .returned (closure w.heap.size) ∧ w' = ((w.alloc (.cells #[.string s] 9)).alloc (.cells #[.string sep] 9)).alloc (.cells #[.int .i64 0] 3) := by
  go_enter Tryd.func89, Tryd.ntmps89
  go_wp2_with (go_at_call 123; refine (splitSeq _ _ _ _).mono ?_; rintro e w' ⟨rfl, rfl⟩)
  go_ret
  exact ⟨rfl, rfl⟩

set_option maxHeartbeats 4000000 in
set_option maxRecDepth 100000 in
/-- The iterator hands out the parts. -/
theorem gives (c : UInt8) (s : ByteArray) (w : World) (n b n₀ : Nat) (hb : b + 1 + 1 < n₀) (hn : n₀ ≤ w.heap.size) (hs : s.size ≤ 9223372036854775806)
    (cs : w.cell? ⟨b, 0, none⟩ = some (.string s)) (fs : w.frozen? ⟨b, 0, none⟩ = false)
    (cp : w.cell? ⟨b + 1, 0, none⟩ = some (.string ⟨#[c]⟩)) (cv : w.cell? ⟨b + 1 + 1, 0, none⟩ = some (.int .i64 0)) :
    Gives Fence.wide n Tryd.prog 145 #[.pointer (some ⟨b + 1, 0, none⟩), .pointer (some ⟨b, 0, none⟩), .pointer (some ⟨b + 1 + 1, 0, none⟩)] (fun x : ByteArray => #[.string x]) (fun r => r = b) n₀
      (fun xs => xs = partsB c s) (fun pre => pre <+: partsB c s) w := by
  intro l J Jx W hW hJ hJx hY h0
  replace cs : W.cell? ⟨b, 0, none⟩ = some (.string s) := (hW.cell (p := ⟨b, 0, none⟩) (by simp; omega)).trans cs
  replace fs : W.frozen? ⟨b, 0, none⟩ = false := (hW.frozen (p := ⟨b, 0, none⟩) (by simp; omega)).trans fs
  replace cp : W.cell? ⟨b + 1, 0, none⟩ = some (.string ⟨#[c]⟩) := (hW.cell (p := ⟨b + 1, 0, none⟩) (by simp; omega)).trans cp
  replace cv : W.cell? ⟨b + 1 + 1, 0, none⟩ = some (.int .i64 0) := (hW.cell (p := ⟨b + 1 + 1, 0, none⟩) (by simp; omega)).trans cv
  have hz : b < W.heap.size := Nat.lt_of_lt_of_le (by omega) hW.size
  clear hW
  refine callsIn_of_wp Tryd.func145 rfl trivial ?_ rfl
  simp only [Tryd.ntmps145, List.size_toArray, List.length_cons, List.length_nil, Nat.reduceAdd, Nat.reduceSub, Array.replicate_succ, Array.replicate_zero, List.push_toArray, List.append_toArray, List.nil_append, List.cons_append]
  gi_wp2
  gi_loopg [] s.size (fun gf wx => ∃ (pre : List ByteArray) (cur : ByteArray), wx.cell? ⟨b, 0, none⟩ = some (.string cur) ∧ wx.frozen? ⟨b, 0, none⟩ = false ∧ wx.cell? ⟨b + 1, 0, none⟩ = some (.string ⟨#[c]⟩) ∧ wx.cell? ⟨b + 1 + 1, 0, none⟩ = some (.int .i64 0) ∧ Hid (partsB c s = pre ++ partsB c cur) ∧ J pre wx ∧ cur.size ≤ gf ∧ cur.size ≤ s.size)
  case atStart => exact ⟨[], s, cs, fs, cp, cv, Lib.hid (by simp), h0, Nat.le_refl _, Nat.le_refl _⟩
  case round =>
    clear cs fs cp cv h0
    obtain ⟨pre, cur, ca, fa, cb, cc, hp, hj, hle, hle2⟩ := hrel
    by_cases hi : Lib.indexByte cur.data.toList c = -1
    · -- the last part
      have cI : ∀ V : World, Calls Tryd.prog 147 #[.string cur, .string ⟨#[c]⟩] V fun e w' => e = .returned (.int .i64 (-1)) ∧ w' = V := fun V => by rw [← hi]; exact Text.Index cur c V
      have HP : Hid (partsB c s = pre ++ [cur]) := Lib.hid (by rw [hp.out, partsB_none hi])
      clear hi hp
      obtain ⟨fn, tmps, asg, bod, hy, hR⟩ := hY pre cur wr hj
      gi_wp2_with (refine ⟨trivial, fun h => (by cases h), ?_⟩; gi_at_call 147; refine (callsIn_wide.2 (cI _)).mono ?_; rintro e w' ⟨rfl, rfl⟩)
      refine ⟨fun h => (by cases h), ?_⟩
      refine hR.mono ?_
      rintro e W3 (⟨rfl, hJ3, _⟩ | ⟨rfl, hJx3⟩)
      · gi_wp2
        go_end0
        exact ⟨⟨_, rfl⟩, .inl ⟨_, HP.out.symm, hJ3⟩⟩
      · gi_wp2
        go_end0
        exact ⟨⟨_, rfl⟩, .inr ⟨_, by rw [HP.out]; exact List.prefix_refl _, hJx3⟩⟩
    · obtain ⟨o, ho⟩ : ∃ o : Nat, Lib.indexByte cur.data.toList c = o := ⟨(Lib.indexByte cur.data.toList c).toNat, by have := Lib.indexByte_ge cur.data.toList c; omega⟩
      clear hi
      obtain ⟨hlt, he⟩ := partsB_some ho
      have cI : ∀ V : World, Calls Tryd.prog 147 #[.string cur, .string ⟨#[c]⟩] V fun e w' => e = .returned (.int .i64 o) ∧ w' = V := fun V => by rw [← ho]; exact Text.Index cur c V
      have HP : Hid (partsB c s = pre ++ [cur.extract 0 o] ++ partsB c (cur.extract (o + 1) cur.size)) := Lib.hid (by rw [hp.out, he]; simp)
      clear ho hp he
      obtain ⟨fn, tmps, asg, bod, hy, hR⟩ := hY pre (cur.extract 0 o) wr hj
      gi_wp2_with (refine ⟨trivial, fun h => (by cases h), ?_⟩; gi_at_call 147; refine (callsIn_wide.2 (cI _)).mono ?_; rintro e w' ⟨rfl, rfl⟩)
      refine ⟨fun h => (by cases h), ?_⟩
      refine hR.mono ?_
      rintro e W3 (⟨rfl, hJ3, hk3⟩ | ⟨rfl, hJx3⟩)
      · -- the round goes on: the rest is written back
        have c3 : W3.cell? ⟨b, 0, none⟩ = some (.string cur) := (hk3.cell (p := ⟨b, 0, none⟩) (by simp; omega)).trans ca
        have f3 : W3.frozen? ⟨b, 0, none⟩ = false := (hk3.frozen (p := ⟨b, 0, none⟩) (by simp; omega)).trans fa
        have p3 : W3.cell? ⟨b + 1, 0, none⟩ = some (.string ⟨#[c]⟩) := (hk3.cell (p := ⟨b + 1, 0, none⟩) (by simp; omega)).trans cb
        have v3 : W3.cell? ⟨b + 1 + 1, 0, none⟩ = some (.int .i64 0) := (hk3.cell (p := ⟨b + 1 + 1, 0, none⟩) (by simp; omega)).trans cc
        obtain ⟨g1, rfl⟩ : ∃ g1, gk = g1 + 1 := ⟨gk - 1, by omega⟩
        have hsz : (cur.extract (o + 1) cur.size).size = cur.size - (o + 1) := by simp
        have HS := Lib.hid hsz
        clear hsz
        gi_wp2
        gi_roundg g1
        case measure => omega
        case rel =>
          refine ⟨pre ++ [cur.extract 0 o], cur.extract (o + 1) cur.size, ?_, ?_, ?_, ?_, HP, ?_, ?_, ?_⟩
          · exact World.cell?_setCell_same' _ _ _ (by rw [c3]; rfl)
          · rw [World.frozen?_setCell]; exact f3
          · exact (World.cell?_setCell_other _ _ ⟨b + 1, 0, none⟩ _ (by simp)).trans p3
          · exact (World.cell?_setCell_other _ _ ⟨b + 1 + 1, 0, none⟩ _ (by simp)).trans v3
          · exact hJ _ _ _ _ hJ3 (grownBy_setCell' W3 b _) (fun r e => by cases e; rfl)
          · rw [HS.out]; omega
          · rw [HS.out]; omega
      · gi_wp2
        refine bodyPost_ret (results_none rfl _ _ _) rfl ?_
        exact ⟨⟨_, rfl⟩, .inr ⟨_, by rw [HP.out]; exact List.prefix_append _ _, hJx3⟩⟩

end Go.Proofs.YtcakednecmngdaaDoor.Split
