/-
  Contracts of the library out of the shelf; strings.Builder; query.written; strings.Join.
  Conditions: as each part states them.
-/
import Derived.Shelf.Strings.Builder1
import Derived.Shelf.Strings.OnBuilder
import Derived.Shelf.Slices.Turned
import Derived.Shelf.Slices.Equal
import Derived.Shelf.Slices.Clone
import Derived.Shelf.Slices.Empties2
import Derived.Shelf.SlicesE.Clone
import Derived.Test.YtcakednecmngdaaDoorProg
import Derived.Lib.Strings
import Derived.Lib.Slices
import Derived.Lib.Walk
import Derived.Lib.Builder
import Derived.Lib.AppendStr
import Derived.Lib.UnsafeStr
import Derived.WalkKit
import Derived.Laws.Externs
import Derived.Test.YtcakednecmngdaaDoorYf80
import Derived.Test.YtcakednecmngdaaDoorPlain
import Derived.Laws.BitsLemmas
import Derived.Lib.Hide
import Derived.Deep.LoopGhost
import Derived.StillTailTactics

namespace Go.Proofs
open Go.Shelf
def Tryd.lays169_ren : Go.Shelf.Ren := ⟨fun | 169 => 139 | n => n, fun | 70 => 139 | 9 => 9 | 0 => 0 | 72 => 141 | 37 => 46 | 127 => 158 | 3 => 3 | 5 => 5 | n => n, fun | n => n⟩
theorem Tryd.lays169 : Go.Proofs.Lays.n169 Tryd.prog Tryd.lays169_ren := {
  mixed := by kernel_rfl
  f169 := Tryd.func139.trans (congrArg some (by kernel_rfl))
  t0 := Tryd.underlying0
  a0 := Tryd.isAgg0
  z0 := Tryd.sizeOf0
  v0 := Tryd.zeroValue0
  t3 := Tryd.underlying3
  a3 := Tryd.isAgg3
  z3 := Tryd.sizeOf3
  v3 := Tryd.zeroValue3
  t9 := Tryd.underlying9
  a9 := Tryd.isAgg9
  z9 := Tryd.sizeOf9
  v9 := Tryd.zeroValue9
  t37 := Tryd.underlying46
  a37 := Tryd.isAgg46
  z37 := Tryd.sizeOf46
  v37 := Tryd.zeroValue46
  t70 := Tryd.underlying139
  a70 := Tryd.isAgg139
  z70 := Tryd.sizeOf139
  v70 := Tryd.zeroValue139
  t72 := Tryd.underlying141
  a72 := Tryd.isAgg141
  z72 := Tryd.sizeOf141
  v72 := Tryd.zeroValue141
  t127 := Tryd.underlying158
  a127 := Tryd.isAgg158
  z127 := Tryd.sizeOf158
  v127 := Tryd.zeroValue158 }
theorem Tryd.Builder_Extra_169 : Builder.Extra Tryd.prog Tryd.lays169_ren := {
  sizeBuilder := by kernel_rfl
  liesBuilder := by kernel_rfl
  t5 := Tryd.underlying5
  a5 := Tryd.isAgg5
  z5 := Tryd.sizeOf5
  v5 := Tryd.zeroValue5
  infoByte := by kernel_rfl
  cellsByte := by kernel_rfl
  sizeByte := by kernel_rfl
  neB5 := by decide }
open Go.RowKit in
theorem Tryd.Builder_String_any (B b : Nat) (l : List UInt8) (w : World) (h : Lib.IsBuilder 141 5 B b (Lib.byteCells l) w) (hBw : B ≤ w.heap.size) :
    Calls Tryd.prog 139 #[.pointer (some ⟨b, 0, none⟩)] w fun e w' => e = .returned (.string ⟨l.toArray⟩) ∧ Below B w w' := Any.Builder_String_any Tryd.lays169 Tryd.Builder_Extra_169 B b l w h hBw
def Tryd.lays156_ren : Go.Shelf.Ren := ⟨fun | 156 => 117 | 165 => 140 | 166 => 138 | 169 => 139 | 240 => 155 | 241 => 156 | 276 => 164 | 277 => 165 | n => n, fun | 31 => 27 | 9 => 9 | 3 => 3 | 4 => 4 | 0 => 0 | 20 => 20 | 72 => 141 | 76 => 145 | 70 => 139 | 37 => 46 | 75 => 143 | 127 => 158 | 164 => 161 | 5 => 5 | 80 => 130 | n => n, fun | n => n⟩
theorem Tryd.lays156 : Go.Proofs.Lays.n156 Tryd.prog Tryd.lays156_ren := {
  mixed := by kernel_rfl
  f156 := Tryd.func117.trans (congrArg some (by kernel_rfl))
  f165 := Tryd.func140.trans (congrArg some (by kernel_rfl))
  f166 := Tryd.func138.trans (congrArg some (by kernel_rfl))
  f169 := Tryd.func139.trans (congrArg some (by kernel_rfl))
  f240 := Tryd.func155.trans (congrArg some (by kernel_rfl))
  f241 := Tryd.func156.trans (congrArg some (by kernel_rfl))
  f276 := Tryd.func164.trans (congrArg some (by kernel_rfl))
  f277 := Tryd.func165.trans (congrArg some (by kernel_rfl))
  t0 := Tryd.underlying0
  a0 := Tryd.isAgg0
  z0 := Tryd.sizeOf0
  v0 := Tryd.zeroValue0
  t3 := Tryd.underlying3
  a3 := Tryd.isAgg3
  z3 := Tryd.sizeOf3
  v3 := Tryd.zeroValue3
  t4 := Tryd.underlying4
  a4 := Tryd.isAgg4
  z4 := Tryd.sizeOf4
  v4 := Tryd.zeroValue4
  t9 := Tryd.underlying9
  a9 := Tryd.isAgg9
  z9 := Tryd.sizeOf9
  v9 := Tryd.zeroValue9
  t20 := Tryd.underlying20
  a20 := Tryd.isAgg20
  z20 := Tryd.sizeOf20
  v20 := Tryd.zeroValue20
  t31 := Tryd.underlying27
  a31 := Tryd.isAgg27
  z31 := Tryd.sizeOf27
  v31 := Tryd.zeroValue27
  t37 := Tryd.underlying46
  a37 := Tryd.isAgg46
  z37 := Tryd.sizeOf46
  v37 := Tryd.zeroValue46
  t70 := Tryd.underlying139
  a70 := Tryd.isAgg139
  z70 := Tryd.sizeOf139
  v70 := Tryd.zeroValue139
  t72 := Tryd.underlying141
  a72 := Tryd.isAgg141
  z72 := Tryd.sizeOf141
  v72 := Tryd.zeroValue141
  t75 := Tryd.underlying143
  a75 := Tryd.isAgg143
  z75 := Tryd.sizeOf143
  v75 := Tryd.zeroValue143
  t76 := Tryd.underlying145
  a76 := Tryd.isAgg145
  z76 := Tryd.sizeOf145
  v76 := Tryd.zeroValue145
  t127 := Tryd.underlying158
  a127 := Tryd.isAgg158
  z127 := Tryd.sizeOf158
  v127 := Tryd.zeroValue158
  t164 := Tryd.underlying161
  a164 := Tryd.isAgg161
  z164 := Tryd.sizeOf161
  v164 := Tryd.zeroValue161 }
theorem Tryd.Builder_Extra_156 : Builder.Extra Tryd.prog Tryd.lays156_ren := {
  sizeBuilder := by kernel_rfl
  liesBuilder := by kernel_rfl
  t5 := Tryd.underlying5
  a5 := Tryd.isAgg5
  z5 := Tryd.sizeOf5
  v5 := Tryd.zeroValue5
  infoByte := by kernel_rfl
  cellsByte := by kernel_rfl
  sizeByte := by kernel_rfl
  neB5 := by decide }
open Go.RowKit in
theorem Tryd.strings_Join_none (a : Option Addr) (c : Nat) (sep : ByteArray) (w : World) :
    Calls Tryd.prog 117 #[.slice a 0 c, .string sep] w fun e w' => e = .returned (.string ⟨#[]⟩) ∧ w' = w := Any.strings_Join_none Tryd.lays156 Tryd.Builder_Extra_156 a c sep w
open Go.RowKit in
theorem Tryd.strings_Join (bk o c : Nat) (xs : List ByteArray) (sep : ByteArray) (w : World) (hcells : ∀ (j : Nat) x, xs[j]? = some x → w.cell? ⟨bk, o + j, none⟩ = some (.string x)) (hbk : bk < w.heap.size) (hN : xs.length ≤ 140737488355328) (hcap : xs.length ≤ c) (hlen : (Lib.join (xs.map (·.data.toList)) sep.data.toList).length ≤ 140737488355328) :
    Calls Tryd.prog 117 #[.slice (some ⟨bk, o, none⟩) xs.length c, .string sep] w fun e w' => e = .returned (.string ⟨(Lib.join (xs.map (·.data.toList)) sep.data.toList).toArray⟩) ∧ Below w.heap.size w w' := Any.strings_Join Tryd.lays156 Tryd.Builder_Extra_156 bk o c xs sep w hcells hbk hN hcap hlen
def Tryd.lays110_ren : Go.Shelf.Ren := ⟨fun | 110 => 131 | 109 => 152 | n => n, fun | 31 => 27 | 9 => 9 | 4 => 4 | 3 => 3 | 0 => 0 | n => n, fun | n => n⟩
theorem Tryd.lays110 : Go.Proofs.Lays.n110 Tryd.prog Tryd.lays110_ren := {
  mixed := by kernel_rfl
  f109 := Tryd.func152.trans (congrArg some (by kernel_rfl))
  f110 := Tryd.func131.trans (congrArg some (by kernel_rfl))
  t0 := Tryd.underlying0
  a0 := Tryd.isAgg0
  z0 := Tryd.sizeOf0
  v0 := Tryd.zeroValue0
  t3 := Tryd.underlying3
  a3 := Tryd.isAgg3
  z3 := Tryd.sizeOf3
  v3 := Tryd.zeroValue3
  t4 := Tryd.underlying4
  a4 := Tryd.isAgg4
  z4 := Tryd.sizeOf4
  v4 := Tryd.zeroValue4
  t9 := Tryd.underlying9
  a9 := Tryd.isAgg9
  z9 := Tryd.sizeOf9
  v9 := Tryd.zeroValue9
  t31 := Tryd.underlying27
  a31 := Tryd.isAgg27
  z31 := Tryd.sizeOf27
  v31 := Tryd.zeroValue27 }
open Go.Lib in
theorem Tryd.slices_Contains_string (b off n c : Nat) (zs : List ByteArray) (x : ByteArray) (w : World) (hz : n ≤ zs.length) (hbig : n ≤ 9223372036854775807) (hc : ∀ j, j < zs.length → w.cell? ⟨b, off + j, none⟩ = some (.string (zs.getD j ByteArray.empty))) :
    Calls Tryd.prog 131 #[.slice (some ⟨b, off, none⟩) n c, .string x] w fun e w' => e = .returned (.bool (Lib.containsS (zs.take n) x)) ∧ w' = w := Any.slices_Contains_string Tryd.lays110 b off n c zs x w hz hbig hc
open Go.Lib in
theorem Tryd.slices_Contains_string_empty (a : Option Addr) (c : Nat) (x : ByteArray) (w : World) :
    Calls Tryd.prog 131 #[.slice a 0 c, .string x] w fun e w' => e = .returned (.bool false) ∧ w' = w := Any.slices_Contains_string_empty Tryd.lays110 a c x w
def Tryd.lays193_ren : Go.Shelf.Ren := ⟨fun | 193 => 115 | n => n, fun | 31 => 27 | 9 => 9 | 4 => 4 | 3 => 3 | 0 => 0 | n => n, fun | n => n⟩
theorem Tryd.lays193 : Go.Proofs.Lays.n193 Tryd.prog Tryd.lays193_ren := {
  mixed := by kernel_rfl
  f193 := Tryd.func115.trans (congrArg some (by kernel_rfl))
  t0 := Tryd.underlying0
  a0 := Tryd.isAgg0
  z0 := Tryd.sizeOf0
  v0 := Tryd.zeroValue0
  t3 := Tryd.underlying3
  a3 := Tryd.isAgg3
  z3 := Tryd.sizeOf3
  v3 := Tryd.zeroValue3
  t4 := Tryd.underlying4
  a4 := Tryd.isAgg4
  z4 := Tryd.sizeOf4
  v4 := Tryd.zeroValue4
  t9 := Tryd.underlying9
  a9 := Tryd.isAgg9
  z9 := Tryd.sizeOf9
  v9 := Tryd.zeroValue9
  t31 := Tryd.underlying27
  a31 := Tryd.isAgg27
  z31 := Tryd.sizeOf27
  v31 := Tryd.zeroValue27 }
open Go.RowKit Go.Lib in
theorem Tryd.slices_Equal_string (b1 o1 n c b2 o2 m d : Nat) (xs ys : List ByteArray) (w : World) (hx : n ≤ xs.length) (hy : m ≤ ys.length) (hbig : n ≤ 9223372036854775807) (hbig2 : m ≤ 9223372036854775807) (hc1 : ∀ j, j < xs.length → w.cell? ⟨b1, o1 + j, none⟩ = some (.string (xs.getD j ByteArray.empty))) (hc2 : ∀ j, j < ys.length → w.cell? ⟨b2, o2 + j, none⟩ = some (.string (ys.getD j ByteArray.empty))) :
    Calls Tryd.prog 115 #[.slice (some ⟨b1, o1, none⟩) n c, .slice (some ⟨b2, o2, none⟩) m d] w fun e w' => e = .returned (.bool (decide (xs.take n = ys.take m))) ∧ ∃ q, w' = w.drewN q := Any.slices_Equal_string Tryd.lays193 b1 o1 n c b2 o2 m d xs ys w hx hy hbig hbig2 hc1 hc2
open Go.RowKit Go.Lib in
theorem Tryd.slices_Equal_string_empty (a1 a2 : Option Addr) (c m d : Nat) (w : World) (hbig2 : m ≤ 9223372036854775807) :
    Calls Tryd.prog 115 #[.slice a1 0 c, .slice a2 m d] w fun e w' => e = .returned (.bool (decide (m = 0))) ∧ w' = w := Any.slices_Equal_string_empty Tryd.lays193 a1 a2 c m d w hbig2
def Tryd.laysNm216_ren : Go.Shelf.Ren := ⟨fun | 16 => 105 | n => n, fun | 24 => 27 | 9 => 9 | 4 => 4 | n => n, fun | n => n⟩
theorem Tryd.laysNm216 : Go.Proofs.Lays2.n16 Tryd.prog Tryd.laysNm216_ren := {
  mixed := by kernel_rfl
  f16 := Tryd.func105.trans (congrArg some (by kernel_rfl))
  t4 := Tryd.underlying4
  a4 := Tryd.isAgg4
  z4 := Tryd.sizeOf4
  v4 := Tryd.zeroValue4
  t9 := Tryd.underlying9
  a9 := Tryd.isAgg9
  z9 := Tryd.sizeOf9
  v9 := Tryd.zeroValue9
  t24 := Tryd.underlying27
  a24 := Tryd.isAgg27
  z24 := Tryd.sizeOf27
  v24 := Tryd.zeroValue27
  i9 := by kernel_rfl }
open Go.RowKit Go.Lib in
theorem Tryd.slices_Clone_string (b off n c : Nat) (zs : List ByteArray) (w : World) (hz : n ≤ zs.length) (hbig : n * 16 ≤ 140737488355328) (hc : ∀ j, j < zs.length → w.cell? ⟨b, off + j, none⟩ = some (.string (zs.getD j ByteArray.empty))) :
    Calls Tryd.prog 105 #[.slice (some ⟨b, off, none⟩) n c] w fun e w' => ∃ v', e = .returned v' ∧ w'.ownsRow w.heap.size 9 1 v' n ((zs.take n).map (Value.string)) ∧ v' ≠ .slice none 0 0 ∧ Below w.heap.size w w' := Any.slices_Clone_string Tryd.laysNm216 b off n c zs w hz hbig hc
open Go.RowKit Go.Lib in
theorem Tryd.slices_Clone_string_nil (n c : Nat) (w : World) :
    Calls Tryd.prog 105 #[.slice none n c] w fun e w' => e = .returned (.slice none 0 0) ∧ w' = w := Any.slices_Clone_string_nil Tryd.laysNm216 n c w
open Go.RowKit Go.Lib in
theorem Tryd.slices_Clone_string_zero (a : Addr) (c : Nat) (w : World) :
    Calls Tryd.prog 105 #[.slice (some a) 0 c] w fun e w' => ∃ v', e = .returned v' ∧ w'.ownsRow w.heap.size 9 1 v' 0 [] ∧ v' ≠ .slice none 0 0 ∧ Below w.heap.size w w' := Any.slices_Clone_string_zero Tryd.laysNm216 a c w
open Go.RowKit Go.Lib in
theorem Tryd.slices_Equal_string_lens (a1 a2 : Option Addr) (n c m d : Nat) (w : World) (hnm : n ≠ m) :
    Calls Tryd.prog 115 #[.slice a1 n c, .slice a2 m d] w fun e w' => e = .returned (.bool false) ∧ w' = w := Any.slices_Equal_string_lens Tryd.lays193 a1 a2 n c m d w hnm
def Tryd.laysSlE041_f105_ren : Go.Shelf.Ren := ⟨fun | 41 => 105 | n => n, fun | 22 => 27 | 23 => 9 | 4 => 4 | n => n, fun | n => n⟩
theorem Tryd.laysSlE041_f105 : Go.Proofs.SlLaysE0.n41 Tryd.prog Tryd.laysSlE041_f105_ren := {
  mixed := by kernel_rfl
  f41 := ⟨Tryd.f105.name, by decide, Tryd.func105.trans (congrArg some (by kernel_rfl))⟩
  t4 := Tryd.underlying4
  a4 := Tryd.isAgg4
  z4 := Tryd.sizeOf4
  v4 := Tryd.zeroValue4
  t22 := Tryd.underlying27
  a22 := Tryd.isAgg27
  z22 := Tryd.sizeOf27
  v22 := Tryd.zeroValue27 }
open Go.RowKit Go.Lib in
theorem Tryd.slices_Clone (i0 : TypeInfo) (z : Value) (size bytes : Nat) (hi : Tryd.prog.info? 9 = some i0) (hz0 : i0.zero = some z) (hz1 : i0.size = size) (hz2 : i0.bytes = bytes) (hzs : z.cells.size = size) (hsz : 0 < size) (z23 : ∀ w, (Go.sizeOf 9).run Tryd.prog w = .ok size w) (b off n c : Nat) (news : List Value) (w : World) (hl : news.length = n * size) (hn : n ≤ maxLen) (hbig : n * bytes ≤ 140737488355328) (hc : ∀ j u, news[j]? = some u → w.cell? ⟨b, off + j, none⟩ = some u) (h1 : ∀ u ∈ news, u.oneCell' = true) :
    Calls Tryd.prog 105 #[.slice (some ⟨b, off, none⟩) n c] w fun e w' => ∃ v', e = .returned v' ∧ w'.ownsRow w.heap.size 9 size v' n news ∧ v' ≠ .slice none 0 0 ∧ Below w.heap.size w w' := AnyE.slices_Clone Tryd.laysSlE041_f105 i0 z size bytes hi hz0 hz1 hz2 hzs hsz z23 b off n c news w hl hn hbig hc h1
open Go.RowKit Go.Lib in
theorem Tryd.slices_Clone_nil (n c : Nat) (w : World) :
    Calls Tryd.prog 105 #[.slice none n c] w fun e w' => e = .returned (.slice none 0 0) ∧ w' = w := AnyE.slices_Clone_nil Tryd.laysSlE041_f105 n c w
end Go.Proofs

namespace Go.Proofs.YtcakednecmngdaaDoor.Builder
open Go Go.RowKit
set_option maxRecDepth 100000
set_option maxHeartbeats 2000000

theorem sizeB : (Tryd.prog.info? 141).map (fun i => i.size) = some 2 := by kernel_rfl

theorem checked_used (b : Nat) (w : World) (h0 : w.cell? ⟨b, 0, none⟩ = some (.pointer (some ⟨b, 0, none⟩))) :
    Calls Tryd.prog 155 #[.pointer (some ⟨b, 0, none⟩)] w fun e w' => e = .returned (.tuple #[]) ∧ w' = w := by
  obtain ⟨j, hj, _⟩ := Option.map_eq_some_iff.1 sizeB
  go_enter Tryd.func155, Tryd.ntmps155
  go_wp2
  rw [Lib.run_neq_ptr_same w _ Tryd.underlying139 hj]
  go_wp2
  go_end0
  exact ⟨rfl, rfl⟩

theorem liesB : liesAt Tryd.prog Tryd.prog.depth 141 (2 / Tryd.prog.cellsOf 141) 0 141 1 = true := by kernel_rfl
theorem checked_fresh (b : Nat) (w : World) (h0 : w.cell? ⟨b, 0, none⟩ = some (.pointer none)) (hs : w.shape? b = some (141, 2)) (hz : w.frozen? ⟨b, 0, none⟩ = false) :
    Calls Tryd.prog 155 #[.pointer (some ⟨b, 0, none⟩)] w fun e w' => e = .returned (.tuple #[]) ∧ w' = w.setCell ⟨b, 0, none⟩ (.pointer (some ⟨b, 0, none⟩)) := by
  obtain ⟨j, hj, hjs⟩ := Option.map_eq_some_iff.1 sizeB
  have into := Lib.run_to_unsafe (P := Tryd.prog) w ⟨b, 0, none⟩ Tryd.underlying139 Tryd.underlying161 hj (by rw [hjs]; decide) hs (Nat.zero_lt_succ 1)
  have back := Lib.run_from_unsafe (P := Tryd.prog) w ⟨b, 0, none⟩ Tryd.underlying161 Tryd.underlying139 hj hs liesB
  go_enter Tryd.func155, Tryd.ntmps155
  go_wp2
  rw [run_callFunc_extern Tryd.func164 (by kernel_rfl) (by kernel_rfl) (by kernel_rfl) (e := Extern.AbiNoEscape.same) (by kernel_rfl)]
  rw [Lib.run_noEscape]
  simp only [Result.andThen]
  rw [Oper.upon_value]
  go_wp2
  go_end0
  exact ⟨rfl, rfl⟩
/-- A builder that is written: it knows where it lies; its octets stay. -/
theorem checked (B b : Nat) (l : List Value) (w : World) (h : Lib.IsBuilder 141 5 B b l w) :
    Calls Tryd.prog 155 #[.pointer (some ⟨b, 0, none⟩)] w fun e w' => e = .returned (.tuple #[]) ∧ Lib.BuilderAt 141 5 B b (.pointer (some ⟨b, 0, none⟩)) l w' ∧ Below B w w' := by
  cases h with
  | inl h =>
    refine (checked_fresh b w h.cell0 h.shape h.frozen0).mono fun e w' he => ?_
    obtain ⟨rfl, rfl⟩ := he
    exact ⟨rfl, h.used _, (Below.refl B w).setCell (p := ⟨b, 0, none⟩) h.1 _⟩
  | inr h =>
    refine (checked_used b w h.cell0).mono fun e w' he => ?_
    obtain ⟨rfl, rfl⟩ := he
    exact ⟨rfl, h, Below.refl B _⟩
theorem infoU : (Tryd.prog.info? 5).map (fun i => (i.zero, i.size, i.bytes)) = some (some (.int .u8 0), 1, 1) := by kernel_rfl

theorem WriteByte (B b : Nat) (l : List Value) (c : Int) (w : World) (h : Lib.IsBuilder 141 5 B b l w) (hl : l.length + 1 ≤ 140737488355328) (hw : B ≤ w.heap.size) :
    Calls Tryd.prog 137 #[.pointer (some ⟨b, 0, none⟩), .int .u8 c] w fun e w' => e = .returned .nilIface ∧ Lib.BuilderAt 141 5 B b (.pointer (some ⟨b, 0, none⟩)) (l ++ [.int .u8 c]) w' ∧ Below B w w' := by
  obtain ⟨i0, hi, hz0, hz1, hz2⟩ := info_parts infoU
  go_enter Tryd.func137, Tryd.ntmps137
  go_wp2_with (go_at_call 155; refine (checked B b l _ h).mono ?_)
  rintro e w1 ⟨rfl, h1, hb1⟩
  obtain ⟨hB, v, hk, ho, hne⟩ := h1
  have c0 : w1.cell? ⟨b, 0, none⟩ = some (.pointer (some ⟨b, 0, none⟩)) := by rw [Lib.cell_of_heap hk]; rfl
  have c1 : w1.cell? ⟨b, 1, none⟩ = some v := by rw [Lib.cell_of_heap hk]; rfl
  have hz := hb1.size
  go_wp2_with (at_builtin; refine wpList_append_own _ rfl _ _ 46 rfl B 5 i0 (.int .u8 0) 1 1 Tryd.underlying46 hi hz0 hz1 hz2 rfl (by decide) _ _ _ rfl (ho.alloc _) ⟨w1.heap.size, 0, none⟩ 1 1 [.int .u8 c] rfl rfl ?q1 ?q2 ?q3 ?q4 ?q5 ?_)
  case q1 =>
    intro j u hj
    match j, hj with
    | 0, hj => simp at hj; subst hj; simp [Addr.add]
  case q2 => intro u hu; simp at hu; subst hu; rfl
  case q3 => unfold maxLen; omega
  case q4 => omega
  case q5 => simp; omega
  intro v' w2 ho' hg _
  have hlt : b < w1.heap.size := Lib.BuilderAt.lt (T := 141) (e := 5) (B := B) ⟨hB, v, hk, ho, hne⟩
  have hk2 : w2.heap[b]? = some (.cells #[.pointer (some ⟨b, 0, none⟩), v] 141 (0, 0)) := by
    rw [hg.block b (by simp; omega) (fun e => hne e.symm), Lib.alloc_old w1 _ b hlt]
    exact hk
  have d0 : w2.cell? ⟨b, 0, none⟩ = some (.pointer (some ⟨b, 0, none⟩)) := by rw [Lib.cell_of_heap hk2]; rfl
  have d1 : w2.cell? ⟨b, 1, none⟩ = some v := by rw [Lib.cell_of_heap hk2]; rfl
  have f1 : w2.frozen? ⟨b, 1, none⟩ = false := Lib.frozen_of_heap hk2 1
  obtain ⟨g, cap, rfl⟩ : ∃ g cap, v' = .slice (some ⟨g, 0, none⟩) (l.length + 1) cap := by
    rcases ho'.2 with ⟨_, h0⟩ | ⟨g, cap, cur, hv, _⟩
    · omega
    · exact ⟨g, cap, hv⟩
  go_wp2
  go_ret
  refine ⟨rfl, Lib.BuilderAt.put (T := 141) (e := 5) hB hk2 (bs' := l ++ [.int .u8 c]) (by simpa using ho') (by decide), ?_⟩
  exact ((hb1.alloc (by omega) _).grown hg (by simp; omega) (fun k hk => (ho.lt k hk).1)).setCell (p := ⟨b, 1, none⟩) hB _

theorem WriteString (B b : Nat) (l : List Value) (s : ByteArray) (w : World) (h : Lib.IsBuilder 141 5 B b l w) (hl : l.length + s.size ≤ 140737488355328) (hw : B ≤ w.heap.size) :
    Calls Tryd.prog 138 #[.pointer (some ⟨b, 0, none⟩), .string s] w fun e w' => e = .returned (.tuple #[.int .i64 s.size, .nilIface]) ∧ Lib.BuilderAt 141 5 B b (.pointer (some ⟨b, 0, none⟩)) (l ++ Lib.strCells s) w' ∧ Below B w w' := by
  obtain ⟨i0, hi, hz0, hz1, hz2⟩ := info_parts infoU
  go_enter Tryd.func138, Tryd.ntmps138
  go_wp2_with (go_at_call 155; refine (checked B b l _ h).mono ?_)
  rintro e w1 ⟨rfl, h1, hb1⟩
  obtain ⟨hB, v, hk, ho, hne⟩ := h1
  have c0 : w1.cell? ⟨b, 0, none⟩ = some (.pointer (some ⟨b, 0, none⟩)) := by rw [Lib.cell_of_heap hk]; rfl
  have c1 : w1.cell? ⟨b, 1, none⟩ = some v := by rw [Lib.cell_of_heap hk]; rfl
  have hz := hb1.size
  go_wp2_with (at_builtin; refine Lib.wpList_append_own_string _ rfl _ _ 46 9 rfl B 5 i0 Tryd.underlying46 Tryd.underlying9 hi hz0 hz1 hz2 _ _ _ rfl ho s rfl ?q3 ?q4 ?q5 ?_)
  case q3 => unfold maxLen; omega
  case q4 => omega
  case q5 => omega
  intro v' w2 ho' hg _
  have hlt : b < w1.heap.size := Lib.BuilderAt.lt (T := 141) (e := 5) (B := B) ⟨hB, v, hk, ho, hne⟩
  have hk2 : w2.heap[b]? = some (.cells #[.pointer (some ⟨b, 0, none⟩), v] 141 (0, 0)) := by
    rw [hg.block b hlt (fun e => hne e.symm)]
    exact hk
  have d0 : w2.cell? ⟨b, 0, none⟩ = some (.pointer (some ⟨b, 0, none⟩)) := by rw [Lib.cell_of_heap hk2]; rfl
  have d1 : w2.cell? ⟨b, 1, none⟩ = some v := by rw [Lib.cell_of_heap hk2]; rfl
  have f1 : w2.frozen? ⟨b, 1, none⟩ = false := Lib.frozen_of_heap hk2 1
  obtain ⟨ao, n', cap, rfl⟩ : ∃ ao n' cap, v' = .slice ao n' cap := by
    rcases ho'.2 with ⟨hv, _⟩ | ⟨g, cap, cur, hv, _⟩
    · exact ⟨_, _, _, hv⟩
    · exact ⟨_, _, _, hv⟩
  go_wp2
  go_ret2
  refine ⟨rfl, Lib.BuilderAt.put (T := 141) (e := 5) hB hk2 (bs' := l ++ Lib.strCells s) (by simpa [Lib.strCells_length] using ho') (by decide), ?_⟩
  exact (hb1.grown hg (by omega) (fun k hk => (ho.lt k hk).1)).setCell (p := ⟨b, 1, none⟩) hB _

end Go.Proofs.YtcakednecmngdaaDoor.Builder

namespace Go.Proofs.YtcakednecmngdaaDoor.Query
open Go Go.RowKit Go.Proofs.YtcakednecmngdaaDoor.Plain Go.Proofs.YtcakednecmngdaaDoor.Y Go.Proofs.YtcakednecmngdaaDoor.P Go.Proofs.YtcakednecmngdaaDoorW.PrintWords
set_option maxRecDepth 100000

def plainN (n : Nat) : Bool := (decide (97 ≤ n) && decide (n ≤ 122)) || (decide (65 ≤ n) && decide (n ≤ 90)) || (decide (48 ≤ n) && decide (n ≤ 57)) || decide (n = 45) || decide (n = 46) || decide (n = 95) || decide (n = 126)
def plainB (c : UInt8) : Bool := plainN c.toNat
def hexN (n : Nat) : UInt8 := if n < 10 then UInt8.ofNat (48 + n) else UInt8.ofNat (55 + n)
/-- An octet, written. -/
def wr1 (c : UInt8) : List UInt8 := if plainB c then [c] else if c.toNat = 32 then [43] else [37, hexN (c.toNat / 16), hexN (c.toNat % 16)]
def wrL (l : List UInt8) : List UInt8 := l.flatMap wr1

theorem plain_fin : ∀ n : Fin 256, query_Plain.f 2 (n.val : Int) = some (plainN n.val) := by decide
theorem plain_eq (c : UInt8) : query_Plain.f 2 (c.toNat : Int) = some (plainB c) := plain_fin ⟨c.toNat, c.toNat_lt⟩
theorem Plain (c : UInt8) (w : World) : Calls Tryd.prog 80 #[.int .u8 (c.toNat : Int)] w fun e w' => e = .returned (.bool (plainB c)) ∧ Drawn0 w w' := query_Plain.calls 2 _ _ w (plain_eq c)

theorem wrL_snoc (l : List UInt8) (c : UInt8) : wrL (l ++ [c]) = wrL l ++ wr1 c := by simp [wrL]
theorem wr1_length (c : UInt8) : (wr1 c).length ≤ 3 := by unfold wr1; split <;> (try split) <;> simp
theorem wrL_length (l : List UInt8) : (wrL l).length ≤ 3 * l.length := by
  induction l with
  | nil => simp [wrL]
  | cons c l ih =>
    have := wr1_length c
    simp only [wrL, List.flatMap_cons, List.length_append, List.length_cons] at *
    omega

theorem take_byte (s : ByteArray) (k : Nat) (h : k < s.size) : ∃ c, s[k] = c ∧ s.data.toList.take (k + 1) = s.data.toList.take k ++ [c] := by
  have hl : k < s.data.toList.length := by rw [← Lib.size_eq]; exact h
  refine ⟨s[k], rfl, ?_⟩
  rw [List.take_succ_eq_append_getElem hl]
  congr 1
theorem and_15 : ∀ n : Fin 256, bits .and .u8 (n.val : Int) 15 = ((n.val % 16 : Nat) : Int) := by decide
theorem wrap_up : ∀ n : Fin 16, IntKind.u8.wrap ((n.val : Int) + 1) = ((n.val + 1 : Nat) : Int) := by decide
def digits : ByteArray := ⟨#[48, 49, 50, 51, 52, 53, 54, 55, 56, 57, 65, 66, 67, 68, 69, 70]⟩
theorem hex_text : ∀ d f : Fin 16, (((⟨#[37]⟩ : ByteArray) ++ digits.extract d.val (d.val + 1)) ++ digits.extract f.val (f.val + 1)) = txt [37, hexN d.val, hexN f.val] := by decide
set_option maxHeartbeats 2000000 in
theorem written (s : ByteArray) (w : World) (hs : s.size ≤ 1000) :
    Calls Tryd.prog 116 #[.string s] w fun e w' => e = .returned (.string (txt (wrL s.data.toList))) ∧ Below w.heap.size w w' := by
  have HL := Lib.hid (Lib.size_eq s)
  go_enter Tryd.func116, Tryd.ntmps116
  go_wp2
  go_loopg [8] s.size (fun gf v wr => ∃ k : Nat, k + gf = s.size ∧ v = .int .i64 k ∧ Hid (Lib.IsBuilder 141 5 w.heap.size w.heap.size (Lib.byteCells (wrL (s.data.toList.take k))) wr) ∧ Below w.heap.size w wr)
  case atStart => exact ⟨0, by omega, rfl, Lib.hid (Lib.fresh_isBuilder _ _ w), (Below.refl _ w).alloc (Nat.le_refl _) _⟩
  case round =>
    obtain ⟨k, hk, rfl, hR, hB⟩ := hrel
    cases gk with
    | zero =>
      obtain rfl : k = s.size := by omega
      have hR2 := hR.out
      rw [List.take_of_length_le (by rw [← HL.out]; exact Nat.le_refl _)] at hR2
      have HR2 := Lib.hid hR2
      clear hR2 hR
      go_wp2_with (go_at_call 139; refine (Tryd.Builder_String_any w.heap.size w.heap.size _ _ HR2.out hB.size).mono ?_)
      rintro e w1 ⟨rfl, hb⟩
      go_wp2
      go_ret
      exact ⟨rfl, hB.trans hb⟩
    | succ g1 =>
      have hlt : k < s.size := by omega
      have hk' : (k : Int) < s.size := by omega
      obtain ⟨c, hc, et⟩ := take_byte s k hlt
      have hz : (wrL (s.data.toList.take k)).length ≤ 3000 := by
        have := wrL_length (s.data.toList.take k)
        rw [List.length_take] at this
        omega
      have ET := Lib.hid et
      have HZ := Lib.hid hz
      have HK := Lib.hid hk
      clear et hz hk
      go_wp2_with (go_at_call 80; refine (Plain _ _).mono ?_)
      rintro e w1 ⟨rfl, ⟨q, rfl⟩⟩
      replace hR : Hid (Lib.IsBuilder 141 5 w.heap.size w.heap.size (Lib.byteCells (wrL (s.data.toList.take k))) (wr.drewN q)) := hR
      replace hB : Below w.heap.size w (wr.drewN q) := pw_below_drewN hB _
      have hroom : (Lib.byteCells (wrL (s.data.toList.take k))).length + 3 ≤ 140737488355328 := by rw [Lib.byteCells_length]; have := HZ.out; omega
      have HM := Lib.hid hroom
      clear hroom
      by_cases hp : plainB c = true
      · rw [hp]
        have hw1 : wr1 c = [c] := by rw [wr1, if_pos hp]
        have HW := Lib.hid hw1
        clear hw1
        go_wp2_with (go_at_call 137; refine (Builder.WriteByte _ _ _ _ _ hR.out (by have := HM.out; omega) hB.size).mono ?_)
        rintro e w2 ⟨rfl, hb1, hb2⟩
        go_wp2
        go_roundg g1
        case measure => omega
        case rel => exact ⟨k + 1, by have := HK.out; omega, by go_num, Lib.hid (.inr (by rw [ET.out, wrL_snoc, HW.out, Lib.byteCells_append]; exact hb1)), hB.trans hb2⟩
      · rw [Bool.not_eq_true] at hp
        rw [hp]
        by_cases h32 : c.toNat = 32
        · have h32' : (c.toNat : Int) = 32 := by omega
          have hw1 : wr1 c = [43] := by rw [wr1, hp, if_neg (by simp), if_pos h32]
          have HW := Lib.hid hw1
          clear hw1
          go_wp2_with (go_at_call 137; refine (Builder.WriteByte _ _ _ _ _ hR.out (by have := HM.out; omega) hB.size).mono ?_)
          rintro e w2 ⟨rfl, hb1, hb2⟩
          go_wp2
          go_roundg g1
          case measure => omega
          case rel => exact ⟨k + 1, by have := HK.out; omega, by go_num, Lib.hid (.inr (by rw [ET.out, wrL_snoc, HW.out, Lib.byteCells_append]; exact hb1)), hB.trans hb2⟩
        · have h32' : ¬ (c.toNat : Int) = 32 := by omega
          have hw1 : wr1 c = [37, hexN (c.toNat / 16), hexN (c.toNat % 16)] := by rw [wr1, hp, if_neg (by simp), if_neg h32]
          have HW := Lib.hid hw1
          clear hw1
          obtain ⟨d, hd⟩ : ∃ d : Nat, c.toNat / 16 = d := ⟨_, rfl⟩
          obtain ⟨f, hf⟩ : ∃ f : Nat, c.toNat % 16 = f := ⟨_, rfl⟩
          have hlt8 := c.toNat_lt
          have e1 : (c.toNat : Int) / 16 = (d : Int) := by omega
          have e2 : bits .and .u8 (c.toNat : Int) 15 = (f : Int) := by rw [← hf]; exact and_15 ⟨c.toNat, hlt8⟩
          have e3 : IntKind.u8.wrap ((d : Int) + 1) = ((d + 1 : Nat) : Int) := by rw [← hd]; exact wrap_up ⟨c.toNat / 16, by omega⟩
          have e4 : IntKind.u8.wrap ((f : Int) + 1) = ((f + 1 : Nat) : Int) := by rw [← hf]; exact wrap_up ⟨c.toNat % 16, by omega⟩
          have hd16 : d < 16 := by omega
          have hf16 : f < 16 := by omega
          have HT := Lib.hid (hex_text ⟨d, hd16⟩ ⟨f, hf16⟩)
          have HD := Lib.hid hd
          have HF := Lib.hid hf
          clear hd hf
          have g1' : (0 : Int) ≤ (d : Int) := by omega
          have g2' : (d : Int) ≤ (d : Int) + 1 := by omega
          have g3' : (d : Int) + 1 ≤ 16 := by omega
          have g4' : (0 : Int) ≤ (f : Int) := by omega
          have g5' : (f : Int) ≤ (f : Int) + 1 := by omega
          have g6' : (f : Int) + 1 ≤ 16 := by omega
          have gm : min (d + 1) 16 - d = 1 := by omega
          have gn : min (f + 1) 16 - f = 1 := by omega
          have gs : (ByteArray.mk #[48, 49, 50, 51, 52, 53, 54, 55, 56, 57, 65, 66, 67, 68, 69, 70]).size = 16 := rfl
          go_wp2
          go_still_tail 14, (by kernel_rfl)
          change wpList _ _ _ _ _ ((wr.drewN q).drewN 1)
          have ht := HT.out
          unfold digits at ht
          rw [ht]
          replace hR : Hid (Lib.IsBuilder 141 5 w.heap.size w.heap.size (Lib.byteCells (wrL (s.data.toList.take k))) ((wr.drewN q).drewN 1)) := hR
          replace hB : Below w.heap.size w ((wr.drewN q).drewN 1) := pw_below_drewN hB _
          clear ht e1 e2 e3 e4 g1' g2' g3' g4' g5' g6' gm gn gs
          go_wp2_with (go_at_call 138; refine (Builder.WriteString _ _ _ _ _ hR.out (by have := HM.out; rw [txt_size]; simp; omega) hB.size).mono ?_)
          rintro e w2 ⟨rfl, hb1, hb2⟩
          go_wp2
          go_roundg g1
          case measure => omega
          case rel => exact ⟨k + 1, by have := HK.out; omega, by go_num, Lib.hid (.inr (by rw [ET.out, wrL_snoc, HW.out, HD.out, HF.out, Lib.byteCells_append]; exact hb1)), hB.trans hb2⟩

end Go.Proofs.YtcakednecmngdaaDoor.Query

namespace Go.Proofs.YtcakednecmngdaaDoor.P
open Go Go.RowKit Go.Proofs.YtcakednecmngdaaDoorW.PrintWords Go.Proofs.YtcakednecmngdaaDoor.Plain

def query_written.f (a0 : ByteArray) : Option ByteArray := if a0.size ≤ 1000 then some (txt (Query.wrL a0.data.toList)) else none
theorem query_written.calls (a0 : ByteArray) (r : ByteArray) (w : World) (h : query_written.f a0 = some r) :
    Calls Tryd.prog 116 #[.string a0] w fun e w' => e = .returned (.string r) ∧ Below w.heap.size w w' := by
  unfold query_written.f at h
  split at h
  · next hs =>
    obtain rfl := Option.some.inj h
    exact Query.written a0 w hs
  · cases h

def strings_Join.f (l0 : List ByteArray) (a1 : ByteArray) : Option ByteArray :=
  if l0.length ≤ 1000 ∧ (Lib.join (l0.map (·.data.toList)) a1.data.toList).length ≤ 140737488355328 then some (txt (Lib.join (l0.map (·.data.toList)) a1.data.toList)) else none
theorem strings_Join.calls (A0 : Option Addr) (c0 : Nat) (l0 : List ByteArray) (a1 : ByteArray) (r : ByteArray) (w : World) (hr0 : Kd.C Kd.string w A0 l0.length l0) (hc0 : l0.length ≤ c0) (h : strings_Join.f l0 a1 = some r) :
    Calls Tryd.prog 117 #[.slice A0 l0.length c0, .string a1] w fun e w' => e = .returned (.string r) ∧ Below w.heap.size w w' := by
  unfold strings_Join.f at h
  split at h
  · next hs =>
    obtain rfl := Option.some.inj h
    cases l0 with
    | nil =>
      refine (Tryd.strings_Join_none A0 c0 a1 w).mono fun e w' he => ?_
      obtain ⟨he, rfl⟩ := he
      exact ⟨he, Below.refl _ _⟩
    | cons x l =>
      have hR : ReadsOf Value.string ByteArray.empty w A0 (x :: l).length (x :: l) := Kd.reads_of_C (enc := Value.string) (d := ByteArray.empty) (h1 := fun _ => rfl) hr0
      obtain ⟨ad, rfl, hc⟩ := hR.2.2 (by simp)
      obtain ⟨bk, o, sp⟩ := ad
      have hs0 : sp = none := by
        have h0 := hc 0 (by simp)
        cases sp with
        | none => rfl
        | some p =>
          exfalso
          unfold Addr.add at h0
          simp [World.cell?] at h0
          split at h0 <;> simp_all
      subst hs0
      refine Tryd.strings_Join bk o c0 (x :: l) a1 w (fun j y hj => ?_) ?_ (by omega) hc0 hs.2
      · obtain ⟨hjl, rfl⟩ := List.getElem?_eq_some_iff.1 hj
        have := hc j hjl
        rw [List.getD_eq_getElem?_getD, List.getElem?_eq_getElem hjl, Addr.add_lit] at this
        exact this
      · exact World.block_lt_of_cell? w _ (hc 0 (by simp))
  · cases h

end Go.Proofs.YtcakednecmngdaaDoor.P
