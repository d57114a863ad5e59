/-
  dns.Fold at every text: each great letter becomes its small one, all else stays.
  Conditions: the text is of at most 2^62 octets.
-/
import Derived.Test.YtcakednecmngdaaDoorProg
import Derived.Test.YtcakednecmngdaaDoorPlain
import Derived.WalkKit
import Derived.Lib.ConvBytes
import Derived.Lib.Hide
import Derived.Lib.Strings
import Derived.Laws.IdiomStrings
import Derived.Deep.LoopGhost
namespace Go.Proofs.YtcakednecmngdaaDoor.Fold
open Go Go.RowKit Go.Proofs.YtcakednecmngdaaDoor.Plain
set_option maxRecDepth 100000

def fold1 (c : UInt8) : UInt8 := if 65 ≤ c.toNat ∧ c.toNat ≤ 90 then UInt8.ofNat (c.toNat + 32) else c
def foldL (l : List UInt8) : List UInt8 := l.map fold1
def upTo (l : List UInt8) (k : Nat) : List UInt8 := (l.take k).map fold1 ++ l.drop k
theorem upTo_length (l : List UInt8) (k : Nat) : (upTo l k).length = l.length := by simp [upTo]; omega
theorem upTo_zero (l : List UInt8) : upTo l 0 = l := by simp [upTo]
theorem upTo_all (l : List UInt8) (k : Nat) (h : l.length ≤ k) : upTo l k = foldL l := by simp [upTo, foldL, List.take_of_length_le h, List.drop_eq_nil_of_le h]
theorem upTo_at (l : List UInt8) (k : Nat) (h : k < l.length) : (upTo l k)[k]'(by rw [upTo_length]; exact h) = l[k] := by
  simp only [upTo]
  rw [List.getElem_append_right (by simp; omega)]
  simp [Nat.min_eq_left (Nat.le_of_lt h)]
theorem upTo_succ (l : List UInt8) (k : Nat) (h : k < l.length) : upTo l (k + 1) = (upTo l k).set k (fold1 l[k]) := by
  have h1 : (List.map fold1 (List.take k l)).length = k := by simp; omega
  rw [upTo, upTo, List.take_succ_eq_append_getElem h, List.set_append_right _ _ (by omega), h1, Nat.sub_self, List.drop_eq_getElem_cons h, List.map_append, List.append_assoc]
  rfl
theorem upTo_same (l : List UInt8) (k : Nat) (h : k < l.length) (hc : fold1 l[k] = l[k]) : upTo l (k + 1) = upTo l k := by
  rw [upTo_succ l k h, hc]
  conv => lhs; rw [← upTo_at l k h]
  exact List.set_getElem_self _
theorem or_32 : ∀ n : Fin 91, 65 ≤ n.val → bits .or .u8 (n.val : Int) 32 = (n.val : Int) + 32 := by decide

/-- The cells of block b read as l, and may be written. -/
def Row (w : World) (b : Nat) (l : List UInt8) : Prop := ∀ j (h : j < l.length), w.cell? ⟨b, j, none⟩ = some (.int .u8 (l[j].toNat : Int)) ∧ w.frozen? ⟨b, j, none⟩ = false
theorem Row.set {w : World} {b : Nat} {l : List UInt8} (h : Row w b l) (k : Nat) (c : UInt8) : Row (w.setCell ⟨b, k, none⟩ (.int .u8 (c.toNat : Int))) b (l.set k c) := by
  intro j hj
  have hj' : j < l.length := by simpa using hj
  obtain ⟨h1, h2⟩ := h j hj'
  refine ⟨?_, by rw [World.frozen?_setCell]; exact h2⟩
  by_cases e : k = j
  · subst e
    rw [World.cell?_setCell_same' _ _ _ (by rw [h1]; rfl)]
    simp
  · rw [World.cell?_setCell_other _ _ ⟨b, j, none⟩ _ (by intro h; exact e (by injection h)), h1]
    simp [List.getElem_set_ne e]

set_option maxHeartbeats 2000000 in
theorem Fold (s : ByteArray) (w : World) (hs : s.size ≤ 4611686018427387904) :
    Calls Tryd.prog 49 #[.string s] w fun e w' => e = .returned (.string (txt (foldL s.data.toList))) ∧ Below w.heap.size w w' := by
  have hconv := fun W : World => Lib.run_convert_string_bytes (P := Tryd.prog) W 9 46 5 s Tryd.underlying9 Tryd.underlying46 Tryd.underlying5
  have hl := Lib.size_eq s
  have r0 : Row (Lib.bytesWorld w 5 s) w.heap.size s.data.toList := by
    intro j hj
    have hj' : j < s.data.size := by simpa using hj
    refine ⟨?_, ?_⟩
    · rw [Lib.bytesWorld_cell _ _ _ _ (by omega)]; rw [List.getD, Array.getElem?_toList, Array.getElem?_eq_getElem hj']; rfl
    · simp only [World.frozen?, Lib.bytesWorld_at_new]
      simp [Lib.bytesCells]; omega
  have b0 : Below w.heap.size w (Lib.bytesWorld w 5 s) := by
    refine ⟨rfl, rfl, rfl, by rw [Lib.bytesWorld_size]; omega, fun k hk => Lib.bytesWorld_at_old _ _ _ _ hk⟩
  have HL := Lib.hid hl
  clear hl
  have R0 := Lib.hid r0
  clear r0
  go_enter Tryd.func49, Tryd.ntmps49
  go_wp2
  go_loopg [10] s.size (fun gf v wr => ∃ k : Nat, k + gf = s.size ∧ v = .int .i64 k ∧ Hid (Row wr w.heap.size (upTo s.data.toList k)) ∧ Below w.heap.size w wr)
  case atStart => exact ⟨0, by omega, rfl, Lib.hid (by rw [upTo_zero]; exact R0.out), b0⟩
  case round =>
    clear hconv
    obtain ⟨k, hk, rfl, hR, hB⟩ := hrel
    cases gk with
    | zero =>
      obtain rfl : k = s.size := by omega
      have hback := fun cap => run_convert_bytes_back (P := Tryd.prog) wr 46 9 5 ⟨w.heap.size, 0, none⟩ cap (upTo s.data.toList s.size) Tryd.underlying46 Tryd.underlying5 Tryd.underlying9
        (fun j hj => by rw [show (⟨w.heap.size, 0, none⟩ : Addr).add j = ⟨w.heap.size, j, none⟩ by unfold Addr.add; split <;> simp_all]; exact (hR.out j hj).1)
      rw [upTo_length, ← HL.out, upTo_all _ _ (by rw [← HL.out]; exact Nat.le_refl _)] at hback
      go_wp2
      go_ret
      exact ⟨rfl, hB⟩
    | succ g1 =>
      have hlt : k < s.data.toList.length := by have := HL.out; omega
      obtain ⟨h1, h2⟩ := hR.out k (by rw [upTo_length]; exact hlt)
      rw [upTo_at _ _ hlt] at h1
      have hn := upTo_succ s.data.toList k hlt
      have hm := upTo_same s.data.toList k hlt
      obtain ⟨c, hc⟩ : ∃ c, s.data.toList[k] = c := ⟨_, rfl⟩
      rw [hc] at h1 hn hm
      have HN := Lib.hid hn
      have HM := Lib.hid hm
      clear hn hm hc
      have hk' : k < s.size := by omega
      have HK := Lib.hid hk
      clear hk
      by_cases hbig : 65 ≤ c.toNat ∧ c.toNat ≤ 90
      · have hor : bits .or .u8 (c.toNat : Int) 32 = ((fold1 c).toNat : Int) := by
          have := or_32 ⟨c.toNat, by omega⟩ hbig.1
          rw [this, fold1, if_pos hbig]
          simp; omega
        obtain ⟨hb1, hb2⟩ := hbig
        go_wp2
        go_roundg g1
        case measure => omega
        case rel => exact ⟨k + 1, by have := HK.out; omega, by go_num, Lib.hid (by rw [HN.out]; exact hR.out.set k (fold1 c)), hB.setCell (p := ⟨w.heap.size, k, none⟩) (Nat.le_refl _) _⟩
      · have hf : fold1 c = c := by rw [fold1, if_neg hbig]
        have HF := Lib.hid hf
        clear hf
        by_cases hb1 : 65 ≤ c.toNat
        all_goals
          go_wp2
          go_roundg g1
          case measure => omega
          case rel => exact ⟨k + 1, by have := HK.out; omega, by go_num, Lib.hid (by rw [HM.out HF.out]; exact hR.out), hB⟩

end Go.Proofs.YtcakednecmngdaaDoor.Fold
