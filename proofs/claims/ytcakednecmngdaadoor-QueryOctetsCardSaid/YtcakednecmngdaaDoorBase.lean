/-
  Small plain facts for the plain laws: steps of printed functions, parts of texts.
  Conditions: as each theorem states them.
-/
import Derived.Test.YtcakednecmngdaaDoorP0
import Derived.Test.YtcakednecmngdaaDoorPlain2
import Derived.Test.YtcakednecmngdaaDoorPlugDns
namespace Go.Proofs.YtcakednecmngdaaDoor.DnsPure
open Go Go.RowKit Go.Proofs.YtcakednecmngdaaDoor.P Go.Proofs.YtcakednecmngdaaDoorW.PrintWords Go.Proofs.YtcakednecmngdaaDoor.Plain

theorem ev_pos {α : Type} {c : Prop} [Decidable c] {f g : Nat → Option α} {r : α} (h : c) (k : Ev f r) : Ev (fun n => if c then f n else g n) r := Ev.congr (fun _ => if_pos h) k
theorem ev_neg {α : Type} {c : Prop} [Decidable c] {f g : Nat → Option α} {r : α} (h : ¬ c) (k : Ev g r) : Ev (fun n => if c then f n else g n) r := Ev.congr (fun _ => if_neg h) k
theorem ev_at {α : Type} {o : Option α} {r : α} (h : o = some r) : Ev (fun _ => o) r := ⟨0, fun _ _ => h⟩
theorem ev_bind {α β : Type} {o : Option α} {f : Nat → α → Option β} {a : α} {r : β} (h : o = some a) (k : Ev (fun n => f n a) r) : Ev (fun n => o.bind (f n)) r := Ev.bind (ev_at h) k
theorem wrap_in {n : Int} (h0 : -9223372036854775808 ≤ n) (h1 : n ≤ 9223372036854775807) : wrap64 n = n := by unfold wrap64; omega

theorem bt_list (s : ByteArray) (j : Nat) (h : j < s.size) : bt s (j : Int) = ((s.data.toList[j]'(by simpa using h)).toNat : Int) := by
  unfold bt
  rw [dif_pos (by simpa using h)]
  rfl

theorem txt_append (a b : List UInt8) : txt a ++ txt b = txt (a ++ b) := by
  apply ByteArray.ext
  simp [txt]
theorem ext_one (s : ByteArray) (i : Nat) (h : i < s.size) : s.extract i (i + 1) = txt [s.data.toList[i]'(by simpa using h)] := by
  rw [← txt_of (s.extract i (i + 1)), Lib.extract_data]
  congr 1
  rw [Nat.add_sub_cancel_left, List.drop_eq_getElem_cons (by simpa using h)]
  rfl
theorem rd_last (front : List ByteArray) (x : ByteArray) : rdOf ByteArray.empty (front ++ [x]) (((front ++ [x]).length : Int) - 1) = x := by
  unfold rdOf
  have e : (((front ++ [x]).length : Int) - 1).toNat = front.length := by simp
  rw [e]
  simp
theorem set_last (front : List ByteArray) (x y : ByteArray) : (front ++ [x]).set (((front ++ [x]).length : Int) - 1).toNat y = front ++ [y] := by
  have e : (((front ++ [x]).length : Int) - 1).toNat = front.length := by simp
  rw [e, List.set_append_right _ _ (Nat.le_refl _)]
  simp
theorem partsB_le {c : UInt8} {s p : ByteArray} (h : p ∈ partsB c s) : p.size ≤ s.size := by
  obtain ⟨l, hl, rfl⟩ := List.mem_map.1 h
  have := parts_le hl
  rw [txt_size]
  simpa using this
theorem partsB_many (c : UInt8) (s : ByteArray) : (partsB c s).length ≤ s.size + 1 := by
  rw [partsB, List.length_map]
  simpa using parts_many c s.data.toList
theorem rd_at (l : List ByteArray) (i : Nat) (h : i < l.length) : rdOf ByteArray.empty l (i : Int) = l[i] := by
  unfold rdOf
  simp [h]
theorem toList_inj {a b : ByteArray} : a.toList = b.toList ↔ a = b := by
  rw [Lib.toList_data, Lib.toList_data]
  exact ⟨fun h => by rw [← txt_of a, ← txt_of b, h], fun h => by rw [h]⟩
end Go.Proofs.YtcakednecmngdaaDoor.DnsPure
