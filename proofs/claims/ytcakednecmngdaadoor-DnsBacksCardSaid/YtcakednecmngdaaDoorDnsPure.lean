/-
  What the reference's functions on labels and names answer, and the plain laws of labels, names and keys: octets and lists alone, no program in sight.
  Conditions: texts of at most 140737488351232 octets.
-/
import Derived.Test.YtcakednecmngdaaDoorP3
import Derived.Test.YtcakednecmngdaaDoorPlain2
namespace Go.Proofs.YtcakednecmngdaaDoor.DnsPure
open Go Go.RowKit Go.Proofs.YtcakednecmngdaaDoor.P Go.Proofs.YtcakednecmngdaaDoorW.PrintWords Go.Proofs.YtcakednecmngdaaDoor.Plain

theorem ev_pos {α : Type} {c : Prop} [Decidable c] {f g : Nat → Option α} {r : α} (h : c) (k : Ev f r) : Ev (fun n => if c then f n else g n) r := Ev.congr (fun _ => if_pos h) k
theorem ev_neg {α : Type} {c : Prop} [Decidable c] {f g : Nat → Option α} {r : α} (h : ¬ c) (k : Ev g r) : Ev (fun n => if c then f n else g n) r := Ev.congr (fun _ => if_neg h) k
theorem ev_at {α : Type} {o : Option α} {r : α} (h : o = some r) : Ev (fun _ => o) r := ⟨0, fun _ _ => h⟩
theorem ev_bind {α β : Type} {o : Option α} {f : Nat → α → Option β} {a : α} {r : β} (h : o = some a) (k : Ev (fun n => f n a) r) : Ev (fun n => o.bind (f n)) r := Ev.bind (ev_at h) k
theorem wrap_in {n : Int} (h0 : -9223372036854775808 ≤ n) (h1 : n ≤ 9223372036854775807) : wrap64 n = n := by unfold wrap64; omega

theorem bt_list (s : ByteArray) (j : Nat) (h : j < s.size) : bt s (j : Int) = ((s.data.toList[j]'(by simpa using h)).toNat : Int) := by
  unfold bt
  rw [dif_pos (by simpa using h)]
  rfl

/-! ### tollref01.Label -/
def okI (s : ByteArray) (j : Int) : Prop := (97 ≤ bt s j ∧ bt s j ≤ 122) ∨ (48 ≤ bt s j ∧ bt s j ≤ 57) ∨ (bt s j = 45 ∧ j ≠ 0 ∧ j ≠ (s.size : Int) - 1)

theorem labelB_iff (s : ByteArray) : labelB s = true ↔ 1 ≤ s.size ∧ s.size ≤ 20 ∧ ∀ j : Nat, j < s.size → okI s j := by
  by_cases h0 : 0 < s.size
  · rw [Dns.labelB_eq s h0]
    simp only [Bool.and_eq_true, decide_eq_true_eq, idx_neg, List.all_eq_true, Bool.not_eq_true', beq_eq_false_iff_ne]
    constructor
    · rintro ⟨⟨⟨h1, h2⟩, h3⟩, h4⟩
      refine ⟨h0, h1, fun j hj => ?_⟩
      have hb := h2 _ (List.getElem_mem (show j < s.data.toList.length by simpa using hj))
      have e := bt_list s j hj
      unfold okI
      rw [e]
      simp only [oct, octR, Bool.or_eq_true, Bool.and_eq_true, decide_eq_true_eq] at hb
      have e0 : j = 0 → (s.data.toList[j]'(by simpa using hj)).toNat ≠ 45 := by rintro rfl; exact h3
      have e1 : j = s.size - 1 → (s.data.toList[j]'(by simpa using hj)).toNat ≠ 45 := by rintro rfl; exact h4
      omega
    · rintro ⟨_, h1, h2⟩
      refine ⟨⟨⟨h1, fun b hb => ?_⟩, ?_⟩, ?_⟩
      · obtain ⟨j, hj, rfl⟩ := List.getElem_of_mem hb
        have hj' : j < s.size := by simpa using hj
        have := h2 j hj'
        unfold okI at this
        rw [bt_list s j hj'] at this
        simp only [oct, octR, Bool.or_eq_true, Bool.and_eq_true, decide_eq_true_eq]
        omega
      · have := h2 0 h0
        unfold okI at this
        rw [bt_list s 0 h0] at this
        intro e
        have e' : (s.data.toList[0]'(by simpa using h0)).toNat = 45 := e
        omega
      · have := h2 (s.size - 1) (by omega)
        unfold okI at this
        rw [bt_list s (s.size - 1) (by omega)] at this
        intro e
        have e' : (s.data.toList[s.size - 1]'(by simp; omega)).toNat = 45 := e
        omega
  · have : s.toList = [] := by rw [Lib.toList_data]; rw [Lib.size_eq] at h0; exact List.length_eq_zero_iff.1 (by omega)
    rw [Dns.labelB_none this]
    simp; omega

theorem label_ok (s : ByteArray) (i : Int) (h0 : 0 ≤ i) (h1 : i < s.size) (hn : s.size ≤ 140737488351232) (h : okI s i) (k : Nat) : tollref01_Label.l0 (k + 1) s i = tollref01_Label.l0 k s (i + 1) := by
  have e1 : wrap64 (i + 1) = i + 1 := wrap_in (by omega) (by omega)
  have e2 : wrap64 ((s.size : Int) - 1) = (s.size : Int) - 1 := wrap_in (by omega) (by omega)
  unfold okI at h
  simp only [tollref01_Label.l0, e1, e2]
  rw [if_pos h1, if_pos h0]
  repeat' split
  all_goals first | rfl | (exfalso; omega)
theorem label_no (s : ByteArray) (i : Int) (h0 : 0 ≤ i) (h1 : i < s.size) (hn : s.size ≤ 140737488351232) (h : ¬ okI s i) (k : Nat) : tollref01_Label.l0 (k + 1) s i = some false := by
  have e2 : wrap64 ((s.size : Int) - 1) = (s.size : Int) - 1 := wrap_in (by omega) (by omega)
  unfold okI at h
  simp only [tollref01_Label.l0, e2]
  rw [if_pos h1, if_pos h0]
  repeat' split
  all_goals first | rfl | (exfalso; omega)
theorem label_from (s : ByteArray) (hn : s.size ≤ 140737488351232) : ∀ (d i : Nat), s.size = i + d → (∀ j : Nat, j < i → okI s j) → Ev (fun k => tollref01_Label.l0 k s i) (labelB s) := by
  intro d
  induction d with
  | zero =>
    intro i hd hall
    refine Ev.step (f := fun _ => some (labelB s)) (fun k => ?_) (Ev.now _)
    simp only [tollref01_Label.l0]
    rw [if_neg (by omega)]
    have := labelB_iff s
    split
    · congr 1
      rw [Bool.eq_iff_iff, this, decide_eq_true_eq]
      exact ⟨fun h => ⟨by omega, by omega, fun j hj => hall j (by omega)⟩, fun h => by omega⟩
    · congr 1
      rw [Bool.eq_iff_iff, this]
      exact ⟨fun h => Bool.noConfusion h, fun h => by omega⟩
  | succ d ih =>
    intro i hd hall
    by_cases h : okI s i
    · refine Ev.step (fun k => label_ok s i (by omega) (by omega) hn h k) ?_
      have := ih (i + 1) (by omega) (fun j hj => by
        by_cases e : j = i
        · rw [e]; exact h
        · exact hall j (by omega))
      simpa using this
    · refine Ev.step (f := fun _ => some (labelB s)) (fun k => ?_) (Ev.now _)
      rw [label_no s i (by omega) (by omega) hn h k]
      congr 1
      rw [Bool.eq_iff_iff, labelB_iff]
      exact ⟨fun h => Bool.noConfusion h, fun hl => (h (hl.2.2 i (by omega))).elim⟩
theorem Label (s : ByteArray) (hn : s.size ≤ 140737488351232) : Ev (fun k => tollref01_Label.f k s) (labelB s) := label_from s hn s.size 0 (by omega) (fun _ h => by omega)

/-! ### tollref01.Split -/
theorem txt_append (a b : List UInt8) : txt a ++ txt b = txt (a ++ b) := by
  apply ByteArray.ext
  simp [txt]
theorem ext_one (s : ByteArray) (i : Nat) (h : i < s.size) : s.extract i (i + 1) = txt [s.data.toList[i]'(by simpa using h)] := by
  rw [← txt_of (s.extract i (i + 1)), Lib.extract_data]
  congr 1
  rw [Nat.add_sub_cancel_left, List.drop_eq_getElem_cons (by simpa using h)]
  rfl
theorem rd_last (front : List ByteArray) (x : ByteArray) : rdOf ByteArray.empty (front ++ [x]) (((front ++ [x]).length : Int) - 1) = x := by
  unfold rdOf
  have e : (((front ++ [x]).length : Int) - 1).toNat = front.length := by simp
  rw [e]
  simp
theorem set_last (front : List ByteArray) (x y : ByteArray) : (front ++ [x]).set (((front ++ [x]).length : Int) - 1).toNat y = front ++ [y] := by
  have e : (((front ++ [x]).length : Int) - 1).toNat = front.length := by simp
  rw [e, List.set_append_right _ _ (Nat.le_refl _)]
  simp
theorem split_from (s : ByteArray) (c : UInt8) (hn : s.size ≤ 140737488351232) : ∀ (d i : Nat) (front : List ByteArray) (q : List UInt8), s.size = i + d → front.length ≤ i → q.length ≤ i → i ≤ 1000 →
    s.size ≤ 1000 →
    Ev (fun k => tollref01_Split.l0 k s (c.toNat : Int) (front ++ [txt q]) i) (front ++ txt (q ++ (parts c (s.data.toList.drop i)).headD []) :: (parts c (s.data.toList.drop i)).tail.map txt) := by
  intro d
  induction d with
  | zero =>
    intro i front q hd hf hq hi hs
    refine Ev.step (f := fun _ => some (front ++ [txt q])) (fun k => ?_) ?_
    · simp only [tollref01_Split.l0]; rw [if_neg (by omega)]
    · rw [List.drop_eq_nil_of_le (by simp; omega)]
      simpa [parts] using Ev.now _
  | succ d ih =>
    intro i front q hd hf hq hi hs
    have hlt : i < s.size := by omega
    have hl : i < s.data.toList.length := by simpa using hlt
    have e1 : wrap64 ((i : Int) + 1) = ((i + 1 : Nat) : Int) := by rw [wrap_in (by omega) (by omega)]; omega
    have eb := bt_list s i hlt
    have hdr : s.data.toList.drop i = s.data.toList[i] :: s.data.toList.drop (i + 1) := List.drop_eq_getElem_cons hl
    obtain ⟨p, ps, hp⟩ : ∃ p ps, parts c (s.data.toList.drop (i + 1)) = p :: ps := by
      cases h : parts c (s.data.toList.drop (i + 1)) with
      | nil => exact absurd h (parts_ne c _)
      | cons p ps => exact ⟨p, ps, rfl⟩
    by_cases hc : s.data.toList[i] = c
    · refine Ev.step (f := fun k => tollref01_Split.l0 k s (c.toNat : Int) ((front ++ [txt q]) ++ [txt []]) ((i + 1 : Nat) : Int)) (fun k => ?_) ?_
      · simp only [tollref01_Split.l0, e1]
        rw [if_pos (by omega), if_pos (by omega), if_pos (by rw [eb, hc]), if_pos (by simp; omega)]
        rfl
      · have h := ih (i + 1) (front ++ [txt q]) [] (by omega) (by simp; omega) (by simp) (by omega) hs
        rw [hp] at h
        rw [hdr, parts, if_pos hc, hp]
        simpa using h
    · refine Ev.step (f := fun k => tollref01_Split.l0 k s (c.toNat : Int) (front ++ [txt (q ++ [s.data.toList[i]])]) ((i + 1 : Nat) : Int)) (fun k => ?_) ?_
      · have e2 : wrap64 (((front ++ [txt q]).length : Int) - 1) = ((front ++ [txt q]).length : Int) - 1 := wrap_in (by omega) (by simp; omega)
        have e3 : ((i : Nat) : Int).toNat = i := by omega
        have e4 : (((i + 1 : Nat) : Int)).toNat = i + 1 := by omega
        simp only [tollref01_Split.l0, e1, e2, rd_last, set_last, e3, e4, ext_one s i hlt]
        rw [if_pos (by omega), if_pos (by omega), if_neg (by rw [eb]; intro h; apply hc; exact UInt8.toNat_inj.1 (by omega)), if_pos (by simp <;> omega), if_pos (by simp <;> omega), if_pos (by omega), if_pos (by omega), if_pos (by simp <;> omega), txt_append]
      · have h := ih (i + 1) front (q ++ [s.data.toList[i]]) (by omega) (by omega) (by simp; omega) (by omega) hs
        rw [hp] at h
        rw [hdr, parts, if_neg hc, hp]
        simpa using h
theorem Split (s : ByteArray) (c : UInt8) (hs : s.size ≤ 1000) : Ev (fun k => tollref01_Split.f k s (c.toNat : Int)) (partsB c s) := by
  have h := split_from s c (by omega) s.size 0 [] [] (by omega) (by simp) (by simp) (by omega) hs
  obtain ⟨p, ps, hp⟩ : ∃ p ps, parts c s.data.toList = p :: ps := by
    cases h : parts c s.data.toList with
    | nil => exact absurd h (parts_ne c _)
    | cons p ps => exact ⟨p, ps, rfl⟩
  rw [List.drop_zero, hp] at h
  rw [partsB, hp]
  exact h

/-! ### tollref01.Name -/
theorem partsB_le {c : UInt8} {s p : ByteArray} (h : p ∈ partsB c s) : p.size ≤ s.size := by
  obtain ⟨l, hl, rfl⟩ := List.mem_map.1 h
  have := parts_le hl
  rw [txt_size]
  simpa using this
theorem partsB_many (c : UInt8) (s : ByteArray) : (partsB c s).length ≤ s.size + 1 := by
  rw [partsB, List.length_map]
  simpa using parts_many c s.data.toList
theorem rd_at (l : List ByteArray) (i : Nat) (h : i < l.length) : rdOf ByteArray.empty l (i : Int) = l[i] := by
  unfold rdOf
  simp [h]
theorem name_from (l : List ByteArray) (hl : l.length ≤ 1000000) (hs : ∀ p ∈ l, p.size ≤ 1000000) : ∀ (d i : Nat), l.length = i + d → Ev (fun k => tollref01_Name.l0 k l i) ((l.drop i).all labelB) := by
  intro d
  induction d with
  | zero =>
    intro i hd
    refine Ev.step (f := fun _ => some true) (fun k => ?_) ?_
    · simp only [tollref01_Name.l0]; rw [if_neg (by omega)]
    · rw [List.drop_eq_nil_of_le (by omega)]; exact Ev.now _
  | succ d ih =>
    intro i hd
    have hlt : i < l.length := by omega
    have e1 : wrap64 ((i : Int) + 1) = ((i + 1 : Nat) : Int) := by rw [wrap_in (by omega) (by omega)]; omega
    refine Ev.step (f := fun k => (tollref01_Label.f k l[i]).bind fun t => if t = true then tollref01_Name.l0 k l ((i + 1 : Nat) : Int) else some false) (fun k => ?_) ?_
    · simp only [tollref01_Name.l0, e1]
      rw [if_pos (by omega), if_pos (by omega), rd_at l i hlt]
    · refine Ev.bind (Label l[i] (by have := hs l[i] (List.getElem_mem hlt); omega)) ?_
      rw [List.drop_eq_getElem_cons hlt, List.all_cons]
      cases h : labelB l[i] with
      | true => exact ev_pos rfl (by simpa using ih (i + 1) (by omega))
      | false => exact ev_neg (by simp) (by simpa using Ev.now false)
theorem Name (s : ByteArray) (hs : s.size ≤ 1000) : Ev (fun k => tollref01_Name.f k s) (nameB s) := by
  unfold tollref01_Name.f
  by_cases h : (s.size : Int) > 60
  · refine ev_pos h ?_
    rw [Dns.nameB_long (by omega)]
    exact Ev.now _
  · refine ev_neg h ?_
    rw [Dns.nameB_eq, decide_eq_true (by omega), Bool.true_and]
    refine Ev.bind (Split s 46 hs) ?_
    have := name_from (partsB 46 s) (by have := partsB_many 46 s; omega) (fun p hp => by have := partsB_le hp; omega) (partsB 46 s).length 0 (by omega)
    simpa using this

/-! ### tollref01.Same -/
theorem toList_inj {a b : ByteArray} : a.toList = b.toList ↔ a = b := by
  rw [Lib.toList_data, Lib.toList_data]
  exact ⟨fun h => by rw [← txt_of a, ← txt_of b, h], fun h => by rw [h]⟩
theorem same_from (l m : List ByteArray) (hl : l.length ≤ 1000000) (hm : m.length = l.length) : ∀ (d i : Nat), l.length = i + d → Ev (fun k => tollref01_Same.l0 k l m i) (decide (l.drop i = m.drop i)) := by
  intro d
  induction d with
  | zero =>
    intro i hd
    refine Ev.step (f := fun _ => some true) (fun k => ?_) ?_
    · simp only [tollref01_Same.l0]; rw [if_neg (by omega)]
    · rw [List.drop_eq_nil_of_le (by omega), List.drop_eq_nil_of_le (by omega)]; exact Ev.now _
  | succ d ih =>
    intro i hd
    have hlt : i < l.length := by omega
    have hlm : i < m.length := by omega
    have e1 : wrap64 ((i : Int) + 1) = ((i + 1 : Nat) : Int) := by rw [wrap_in (by omega) (by omega)]; omega
    refine Ev.step (f := fun k => if l[i].toList = m[i].toList then tollref01_Same.l0 k l m ((i + 1 : Nat) : Int) else some false) (fun k => ?_) ?_
    · simp only [tollref01_Same.l0, e1]
      rw [if_pos (by omega), if_pos (by omega), if_pos (by omega), rd_at l i hlt, rd_at m i hlm]
    · rw [List.drop_eq_getElem_cons hlt, List.drop_eq_getElem_cons hlm]
      by_cases h : l[i] = m[i]
      · refine ev_pos (by rw [h]) ?_
        rw [show decide (l[i] :: List.drop (i + 1) l = m[i] :: List.drop (i + 1) m) = decide (List.drop (i + 1) l = List.drop (i + 1) m) by
          rw [decide_eq_decide, List.cons.injEq]; exact ⟨fun z => z.2, fun z => ⟨h, z⟩⟩]
        exact ih (i + 1) (by omega)
      · refine ev_neg (by rw [toList_inj]; exact h) ?_
        rw [decide_eq_false (by rw [List.cons.injEq]; exact fun z => h z.1)]
        exact Ev.now _
theorem Same (l m : List ByteArray) (hl : l.length ≤ 1000000) : Ev (fun k => tollref01_Same.f k l m) (decide (l = m)) := by
  unfold tollref01_Same.f
  by_cases h : (l.length : Int) = (m.length : Int)
  · refine ev_pos h ?_
    simpa using same_from l m hl (by omega) l.length 0 (by omega)
  · refine ev_neg h ?_
    rw [decide_eq_false (by rintro rfl; exact h rfl)]
    exact Ev.now _

/-! ### Under -/
def underB (a b : ByteArray) : Bool := nameB a && nameB b && decide ((46 :: b.data.toList) <:+ a.data.toList)
theorem suffix_eq (a p : ByteArray) (ha : a.size ≤ 1000000) (hp : p.size ≤ 1000000) : strings_HasSuffix.f a p = some (decide (p.data.toList <:+ a.data.toList)) := by
  have e0 := Lib.size_eq a
  have e1 := Lib.size_eq p
  have e : stringslite_HasSuffix.f a p = some (decide (p.data.toList <:+ a.data.toList)) := by
    unfold stringslite_HasSuffix.f
    by_cases h : (a.size : Int) ≥ (p.size : Int)
    · have ew : wrap64 ((a.size : Int) - (p.size : Int)) = ((a.size - p.size : Nat) : Int) := by rw [wrap_in (by omega) (by omega)]; omega
      rw [if_pos h, ew, if_pos (by omega), if_pos (by omega)]
      congr 1
      rw [Bool.eq_iff_iff, beq_iff_eq, decide_eq_true_eq, Lib.toList_data, Lib.toList_data, Int.toNat_natCast, Lib.extract_to_end, List.suffix_iff_eq_drop, e0, e1]
      exact ⟨fun h => h.symm, fun h => h.symm⟩
    · rw [if_neg h]
      congr 1
      rw [eq_comm, decide_eq_false_iff_not]
      intro hs
      have := hs.length_le
      omega
  rw [strings_HasSuffix.f, e]
  rfl
theorem under_eq (a b : ByteArray) (ha : a.size ≤ 1000000) (hb : b.size ≤ 1000) : dns_Under.f a b = some (underB a b) := by
  unfold dns_Under.f underB dns_Name.f
  simp only [Option.bind_some]
  cases h1 : nameB a with
  | false => simp
  | true =>
    cases h2 : nameB b with
    | false => simp
    | true =>
      have e : ((⟨#[46]⟩ : ByteArray) ++ b).data.toList = 46 :: b.data.toList := by simp
      rw [if_pos rfl, if_pos rfl, if_pos (by omega), suffix_eq _ _ (by omega) (by rw [ByteArray.size_append]; show 1 + b.size ≤ _; omega), e]
      rfl
theorem under_from (l m : List ByteArray) (hl : l.length ≤ 1000000) (hm : m.length < l.length) : ∀ (d i : Nat), m.length = i + d →
    Ev (fun k => tollref01_Under.l0 k l m i) (decide ((m.reverse.drop i) <+: (l.reverse.drop i))) := by
  intro d
  induction d with
  | zero =>
    intro i hd
    refine Ev.step (f := fun _ => some true) (fun k => ?_) ?_
    · simp only [tollref01_Under.l0]; rw [if_neg (by omega)]
    · rw [List.drop_eq_nil_of_le (by simp; omega), decide_eq_true (List.nil_prefix)]; exact Ev.now _
  | succ d ih =>
    intro i hd
    have hlm : i < m.length := by omega
    have e1 : wrap64 ((i : Int) + 1) = ((i + 1 : Nat) : Int) := by rw [wrap_in (by omega) (by omega)]; omega
    have ea : wrap64 (wrap64 ((l.length : Int) - 1) - i) = ((l.length - 1 - i : Nat) : Int) := by rw [wrap_in (n := (l.length : Int) - 1) (by omega) (by omega), wrap_in (by omega) (by omega)]; omega
    have eb : wrap64 (wrap64 ((m.length : Int) - 1) - i) = ((m.length - 1 - i : Nat) : Int) := by rw [wrap_in (n := (m.length : Int) - 1) (by omega) (by omega), wrap_in (by omega) (by omega)]; omega
    refine Ev.step (f := fun k => if (l[l.length - 1 - i]'(by omega)).toList = (m[m.length - 1 - i]'(by omega)).toList then tollref01_Under.l0 k l m ((i + 1 : Nat) : Int) else some false) (fun k => ?_) ?_
    · simp only [tollref01_Under.l0, e1, ea, eb]
      rw [if_pos (by omega), if_pos (by omega), if_pos (by omega), if_pos (by omega), if_pos (by omega), rd_at l _ (by omega), rd_at m _ (by omega)]
    · have hlr : i < l.reverse.length := by simp; omega
      have hmr : i < m.reverse.length := by simp; omega
      rw [List.drop_eq_getElem_cons hlr, List.drop_eq_getElem_cons hmr, List.getElem_reverse, List.getElem_reverse]
      by_cases h : l[l.length - 1 - i]'(by omega) = m[m.length - 1 - i]'(by omega)
      · refine ev_pos (by rw [h]) ?_
        simpa [h, List.cons_prefix_cons] using ih (i + 1) (by omega)
      · refine ev_neg (by rw [toList_inj]; exact h) ?_
        rw [decide_eq_false (by rw [List.cons_prefix_cons]; exact fun z => h z.1.symm)]
        exact Ev.now _
theorem map_txt_suffix (a b : List (List UInt8)) : a.map txt <:+ b.map txt ↔ a <:+ b := by
  constructor
  · rintro ⟨t, h⟩
    have := congrArg (List.map fun x : ByteArray => x.data.toList) h
    simp only [List.map_append, List.map_map] at this
    have e : ((fun x : ByteArray => x.data.toList) ∘ txt) = id := by funext x; simp
    rw [e, List.map_id, List.map_id] at this
    exact ⟨_, this⟩
  · rintro ⟨t, rfl⟩
    rw [List.map_append]
    exact List.suffix_append _ _
theorem Under (a b : ByteArray) (ha : a.size ≤ 1000) (hb : b.size ≤ 1000) : Ev (fun k => tollref01_Under.f k a b) (underB a b) := by
  unfold tollref01_Under.f
  refine Ev.bind (Name a ha) ?_
  have no : ∀ x, x = true → Ev (fun k => tollref01_Under.j0 k a b x) false := fun x hx => Ev.step (f := fun _ => some false) (fun k => by simp only [tollref01_Under.j0]; rw [if_pos hx]) (Ev.now _)
  cases h1 : nameB a with
  | false =>
    refine ev_neg (by simp) ?_
    rw [show underB a b = false by simp [underB, h1]]
    exact no _ rfl
  | true =>
    refine ev_pos rfl (Ev.bind (Name b hb) ?_)
    cases h2 : nameB b with
    | false =>
      rw [show underB a b = false by simp [underB, h2]]
      exact no _ rfl
    | true =>
      refine Ev.step (fun k => by simp only [tollref01_Under.j0]; rw [if_neg (by simp)]) ?_
      refine Ev.bind (Split a 46 ha) (Ev.bind (Split b 46 hb) ?_)
      have hsp := suffix_parts 46 a.data.toList b.data.toList
      have hmap := map_txt_suffix (parts 46 b.data.toList) (parts 46 a.data.toList)
      have la : (partsB 46 a).length = (parts 46 a.data.toList).length := by simp [partsB]
      have lb : (partsB 46 b).length = (parts 46 b.data.toList).length := by simp [partsB]
      rw [show underB a b = decide ((46 :: b.data.toList) <:+ a.data.toList) by simp [underB, h1, h2]]
      by_cases hl : ((partsB 46 a).length : Int) ≤ ((partsB 46 b).length : Int)
      · refine ev_pos hl ?_
        rw [decide_eq_false (by rw [hsp]; omega)]
        exact Ev.now _
      · refine ev_neg hl ?_
        have h := under_from (partsB 46 a) (partsB 46 b) (by have := partsB_many 46 a; omega) (by omega) (partsB 46 b).length 0 (by omega)
        rw [List.drop_zero, List.drop_zero] at h
        have e : decide ((46 :: b.data.toList) <:+ a.data.toList) = decide ((partsB 46 b).reverse <+: (partsB 46 a).reverse) := by
          rw [decide_eq_decide, List.reverse_prefix, hsp, partsB, partsB, hmap]
          exact ⟨fun h => h.1, fun h => ⟨h, by omega⟩⟩
        rw [e]
        exact h

/-! ### Few; the chapter's examples -/
def fewB (s : ByteArray) : ByteArray := if 100 < s.size then s.extract 0 100 else s
theorem few_eq (s : ByteArray) : tolllaw01_Few.f s = some (fewB s) := by
  unfold tolllaw01_Few.f fewB
  by_cases h : (s.size : Int) > 100
  · rw [if_pos h, if_pos (by omega), if_pos (by omega), if_pos (by omega)]
  · rw [if_neg h, if_neg (by omega)]
theorem few_size (s : ByteArray) : (fewB s).size ≤ 100 := by
  unfold fewB
  split
  · simp; omega
  · omega

theorem aw_name1 : nameB (⟨#[97]⟩ : ByteArray) = true := by decide
theorem aw_name2 : nameB (⟨#[97, 46, 98, 45, 99]⟩ : ByteArray) = true := by decide
theorem aw_key : dns_Key.f (⟨#[]⟩ : ByteArray) (⟨#[97]⟩ : ByteArray) = some (⟨#[47, 97]⟩, 0) := by
  unfold dns_Key.f dns_Name.f
  rw [if_pos (by rw [Lib.toList_data]), aw_name1]
  decide
theorem aw_labels : dns_Labels.f (⟨#[97, 46, 98, 45, 99]⟩ : ByteArray) = some [⟨#[97]⟩, ⟨#[98, 45, 99]⟩] := by
  unfold dns_Labels.f dns_Name.f
  rw [aw_name2]
  decide
theorem aw_under1 : underB (⟨#[97, 46, 98, 46, 99]⟩ : ByteArray) (⟨#[98, 46, 99]⟩ : ByteArray) = true := by decide
theorem aw_under2 : underB (⟨#[120, 98, 46, 99]⟩ : ByteArray) (⟨#[98, 46, 99]⟩ : ByteArray) = false := by decide
theorem awake : Ev (fun k => tolllaw01_awake.f k) true := by
  unfold tolllaw01_awake.f
  refine ev_bind aw_key (ev_bind aw_labels (Ev.bind (Same _ _ (by decide)) (ev_pos (by decide) ?_)))
  refine ev_bind (under_eq _ _ (by decide) (by decide)) (ev_pos aw_under1 (ev_bind (under_eq _ _ (by decide) (by decide)) (ev_neg (by rw [aw_under2]; decide) ?_)))
  exact ev_pos (by rw [Lib.toList_data]) (ev_pos rfl (Ev.now _))

end Go.Proofs.YtcakednecmngdaaDoor.DnsPure
