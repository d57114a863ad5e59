/-
  The plain law of QueueFull: a queue holds just so many refs as may be, each once.
  Conditions: none.
-/
import Derived.Test.YtcakednecmngdaaDoorQueuePure
import Derived.Test.YtcakednecmngdaaDoorQf8
namespace Go.Proofs.YtcakednecmngdaaDoor.Pure
open Go Go.RowKit Go.Proofs.YtcakednecmngdaaDoor.Q Go.Proofs.YtcakednecmngdaaDoor.P Go.Proofs.YtcakednecmngdaaDoorW.PrintWords Go.Proofs.YtcakednecmngdaaDoor.Plain Go.Proofs.YtcakednecmngdaaDoor.DnsPure Go.Proofs.YtcakednecmngdaaDoor.Queue Go.Proofs.YtcakednecmngdaaDoor.QueuePure

def ints (l : List UInt8) : List Int := l.map fun c => (c.toNat : Int)
theorem ints_text (l : List UInt8) : strOfNums (ints l) = txt l := by
  unfold strOfNums ints txt
  rw [List.map_map]
  congr 2
  rw [List.map_congr_left (g := id) (fun c _ => by simp), List.map_id]
def nameL (i : Nat) : List UInt8 := [110, UInt8.ofNat (97 + i / 26), UInt8.ofNat (97 + i % 26)]
def refN (i : Nat) : S37 := ⟨1, ⟨#[]⟩, txt (nameL i)⟩
def refs (i : Nat) : List S37 := (List.range i).map refN
theorem refs_length (i : Nat) : (refs i).length = i := by simp [refs]
theorem refN_name : ∀ i : Fin 68, nameB (txt (nameL i.val)) = true := by decide +kernel
theorem refN_may {i : Nat} (h : i < 68) : mayR (refN i) = true := by
  have := refN_name ⟨i, h⟩
  simp only at this
  unfold mayR refN
  rw [if_pos rfl, this]; rfl
theorem refN_ok {i : Nat} : okB (refN i) = true := okB_iff.2 ⟨by show (Lit.int .i64 1).wf = true; decide, by show (0 : Nat) ≤ 1000000; omega, by show (txt (nameL i)).size ≤ 1000000; rw [txt_size]; simp [nameL]⟩
theorem refN_inj {i j : Nat} (hi : i < 68) (hj : j < 68) (h : refN i = refN j) : i = j := by
  unfold refN at h
  injection h with _ _ h3
  have h4 : nameL i = nameL j := by rw [← txt_data (nameL i), ← txt_data (nameL j), h3]
  unfold nameL at h4
  simp only [List.cons.injEq, and_true, true_and] at h4
  have a := congrArg UInt8.toNat h4.1
  have b := congrArg UInt8.toNat h4.2
  simp only [UInt8.toNat_ofNat'] at a b
  omega
theorem refs_nodup {i : Nat} (h : i ≤ 68) : (refs i).Nodup := by
  unfold refs
  rw [List.nodup_iff_pairwise_ne, List.pairwise_map]
  refine List.Pairwise.imp_of_mem ?_ List.nodup_range
  intro a b ha hb hne e
  exact hne (refN_inj (by have := List.mem_range.1 ha; omega) (by have := List.mem_range.1 hb; omega) e)
theorem refs_may {i : Nat} (h : i ≤ 68) : ∀ r ∈ refs i, mayR r = true := by
  intro r hr
  obtain ⟨x, hx, rfl⟩ := List.mem_map.1 hr
  exact refN_may (by have := List.mem_range.1 hx; omega)
theorem refs_ok (i : Nat) : (refs i).all okB = true := by
  rw [List.all_eq_true]
  intro r hr
  obtain ⟨x, _, rfl⟩ := List.mem_map.1 hr
  exact refN_ok
theorem addL_nodup : ∀ (l q : List S37), (q ++ l).Nodup → addL q l = q ++ l
  | [], q, _ => by simp [addL]
  | r :: l, q, h => by
    have hr : r ∉ q := fun hq => by
      have := (List.nodup_append.1 h).2.2 r hq r (by simp)
      exact this rfl
    rw [addL, if_neg hr, addL_nodup l (q ++ [r]) (by simpa using h)]
    simp
theorem addL_all : ∀ (l q : List S37), (∀ r ∈ l, r ∈ q) → addL q l = q
  | [], q, _ => rfl
  | r :: l, q, h => by rw [addL, if_pos (h r (by simp)), addL_all l q (fun x hx => h x (by simp [hx]))]
theorem octs (i : Nat) (h : i < 68) : strOfNums [(wrap64 (97 + (wrap64 (Int.tdiv (i : Int) 26)))) % 256, (wrap64 (97 + (Int.tmod (i : Int) 26))) % 256] = txt [UInt8.ofNat (97 + i / 26), UInt8.ofNat (97 + i % 26)] := by
  have h1 : Int.tdiv (i : Int) 26 = ((i / 26 : Nat) : Int) := rfl
  have h2 : Int.tmod (i : Int) 26 = ((i % 26 : Nat) : Int) := rfl
  have h3 : i / 26 < 3 := by omega
  have h4 : i % 26 < 26 := by omega
  rw [h1, h2, wrap_in (n := ((i / 26 : Nat) : Int)) (by omega) (by omega), wrap_in (n := 97 + ((i / 26 : Nat) : Int)) (by omega) (by omega), wrap_in (n := 97 + ((i % 26 : Nat) : Int)) (by omega) (by omega)]
  have := ints_text [UInt8.ofNat (97 + i / 26), UInt8.ofNat (97 + i % 26)]
  rw [← this]
  congr 1
theorem full_from (n : Nat) (hn : n ≤ 68) : ∀ (d i : Nat), n = i + d → Ev (fun k => tolllaw19_QueueFull.l0 k (n : Int) (refs i) i) true := by
  have hA := Add [] (refs n) rfl (by simp) (by rw [refs_length]; omega)
  have hg0 : MayQ ([] : List S37) := ⟨fun r hr => (by cases hr), List.nodup_nil, by simp⟩
  have ea : addL [] (refs n) = refs n := by rw [addL_nodup _ _ (by simpa using refs_nodup hn)]; rfl
  intro d
  induction d with
  | zero =>
    intro i hd
    obtain rfl : n = i := by omega
    refine Ev.step (f := fun k => _) (fun k => by rw [tolllaw19_QueueFull.l0, if_neg (by omega)]) (Ev.bind hA ?_)
    unfold addR
    rw [if_pos ⟨hg0, refs_may hn⟩, ea, refs_length]
    by_cases h : 64 < n
    · rw [if_pos h]
      exact ev_pos (by omega) (ev_pos rfl (ev_pos rfl (Ev.bind QueuePure.awake (Ev.now _))))
    · rw [if_neg h]
      have hg : MayQ (refs n) := ⟨refs_may hn, refs_nodup hn, by rw [refs_length]; omega⟩
      have hA2 := Add (refs n) (refs n) (refs_ok n) (by rw [refs_length]; omega) (by rw [refs_length]; omega)
      have e2 : addR (refs n) (refs n) = (refs n, 0) := by
        unfold addR
        rw [if_pos ⟨hg, refs_may hn⟩, addL_all _ _ (fun r hr => hr), refs_length, if_neg h]
      rw [e2] at hA2
      refine ev_neg (by omega) (Ev.bind hA2 (Ev.bind (SameRefs _ _ (by rw [refs_length]; omega)) (ev_pos (decide_eq_true rfl) (ev_pos rfl (Ev.bind (SameRefs _ _ (by rw [refs_length]; omega)) (ev_pos (decide_eq_true rfl) (ev_pos rfl (Ev.bind QueuePure.awake (Ev.now _)))))))))
  | succ d ih =>
    intro i hd
    have hi : i < 68 := by omega
    refine Ev.step (fun k => by rw [tolllaw19_QueueFull.l0, if_pos (by omega), succ_wrap (n := 68) hi (by omega)]) (ev_bind rfl ?_)
    have hs : 1 + (strOfNums [(wrap64 (97 + (wrap64 (Int.tdiv (i : Int) 26)))) % 256, (wrap64 (97 + (Int.tmod (i : Int) 26))) % 256]).size ≤ 9223372036854775807 := by rw [octs i hi, txt_size]; simp
    refine ev_pos hs (ev_bind (a := ((1 : Int), (⟨#[]⟩ : ByteArray), txt (nameL i))) (by rw [octs i hi, show (⟨#[110]⟩ : ByteArray) = txt [110] from rfl, txt_append]; rfl) (ev_pos (by rw [refs_length]; omega) ?_))
    have := ih (i + 1) (by omega)
    rw [refs, List.range_succ, List.map_append] at this
    exact this
theorem QueueFull : tolllaw19_QueueFull.Pure := by
  intro a h
  have hb : 0 ≤ a ∧ a < 256 := by
    simp [Lit.wf, IntKind.min, IntKind.max, IntKind.signed, IntKind.bits] at h
    omega
  have hm : Int.tmod a 9 = a % 9 := Int.tmod_eq_emod_of_nonneg hb.1
  have h9 : 0 ≤ a % 9 ∧ a % 9 < 9 := by omega
  refine Ev.rounds (g := fun k => tolllaw19_QueueFull.f k a) ?_
  have := full_from (60 + (a % 9).toNat) (by omega) (60 + (a % 9).toNat) 0 (by omega)
  have e : ((60 + (a % 9).toNat : Nat) : Int) = 60 + a % 9 := by omega
  refine Ev.congr (fun k => ?_) this
  rw [tolllaw19_QueueFull.f, hm, wrap_in (n := a % 9) (by omega) (by omega), wrap_in (by omega) (by omega), e]
  rfl

end Go.Proofs.YtcakednecmngdaaDoor.Pure
