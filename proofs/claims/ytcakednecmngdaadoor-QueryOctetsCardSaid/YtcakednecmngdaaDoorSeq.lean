/-
  A loop over an iterator function that writes its own captured variables (strings.SplitSeq writes the rest of its text back), proved for every program: the caller's word on its own cells goes through such a loop.
  Conditions: the iterator may turn only blocks of which 'ok' holds, all laid before the loop began; each round keeps what lay below n₀; no round panics or defers.
-/
import Derived.RangeFuncNested
import Derived.RangeFuncBound
namespace Go.Proofs.YtcakednecmngdaaDoor.Seq
open Go Go.RowKit

variable {F : Fence} {n : Nat} {P : Program}

/-- A word on the heap that abides new blocks, draws, and the turn of a block of which 'ok' holds. -/
def Abides {β : Type} (ok : Nat → Prop) (J : β → World → Prop) : Prop :=
  ∀ s A B row, J s A → A.grownBy B row → (∀ r, row = some r → ok r) → J s B

/-- A word that abides, besides, the turn of a block from 'hi' on that holds no cells: the loop's own book-keeping. -/
def Abides2 {β : Type} (ok : Nat → Prop) (hi : Nat) (J : β → World → Prop) : Prop :=
  ∀ s A B row, J s A → A.grownBy B row → (∀ r, row = some r → ok r ∨ (hi ≤ r ∧ ∃ o : Obj, A.heap[r]? = some o ∧ o.isCells = false)) → J s B

theorem Abides2.and {β : Type} {ok : Nat → Prop} {hi : Nat} {I I' : β → World → Prop} (h : Abides2 ok hi I) (h' : Abides2 ok hi I') : Abides2 ok hi (fun s W => I s W ∧ I' s W) :=
  fun s A B row hs hg hr => ⟨h s A B row hs.1 hg hr, h' s A B row hs.2 hg hr⟩
theorem Abides2.put {β : Type} {ok : Nat → Prop} {hi : Nat} {I : β → World → Prop} (h : Abides2 ok hi I) {s : β} {W : World} {l : Nat} {o : Obj} (o' : Obj) (hs : I s W) (hl : hi ≤ l) (ho : W.heap[l]? = some o) (hc : o.isCells = false) : I s (W.putObj l o') :=
  h s W _ (some l) hs (grownBy_putObj' W l o') (fun r e => by cases e; exact .inr ⟨hl, o, ho, hc⟩)
theorem Abides2.alloc {β : Type} {ok : Nat → Prop} {hi : Nat} {I : β → World → Prop} (h : Abides2 ok hi I) {s : β} {W : World} (o : Obj) (hs : I s W) : I s (W.alloc o) :=
  h s W _ none hs (World.grownBy_alloc W o none) (fun r e => by cases e)
theorem Abides2.below {β : Type} {ok : Nat → Prop} {hi n₀ : Nat} {w₀ : World} (hn : n₀ ≤ w₀.heap.size) (hh : n₀ ≤ hi) (hok : ∀ r, ok r → n₀ ≤ r) : Abides2 ok hi (fun (_ : β) W => Below n₀ w₀ W) :=
  fun _ _ _ _ hs hg hr => hs.grown hg (Nat.le_trans hn hs.size) (fun k e => (hr k e).elim (hok k) (fun z => Nat.le_trans hh z.1))
/-- A known block of cells below 'hi' that is none of the iterator's. -/
theorem Abides2.block {β : Type} {ok : Nat → Prop} {hi b : Nat} (f : β → Obj) (hc : ∀ s, (f s).isCells = true) (hb : ¬ ok b) : Abides2 ok hi (fun s W => W.heap[b]? = some (f s)) :=
  fun s A _ row hs hg hr => (hg.block b (Array.getElem?_eq_some_iff.1 hs).1 (fun e => by
    rcases hr b e.symm with h | ⟨_, o, ho, hco⟩
    · exact hb h
    · rw [hs] at ho; cases ho; rw [hc] at hco; cases hco)).trans hs
theorem Abides2.size {β : Type} {ok : Nat → Prop} {hi : Nat} (m : Nat) : Abides2 ok hi (fun (_ : β) W => m ≤ W.heap.size) := fun _ _ _ _ hs hg _ => Nat.le_trans hs hg.size
theorem Abides2.pure {β : Type} {ok : Nat → Prop} {hi : Nat} (p : β → Prop) : Abides2 ok hi (fun s (_ : World) => p s) := fun _ _ _ _ hs _ _ => hs

/-- What lay in a world lies as it lay: so does what is no cells. -/
theorem keepsFrom_below {B : Nat} {W W' : World} (h : Below W.heap.size W W') : KeepsFrom B W W' :=
  ⟨h.size, fun k _ _ hk _ => (h.block k (Array.getElem?_eq_some_iff.1 hk).1).trans hk⟩
theorem keepsFrom_set {B : Nat} (W : World) (a : Addr) (v : Value) : KeepsFrom B W (W.setCell a v) := (KeepsOthers.setCell W a v).from B

/-- What an iterator owes: whatever the caller's word J on the heap, it hands 'encs x' to each round, one x after the other, and comes to an end. -/
def Gives {α : Type} (F : Fence) (n : Nat) (P : Program) (g : Nat) (lb : Array Value) (encs : α → Array Value) (ok : Nat → Prop) (n₀ : Nat) (S Sp : List α → Prop) (w : World) : Prop :=
  ∀ (l : Nat) (J Jx : List α → World → Prop) (W : World), Below w.heap.size w W → Abides ok J → Abides ok Jx →
    (∀ pre x W1, J pre W1 → YieldAt F (n - 1) P l (encs x) W1 fun e W' =>
      (e = .returned (.bool true) ∧ J (pre ++ [x]) W' ∧ Below n₀ W1 W') ∨ (e = .returned (.bool false) ∧ Jx (pre ++ [x]) W')) →
    J [] W →
    CallsIn F n P g (#[.func (.yield l) #[] #[]] ++ lb) W fun e W' => (∃ v, e = .returned v) ∧ ((∃ xs, S xs ∧ J xs W') ∨ (∃ pre, Sp pre ∧ Jx pre W'))

theorem below_put {n₀ l : Nat} {W : World} {o : Obj} (o' : Obj) (hn : n₀ ≤ l) (hl : W.heap[l]? = some o) : Below n₀ W (W.putObj l o') :=
  (Below.refl n₀ W).grown (grownBy_putObj' W l o') (by have := (Array.getElem?_eq_some_iff.1 hl).1; omega) (fun k e => by cases e; exact hn)

/-- THE STATEMENT 'for .. := range g', its iterator writing blocks of its own. -/
theorem wp_range {α : Type} {g : Operand} {ps : Array Tmp} {assign body : Code} {Q : Exit → Act → World → Prop} {a : Act} {w : World}
    (hro : F.round = none) (h1 : 1 ≤ n) {gf : Nat} {lb : Array Value} (hg : a.eval g = .func (.func gf) #[] lb) (hFg : F.fn gf) (eg : ∀ args w, (callFunc gf args).run P w = .ok (.enter gf args) w)
    {encs : α → Array Value} {ok : Nat → Prop} {n₀ : Nat} {S Sp : List α → Prop} (hseq : Gives F (n - 1) P gf lb encs ok n₀ S Sp w)
    (hok : ∀ r, ok r → r < w.heap.size) (hn₀ : n₀ ≤ w.heap.size) (hps : ∀ x, (encs x).size = ps.size)
    (I : List α → World → Prop) (Ix : Code → List α → World → Prop) (hI : Abides2 ok w.heap.size I) (hIx : ∀ c, Abides2 ok w.heap.size (Ix c)) (h0 : I [] w) (a₁ : α → Act)
    (hassign : ∀ (l : Nat) (x : α) (W : World) (K : Act → World → Prop), K (a₁ x) W →
      assign.wpIn (F.inRound l) (n - 1 - 1) P (Exit.then K (fun _ _ _ => False)) { tmps := (ps.zip (encs x)).foldl (fun t (p, v) => t.setIfInBounds p v) a.tmps, defers := [] } W)
    (hbody : ∀ (l : Nat) (pre : List α) (x : α) (W : World), I pre W → body.wpIn (F.inRound l) (n - 1 - 1) P (ownPostG w.heap.size (Below n₀) I Ix (pre ++ [x]) W) (a₁ x) W)
    (hdone : ∀ (D : Nat) (xs : List α) (W : World), w.heap.size ≤ D → S xs → I xs W → W.heap[D]? = some (.deferred (some [])) → Q .normal { a with defers := { target := .collected D, args := #[] } :: a.defers } W)
    (hstop : ∀ (D : Nat) (c : Code) (pre : List α) (W : World), w.heap.size ≤ D → Sp pre → Ix c pre W → W.heap[D]? = some (.deferred (some [])) → c.wpIn F n P Q { a with defers := { target := .collected D, args := #[] } :: a.defers } W) :
    (Code.rangeFunc g ps assign body).wpIn F n P Q a w := by
  refine wpIn_rangeFunc fun fn hfn => ?_
  rw [hro]
  -- the two blocks of book-keeping: the deferred calls' block D, the loop's record L
  generalize hD : w.heap.size = D at *
  let rec_ (st : LoopState) (pe : Option Code) : Loop := { state := st, pending := pe, fn, tmps := a.tmps, params := ps, assign, body, defers := D }
  let W1 : World := (w.alloc (.deferred (some []))).alloc (.loop (rec_ .ready none))
  have hL1 : W1.heap[D + 1]? = some (.loop (rec_ .ready none)) := by
    have h := World.alloc_heap_new (w.alloc (.deferred (some []))) (.loop (rec_ .ready none))
    rwa [World.size_alloc, hD] at h
  have hK1 : W1.heap[D]? = some (.deferred (some [])) := by
    have h := World.alloc_heap_new w (.deferred (some []))
    rw [hD] at h
    exact (Below.heap_alloc _ _ _ (by simp [hD])).trans h
  have hI1 : I [] W1 := hI.alloc _ (hI.alloc _ h0)
  have hb1 : Below D w W1 := by
    refine ((Below.refl D w).alloc (by omega) _).alloc (by simp; omega) _
  refine ⟨D + 1, [{ target := .collected D, args := #[] }], W1, { target := .fn (.func gf) lb, args := #[.func (.yield (D + 1)) #[] #[]] }, W1, gf, #[.func (.yield (D + 1)) #[] #[]] ++ lb, W1, ?_, ?_, ?_, ?_, fun _ => h1, ?_⟩
  · have h := run_enterLoop_outer (P := P) (w := w) fn a.tmps ps assign body
    rw [hD] at h; exact h
  · simp only [resolve, hg]
    simp [go_sem]
  · intro f' hf'; simp [Target.leads] at hf'; subst hf'; exact hFg
  · simp [invoke, go_sem, eg]
  -- what of the book-keeping abides the iterator's own steps
  have keepD : ∀ {A B : World} {row : Option Nat} {k : Nat} {o : Obj}, D ≤ k → A.grownBy B row → (∀ r, row = some r → ok r) → A.heap[k]? = some o → B.heap[k]? = some o :=
    fun hk hg' hr h => (hg'.block _ (Array.getElem?_eq_some_iff.1 h).1 (fun e => by have := hok _ (hr _ e.symm); omega)).trans h
  refine (hseq (D + 1)
    (fun pre W => I pre W ∧ W.heap[D + 1]? = some (.loop (rec_ .ready none)) ∧ W.heap[D]? = some (.deferred (some [])))
    (fun pre W => ∃ c, Ix c pre W ∧ W.heap[D + 1]? = some (.loop (rec_ .done (some c))) ∧ W.heap[D]? = some (.deferred (some [])))
    W1 (hD ▸ hb1)
    (fun s A B row hs hg' hr => ⟨hI s A B row hs.1 hg' (fun r e => .inl (hr r e)), keepD (by omega) hg' hr hs.2.1, keepD (Nat.le_refl _) hg' hr hs.2.2⟩)
    (fun s A B row hs hg' hr => by
      obtain ⟨c, hc, hl, hk⟩ := hs
      exact ⟨c, hIx c s A B row hc hg' (fun r e => .inl (hr r e)), keepD (by omega) hg' hr hl, keepD (Nat.le_refl _) hg' hr hk⟩)
    ?_ ⟨hI1, hL1, hK1⟩).mono ?_
  · -- one round
    rintro pre x W ⟨hi, hl, hk⟩
    have hlt : D + 1 < W.heap.size := (Array.getElem?_eq_some_iff.1 hl).1
    refine ⟨fn, _, assign, body, run_yield (P := P) (args := encs x) hl (hps x), roundIn_of_wpIn hfn (hassign _ x W _ ⟨_, run_beginRound hl rfl, ?_⟩)⟩
    have hl2 : (W.putObj (D + 1) (.loop { rec_ .ready none with state := .busy })).heap[D + 1]? = some (.loop { rec_ .ready none with state := .busy }) := World.putObj_heap_same hlt
    have hk2 : (W.putObj (D + 1) (.loop { rec_ .ready none with state := .busy })).heap[D]? = some (.deferred (some [])) := (World.putObj_heap_other (by omega)).trans hk
    have hw2 : Below n₀ W (W.putObj (D + 1) (.loop { rec_ .ready none with state := .busy })) := below_put _ (by omega) hl
    -- the round's end, by the jump that it leaves
    have fin : ∀ (jump : Option Code) (W3 : World), KeepsFrom D (W.putObj (D + 1) (.loop { rec_ .ready none with state := .busy })) W3 →
        (Instr.endRound (D + 1) jump).run P W3 = .ok (.bool jump.isNone) (W3.putObj (D + 1) (.loop (rec_ (if jump.isNone then .ready else .done) jump))) ∧
        W3.heap[D + 1]? = some (.loop { rec_ .ready none with state := .busy }) ∧
        (W3.putObj (D + 1) (.loop (rec_ (if jump.isNone then .ready else .done) jump))).heap[D + 1]? = some (.loop (rec_ (if jump.isNone then .ready else .done) jump)) ∧
        (W3.putObj (D + 1) (.loop (rec_ (if jump.isNone then .ready else .done) jump))).heap[D]? = some (.deferred (some [])) := fun jump W3 hk3 => by
      have hl3 := hk3.same _ _ (by omega) hl2 rfl
      exact ⟨run_endRound (P := P) jump hl3, hl3, World.putObj_heap_same (Array.getElem?_eq_some_iff.1 hl3).1, (World.putObj_heap_other (by omega)).trans (hk3.same _ _ (Nat.le_refl _) hk2 rfl)⟩
    have left : ∀ (c : Code) (W3 : World), KeepsFrom D (W.putObj (D + 1) (.loop { rec_ .ready none with state := .busy })) W3 ∧ Ix c (pre ++ [x]) W3 →
        ∃ v w', (Instr.endRound (D + 1) (some c)).run P W3 = .ok v w' ∧ ((Ending.returned v = .returned (.bool true) ∧ (I (pre ++ [x]) w' ∧ w'.heap[D + 1]? = some (.loop (rec_ .ready none)) ∧ w'.heap[D]? = some (.deferred (some []))) ∧ Below n₀ W w') ∨
          (Ending.returned v = .returned (.bool false) ∧ ∃ c, Ix c (pre ++ [x]) w' ∧ w'.heap[D + 1]? = some (.loop (rec_ .done (some c))) ∧ w'.heap[D]? = some (.deferred (some [])))) := fun c W3 hp => by
      obtain ⟨hr, hl3, hl4, hk4⟩ := fin (some c) W3 hp.1
      exact ⟨_, _, hr, .inr ⟨rfl, c, (hIx _).put _ hp.2 (by omega) hl3 rfl, hl4, hk4⟩⟩
    refine wpIn_mono (hbody _ pre x _ (hI.put _ hi (by omega) hl rfl)) ?_
    intro e a3 W3 hp
    cases e with
    | normal =>
      obtain ⟨hk3, hkp3, hi3⟩ := hp
      obtain ⟨hr, hl3, hl4, hk4⟩ := fin none W3 hk3
      exact ⟨_, _, hr, .inl ⟨rfl, ⟨hI.put _ hi3 (by omega) hl3 rfl, hl4, hk4⟩, (hw2.trans hkp3).trans (below_put _ (by omega) hl3)⟩⟩
    | ret => exact left _ _ hp
    | exit id => exact left _ _ hp
    | goto t => exact left _ _ hp
    | panic ch => exact hp.elim
    | outgrown => exact hp.elim
  · -- behind the iterator
    rintro e W2 ⟨⟨v, rfl⟩, (⟨xs, hS, hi, hl, hk⟩ | ⟨pre, hSp, c, hi, hl, hk⟩)⟩
    · exact ⟨none, _, run_endLoop (P := P) hl (by simp [rec_]), hdone _ xs _ (Nat.le_refl _) hS (hI.put _ hi (by omega) hl rfl) ((World.putObj_heap_other (by omega)).trans hk)⟩
    · exact ⟨some c, _, run_endLoop (P := P) hl (by simp [rec_]), hstop _ c pre _ (Nat.le_refl _) hSp ((hIx c).put _ hi (by omega) hl rfl) ((World.putObj_heap_other (by omega)).trans hk)⟩

end Go.Proofs.YtcakednecmngdaaDoor.Seq
