/- A range over a function whose iterator writes memory of its own: who owns which blocks; the law of the statement. -/
import Derived.RangeFuncNested
import Derived.RangeFuncBox
import Derived.RangeFuncLeaves
import Derived.RangeFuncCalls
import Derived.RangeFuncBound
import Derived.Below
namespace Go.Proofs.Ytcbemeooeecboaa.Rng
open Go Go.RowKit
set_option linter.unusedVariables false
/-- Whatever lay, but for the blocks B, lies as it lay. -/
structure Apart (B : Nat → Prop) (W W' : World) : Prop where
  os : W'.os = W.os
  tape : W'.tape = W.tape
  output : W'.output = W.output
  size : W.heap.size ≤ W'.heap.size
  block : ∀ k, k < W.heap.size → ¬ B k → W'.heap[k]? = W.heap[k]?
theorem Apart.refl (B : Nat → Prop) (W : World) : Apart B W W := ⟨rfl, rfl, rfl, Nat.le_refl _, fun _ _ _ => rfl⟩
theorem Apart.trans {B B' : Nat → Prop} {X Y Z : World} (h : Apart B X Y) (k : Apart B' Y Z) (hB : ∀ i, B' i → B i ∨ X.heap.size ≤ i) : Apart B X Z :=
  ⟨k.os.trans h.os, k.tape.trans h.tape, k.output.trans h.output, Nat.le_trans h.size k.size, fun i hi hn =>
    (k.block i (Nat.lt_of_lt_of_le hi h.size) (fun e => (hB i e).elim hn (fun h2 => by omega))).trans (h.block i hi hn)⟩
theorem Apart.mono {B B' : Nat → Prop} {X Y : World} (h : Apart B X Y) (hB : ∀ i, B i → B' i ∨ X.heap.size ≤ i) : Apart B' X Y :=
  ⟨h.os, h.tape, h.output, h.size, fun i hi hn => h.block i hi (fun e => (hB i e).elim hn (fun h2 => by omega))⟩
theorem Apart.below {B : Nat → Prop} {n : Nat} {X Y : World} (h : Apart B X Y) (hn : n ≤ X.heap.size) (hB : ∀ i, B i → n ≤ i) : Below n X Y :=
  ⟨h.os, h.tape, h.output, h.size, fun i hi => h.block i (Nat.lt_of_lt_of_le hi hn) (fun e => by have := hB i e; omega)⟩
theorem Apart.of_below {B : Nat → Prop} {X Y : World} (h : Below X.heap.size X Y) : Apart B X Y := ⟨h.os, h.tape, h.output, h.size, fun i hi _ => h.block i hi⟩
theorem Apart.alloc (B : Nat → Prop) (W : World) (o : Obj) : Apart B W (W.alloc o) := .of_below ((Below.refl _ _).alloc (Nat.le_refl _) o)
theorem Apart.setCell {B : Nat → Prop} (W : World) (a : Addr) (v : Value) (h : B a.block ∨ W.heap.size ≤ a.block) : Apart B W (W.setCell a v) :=
  ⟨rfl, rfl, rfl, (KeepsWalks.setCell W a v).size, fun k hk hn => Below.heap_setCell _ _ _ k (fun e => h.elim (fun hb => hn (by rw [e]; exact hb)) (fun hs => by omega))⟩
theorem Apart.putObj {B : Nat → Prop} (W : World) (l : Nat) (o : Obj) (h : B l ∨ W.heap.size ≤ l) : Apart B W (W.putObj l o) :=
  ⟨rfl, rfl, rfl, by simp [World.putObj], fun k hk hn => World.putObj_heap_other (fun e => h.elim (fun hb => hn (by rw [e]; exact hb)) (fun hs => by omega))⟩
theorem Apart.grown {B : Nat → Prop} {W W' : World} {row : Option Nat} (hg : W.grownBy W' row) (h : ∀ j, row = some j → B j ∨ W.heap.size ≤ j) : Apart B W W' :=
  ⟨hg.os, hg.tape, hg.output, hg.size, fun k hk hn => hg.block k hk (fun e => (h k e.symm).elim hn (fun hs => by omega))⟩
/-- What the owner of the blocks B says of the world: it abides whatever leaves B's blocks as they are. -/
def Owns {β : Type} (J : (Nat → Prop) → β → World → Prop) : Prop := ∀ B s W W', J B s W → W.heap.size ≤ W'.heap.size → (∀ k, B k → W'.heap[k]? = W.heap[k]?) → J B s W'
/-- The blocks that are owned lie in the world. -/
def Lie (B : Nat → Prop) (W : World) : Prop := ∀ k, B k → k < W.heap.size
/-- Blocks that are owned behind a step: the elder ones, or new ones. -/
def More (B B' : Nat → Prop) (W : World) : Prop := ∀ k, B' k → B k ∨ W.heap.size ≤ k
/-- The contract of an iterator that may write blocks of its own. -/
def SeqB {α : Type} (F : Fence) (n : Nat) (P : Program) (g : Nat) (lb : Array Value) (encs : α → Array Value) (S Sp : List α → Prop) (Ok : List α → α → Prop) (w : World) (Pre : World → Prop) : Prop :=
  ∀ (l : Nat) (B0 : Nat → Prop) (J Jx : (Nat → Prop) → List α → World → Prop) (W : World), Below w.heap.size w W → Pre W → (∀ k, B0 k → w.heap.size ≤ k) → Lie B0 W → Owns J → Owns Jx →
    (∀ B pre x W1, J B pre W1 → Lie B W1 → Ok pre x → YieldAt F (n - 1) P l (encs x) W1 fun e W' =>
      ∃ B', More B B' W1 ∧ Lie B' W' ∧ Apart B W1 W' ∧ ((e = .returned (.bool true) ∧ J B' (pre ++ [x]) W') ∨ (e = .returned (.bool false) ∧ Jx B' (pre ++ [x]) W'))) →
    J B0 [] W →
    CallsIn F n P g (#[.func (.yield l) #[] #[]] ++ lb) W fun e W' => (∃ v, e = .returned v) ∧ ∃ B', More B0 B' W ∧ Lie B' W' ∧ Apart B0 W W' ∧ ((∃ xs, S xs ∧ J B' xs W') ∨ (∃ pre, Sp pre ∧ Jx B' pre W'))
/-- How the body of a round may be left. -/
def postB {α : Type} (B : Nat → Prop) (I : (Nat → Prop) → List α → World → Prop) (Ix : Code → (Nat → Prop) → List α → World → Prop) (xs : List α) (W : World) : Exit → Act → World → Prop
  | .normal, _, W' => ∃ B', More B B' W ∧ Lie B' W' ∧ Apart B W W' ∧ I B' xs W'
  | .ret, _, W' => ∃ B', More B B' W ∧ Lie B' W' ∧ Apart B W W' ∧ Ix .ret B' xs W'
  | .exit id, _, W' => ∃ B', More B B' W ∧ Lie B' W' ∧ Apart B W W' ∧ Ix (.exit id) B' xs W'
  | .goto t, _, W' => ∃ B', More B B' W ∧ Lie B' W' ∧ Apart B W W' ∧ Ix (.goto t) B' xs W'
  | .panic _, _, _ => False
  | .outgrown, _, _ => False
variable {F : Fence} {n : Nat} {P : Program}
theorem size_putObj (W : World) (l : Nat) (o : Obj) : (W.putObj l o).heap.size = W.heap.size := by simp [World.putObj]
/-- The statement 'for .. := range g { body }': the caller's own blocks B0, its invariant I (between two rounds), Ax (behind the assignment to the loop's left sides), Ix (where a round has left by a jump). -/
theorem wpIn_rangeFunc_B {α : Type} {g : Operand} {ps : Array Tmp} {assign body : Code} {Q : Exit → Act → World → Prop} {a : Act} {w : World}
    (hro : F.round = none) (h1 : 1 ≤ n) {gf : Nat} {lb : Array Value} (hg : a.eval g = .func (.func gf) #[] lb) (hFg : F.fn gf) (eg : ∀ args w, (callFunc gf args).run P w = .ok (.enter gf args) w)
    {encs : α → Array Value} {S Sp : List α → Prop} {Ok : List α → α → Prop} {w0 : World} {Pre : World → Prop} (hseq : SeqB F (n - 1) P gf lb encs S Sp Ok w0 Pre) (hpre : ∀ W1, Below w.heap.size w W1 → Pre W1)
    (hb0 : Below w0.heap.size w0 w) (hps : ∀ x, (encs x).size = ps.size) (B0 : Nat → Prop) (hB0 : ∀ k, B0 k → w0.heap.size ≤ k) (hL0 : Lie B0 w)
    (I : (Nat → Prop) → List α → World → Prop) (Ix : Code → (Nat → Prop) → List α → World → Prop) (Ax : (Nat → Prop) → List α → α → Act → World → Prop) (hI : Owns I) (hIx : ∀ c, Owns (Ix c)) (hAx : ∀ x a, Owns (fun B s W => Ax B s x a W)) (h0 : I B0 [] w)
    (hassign : ∀ (l : Nat) (B : Nat → Prop) (pre : List α) (x : α) (W : World) (K : Act → World → Prop), I B pre W → Lie B W → Ok pre x →
      (∀ (B1 : Nat → Prop) (a₁ : Act) (w₁ : World), More B B1 W → Lie B1 w₁ → Apart B W w₁ → Ax B1 pre x a₁ w₁ → K a₁ w₁) →
      assign.wpIn (F.inRound l) (n - 1 - 1) P (Exit.then K (fun _ _ _ => False)) { tmps := (ps.zip (encs x)).foldl (fun t (p, v) => t.setIfInBounds p v) a.tmps, defers := [] } W)
    (hbody : ∀ (l : Nat) (B : Nat → Prop) (pre : List α) (x : α) (a₁ : Act) (W : World), Ax B pre x a₁ W → Lie B W → Ok pre x → body.wpIn (F.inRound l) (n - 1 - 1) P (postB B I Ix (pre ++ [x]) W) a₁ W)
    (hdone : ∀ (D : Nat) (B : Nat → Prop) (xs : List α) (W : World), w.heap.size ≤ D → S xs → I B xs W → More B0 B w → Apart B0 w W → W.heap[D]? = some (.deferred (some [])) → Q .normal { a with defers := { target := .collected D, args := #[] } :: a.defers } W)
    (hstop : ∀ (D : Nat) (c : Code) (B : Nat → Prop) (pre : List α) (W : World), w.heap.size ≤ D → Sp pre → Ix c B pre W → More B0 B w → Apart B0 w W → W.heap[D]? = some (.deferred (some [])) → c.wpIn F n P Q { a with defers := { target := .collected D, args := #[] } :: a.defers } W) :
    (Code.rangeFunc g ps assign body).wpIn F n P Q a w := by
  refine wpIn_rangeFunc ?_
  intro fn hfn
  rw [hro]
  obtain ⟨rec, hrec⟩ : ∃ rec : LoopState → Option Code → Loop, rec = fun st pe => { state := st, pending := pe, fn, tmps := a.tmps, params := ps, assign, body, defers := w.heap.size } := ⟨_, rfl⟩
  obtain ⟨W1, hW1⟩ : ∃ W1, (w.alloc (.deferred (some []))).alloc (.loop (rec .ready none)) = W1 := ⟨_, rfl⟩
  have hL1 : W1.heap[w.heap.size + 1]? = some (.loop (rec .ready none)) := by
    rw [← hW1]; have := World.alloc_heap_new (w.alloc (.deferred (some []))) (.loop (rec .ready none)); rwa [World.size_alloc] at this
  have hK1 : W1.heap[w.heap.size]? = some (.deferred (some [])) := by
    rw [← hW1]; exact (Below.heap_alloc _ _ _ (by simp)).trans (World.alloc_heap_new w _)
  have hbw : Below w.heap.size w W1 := by
    rw [← hW1]; exact ((Below.refl _ w).alloc (Nat.le_refl _) _).alloc (by simp) _
  have hs1 : W1.heap.size = w.heap.size + 2 := by rw [← hW1]; simp
  have hI1 : I B0 [] W1 := hI _ _ _ _ h0 (by omega) (fun k hk => hbw.block k (hL0 k hk))
  have hb1 : Below w0.heap.size w0 W1 := hb0.trans (hbw.mono hb0.size)
  refine ⟨w.heap.size + 1, [{ target := .collected w.heap.size, args := #[] }], W1, { target := .fn (.func gf) lb, args := #[.func (.yield (w.heap.size + 1)) #[] #[]] }, W1, gf,
    #[.func (.yield (w.heap.size + 1)) #[] #[]] ++ lb, W1, ?_, ?_, ?_, ?_, fun _ => h1, ?_⟩
  · rw [← hW1, hrec]; exact run_enterLoop_outer _ _ _ _ _
  · simp only [resolve, hg]
    simp [go_sem]
  · intro f' hf'; simp [Target.leads] at hf'; subst hf'; exact hFg
  · simp [invoke, go_sem, eg]
  · obtain ⟨D, hD⟩ : ∃ D, D = w.heap.size := ⟨_, rfl⟩
    rw [← hD] at hL1 hK1 hs1 ⊢
    have book : ∀ (BI : Nat → Prop) (X Y : World), ¬ BI (D + 1) → ¬ BI D → Apart BI X Y → D + 1 < X.heap.size → Y.heap[D + 1]? = X.heap[D + 1]? ∧ Y.heap[D]? = X.heap[D]? := fun BI X Y h2 h3 hA hlt => ⟨hA.block _ hlt h2, hA.block _ (by omega) h3⟩
    refine (hseq (D + 1) (fun k => B0 k ∨ k = D ∨ k = D + 1)
      (fun B pre W => ∃ BI : Nat → Prop, (∀ k, B k ↔ BI k ∨ k = D ∨ k = D + 1) ∧ ¬ BI D ∧ ¬ BI (D + 1) ∧ I BI pre W ∧ W.heap[D + 1]? = some (.loop (rec .ready none)) ∧ W.heap[D]? = some (.deferred (some [])))
      (fun B pre W => ∃ BI : Nat → Prop, (∀ k, B k ↔ BI k ∨ k = D ∨ k = D + 1) ∧ ¬ BI D ∧ ¬ BI (D + 1) ∧ ∃ c, Ix c BI pre W ∧ W.heap[D + 1]? = some (.loop (rec .done (some c))) ∧ W.heap[D]? = some (.deferred (some [])))
      W1 hb1 (hpre W1 hbw) (fun k hk => by
        rcases hk with hk | hk | hk
        · exact hB0 k hk
        · have := hb0.size; omega
        · have := hb0.size; omega) (fun k hk => by
        rcases hk with hk | hk | hk
        · have := hL0 k hk; omega
        · omega
        · omega) ?_ ?_ ?_ ?_).mono ?_
    · rintro B s A A' ⟨BI, hB, hn1, hn2, hi, hl, hk⟩ hsz hsame
      exact ⟨BI, hB, hn1, hn2, hI _ _ _ _ hi hsz (fun k hk' => hsame k ((hB k).2 (.inl hk'))), (hsame _ ((hB _).2 (.inr (.inr rfl)))).trans hl, (hsame _ ((hB _).2 (.inr (.inl rfl)))).trans hk⟩
    · rintro B s A A' ⟨BI, hB, hn1, hn2, c, hi, hl, hk⟩ hsz hsame
      exact ⟨BI, hB, hn1, hn2, c, hIx c _ _ _ _ hi hsz (fun k hk' => hsame k ((hB k).2 (.inl hk'))), (hsame _ ((hB _).2 (.inr (.inr rfl)))).trans hl, (hsame _ ((hB _).2 (.inr (.inl rfl)))).trans hk⟩
    · -- one round
      rintro B pre x W ⟨BI, hB, hn1, hn2, hi, hl, hk⟩ hlie hlen
      have hlt : D + 1 < W.heap.size := (Array.getElem?_eq_some_iff.1 hl).1
      have hy := run_yield (P := P) (args := encs x) hl (by rw [hrec]; exact hps x)
      rw [hrec] at hy
      have hlieI : Lie BI W := fun k hk' => hlie k ((hB k).2 (.inl hk'))
      refine ⟨fn, _, assign, body, hy, roundIn_of_wpIn hfn (hassign _ BI pre x W _ hi hlieI hlen ?_)⟩
      intro B1 a₁ w₁ hm1 hl1 ha1 hax
      have hnL : ¬ B1 (D + 1) := fun e => (hm1 _ e).elim hn2 (fun h => by omega)
      have hnD : ¬ B1 D := fun e => (hm1 _ e).elim hn1 (fun h => by omega)
      obtain ⟨bL, bD⟩ := book BI W w₁ hn2 hn1 ha1 hlt
      have hLw : w₁.heap[D + 1]? = some (.loop (rec .ready none)) := bL.trans hl
      have hDw : w₁.heap[D]? = some (.deferred (some [])) := bD.trans hk
      have hlt1 : D + 1 < w₁.heap.size := Nat.lt_of_lt_of_le hlt ha1.size
      refine ⟨_, run_beginRound hLw (by rw [hrec]), ?_⟩
      obtain ⟨w2, hw2⟩ : ∃ w2, w2 = w₁.putObj (D + 1) (.loop { rec .ready none with state := .busy }) := ⟨_, rfl⟩
      rw [← hw2]
      have hs2 : w2.heap.size = w₁.heap.size := by rw [hw2]; exact size_putObj _ _ _
      have hl2 : w2.heap[D + 1]? = some (.loop { rec .ready none with state := .busy }) := by rw [hw2]; exact World.putObj_heap_same hlt1
      have hk2 : w2.heap[D]? = some (.deferred (some [])) := by rw [hw2]; exact (World.putObj_heap_other (by omega)).trans hDw
      have ha2 : Apart (fun k => k = D + 1) w₁ w2 := by rw [hw2]; exact Apart.putObj _ _ _ (.inl rfl)
      have hax2 : Ax B1 pre x a₁ w2 := hAx x a₁ _ _ _ _ hax (by omega) (fun k hk' => ha2.block k (hl1 k hk') (fun e => hnL (e ▸ hk')))
      refine wpIn_mono (hbody _ B1 pre x a₁ w2 hax2 (fun k hk' => by have := hl1 k hk'; omega) hlen) ?_
      have fin : ∀ (jump : Option Code) (B' : Nat → Prop) (W3 : World), More B1 B' w2 → Lie B' W3 → Apart B1 w2 W3 →
          (Instr.endRound (D + 1) jump).run P W3 = .ok (.bool jump.isNone) (W3.putObj (D + 1) (.loop (rec (if jump.isNone then .ready else .done) jump))) ∧
          (W3.putObj (D + 1) (.loop (rec (if jump.isNone then .ready else .done) jump))).heap[D + 1]? = some (.loop (rec (if jump.isNone then .ready else .done) jump)) ∧
          (W3.putObj (D + 1) (.loop (rec (if jump.isNone then .ready else .done) jump))).heap[D]? = some (.deferred (some [])) ∧
          ¬ B' D ∧ ¬ B' (D + 1) ∧ More B (fun k => B' k ∨ k = D ∨ k = D + 1) W ∧ Lie (fun k => B' k ∨ k = D ∨ k = D + 1) (W3.putObj (D + 1) (.loop (rec (if jump.isNone then .ready else .done) jump))) ∧
          Apart B W (W3.putObj (D + 1) (.loop (rec (if jump.isNone then .ready else .done) jump))) ∧
          (∀ k, B' k → (W3.putObj (D + 1) (.loop (rec (if jump.isNone then .ready else .done) jump))).heap[k]? = W3.heap[k]?) := fun jump B' W3 hm3 hl3 ha3 => by
        obtain ⟨cL, cD⟩ := book B1 w2 W3 hnL hnD ha3 (by omega)
        have hL3 := cL.trans hl2
        have hlt3 : D + 1 < W3.heap.size := (Array.getElem?_eq_some_iff.1 hL3).1
        have hrun := run_endRound (P := P) jump hL3
        rw [hrec] at hrun
        have nD : ¬ B' D := fun e => (hm3 _ e).elim hnD (fun h => by omega)
        have nL : ¬ B' (D + 1) := fun e => (hm3 _ e).elim hnL (fun h => by omega)
        refine ⟨by rw [hrec]; exact hrun, World.putObj_heap_same hlt3, (World.putObj_heap_other (by omega)).trans (cD.trans hk2), nD, nL, ?_, ?_, ?_, fun k hk' => World.putObj_heap_other (fun e => nL (by first | exact e ▸ hk' | exact e.symm ▸ hk'))⟩
        · intro k hk'
          rcases hk' with hk' | hk' | hk'
          · rcases hm3 k hk' with h | h
            · rcases hm1 k h with h | h
              · exact .inl ((hB k).2 (.inl h))
              · exact .inr h
            · exact .inr (by have := ha1.size; omega)
          · exact .inl ((hB k).2 (.inr (.inl hk')))
          · exact .inl ((hB k).2 (.inr (.inr hk')))
        · intro k hk'
          rw [size_putObj]
          rcases hk' with hk' | hk' | hk'
          · exact hl3 k hk'
          · omega
          · omega
        · have e1 : Apart B W w₁ := ha1.mono (fun i hi' => .inl ((hB i).2 (.inl hi')))
          have e2 : Apart B W w2 := e1.trans ha2 (fun i hi' => .inl ((hB i).2 (.inr (.inr hi'))))
          have e3 : Apart B W W3 := e2.trans ha3 (fun i hi' => by
            rcases hm1 i hi' with h | h
            · exact .inl ((hB i).2 (.inl h))
            · exact .inr h)
          exact e3.trans (Apart.putObj (B := fun k => k = D + 1) _ _ _ (.inl rfl)) (fun i hi' => .inl ((hB i).2 (.inr (.inr hi'))))
      rintro e a3 W3 hp
      cases e with
      | normal =>
        obtain ⟨B', hm3, hl3, ha3, hi3⟩ := hp
        obtain ⟨hr, f1, f2, f3, f4, f5, f6, f7, f8⟩ := fin none B' W3 hm3 hl3 ha3
        exact ⟨_, _, hr, fun k => B' k ∨ k = D ∨ k = D + 1, f5, f6, f7, .inl ⟨rfl, B', fun _ => Iff.rfl, f3, f4, hI _ _ _ _ hi3 (by rw [size_putObj]; exact Nat.le_refl _) f8, f1, f2⟩⟩
      | ret =>
        obtain ⟨B', hm3, hl3, ha3, hi3⟩ := hp
        obtain ⟨hr, f1, f2, f3, f4, f5, f6, f7, f8⟩ := fin (some .ret) B' W3 hm3 hl3 ha3
        exact ⟨_, _, hr, fun k => B' k ∨ k = D ∨ k = D + 1, f5, f6, f7, .inr ⟨rfl, B', fun _ => Iff.rfl, f3, f4, .ret, hIx _ _ _ _ _ hi3 (by rw [size_putObj]; exact Nat.le_refl _) f8, f1, f2⟩⟩
      | exit id =>
        obtain ⟨B', hm3, hl3, ha3, hi3⟩ := hp
        obtain ⟨hr, f1, f2, f3, f4, f5, f6, f7, f8⟩ := fin (some (.exit id)) B' W3 hm3 hl3 ha3
        exact ⟨_, _, hr, fun k => B' k ∨ k = D ∨ k = D + 1, f5, f6, f7, .inr ⟨rfl, B', fun _ => Iff.rfl, f3, f4, .exit id, hIx _ _ _ _ _ hi3 (by rw [size_putObj]; exact Nat.le_refl _) f8, f1, f2⟩⟩
      | goto t =>
        obtain ⟨B', hm3, hl3, ha3, hi3⟩ := hp
        obtain ⟨hr, f1, f2, f3, f4, f5, f6, f7, f8⟩ := fin (some (.goto t)) B' W3 hm3 hl3 ha3
        exact ⟨_, _, hr, fun k => B' k ∨ k = D ∨ k = D + 1, f5, f6, f7, .inr ⟨rfl, B', fun _ => Iff.rfl, f3, f4, .goto t, hIx _ _ _ _ _ hi3 (by rw [size_putObj]; exact Nat.le_refl _) f8, f1, f2⟩⟩
      | panic ch => exact hp.elim
      | outgrown => exact hp.elim
    · exact ⟨B0, fun _ => Iff.rfl, fun e => by have := hL0 _ e; omega, fun e => by have := hL0 _ e; omega, hI1, hL1, hK1⟩
    · -- behind the iterator
      rintro e W2 ⟨⟨v, rfl⟩, B', hm, hlie, hap, (⟨xs, hS, BI, hB, hn1, hn2, hi, hl, hk⟩ | ⟨pre, hSp, BI, hB, hn1, hn2, c, hi, hl, hk⟩)⟩
      · have hlt : D + 1 < W2.heap.size := (Array.getElem?_eq_some_iff.1 hl).1
        have hmore : More B0 BI w := fun k hk' => by
          rcases hm k ((hB k).2 (.inl hk')) with h | h
          · rcases h with h | h | h
            · exact .inl h
            · exact .inr (by omega)
            · exact .inr (by omega)
          · exact .inr (by omega)
        have hapart : ∀ o, Apart B0 w (W2.putObj (D + 1) o) := fun o =>
          ((Apart.of_below hbw).trans hap (fun i hi' => by rcases hi' with h | h | h; exact .inl h; exact .inr (by omega); exact .inr (by omega))).trans (Apart.putObj (B := fun k => k = D + 1) _ _ _ (.inl rfl)) (fun i hi' => .inr (by omega))
        exact ⟨none, _, by have := run_endLoop (P := P) hl (by rw [hrec]; simp); rw [hrec] at this; exact this,
          hdone D BI xs _ (by omega) hS (hI _ _ _ _ hi (by rw [size_putObj]; exact Nat.le_refl _) (fun k hk' => World.putObj_heap_other (fun e => hn2 (by first | exact e ▸ hk' | exact e.symm ▸ hk')))) hmore (hapart _) ((World.putObj_heap_other (by omega)).trans hk)⟩
      · have hmore : More B0 BI w := fun k hk' => by
          rcases hm k ((hB k).2 (.inl hk')) with h | h
          · rcases h with h | h | h
            · exact .inl h
            · exact .inr (by omega)
            · exact .inr (by omega)
          · exact .inr (by omega)
        have hapart : ∀ o, Apart B0 w (W2.putObj (D + 1) o) := fun o =>
          ((Apart.of_below hbw).trans hap (fun i hi' => by rcases hi' with h | h | h; exact .inl h; exact .inr (by omega); exact .inr (by omega))).trans (Apart.putObj (B := fun k => k = D + 1) _ _ _ (.inl rfl)) (fun i hi' => .inr (by omega))
        exact ⟨some c, _, by have := run_endLoop (P := P) hl (by rw [hrec]; simp); rw [hrec] at this; exact this,
          hstop D c BI pre _ (by omega) hSp (hIx c _ _ _ _ hi (by rw [size_putObj]; exact Nat.le_refl _) (fun k hk' => World.putObj_heap_other (fun e => hn2 (by first | exact e ▸ hk' | exact e.symm ▸ hk')))) hmore (hapart _) ((World.putObj_heap_other (by omega)).trans hk)⟩
end Go.Proofs.Ytcbemeooeecboaa.Rng
