/- plot.one, plot.spots, and the state of its iterator. -/
import Derived.Test.YtcbemeooeecboaaRA
import Derived.Test.YtcbemeooeecboaaRB
import Derived.Test.YtcbemeooeecboaaMA
import Derived.Shelf.Abstract
import Derived.Shelf.RegionOpen
import Derived.WalkKit
import Derived.OwnWalkIn
import Derived.TacticsInMore
import Derived.LoopNIn
import Derived.LoopIn
import Derived.Maps.AppendAt
import Derived.Outline
namespace Go.Proofs.Ytcbemeooeecboaa.Rng
open Go Go.RowKit Go.Shelf Go.Proofs.Tree Go.Proofs.YtcbemeooeecboaaW.PrintWords Go.Proofs.YtcbemeooeecboaaW.PrintLast Go.Proofs.YtcbemeooeecboaaW.PrintMore Go.Proofs.Ytcbemeooeecboaa.PK
set_option linter.unusedVariables false
set_option linter.unusedSimpArgs false
set_option maxHeartbeats 4000000
set_option maxRecDepth 100000
theorem run_store_complex {P : Program} {w : World} {a : Addr} {m : Mode} (k : FloatKind) (x y : Nat) : (store a (.complex k x y) m).run P w = stored P w a (.complex k x y) m := run_store P w a _ m rfl
theorem run_store_float {P : Program} {w : World} {a : Addr} {m : Mode} (k : FloatKind) (x : Nat) : (store a (.float k x) m).run P w = stored P w a (.float k x) m := run_store P w a _ m rfl
attribute [local go_sem] run_store_complex run_store_float
theorem bthen {w a b : World} (h : Below w.heap.size w a) (k : Below a.heap.size a b) : Below w.heap.size w b := h.trans (k.mono h.size)
/-- The kinds of a row of nodes. -/
def kinds (l : List S44) : List Int := l.map S44.f0
def oneB (l : List S44) : Bool := decide (0 < l.length) && decide (size S44.f0 l = l.length)
theorem SizeC (A : Option Addr) (c : Nat) (l : List S44) (w : World) (h : Kd.C k44 w A l.length l) (hc : l.length ≤ c) (hl : l.length < 2305843009213693952) : Calls Try.prog 24 #[.slice A l.length c] w fun e w' => e = .returned (.int .i64 (size S44.f0 l : Int)) ∧ Below w.heap.size w w' :=
  row_Size.calls A c l _ w h hc (by unfold row_Size.f; exact congrArg some (szw_size S44.f0 l hl))
theorem One (A : Option Addr) (c : Nat) (l : List S44) (w : World) (h : Kd.C k44 w A l.length l) (hc : l.length ≤ c) (hl : l.length < 2305843009213693952) : Calls Try.prog 34 #[.slice A l.length c] w fun e w' => e = .returned (.bool (oneB l)) ∧ Below w.heap.size w w' := by
  have HC := Aside0.mk (SizeC A c l w h hc hl)
  by_cases h0 : 0 < l.length
  · have c1 : decide ((l.length : Int) > 0) = true := decide_eq_true (by omega)
    have c2 : decide ((0 : Int) < (l.length : Int)) = true := decide_eq_true (by omega)
    have c3 : decide (0 < l.length) = true := decide_eq_true h0
    by_cases h1 : size S44.f0 l = l.length
    · have e : oneB l = true := by unfold oneB; rw [c3, decide_eq_true h1]; rfl
      rw [e]
      rw [h1] at HC
      clear h h0 h1 e hl
      go_enter Try.func34, Try.ntmps34
      go_wp2_with fail
      refine HC.out.mono ?_; rintro e w2 ⟨rfl, hb⟩
      go_wp2_with fail
      go_ret
      exact ⟨rfl, hb⟩
    · have e : oneB l = false := by unfold oneB; rw [c3, decide_eq_false h1]; rfl
      rw [e]
      have d1 : (((size S44.f0 l : Nat) : Int) == (l.length : Int)) = false := beq_eq_false_iff_ne.2 (by omega)
      have d2 : (size S44.f0 l == l.length) = false := beq_eq_false_iff_ne.2 h1
      clear h h0 h1 e hl
      go_enter Try.func34, Try.ntmps34
      go_wp2_with fail
      refine HC.out.mono ?_; rintro e w2 ⟨rfl, hb⟩
      go_wp2_with fail
      go_ret
      exact ⟨rfl, hb⟩
  · have e : oneB l = false := by unfold oneB; rw [decide_eq_false h0]; rfl
    have c1 : decide ((l.length : Int) > 0) = false := decide_eq_false (by omega)
    have c2 : decide ((0 : Int) < (l.length : Int)) = false := decide_eq_false (by omega)
    have c3 : decide (0 < l.length) = false := decide_eq_false h0
    rw [e]
    clear h h0 e hl
    go_enter Try.func34, Try.ntmps34
    go_wp2_with fail
    go_ret
    exact ⟨rfl, Below.refl _ _⟩
theorem Spots (A : Option Addr) (c : Nat) (l : List S44) (w : World) : Calls Try.prog 26 #[.slice A l.length c] w fun e w' => e = .returned (.func (.func 33) #[] #[.pointer (some ⟨w.heap.size, 0, none⟩)]) ∧ w' = w.alloc (.cells #[.slice A l.length c] 22) := by
  go_enter Try.func26, Try.ntmps26
  go_wp2_with fail
  go_ret
  exact ⟨rfl, rfl⟩
/-- The cells of the open nodes, the first one first. -/
def stkCells (s : Stk) : List Value := s.reverse.flatMap fun x => [.int .i64 x.1, .int .i64 x.2]
/-- What is handed to a round. -/
def spotV (l : List S44) (j : Nat) : Value := .agg #[.complex .f64 (floatOfInt .f64 ((st (kinds l) j).2 : Int)) (floatOfInt .f64 ((st (kinds l) j).1.length : Int)), .int .i64 (topOf (st (kinds l) j).1)]
def spotE (l : List S44) (j : Nat) : Array Value := #[.int .i64 (j : Int), spotV l j]
def many (l : List S44) : Nat := if oneB l = true then l.length else 0
/-- What the iterator finds as it begins. -/
structure Cap (w W : World) (Bl : Nat) (A : Option Addr) (c : Nat) (l : List S44) : Prop where
  row : Kd.C k44 w A l.length l
  b : Below w.heap.size w W
theorem Cap.C {w W : World} {Bl : Nat} {A : Option Addr} {c : Nat} {l : List S44} (h : Cap w W Bl A c l) : Kd.C k44 W A l.length l := Kd.C_below h.row h.b
/-- Between two rounds of the iterator: j nodes are gone through. -/
structure Sq (w W0 W : World) (Bl : Nat) (A : Option Addr) (c : Nat) (l : List S44) (B0 B : Nat → Prop) (J : (Nat → Prop) → List Nat → World → Prop) (j : Nat) (v : Value) : Prop where
  cap : Cap w W Bl A c l
  jj : J B (List.range j) W
  lie : Lie B W
  more : More B0 B W0
  apart : Apart B0 W0 W
  own : W.ownsRow W0.heap.size 62 2 v (st (kinds l) j).1.length (stkCells (st (kinds l) j).1)
  out : ∀ k, v.ownBlock = some k → ¬ B k
theorem Sq.below {w W0 W W' : World} {Bl : Nat} {A : Option Addr} {c : Nat} {l : List S44} {B0 B : Nat → Prop} {J : (Nat → Prop) → List Nat → World → Prop} {j : Nat} {v : Value} (h : Sq w W0 W Bl A c l B0 B J j v) (hJ : Owns J) (hb : Below W.heap.size W W') : Sq w W0 W' Bl A c l B0 B J j v :=
  ⟨⟨h.cap.row, bthen h.cap.b hb⟩, hJ _ _ _ _ h.jj hb.size (fun k hk => hb.block k (h.lie k hk)), fun k hk => Nat.lt_of_lt_of_le (h.lie k hk) hb.size, h.more, h.apart.trans (B' := fun _ => False) (.of_below hb) (fun i e => e.elim), pw_own_below h.own hb, h.out⟩
theorem own_at {W W' : World} {base : Nat} {e : TypeId} {size : Nat} {v : Value} {n : Nat} {xs : List Value} (h : W.ownsRow base e size v n xs) (hk : ∀ k, v.ownBlock = some k → W'.heap[k]? = W.heap[k]?) : W'.ownsRow base e size v n xs := by
  refine ⟨h.1, ?_⟩
  rcases h.2 with h2 | ⟨g, cap, cur, rfl, hb, hg, h3⟩
  · exact .inl h2
  · exact .inr ⟨g, cap, cur, rfl, hb, (hk g rfl).trans hg, h3⟩
/-- Around a round: the node's own block nb, the stack s as it lies in v. -/
structure Sy (w W0 W : World) (Bl : Nat) (A : Option Addr) (c : Nat) (l : List S44) (B0 B : Nat → Prop) (Jp : Prop) (y : S44) (nb : Nat) (v : Value) (s : Stk) : Prop where
  cap : Cap w W Bl A c l
  jj : Jp
  lie : Lie B W
  more : More B0 B W0
  apart : Apart B0 W0 W
  own : W.ownsRow W0.heap.size 62 2 v s.length (stkCells s)
  out : ∀ k, v.ownBlock = some k → ¬ B k
  node : W.heap[nb]? = some (.cells #[.int .i64 y.f0, .string y.f1, .int .i64 y.f2] 44 (0, 0))
  nb : ¬ B nb
theorem Sy.round {w W0 W W' : World} {Bl : Nat} {A : Option Addr} {c : Nat} {l : List S44} {B0 B B' : Nat → Prop} {Jp Jp' : Prop} {y : S44} {nb : Nat} {v : Value} {s : Stk} (h : Sy w W0 W Bl A c l B0 B Jp y nb v s) (hW : Below w.heap.size w W0) (hB0 : ∀ k, B0 k → w.heap.size ≤ k) (hm : More B B' W) (hl : Lie B' W') (hap : Apart B W W') (hj : Jp') : Sy w W0 W' Bl A c l B0 B' Jp' y nb v s := by
  have hB : ∀ k, B k → w.heap.size ≤ k := fun k hk => by
    rcases h.more k hk with h1 | h1
    · exact hB0 k h1
    · have := hW.size; omega
  have hlt : ∀ k, v.ownBlock = some k → k < W.heap.size := fun k hk => (h.own.lt k hk).2
  have hnb : nb < W.heap.size := blk_lt h.node
  exact ⟨⟨h.cap.row, h.cap.b.trans (hap.below h.cap.b.size hB)⟩, hj, hl,
    fun k hk => by
      rcases hm k hk with h1 | h1
      · exact h.more k h1
      · exact .inr (by have := h.apart.size; omega),
    h.apart.trans hap (fun i hi => h.more i hi),
    own_at h.own (fun k hk => hap.block k (hlt k hk) (h.out k hk)),
    fun k hk e => by
      rcases hm k e with h1 | h1
      · exact h.out k hk h1
      · have := hlt k hk; omega,
    (hap.block nb hnb h.nb).trans h.node,
    fun e => by
      rcases hm nb e with h1 | h1
      · exact h.nb h1
      · omega⟩
theorem Sy.below {w W0 W W' : World} {Bl : Nat} {A : Option Addr} {c : Nat} {l : List S44} {B0 B : Nat → Prop} {J : (Nat → Prop) → List Nat → World → Prop} {q : List Nat} {y : S44} {nb : Nat} {v : Value} {s : Stk} (h : Sy w W0 W Bl A c l B0 B (J B q W) y nb v s) (hJ : Owns J) (hb : Below W.heap.size W W') : Sy w W0 W' Bl A c l B0 B (J B q W') y nb v s :=
  ⟨⟨h.cap.row, bthen h.cap.b hb⟩, hJ _ _ _ _ h.jj hb.size (fun k hk => hb.block k (h.lie k hk)), fun k hk => Nat.lt_of_lt_of_le (h.lie k hk) hb.size, h.more, h.apart.trans (B' := fun _ => False) (.of_below hb) (fun i e => e.elim), pw_own_below h.own hb, h.out, blk_below h.node hb, h.nb⟩
/-- The state before a round, with the node laid in a block of its own. -/
theorem Sq.lay {w W0 W : World} {Bl : Nat} {A : Option Addr} {c : Nat} {l : List S44} {B0 B : Nat → Prop} {J : (Nat → Prop) → List Nat → World → Prop} {j : Nat} {v : Value} (h : Sq w W0 W Bl A c l B0 B J j v) (hJ : Owns J) (y : S44) (o : Obj) (s : Stk) (hs : s = (st (kinds l) j).1) :
    Sy w W0 ((W.alloc (.cells #[.int .i64 y.f0, .string y.f1, .int .i64 y.f2] 44)).alloc o) Bl A c l B0 B (J B (List.range j) ((W.alloc (.cells #[.int .i64 y.f0, .string y.f1, .int .i64 y.f2] 44)).alloc o)) y W.heap.size v s := by
  subst hs
  have hb : Below W.heap.size W ((W.alloc (.cells #[.int .i64 y.f0, .string y.f1, .int .i64 y.f2] 44)).alloc o) := below_alloc (below_alloc (Below.refl _ _) _) _
  have h' := h.below hJ hb
  exact ⟨h'.cap, h'.jj, h'.lie, h'.more, h'.apart, h'.own, h'.out, blk_alloc (heap_new W _) _, fun e => by have := h.lie _ e; omega⟩
theorem at44 {W : World} {A : Option Addr} {l : List S44} (h : Kd.C k44 W A l.length l) (p : Nat) (y : S44) (hy : l[p]? = some y) : ∃ ad, A = some ad ∧ W.cell? (ad.add (p * 3)) = some (.int .i64 y.f0) ∧ W.cell? ⟨(ad.add (p * 3)).block, (ad.add (p * 3)).off + 1, none⟩ = some (.string y.f1) ∧ W.cell? ⟨(ad.add (p * 3)).block, (ad.add (p * 3)).off + 2, none⟩ = some (.int .i64 y.f2) := by
  have hp : p < l.length := (List.getElem?_eq_some_iff.1 hy).1
  have := at_T44 h (p : Int) (by omega) (by omega)
  have e : rd_T44 l (p : Int) = y := by unfold rd_T44; rw [Int.toNat_natCast, List.getD_eq_getElem?_getD, hy]; rfl
  rw [e, Int.toNat_natCast] at this
  exact this
theorem own_form {W : World} {base : Nat} {e : TypeId} {size : Nat} {v : Value} {n : Nat} {xs : List Value} (h : W.ownsRow base e size v n xs) : ∃ V cv, v = .slice V n cv := by
  rcases h.2 with ⟨rfl, rfl⟩ | ⟨g, cap, cur, rfl, _⟩
  · exact ⟨_, _, rfl⟩
  · exact ⟨_, _, rfl⟩
end Go.Proofs.Ytcbemeooeecboaa.Rng
