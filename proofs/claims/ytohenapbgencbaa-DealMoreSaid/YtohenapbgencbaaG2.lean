/- Two dealers asked in either order; an append in a region that draws its order. -/
import Derived.Test.YtohenapbgencbaaG
import Derived.Deep.RegionHeld3
namespace Go.Proofs.Ytohenapbgencbaa
open Go.RowKit Go.Proofs.YtohenapbgencbaaW.PrintWords Go.Proofs.YtohenapbgencbaaW.PrintLast Go.Proofs.YtohenapbgencbaaW.PrintMore Go.Proofs.Ytohenapbgencbaa.PK
set_option linter.unusedVariables false
set_option linter.unusedSimpArgs false
set_option maxHeartbeats 4000000
namespace Deal

/-- The step of 'append(a[:len(a):len(a)], b...)'. -/
theorem app_cut_step {ops : Array Oper} {o : Oper} {a : Act} {Kc : Act → World → Prop} {Q : Exit → Act → World → Prop} {W : World} (hw : Region.wanted o (yielded ops a.tmps) = true) (s x : Operand) (ho : o.op = .call { callee := .builtin .append, args := #[s, x], argTypes := #[22, 22] })
    (A B : Option Addr) (c : Nat) (xs ys zs : List Int) (hz : xs ++ ys = zs) (hs : a.eval s = .slice A xs.length xs.length) (hx : a.eval x = .slice B ys.length c) (hC : (Kd.int .i64).C W A xs.length xs) (hD : (Kd.int .i64).C W B ys.length ys) (hl : xs.length + ys.length ≤ 1000000)
    (h : ∀ A' c' w', zs.length ≤ c' → (Kd.int .i64).C w' A' zs.length zs → Below W.heap.size W w' → Kc (a.put o.dst (.slice A' zs.length c')) w') :
    if Region.wanted o (yielded ops a.tmps) = true then Oper.wp Try.prog o a W Kc Q else Kc (a.put o.dst undef) W := by
  subst hz
  obtain ⟨A', c', w', hr, h1, h2, h3⟩ := Aid.app_cut (P := Try.prog) (enc := Value.int .i64) (h1 := fun _ => rfl) (0 : Int) W 22 o.type 3 (.int .i64 0) 8 Try.underlying22 info3 rfl (by omega) A B c xs ys hC hD (by omega)
  refine event_step hw ?_ (h A' c' w' h1 h2 h3)
  simp [execOp, ho, resolve, invoke, builtin, hs, hx, hr, Result.andThen]
theorem cut_all (A : Option Addr) (n c : Nat) (h : n ≤ c) (hn : A = none → n = 0) (W : World) : (Instr.sliceAt 22 (.slice A n c) none (some (.int .i64 (n : Int))) (some (.int .i64 (n : Int)))).run Try.prog W = .ok (.slice A n n) W := by
  have e0 : ((n : Int)).toNat = n := by omega
  have e2 : ¬ ((c : Int) < (n : Int)) := by omega
  have e4 : (0 : Int) ≤ (n : Int) := by omega
  cases A with
  | none =>
    obtain rfl := hn rfl
    go_simp
  | some ad =>
    go_simp
theorem Now.sepR {w W : World} {oa : Nat → Prop} {g : Nat} {s : DS} (h : Now w W oa g s) (m : Nat) : ∀ k, oa k → ¬ (W.heap.size ≤ k ∧ k < m) := fun k h1 h2 => by have := (h.lo k h1).2; omega
theorem Now.sepL {w W : World} {oa : Nat → Prop} {g : Nat} {s : DS} (h : Now w W oa g s) (m : Nat) : ∀ k, (W.heap.size ≤ k ∧ k < m) → ¬ oa k := fun k h2 h1 => by have := (h.lo k h1).2; omega
structure Pair (w W : World) (ga gb : Nat) (a b : DS) (x : Nat) (i : Int) (n : ByteArray) : Prop where
  two : ∃ oa ob, Now w W oa ga a ∧ Now w W ob gb b ∧ (∀ k, oa k → ¬ ob k) ∧ ¬ oa x ∧ ¬ ob x
  hx : W.heap[x]? = some (.cells #[.int .i64 i, .string n] 32 (0, 0))
theorem Pair.cells {w W : World} {ga gb : Nat} {a b : DS} {x : Nat} {i : Int} {n : ByteArray} (h : Pair w W ga gb a b x i n) : W.cell? ⟨x, 0, none⟩ = some (.int .i64 i) ∧ W.cell? ⟨x, 1, none⟩ = some (.string n) := ⟨by rw [cell_of_row _ _ _ _ _ _ h.hx]; rfl, by rw [cell_of_row _ _ _ _ _ _ h.hx]; rfl⟩
theorem Pair.below {w W W' : World} {ga gb : Nat} {a b : DS} {x : Nat} {i : Int} {n : ByteArray} (h : Pair w W ga gb a b x i n) (hb : Below W.heap.size W W') : Pair w W' ga gb a b x i n := by
  obtain ⟨oa, ob, h1, h2, h3, h4, h5⟩ := h.two
  exact ⟨⟨oa, ob, h1.below hb, h2.below hb, h3, h4, h5⟩, (hb.block _ (blk_lt h.hx)).trans h.hx⟩
theorem Pair.askA {w W : World} {ga gb : Nat} {a b : DS} {x : Nat} {i : Int} {n : ByteArray} (h : Pair w W ga gb a b x i n) (hi : wfI i) (ha : 0 ≤ a.asked ∧ a.asked ≤ 1000000) (hl : a.deeds.length ≤ 100000) (hrl : a.refuses.length ≤ 100000) :
    Calls Try.prog 13 #[.pointer (some ⟨ga, 0, none⟩), .int .i64 i, .string n] W fun e w' => e = .returned (.bool (a.ask i n).1) ∧ Pair w w' ga gb (a.ask i n).2 b x i n := by
  obtain ⟨oa, ob, h1, h2, h3, h4, h5⟩ := h.two
  refine (h1.ask i n hi ha hl hrl).mono ?_
  rintro e w' ⟨rfl, hN, hO⟩
  have hxl := blk_lt h.hx
  exact ⟨rfl, ⟨_, _, hN, h2.only hO (fun k k1 k2 => h3 k k2 k1) (fun k hk => (h1.lo k hk).1), fun k k1 k2 => k1.elim (fun hh => h3 k hh k2) (fun hh => by have := (h2.lo k k2).2; omega), fun hh => hh.elim h4 (fun hh => by omega), h5⟩, (hO.keep _ hxl h4).trans h.hx⟩
theorem Pair.askB {w W : World} {ga gb : Nat} {a b : DS} {x : Nat} {i : Int} {n : ByteArray} (h : Pair w W ga gb a b x i n) (hi : wfI i) (ha : 0 ≤ b.asked ∧ b.asked ≤ 1000000) (hl : b.deeds.length ≤ 100000) (hrl : b.refuses.length ≤ 100000) :
    Calls Try.prog 13 #[.pointer (some ⟨gb, 0, none⟩), .int .i64 i, .string n] W fun e w' => e = .returned (.bool (b.ask i n).1) ∧ Pair w w' ga gb a (b.ask i n).2 x i n := by
  obtain ⟨oa, ob, h1, h2, h3, h4, h5⟩ := h.two
  refine (h2.ask i n hi ha hl hrl).mono ?_
  rintro e w' ⟨rfl, hN, hO⟩
  have hxl := blk_lt h.hx
  exact ⟨rfl, ⟨_, _, h1.only hO (fun k k1 k2 => h3 k k1 k2) (fun k hk => (h2.lo k hk).1), hN, fun k k1 k2 => k2.elim (fun hh => h3 k k1 hh) (fun hh => by have := (h1.lo k k1).2; omega), h4, fun hh => hh.elim h5 (fun hh => by omega)⟩, (hO.keep _ hxl h5).trans h.hx⟩
end Deal
end Go.Proofs.Ytohenapbgencbaa
