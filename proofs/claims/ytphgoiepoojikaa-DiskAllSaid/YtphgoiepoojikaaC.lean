/- The disk: what the law compares. -/
import Derived.Test.YtphgoiepoojikaaL
import Derived.Test.YtphgoiepoojikaaPKx2
import Derived.Test.YtphgoiepoojikaaPKx3
import Derived.Test.YtphgoiepoojikaaPKx4
import Derived.Test.YtphgoiepoojikaaPKx5
import Derived.Test.YtphgoiepoojikaaPKx6
import Derived.Deep.RegionHeld3
namespace Go.Proofs.Ytphgoiepoojikaa
open Go.RowKit Go.Proofs.YtphgoiepoojikaaW.PrintWords Go.Proofs.YtphgoiepoojikaaW.PrintLast Go.Proofs.YtphgoiepoojikaaW.PrintMore Go.Proofs.Ytphgoiepoojikaa.PK
set_option linter.unusedVariables false
set_option linter.unusedSimpArgs false
set_option maxHeartbeats 1000000
namespace Disk

theorem rd_at (l : List Int) (i : Nat) (h : i < l.length) : rd l (i : Int) = l[i] := by
  simp [rd, List.getD_eq_getElem?_getD, h]
theorem w64 (i : Nat) (h : i < 1000000) : wrap64 ((i : Int) + 1) = ((i + 1 : Nat) : Int) := by unfold wrap64; omega
theorem same_l (a b : List Int) (hl : a.length = b.length) (hm : a.length ≤ 100000) (d : Nat) : ∀ (k i : Nat), i + d = a.length → d < k → a.take i = b.take i → redressref16_Same.l0 k a b i = some (decide (a = b)) := by
  induction d with
  | zero =>
    intro k i hi hk he
    obtain ⟨k, rfl⟩ : ∃ m, k = m + 1 := ⟨k - 1, by omega⟩
    simp only [redressref16_Same.l0]
    rw [if_neg (by omega)]
    rw [List.take_of_length_le (by omega), List.take_of_length_le (by omega)] at he
    simp [he]
  | succ d ih =>
    intro k i hi hk he
    obtain ⟨k, rfl⟩ : ∃ m, k = m + 1 := ⟨k - 1, by omega⟩
    simp only [redressref16_Same.l0]
    rw [if_pos (by omega), if_pos (by omega), if_pos (by omega), rd_at a i (by omega), rd_at b i (by omega)]
    by_cases hx : a[i]'(by omega) = b[i]'(by omega)
    · rw [if_pos hx, w64 i (by omega)]
      exact ih k (i + 1) (by omega) (by omega) (by rw [List.take_succ_eq_append_getElem (by omega), List.take_succ_eq_append_getElem (by omega), he, hx])
    · rw [if_neg hx]
      have : a ≠ b := fun h => hx (by subst h; rfl)
      simp [this]
theorem same (a b : List Int) (k : Nat) (hm : a.length ≤ 100000) (hk : a.length < k) : redressref16_Same.f k a b = some (decide (a = b)) := by
  unfold redressref16_Same.f
  by_cases hl : a.length = b.length
  · rw [if_pos (by omega)]
    exact same_l a b hl hm a.length k 0 (by omega) hk rfl
  · rw [if_neg (by omega)]
    have : a ≠ b := fun h => hl (by rw [h])
    simp [this]

theorem SameN (A0 : Option Addr) (n0 c0 : Nat) (l0 : List Int) (A1 : Option Addr) (n1 c1 : Nat) (l1 : List Int) (w : World) (h0 : l0.length = n0) (h1 : l1.length = n1) (hr0 : Kd.C (Kd.int .u8) w A0 l0.length l0) (hc0 : n0 ≤ c0) (hr1 : Kd.C (Kd.int .u8) w A1 l1.length l1) (hc1 : n1 ≤ c1) (hm : l0.length ≤ 100000) :
    Calls Try.prog 22 #[.slice A0 n0 c0, .slice A1 n1 c1] w fun e w' => e = .returned (.bool (decide (l0 = l1))) ∧ Drawn0 w w' := by
  subst h0; subst h1
  exact redressref16_Same.calls (l0.length + 1) A0 c0 l0 A1 c1 l1 _ w hr0 hc0 hr1 hc1 (same l0 l1 _ hm (by omega))
theorem SameRows (A0 : Option Addr) (n0 c0 : Nat) (A1 : Option Addr) (n1 c1 : Nat) (l : List Int) (w : World) (h0 : n0 = l.length) (h1 : n1 = l.length) (hr0 : Kd.C (Kd.int .u8) w A0 l.length l) (hc0 : n0 ≤ c0) (hr1 : Kd.C (Kd.int .u8) w A1 l.length l) (hc1 : n1 ≤ c1) (hm : l.length ≤ 100000) :
    Calls Try.prog 22 #[.slice A0 n0 c0, .slice A1 n1 c1] w fun e w' => e = .returned (.bool true) ∧ Drawn0 w w' := by
  have := SameN A0 n0 c0 l A1 n1 c1 l w h0.symm h1.symm hr0 hc0 hr1 hc1 hm
  rwa [decide_eq_true rfl] at this

theorem LawSame {w : World} {g b n : Nat} {db : List Int} {many left : Int} {cut : Bool} (h : At w g b n db many cut left) (A : Option Addr) (c : Nat) (rl : Int) (hr : Kd.C (Kd.int .u8) w A db.length db) (hc : db.length ≤ c) (hd : (cut && decide (left ≤ 0)) = (rl == 0)) :
    Calls Try.prog 11 #[.pointer (some ⟨g, 0, none⟩), .agg #[.slice A db.length c, .int .i64 many, .int .i64 rl]] w fun e w' => e = .returned (.bool true) ∧ Below w.heap.size w w' := by
  have H := Aside0.mk h
  have HR := Aside0.mk hr
  have HD := Aside0.mk hd
  clear h hr hd
  go_enter Try.func11, Try.ntmps11
  go_wp2_with fail
  obtain ⟨w1, hw1⟩ : ∃ w1, w1 = w.alloc (Obj.cells #[Value.slice A db.length c, Value.int IntKind.i64 many, Value.int IntKind.i64 rl] 30) := ⟨_, rfl⟩
  rw [← hw1]
  have hB0 := Aside0.mk (show Below w.heap.size w w1 by rw [hw1]; exact (Below.refl _ _).alloc (Nat.le_refl _) _)
  have hx := heap_alloc_last w (Obj.cells #[Value.slice A db.length c, Value.int IntKind.i64 many, Value.int IntKind.i64 rl] 30)
  rw [← hw1] at hx
  have x0 : w1.cell? ⟨w.heap.size, 0, none⟩ = some (.slice A db.length c) := by rw [cell_of_row _ _ _ _ _ _ hx]; rfl
  have x1 : w1.cell? ⟨w.heap.size, 1, none⟩ = some (.int .i64 many) := by rw [cell_of_row _ _ _ _ _ _ hx]; rfl
  have x2 : w1.cell? ⟨w.heap.size, 2, none⟩ = some (.int .i64 rl) := by rw [cell_of_row _ _ _ _ _ _ hx]; rfl
  clear hx hw1
  have keepS : ∀ W W' : World, (Below w1.heap.size w1 W ∧ W.cell? ⟨w.heap.size, 0, none⟩ = some (.slice A db.length c) ∧ W.cell? ⟨w.heap.size, 1, none⟩ = some (.int .i64 many) ∧ W.cell? ⟨w.heap.size, 2, none⟩ = some (.int .i64 rl)) → Below W.heap.size W W' →
      (Below w1.heap.size w1 W' ∧ W'.cell? ⟨w.heap.size, 0, none⟩ = some (.slice A db.length c) ∧ W'.cell? ⟨w.heap.size, 1, none⟩ = some (.int .i64 many) ∧ W'.cell? ⟨w.heap.size, 2, none⟩ = some (.int .i64 rl)) := fun W W' hS hb =>
    ⟨Aid.bthen hS.1 hb, (hb.cell (World.block_lt_of_cell? W _ hS.2.1)).trans hS.2.1, (hb.cell (World.block_lt_of_cell? W _ hS.2.2.1)).trans hS.2.2.1, (hb.cell (World.block_lt_of_cell? W _ hS.2.2.2)).trans hS.2.2.2⟩
  have KS := Aside0.mk keepS; clear keepS
  have hq : (db.length : Int) / 16 = (n : Int) := by have := H.out.len; omega
  have ewn : IntKind.i64.wrap (n : Int) = (n : Int) := by rw [IntKind.wrap_i64]; have := H.out.n2; omega
  have HL : db.length ≤ 100000 := by have := H.out.len; have := H.out.n2; omega
  go_region_held3 (fun W => Below w1.heap.size w1 W ∧ W.cell? ⟨w.heap.size, 0, none⟩ = some (.slice A db.length c) ∧ W.cell? ⟨w.heap.size, 1, none⟩ = some (.int .i64 many) ∧ W.cell? ⟨w.heap.size, 2, none⟩ = some (.int .i64 rl)) (first | assumption | exact ⟨(Below.refl _ _).drew, x0, x1, x2⟩)
    (first
      | (go_simp; go_at_call 25; have hS_ := ‹Below w1.heap.size w1 _ ∧ _›; refine (Bytes (H.out.below (Aid.bthen hB0.out hS_.1))).mono ?_; rintro e w' ⟨v, rfl, hR, hB⟩; have hS2_ := KS.out _ _ hS_ hB; obtain ⟨A5, c5, hv, hc5, hC5⟩ := Kd.R_reads hR; subst hv; have HC5 := Aside0.mk hC5; clear hC5 hR)
      | (go_simp; go_at_call 22; have hS_ := ‹Below w1.heap.size w1 _ ∧ _›; refine (SameRows A5 db.length c5 A db.length c db _ rfl rfl HC5.out hc5 (Kd.C_below HR.out (Aid.bthen hB0.out hS_.1)) hc HL).mono ?_; rintro e w' ⟨rfl, hd⟩; have hS2_ := KS.out _ _ hS_ hd.below)
      | (go_simp; go_at_call 26; have hS_ := ‹Below w1.heap.size w1 _ ∧ _›; refine (Writes (H.out.below (Aid.bthen hB0.out hS_.1))).mono ?_; rintro e w' ⟨rfl, hd⟩; have hS2_ := KS.out _ _ hS_ hd.below)
      | (go_simp; go_at_call 27; have hS_ := ‹Below w1.heap.size w1 _ ∧ _›; refine (Down (H.out.below (Aid.bthen hB0.out hS_.1))).mono ?_; rw [HD.out]; rintro e w' ⟨rfl, hd⟩; have hS2_ := KS.out _ _ hS_ hd.below)
      | (go_simp; go_at_call 28; have hS_ := ‹Below w1.heap.size w1 _ ∧ _›; refine (Blocks (H.out.below (Aid.bthen hB0.out hS_.1))).mono ?_; rintro e w' ⟨rfl, hd⟩; have hS2_ := KS.out _ _ hS_ hd.below)
      | (go_simp; go_at_call 29; have hS_ := ‹Below w1.heap.size w1 _ ∧ _›; refine (redressref17_Down.calls A c db many rl (rl == 0) _ (Kd.C_below HR.out (Aid.bthen hB0.out hS_.1)) hc rfl).mono ?_; rintro e w' ⟨rfl, hd⟩; have hS2_ := KS.out _ _ hS_ (by first | exact hd.below | exact hd)))
  have hS_ := ‹Below w1.heap.size w1 _ ∧ _›
  have HF := Aside0.mk (Aid.bthen hB0.out hS_.1)
  clear hS_ KS
  go_wp2_with fail
  go_ret
  exact ⟨rfl, HF.out⟩
end Disk
end Go.Proofs.Ytphgoiepoojikaa
