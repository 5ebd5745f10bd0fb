/- The reference's Save: its walk. -/
import Derived.Test.YtbjjpckldjjcgaaSN
namespace Go.Proofs.Ytbjjpckldjjcgaa
open Go.RowKit Go.Proofs.YtbjjpckldjjcgaaW.PrintWords Go.Proofs.YtbjjpckldjjcgaaW.PrintLast Go.Proofs.YtbjjpckldjjcgaaW.PrintMore Go.Proofs.Ytbjjpckldjjcgaa.PK
set_option linter.unusedVariables false
set_option linter.unusedSimpArgs false
set_option maxHeartbeats 4000000
set_option maxRecDepth 100000
namespace Disk
namespace Slots
/-- half reads no byte. -/
theorem RefHalfL (A : Option Addr) (c m n : Nat) (x y : Int) (w : World) (hl : m = 16 * n) (hn : n ≤ 1024) :
    Calls Try.prog 42 #[.agg #[.slice A m c, .int .i64 x, .int .i64 y]] w fun e w' => e = .returned (.int .i64 ((n / 2 : Nat) : Int)) ∧ Below w.heap.size w w' := by
  have e1 : wrap64 ((m : Int) / 16) = (n : Int) := by unfold wrap64; omega
  have e2 : Int.tdiv (n : Int) 2 = ((n / 2 : Nat) : Int) := by rw [Int.tdiv_eq_ediv_of_nonneg (by omega)]; omega
  have e3 : wrap64 ((n / 2 : Nat) : Int) = ((n / 2 : Nat) : Int) := by unfold wrap64; omega
  have hb := Aside0.mk ((Below.refl w.heap.size w).alloc (Nat.le_refl _) (.cells #[.slice A m c, .int .i64 x, .int .i64 y] 44))
  clear hl hn
  go_enter Try.func42, Try.ntmps42
  go_wp2_with fail
  go_ret
  refine ⟨?_, hb.out⟩
  show Ending.returned (.int .i64 (wrap64 ((n : Int) / 2))) = _
  rw [show (n : Int) / 2 = ((n / 2 : Nat) : Int) by omega, e3]
theorem RefWrite (P0 : Nat → Prop) (u : Value) (n : Nat) (t : St) (k : Int) (A2 : Option Addr) (c2 : Nat) (l2 : List Int) (w0 w : World) (hB : Below w0.heap.size w0 w) (ho : Kd.R (Kd.int .u8) 5 w w0.heap.size P0 u t.db)
    (hr2 : ∀ W_, Kept w W_ (fun k_ => P0 k_) → Kd.C (Kd.int .u8) W_ A2 l2.length l2) (hc2 : l2.length ≤ c2) (hn : n ≤ 1024) (hl : t.db.length = 16 * n) (hrt : t.right) (hok : t.ok 1000000) :
    Calls Try.prog 49 #[.agg #[u, .int .i64 t.many, .int .i64 (rleft t)], .int .i64 k, .slice A2 l2.length c2] w fun e w' => ∃ v : Value, e = .returned (.tuple #[.agg #[v, .int .i64 (t.write n k l2).2.many, .int .i64 (rleft (t.write n k l2).2)], .int .i64 (t.write n k l2).1]) ∧
      Kd.R (Kd.int .u8) 5 w' w0.heap.size (fun k_ => (P0 k_ ∨ w.heap.size ≤ k_)) v (t.write n k l2).2.db ∧ Below w0.heap.size w0 w' ∧ Kept w w' (fun k_ => P0 k_) :=
  redressref17_Write.calls 21 P0 u t.db t.many (rleft t) k A2 c2 l2 _ _ _ _ w0 w hB ho hr2 hc2 (refWrite n t k l2 21 (by decide) hn hl hrt hok)
/-- What the reference's Save tells. -/
def SaveTold (w0 w : World) (P0 : Nat → Prop) (r : Int × St) (e : Ending) (w' : World) : Prop :=
  ∃ v : Value, e = .returned (.tuple #[.agg #[v, .int .i64 r.2.many, .int .i64 (rleft r.2)], .int .i64 r.1]) ∧
    Kd.R (Kd.int .u8) 5 w' w0.heap.size (fun k_ => (P0 k_ ∨ w.heap.size ≤ k_)) v r.2.db ∧ Below w0.heap.size w0 w' ∧ Kept w w' (fun k_ => P0 k_)
theorem set3_kept {W : World} {q : Nat} (v0 v1 v2 : Value) : Kept W (((W.setCell ⟨q, 0, none⟩ v0).setCell ⟨q, 1, none⟩ v1).setCell ⟨q, 2, none⟩ v2) (fun k => k = q) :=
  (((Kept.refl W (fun k => k = q)).setCell (p := ⟨q, 0, none⟩) (.inl rfl) _).setCell (p := ⟨q, 1, none⟩) (.inl rfl) _).setCell (p := ⟨q, 2, none⟩) (.inl rfl) _
/-- The result is stored, and told. -/
theorem told_end {w0 w W W' : World} {P0 P : Nat → Prop} {q6 : Nat} {x0 x1 x2 v : Value} {r : Int × St} (hq : W.heap[q6]? = some (.cells #[x0, x1, x2] 44 (0, 0))) (h6 : w.heap.size ≤ q6) (h06 : w0.heap.size ≤ q6)
    (hR : Kd.R (Kd.int .u8) 5 W w0.heap.size P v r.2.db) (hP : ∀ k, P k → k < W.heap.size → (P0 k ∨ w.heap.size ≤ k) ∧ k ≠ q6) (hk : Kept w W (fun k => P0 k)) (hb : Below w0.heap.size w0 W)
    (hW : W' = ((W.setCell ⟨q6, 0, none⟩ v).setCell ⟨q6, 1, none⟩ (.int .i64 r.2.many)).setCell ⟨q6, 2, none⟩ (.int .i64 (rleft r.2))) :
    SaveTold w0 w P0 r (.returned (.tuple #[.agg #[v, .int .i64 r.2.many, .int .i64 (rleft r.2)], .int .i64 r.1])) W' := by
  subst hW
  refine ⟨v, rfl, ?_, ?_, ?_⟩
  · exact Kd.R_kept (Kd.R_mono (Kd.R_bound hR) (fun k hk => (hP k hk.1 hk.2.2.1).1)) (Kept.refl _ (fun _ => False)) (fun _ _ h => h) |> fun h => (Kd.R_mono (Kd.R_kept (Kd.R_mono (Kd.R_bound hR) (fun k hk => hP k hk.1 hk.2.2.1)) (set3_kept _ _ _) (fun k h1 h2 => h1.2 h2)) (fun k h => h.1))
  · exact ((hb.setCell (p := ⟨q6, 0, none⟩) h06 _).setCell (p := ⟨q6, 1, none⟩) h06 _).setCell (p := ⟨q6, 2, none⟩) h06 _
  · exact hk.then_ (set3_kept _ _ _) (fun k h => by subst h; exact .inr h6)
theorem RefSave.arg (P0 : Nat → Prop) (A : Option Addr) (c : Nat) (t : St) (A2 : Option Addr) (c2 : Nat) (data : List Int) (w0 w : World) (hB : Below w0.heap.size w0 w) (ho : Kd.R (Kd.int .u8) 5 w w0.heap.size P0 (.slice A t.db.length c) t.db) :
    Calls Try.prog 31 #[.agg #[.slice A t.db.length c, .int .i64 t.many, .int .i64 (rleft t)], .int .u64 0, .slice A2 data.length c2] w (SaveTold w0 w P0 (1, t)) := by
  have HB := Aside0.mk hB; have HO := Aside0.mk ho
  clear hB ho
  go_enter Try.func31, Try.ntmps31
  go_upto_region 1 with fail
  obtain ⟨q3, hq3⟩ : ∃ q, q = w.heap.size := ⟨_, rfl⟩
  obtain ⟨q6, hq6⟩ : ∃ q, q = w.heap.size + 1 := ⟨_, rfl⟩
  obtain ⟨w1, hw1⟩ : ∃ w1, w1 = (w.alloc (.cells #[.slice A t.db.length c, .int .i64 t.many, .int .i64 (rleft t)] 44)).alloc (.cells #[.slice none 0 0, .int .i64 0, .int .i64 0] 44) := ⟨_, rfl⟩
  have hb1 : Below w.heap.size w w1 := by rw [hw1]; exact ((Below.refl _ _).alloc (Nat.le_refl _) _).alloc (by simp) _
  have HQ3 := Aside0.mk (show w1.heap[q3]? = some (.cells #[.slice A t.db.length c, .int .i64 t.many, .int .i64 (rleft t)] 44 (0, 0)) by rw [hw1, hq3, Below.heap_alloc _ _ _ (by simp)]; exact Aid.heap_new w _)
  have HQ6 := Aside0.mk (show w1.heap[q6]? = some (.cells #[.slice none 0 0, .int .i64 0, .int .i64 0] 44 (0, 0)) by rw [hw1, hq6]; have := Aid.heap_new (w.alloc (.cells #[.slice A t.db.length c, .int .i64 t.many, .int .i64 (rleft t)] 44)) (.cells #[.slice none 0 0, .int .i64 0, .int .i64 0] 44); simpa using this)
  have HQQ := Aside0.mk (show w.heap.size ≤ q3 ∧ w.heap.size ≤ q6 ∧ q3 ≠ q6 from ⟨by omega, by omega, by omega⟩)
  have HB1 := Aside0.mk hb1
  rw [← hw1, ← hq6, ← hq3]
  clear hw1 hq3 hq6 hb1
  have a0 : w1.cell? ⟨q3, 0, none⟩ = some (.slice A t.db.length c) := by rw [cell_of_row _ _ _ _ _ _ HQ3.out]; rfl
  have a1 : w1.cell? ⟨q3, 1, none⟩ = some (.int .i64 t.many) := by rw [cell_of_row _ _ _ _ _ _ HQ3.out]; rfl
  have a2 : w1.cell? ⟨q3, 2, none⟩ = some (.int .i64 (rleft t)) := by rw [cell_of_row _ _ _ _ _ _ HQ3.out]; rfl
  have b0 : w1.cell? ⟨q6, 0, none⟩ = some (.slice none 0 0) := by rw [cell_of_row _ _ _ _ _ _ HQ6.out]; rfl
  have b1 : w1.cell? ⟨q6, 1, none⟩ = some (.int .i64 0) := by rw [cell_of_row _ _ _ _ _ _ HQ6.out]; rfl
  have b2 : w1.cell? ⟨q6, 2, none⟩ = some (.int .i64 0) := by rw [cell_of_row _ _ _ _ _ _ HQ6.out]; rfl
  have f0 := blk_frozen HQ6.out 0
  have f1 := blk_frozen HQ6.out 1
  have f2 := blk_frozen HQ6.out 2
  go_wp2_with fail
  obtain ⟨w9, hw9⟩ : ∃ w9, w9 = ((w1.setCell ⟨q6, 0, none⟩ (.slice A t.db.length c)).setCell ⟨q6, 1, none⟩ (.int .i64 t.many)).setCell ⟨q6, 2, none⟩ (.int .i64 (rleft t)) := ⟨_, rfl⟩
  have hz : w9.heap[q6]? = some (.cells #[.slice A t.db.length c, .int .i64 t.many, .int .i64 (rleft t)] 44 (0, 0)) := by rw [hw9]; exact store3 HQ6.out _ _ _
  have HW9 := Aside0.mk hw9
  rw [← hw9]
  clear hw9 b0 b1 b2 f0 f1 f2 a0 a1 a2
  have z0 : w9.cell? ⟨q6, 0, none⟩ = some (.slice A t.db.length c) := by rw [cell_of_row _ _ _ _ _ _ hz]; rfl
  have z1 : w9.cell? ⟨q6, 1, none⟩ = some (.int .i64 t.many) := by rw [cell_of_row _ _ _ _ _ _ hz]; rfl
  have z2 : w9.cell? ⟨q6, 2, none⟩ = some (.int .i64 (rleft t)) := by rw [cell_of_row _ _ _ _ _ _ hz]; rfl
  (try simp only [Exit.inBlock, Exit.then])
  refine bodyPost_ret (results_ct rfl _ _ q6 44 #[.slice A t.db.length c, .int .i64 t.many, .int .i64 (rleft t)] (0, 0) _ rfl hz Try.underlying44 rfl (by kernel_rfl)) rfl ?_
  refine (show SaveTold w0 w P0 (1, t) _ _ from ?_)
  exact told_end (r := (1, t)) (P := fun k => P0 k ∧ k < w.heap.size) HQ6.out HQQ.out.2.1 (Nat.le_trans HB.out.size HQQ.out.2.1) (Kd.R_below (Kd.R_mono (Kd.R_bound HO.out) (fun k hk => ⟨hk.1, hk.2.2.1⟩)) HB1.out) (fun k h1 h2 => ⟨.inl h1.1, by have := HQQ.out.2.1; omega⟩) (Kept.of_below HB1.out _) (Aid.bthen HB.out HB1.out) HW9.out
theorem RefSave.long (P0 : Nat → Prop) (A : Option Addr) (c n : Nat) (t : St) (num : Nat) (h0 : num ≠ 0) (A2 : Option Addr) (c2 : Nat) (data : List Int) (w0 w : World) (hB : Below w0.heap.size w0 w) (ho : Kd.R (Kd.int .u8) 5 w w0.heap.size P0 (.slice A t.db.length c) t.db)
    (hn : n ≤ 1024) (hl : t.db.length = 16 * n) (h3 : 3 ≤ n / 2) (hL : room n < data.length) :
    Calls Try.prog 31 #[.agg #[.slice A t.db.length c, .int .i64 t.many, .int .i64 (rleft t)], .int .u64 (num : Int), .slice A2 data.length c2] w (SaveTold w0 w P0 (181, t)) := by
  have HB := Aside0.mk hB; have HO := Aside0.mk ho
  have hR := Kd.R_reads' ho
  have HRM := Aside0.mk (fun W (h : Kd.C (Kd.int .u8) W A t.db.length t.db) => RefRoom A c n t.db t.many (rleft t) W h hR.2.1 hl hn h3)
  have h0' : ((num : Int) == 0) = false := beq_eq_false_iff_ne.2 (by omega)
  have hL' : decide (room n < data.length) = true := decide_eq_true hL
  have HCR := Aside0.mk hR.2.2
  clear hB ho hn hl h3 hL h0 hR
  go_enter Try.func31, Try.ntmps31
  go_upto_region 1 with fail
  obtain ⟨q3, hq3⟩ : ∃ q, q = w.heap.size := ⟨_, rfl⟩
  obtain ⟨q6, hq6⟩ : ∃ q, q = w.heap.size + 1 := ⟨_, rfl⟩
  obtain ⟨w1, hw1⟩ : ∃ w1, w1 = (w.alloc (.cells #[.slice A t.db.length c, .int .i64 t.many, .int .i64 (rleft t)] 44)).alloc (.cells #[.slice none 0 0, .int .i64 0, .int .i64 0] 44) := ⟨_, rfl⟩
  have hb1 : Below w.heap.size w w1 := by rw [hw1]; exact ((Below.refl _ _).alloc (Nat.le_refl _) _).alloc (by simp) _
  have HQ3 := Aside0.mk (show w1.heap[q3]? = some (.cells #[.slice A t.db.length c, .int .i64 t.many, .int .i64 (rleft t)] 44 (0, 0)) by rw [hw1, hq3, Below.heap_alloc _ _ _ (by simp)]; exact Aid.heap_new w _)
  have HQ6 := Aside0.mk (show w1.heap[q6]? = some (.cells #[.slice none 0 0, .int .i64 0, .int .i64 0] 44 (0, 0)) by rw [hw1, hq6]; have := Aid.heap_new (w.alloc (.cells #[.slice A t.db.length c, .int .i64 t.many, .int .i64 (rleft t)] 44)) (.cells #[.slice none 0 0, .int .i64 0, .int .i64 0] 44); simpa using this)
  have HQQ := Aside0.mk (show w.heap.size ≤ q3 ∧ w.heap.size ≤ q6 ∧ q3 ≠ q6 from ⟨by omega, by omega, by omega⟩)
  have HB1 := Aside0.mk hb1
  rw [← hw1, ← hq6, ← hq3]
  clear hw1 hq3 hq6 hb1
  have a0 : w1.cell? ⟨q3, 0, none⟩ = some (.slice A t.db.length c) := by rw [cell_of_row _ _ _ _ _ _ HQ3.out]; rfl
  have a1 : w1.cell? ⟨q3, 1, none⟩ = some (.int .i64 t.many) := by rw [cell_of_row _ _ _ _ _ _ HQ3.out]; rfl
  have a2 : w1.cell? ⟨q3, 2, none⟩ = some (.int .i64 (rleft t)) := by rw [cell_of_row _ _ _ _ _ _ HQ3.out]; rfl
  go_wp2_with fail
  refine (HRM.out _ (Kd.C_below HCR.out HB1.out)).mono ?_; rintro e w2 ⟨rfl, hB2⟩
  have HQ3b := Aside0.mk ((hB2.block _ (blk_lt HQ3.out)).trans HQ3.out); have HQ6b := Aside0.mk ((hB2.block _ (blk_lt HQ6.out)).trans HQ6.out)
  have HB2 := Aside0.mk (Aid.bthen HB1.out hB2)
  clear hB2 HRM HQ3 HQ6 HB1 a0 a1 a2
  have a0 : w2.cell? ⟨q3, 0, none⟩ = some (.slice A t.db.length c) := by rw [cell_of_row _ _ _ _ _ _ HQ3b.out]; rfl
  have a1 : w2.cell? ⟨q3, 1, none⟩ = some (.int .i64 t.many) := by rw [cell_of_row _ _ _ _ _ _ HQ3b.out]; rfl
  have a2 : w2.cell? ⟨q3, 2, none⟩ = some (.int .i64 (rleft t)) := by rw [cell_of_row _ _ _ _ _ _ HQ3b.out]; rfl
  have b0 : w2.cell? ⟨q6, 0, none⟩ = some (.slice none 0 0) := by rw [cell_of_row _ _ _ _ _ _ HQ6b.out]; rfl
  have b1 : w2.cell? ⟨q6, 1, none⟩ = some (.int .i64 0) := by rw [cell_of_row _ _ _ _ _ _ HQ6b.out]; rfl
  have b2 : w2.cell? ⟨q6, 2, none⟩ = some (.int .i64 0) := by rw [cell_of_row _ _ _ _ _ _ HQ6b.out]; rfl
  have f0 := blk_frozen HQ6b.out 0
  have f1 := blk_frozen HQ6b.out 1
  have f2 := blk_frozen HQ6b.out 2
  go_wp2_with fail
  obtain ⟨w9, hw9⟩ : ∃ w9, w9 = ((w2.setCell ⟨q6, 0, none⟩ (.slice A t.db.length c)).setCell ⟨q6, 1, none⟩ (.int .i64 t.many)).setCell ⟨q6, 2, none⟩ (.int .i64 (rleft t)) := ⟨_, rfl⟩
  have hz : w9.heap[q6]? = some (.cells #[.slice A t.db.length c, .int .i64 t.many, .int .i64 (rleft t)] 44 (0, 0)) := by rw [hw9]; exact store3 HQ6b.out _ _ _
  have HW9 := Aside0.mk hw9
  rw [← hw9]
  clear hw9 b0 b1 b2 f0 f1 f2 a0 a1 a2
  have z0 : w9.cell? ⟨q6, 0, none⟩ = some (.slice A t.db.length c) := by rw [cell_of_row _ _ _ _ _ _ hz]; rfl
  have z1 : w9.cell? ⟨q6, 1, none⟩ = some (.int .i64 t.many) := by rw [cell_of_row _ _ _ _ _ _ hz]; rfl
  have z2 : w9.cell? ⟨q6, 2, none⟩ = some (.int .i64 (rleft t)) := by rw [cell_of_row _ _ _ _ _ _ hz]; rfl
  (try simp only [Exit.inBlock, Exit.then])
  refine bodyPost_ret (results_ct rfl _ _ q6 44 #[.slice A t.db.length c, .int .i64 t.many, .int .i64 (rleft t)] (0, 0) _ rfl hz Try.underlying44 rfl (by kernel_rfl)) rfl ?_
  refine (show SaveTold w0 w P0 (181, t) _ _ from ?_)
  exact told_end (r := (181, t)) (P := fun k => P0 k ∧ k < w.heap.size) HQ6b.out HQQ.out.2.1 (Nat.le_trans HB.out.size HQQ.out.2.1) (Kd.R_below (Kd.R_mono (Kd.R_bound HO.out) (fun k hk => ⟨hk.1, hk.2.2.1⟩)) HB2.out) (fun k h1 h2 => ⟨.inl h1.1, by have := HQQ.out.2.1; omega⟩) (Kept.of_below HB2.out _) (Aid.bthen HB.out HB2.out) HW9.out
/-- The blocks in which the disk that is being written may lie. -/
def PW (P0 : Nat → Prop) (w0 w : World) (q3 q6 q11 : Nat) (k : Nat) : Prop := (P0 k ∨ w.heap.size ≤ k) ∧ w0.heap.size ≤ k ∧ k ≠ q3 ∧ k ≠ q6 ∧ k ≠ q11
/-- Between two writes: the three structs, and the disk's bytes. -/
structure Mid (w0 w W : World) (P0 : Nat → Prop) (q3 q6 q11 : Nat) (A : Option Addr) (c : Nat) (t : St) (A5 : Option Addr) (c5 : Nat) (s : St) : Prop where
  h11 : W.heap[q11]? = some (.cells #[.slice A5 s.db.length c5, .int .i64 s.many, .int .i64 (rleft s)] 44 (0, 0))
  h3 : W.heap[q3]? = some (.cells #[.slice A t.db.length c, .int .i64 t.many, .int .i64 (rleft t)] 44 (0, 0))
  h6 : W.heap[q6]? = some (.cells #[.slice none 0 0, .int .i64 0, .int .i64 0] 44 (0, 0))
  own : Kd.R (Kd.int .u8) 5 W w0.heap.size (PW P0 w0 w q3 q6 q11) (.slice A5 s.db.length c5) s.db
  low : Below w0.heap.size w0 W
  kept : Kept w W (fun k => P0 k)
  ne : (w.heap.size ≤ q3 ∧ w.heap.size ≤ q6 ∧ w.heap.size ≤ q11) ∧ q3 ≠ q6 ∧ q11 ≠ q3 ∧ q11 ≠ q6
theorem Mid.of_set {w0 w W : World} {P0 : Nat → Prop} {q3 q6 q11 : Nat} {A : Option Addr} {c : Nat} {t : St} {A5 : Option Addr} {c5 : Nat} {s : St} {x0 x1 x2 : Value} (hle : w0.heap.size ≤ w.heap.size)
    (h11 : W.heap[q11]? = some (.cells #[x0, x1, x2] 44 (0, 0)))
    (h3 : W.heap[q3]? = some (.cells #[.slice A t.db.length c, .int .i64 t.many, .int .i64 (rleft t)] 44 (0, 0)))
    (h6 : W.heap[q6]? = some (.cells #[.slice none 0 0, .int .i64 0, .int .i64 0] 44 (0, 0)))
    (own : Kd.R (Kd.int .u8) 5 W w0.heap.size (PW P0 w0 w q3 q6 q11) (.slice A5 s.db.length c5) s.db)
    (low : Below w0.heap.size w0 W) (kept : Kept w W (fun k => P0 k))
    (ne : (w.heap.size ≤ q3 ∧ w.heap.size ≤ q6 ∧ w.heap.size ≤ q11) ∧ q3 ≠ q6 ∧ q11 ≠ q3 ∧ q11 ≠ q6) :
    Mid w0 w (((W.setCell ⟨q11, 0, none⟩ (.slice A5 s.db.length c5)).setCell ⟨q11, 1, none⟩ (.int .i64 s.many)).setCell ⟨q11, 2, none⟩ (.int .i64 (rleft s))) P0 q3 q6 q11 A c t A5 c5 s := by
  have hk := set3_kept (W := W) (q := q11) (.slice A5 s.db.length c5) (.int .i64 s.many) (.int .i64 (rleft s))
  have hq : w0.heap.size ≤ q11 := Nat.le_trans hle ne.1.2.2
  refine ⟨store3 h11 _ _ _, (hk.2 _ (blk_lt h3) (fun e => ne.2.2.1 e.symm)).trans h3, (hk.2 _ (blk_lt h6) (fun e => ne.2.2.2 e.symm)).trans h6, Kd.R_kept own hk (fun k h e => h.2.2.2.2 e), ?_, kept.then_ hk (fun k e => by subst e; exact .inr ne.1.2.2), ne⟩
  exact ((low.setCell (p := ⟨q11, 0, none⟩) hq _).setCell (p := ⟨q11, 1, none⟩) hq _).setCell (p := ⟨q11, 2, none⟩) hq _
theorem Mid.of_alloc {w0 w W : World} {P0 : Nat → Prop} {q3 q6 : Nat} {A : Option Addr} {c : Nat} {t : St} {A5 : Option Addr} {c5 : Nat} {s : St} {P : Nat → Prop}
    (h3 : W.heap[q3]? = some (.cells #[.slice A t.db.length c, .int .i64 t.many, .int .i64 (rleft t)] 44 (0, 0)))
    (h6 : W.heap[q6]? = some (.cells #[.slice none 0 0, .int .i64 0, .int .i64 0] 44 (0, 0)))
    (own : Kd.R (Kd.int .u8) 5 W w0.heap.size P (.slice A5 s.db.length c5) s.db) (hP : ∀ k, P k → (P0 k ∨ w.heap.size ≤ k) ∧ k ≠ q3 ∧ k ≠ q6)
    (low : Below w0.heap.size w0 W) (kept : Kept w W (fun k => P0 k)) (ne : (w.heap.size ≤ q3 ∧ w.heap.size ≤ q6) ∧ q3 ≠ q6) :
    Mid w0 w (W.alloc (.cells #[.slice A5 s.db.length c5, .int .i64 s.many, .int .i64 (rleft s)] 44)) P0 q3 q6 W.heap.size A c t A5 c5 s := by
  have hb := (Below.refl W.heap.size W).alloc (Nat.le_refl _) (.cells #[.slice A5 s.db.length c5, .int .i64 s.many, .int .i64 (rleft s)] 44)
  have l3 := blk_lt h3
  have l6 := blk_lt h6
  refine ⟨Aid.heap_new W _, (hb.block _ l3).trans h3, (hb.block _ l6).trans h6, ?_, Aid.bthen low hb, kept.below hb, ⟨⟨ne.1.1, ne.1.2, kept.1⟩, ne.2, by omega, by omega⟩⟩
  exact Kd.R_below (Kd.R_mono (Kd.R_bound own) (fun k hk => ⟨(hP k hk.1).1, hk.2.1, (hP k hk.1).2.1, (hP k hk.1).2.2, by have := hk.2.2.1; omega⟩)) hb
theorem Mid.below {w0 w W W' : World} {P0 : Nat → Prop} {q3 q6 q11 : Nat} {A : Option Addr} {c : Nat} {t : St} {A5 : Option Addr} {c5 : Nat} {s : St} (h : Mid w0 w W P0 q3 q6 q11 A c t A5 c5 s) (hb : Below W.heap.size W W') : Mid w0 w W' P0 q3 q6 q11 A c t A5 c5 s :=
  ⟨(hb.block _ (blk_lt h.h11)).trans h.h11, (hb.block _ (blk_lt h.h3)).trans h.h3, (hb.block _ (blk_lt h.h6)).trans h.h6, Kd.R_below h.own hb, Aid.bthen h.low hb, h.kept.below hb, h.ne⟩
theorem Mid.c0 {w0 w W : World} {P0 : Nat → Prop} {q3 q6 q11 : Nat} {A : Option Addr} {c : Nat} {t : St} {A5 : Option Addr} {c5 : Nat} {s : St} (h : Mid w0 w W P0 q3 q6 q11 A c t A5 c5 s) :
    (W.cell? ⟨q11, 0, none⟩ = some (.slice A5 s.db.length c5) ∧ W.cell? ⟨q11, 1, none⟩ = some (.int .i64 s.many) ∧ W.cell? ⟨q11, 2, none⟩ = some (.int .i64 (rleft s))) ∧
    (W.cell? ⟨q3, 0, none⟩ = some (.slice A t.db.length c) ∧ W.cell? ⟨q3, 1, none⟩ = some (.int .i64 t.many) ∧ W.cell? ⟨q3, 2, none⟩ = some (.int .i64 (rleft t))) ∧
    (W.cell? ⟨q6, 0, none⟩ = some (.slice none 0 0) ∧ W.cell? ⟨q6, 1, none⟩ = some (.int .i64 0) ∧ W.cell? ⟨q6, 2, none⟩ = some (.int .i64 0)) := by
  refine ⟨⟨?_, ?_, ?_⟩, ⟨?_, ?_, ?_⟩, ⟨?_, ?_, ?_⟩⟩
  · rw [cell_of_row _ _ _ _ _ _ h.h11]; rfl
  · rw [cell_of_row _ _ _ _ _ _ h.h11]; rfl
  · rw [cell_of_row _ _ _ _ _ _ h.h11]; rfl
  · rw [cell_of_row _ _ _ _ _ _ h.h3]; rfl
  · rw [cell_of_row _ _ _ _ _ _ h.h3]; rfl
  · rw [cell_of_row _ _ _ _ _ _ h.h3]; rfl
  · rw [cell_of_row _ _ _ _ _ _ h.h6]; rfl
  · rw [cell_of_row _ _ _ _ _ _ h.h6]; rfl
  · rw [cell_of_row _ _ _ _ _ _ h.h6]; rfl
/-- What Write leaves, beside the structs. -/
theorem Mid.set {w0 w W w5 : World} {P0 P : Nat → Prop} {q3 q6 q11 : Nat} {A : Option Addr} {c : Nat} {t : St} {A5 A6 : Option Addr} {c5 c6 : Nat} {s s' : St} (hle : w0.heap.size ≤ w.heap.size) (h : Mid w0 w W P0 q3 q6 q11 A c t A5 c5 s)
    (hP : ∀ k, P k → PW P0 w0 w q3 q6 q11 k) (hR : Kd.R (Kd.int .u8) 5 w5 w0.heap.size (fun k => P k ∨ W.heap.size ≤ k) (.slice A6 s'.db.length c6) s'.db) (hB : Below w0.heap.size w0 w5) (hK : Kept W w5 (fun k => P k)) :
    Mid w0 w (((w5.setCell ⟨q11, 0, none⟩ (.slice A6 s'.db.length c6)).setCell ⟨q11, 1, none⟩ (.int .i64 s'.many)).setCell ⟨q11, 2, none⟩ (.int .i64 (rleft s'))) P0 q3 q6 q11 A c t A6 c6 s' := by
  have l11 := blk_lt h.h11
  have l3 := blk_lt h.h3
  have l6 := blk_lt h.h6
  have hks := h.kept.1
  refine Mid.of_set hle (blk_kept h.h11 hK (fun hp => (hP _ hp).2.2.2.2 rfl)) (blk_kept h.h3 hK (fun hp => (hP _ hp).2.2.1 rfl)) (blk_kept h.h6 hK (fun hp => (hP _ hp).2.2.2.1 rfl)) (Kd.R_mono (Kd.R_bound hR) (fun k hk => ?_)) hB (h.kept.then_ hK (fun k hp => (hP k hp).1)) h.ne
  rcases hk.1 with h1 | h1
  · exact hP k h1
  · exact ⟨.inr (Nat.le_trans hks h1), hk.2.1, by omega, by omega, by omega⟩
theorem chunk_data (num : Nat) (data : List Int) (k : Nat) : chunk (Ref.framel num data) (k + 1) = chunk data k := by
  unfold chunk Ref.framel
  have h : (Ref.headl num data ++ Crc.putl (Crc.cmore (Crc.cmore 0 (Ref.headl num data)) data) 4).length = 16 := by simp [Ref.headl_length, Crc.putl_length]
  rw [List.drop_append, List.drop_eq_nil_of_le (by rw [h]; omega), h, List.nil_append, show (k + 1) * 16 - 16 = k * 16 by omega]
end Slots
end Disk
end Go.Proofs.Ytbjjpckldjjcgaa
