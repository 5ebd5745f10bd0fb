/- The law DiskAll: its walk (printed by genM.py). -/
import Derived.Test.YtphgoiepoojikaaM0
import Derived.Test.YtphgoiepoojikaaJ
import Derived.Test.YtphgoiepoojikaaU
namespace Go.Proofs.Ytphgoiepoojikaa
open Go.RowKit Go.Proofs.YtphgoiepoojikaaW.PrintWords Go.Proofs.YtphgoiepoojikaaW.PrintLast Go.Proofs.YtphgoiepoojikaaW.PrintMore Go.Proofs.Ytphgoiepoojikaa.PK
set_option linter.unusedVariables false
set_option linter.unusedSimpArgs false
set_option maxHeartbeats 8000000
set_option maxRecDepth 100000
namespace Disk

/-- The document's disk in block q. -/
def Ref (W : World) (q : Nat) (A : Option Addr) (c : Nat) (s : St) : Prop := W.heap[q]? = some (.cells #[.slice A s.db.length c, .int .i64 s.many, .int .i64 (rleft s)] 30 (0, 0))
def St.right (s : St) : Prop := s.cut = true → 0 ≤ s.left
theorem right_write {n : Nat} {s : St} (h : s.right) (k : Int) (l : List Int) : (s.write n k l).2.right := by
  unfold St.write St.right at *
  split
  · exact h
  · split
    · exact h
    · rename_i h1 h2
      intro hc
      have h3 := h hc
      have h4 : s.left ≠ 0 := fun e => h2 (by unfold St.down; rw [show s.cut = true from hc, e]; rfl)
      show 0 ≤ s.left - 1
      omega
theorem right_cut (s : St) (k : Int) : (s.cutAt k).right := fun _ => by show 0 ≤ max 0 k; omega
theorem right_up (s : St) : s.up.right := fun h => by cases h
theorem right_down {s : St} (h : s.right) : (s.cut && decide (s.left ≤ 0)) = (rleft s == 0) := by
  unfold rleft
  cases hc : s.cut
  · rfl
  · have h3 : 0 ≤ s.left := h hc
    by_cases e : s.left = 0
    · simp [e]
    · have h4 : ¬ s.left ≤ 0 := by omega
      simp [e, h4]
theorem write_len {n : Nat} {s : St} (hn : s.db.length = 16 * n) (k : Int) (l : List Int) : (s.write n k l).2.db.length = 16 * n := by
  unfold St.write
  by_cases h1 : ¬ (0 ≤ k ∧ k < (n : Int)) ∨ 16 < l.length
  · rw [if_pos h1]; exact hn
  · rw [if_neg h1]
    split
    · exact hn
    · have h3 : 0 ≤ k ∧ k < (n : Int) := Classical.byContradiction (fun hh => h1 (.inl hh))
      exact put_len hn (by omega) (by rcases Nat.lt_or_ge 16 l.length with hh | hh; exact absurd (.inr hh) h1; exact hh)
theorem LawSameT {w : World} {g b n : Nat} {s : St} (h : AtS w g b n s) (A : Option Addr) (c : Nat) (hr : Kd.C (Kd.int .u8) w A s.db.length s.db) (hc : s.db.length ≤ c) (hd : s.right) :
    Calls Try.prog 11 #[.pointer (some ⟨g, 0, none⟩), .agg #[.slice A s.db.length c, .int .i64 s.many, .int .i64 (rleft s)]] w fun e w' => e = .returned (.bool true) ∧ Below w.heap.size w w' :=
  LawSame h A c (rleft s) hr hc (right_down hd)
theorem SameSelf (A0 : Option Addr) (c0 : Nat) (A1 : Option Addr) (c1 : Nat) (l : List Int) (w : World) (hr0 : Kd.C (Kd.int .u8) w A0 l.length l) (hc0 : l.length ≤ c0) (hr1 : Kd.C (Kd.int .u8) w A1 l.length l) (hc1 : l.length ≤ c1) (hm : l.length ≤ 16) :
    Calls Try.prog 22 #[.slice A0 l.length c0, .slice A1 l.length c1] w fun e w' => e = .returned (.bool true) ∧ Below w.heap.size w w' :=
  (SameRows A0 l.length c0 A1 l.length c1 l w rfl rfl hr0 hc0 hr1 hc1 (by omega)).mono fun e w' h => ⟨h.1, h.2.below⟩
/-- What the loop knows of a world. -/
structure Now (w W : World) (g b q n : Nat) (A : Option Addr) (c : Nat) (s : St) : Prop where
  at_ : AtS W g b n s
  ref : Ref W q A c s
  own : Kd.R (Kd.int .u8) 5 W w.heap.size (fun k => k ≠ g ∧ k ≠ b ∧ k ≠ q) (.slice A s.db.length c) s.db
  low : Below w.heap.size w W
  rt : s.right
theorem Only.kept {g b : Nat} {w w' : World} (h : Only g b w w') : Kept w w' (fun k => k = g ∨ k = b) := ⟨h.size, fun i hi hn => h.keep i hi (fun e => hn (.inl e)) (fun e => hn (.inr e))⟩
def Dist (w : World) (g b q : Nat) : Prop := w.heap.size ≤ g ∧ w.heap.size ≤ b ∧ w.heap.size ≤ q ∧ g ≠ q ∧ b ≠ q
theorem Now.below {w W W' : World} {g b q n : Nat} {A : Option Addr} {c : Nat} {s : St} (h : Now w W g b q n A c s) (hb : Below W.heap.size W W') : Now w W' g b q n A c s :=
  ⟨AtS.below h.at_ hb, (hb.block _ (blk_lt h.ref)).trans h.ref, Kd.R_kept h.own (Kept.of_below hb (fun _ => False)) (fun _ _ hf => hf), Aid.bthen h.low hb, h.rt⟩

theorem store3 {W : World} {q : Nat} {x0 x1 x2 : Value} (h : W.heap[q]? = some (.cells #[x0, x1, x2] 30 (0, 0))) (v0 v1 v2 : Value) :
    (((W.setCell ⟨q, 0, none⟩ v0).setCell ⟨q, 1, none⟩ v1).setCell ⟨q, 2, none⟩ v2).heap[q]? = some (.cells #[v0, v1, v2] 30 (0, 0)) :=
  heap_setCell_same _ q 2 _ 30 _ (heap_setCell_same _ q 1 _ 30 _ (heap_setCell_same W q 0 _ 30 _ h))
theorem Half.store {w W7 W8 : World} {g b q n : Nat} {A8 : Option Addr} {c8 : Nat} {s t : St} {x0 x1 x2 : Value} {Px : Nat → Prop} (ha : AtS W8 g b n s) (hq : W8.heap[q]? = some (.cells #[x0, x1, x2] 30 (0, 0)))
    (hr : Kd.R (Kd.int .u8) 5 W8 w.heap.size (fun k => (k ≠ g ∧ k ≠ b ∧ k ≠ q ∧ Px k) ∨ W7.heap.size ≤ k) (.slice A8 t.db.length c8) t.db) (hb : Below w.heap.size w W8) (hd : Dist w g b q) (hl : g < W7.heap.size ∧ b < W7.heap.size ∧ q < W7.heap.size) {W : World}
    (hW : W = (((W8.setCell ⟨q, 0, none⟩ (.slice A8 t.db.length c8)).setCell ⟨q, 1, none⟩ (.int .i64 t.many)).setCell ⟨q, 2, none⟩ (.int .i64 (rleft t)))) :
    AtS W g b n s ∧ Ref W q A8 c8 t ∧ Kd.R (Kd.int .u8) 5 W w.heap.size (fun k => k ≠ g ∧ k ≠ b ∧ k ≠ q) (.slice A8 t.db.length c8) t.db ∧ Below w.heap.size w W := by
  subst hW
  have hk : Kept W8 (((W8.setCell ⟨q, 0, none⟩ (.slice A8 t.db.length c8)).setCell ⟨q, 1, none⟩ (.int .i64 t.many)).setCell ⟨q, 2, none⟩ (.int .i64 (rleft t))) (fun k => k = q) :=
    (((Kept.refl W8 (fun k => k = q)).setCell (p := ⟨q, 0, none⟩) (.inl rfl) _).setCell (p := ⟨q, 1, none⟩) (.inl rfl) _).setCell (p := ⟨q, 2, none⟩) (.inl rfl) _
  obtain ⟨d1, d2, d3, d4, d5⟩ := hd
  refine ⟨At.move (show At W8 g b n s.db s.many s.cut s.left from ha) (hk.2 g (At.lt ha).1 d4) (hk.2 b (At.lt ha).2 d5), store3 hq _ _ _, ?_, ?_⟩
  · exact Kd.R_kept (Kd.R_mono hr (fun k hk => hk.elim (fun h => ⟨h.1, h.2.1, h.2.2.1⟩) (fun h => ⟨by omega, by omega, by omega⟩))) hk (fun k h e => h.2.2 e)
  · exact ((hb.setCell (p := ⟨q, 0, none⟩) d3 _).setCell (p := ⟨q, 1, none⟩) d3 _).setCell (p := ⟨q, 2, none⟩) d3 _
theorem Now.only {w W W' : World} {g b q n : Nat} {A : Option Addr} {c : Nat} {s t : St} (h : AtS W g b n s ∧ Ref W q A c t ∧ Kd.R (Kd.int .u8) 5 W w.heap.size (fun k => k ≠ g ∧ k ≠ b ∧ k ≠ q) (.slice A t.db.length c) t.db ∧ Below w.heap.size w W)
    (ha : AtS W' g b n t) (ho : Only g b W W') (hd : Dist w g b q) (ht : t.right) : Now w W' g b q n A c t :=
  ⟨ha, (ho.keep _ (blk_lt h.2.1) hd.2.2.2.1.symm hd.2.2.2.2.symm).trans h.2.1, Kd.R_kept h.2.2.1 ho.kept (fun k hk hn => hn.elim hk.1 hk.2.1), h.2.2.2.trans (ho.low _ hd.1 hd.2.1 h.2.2.2.size), ht⟩
theorem Now.store {w W7 W8 : World} {g b q n : Nat} {A8 : Option Addr} {c8 : Nat} {t : St} {x0 x1 x2 : Value} {Px : Nat → Prop} (ha : AtS W8 g b n t) (hq : W8.heap[q]? = some (.cells #[x0, x1, x2] 30 (0, 0)))
    (hr : Kd.R (Kd.int .u8) 5 W8 w.heap.size (fun k => (k ≠ g ∧ k ≠ b ∧ k ≠ q ∧ Px k) ∨ W7.heap.size ≤ k) (.slice A8 t.db.length c8) t.db) (hb : Below w.heap.size w W8) (hd : Dist w g b q) (hl : g < W7.heap.size ∧ b < W7.heap.size ∧ q < W7.heap.size) (ht : t.right) :
    Now w (((W8.setCell ⟨q, 0, none⟩ (.slice A8 t.db.length c8)).setCell ⟨q, 1, none⟩ (.int .i64 t.many)).setCell ⟨q, 2, none⟩ (.int .i64 (rleft t))) g b q n A8 c8 t := by
  have hk : Kept W8 (((W8.setCell ⟨q, 0, none⟩ (.slice A8 t.db.length c8)).setCell ⟨q, 1, none⟩ (.int .i64 t.many)).setCell ⟨q, 2, none⟩ (.int .i64 (rleft t))) (fun k => k = q) :=
    (((Kept.refl W8 (fun k => k = q)).setCell (p := ⟨q, 0, none⟩) (.inl rfl) _).setCell (p := ⟨q, 1, none⟩) (.inl rfl) _).setCell (p := ⟨q, 2, none⟩) (.inl rfl) _
  obtain ⟨d1, d2, d3, d4, d5⟩ := hd
  refine ⟨At.move (show At W8 g b n t.db t.many t.cut t.left from ha) (hk.2 g (At.lt ha).1 d4) (hk.2 b (At.lt ha).2 d5), store3 hq _ _ _, ?_, ?_, ht⟩
  · exact Kd.R_kept (Kd.R_mono hr (fun k hk => hk.elim (fun h => ⟨h.1, h.2.1, h.2.2.1⟩) (fun h => ⟨by omega, by omega, by omega⟩))) hk (fun k h e => h.2.2 e)
  · exact ((hb.setCell (p := ⟨q, 0, none⟩) d3 _).setCell (p := ⟨q, 1, none⟩) d3 _).setCell (p := ⟨q, 2, none⟩) d3 _

theorem ref_cut (l : List Int) (a b k : Int) : redressref17_Cut.f l a b k = some (l, a, max 0 k) := by
  unfold redressref17_Cut.f
  by_cases h : k < 0
  · rw [if_pos h, show max 0 k = 0 by omega]
  · rw [if_neg h, show max 0 k = k by omega]
def redresslaw17_DiskAll.f (l0 : List Int) (l1 : List S38) : Option Bool := some true
theorem DiskAll (A0 : Option Addr) (c0 : Nat) (l0 : List Int) (A1 : Option Addr) (c1 : Nat) (l1 : List S38) (w : World) (hr0 : Kd.C (Kd.int .u8) w A0 l0.length l0) (hc0 : l0.length ≤ c0) (hr1 : Kd.C k38 w A1 l1.length l1) (hc1 : l1.length ≤ c1) (hm : l1.length ≤ 9223372036854775807) (hw : ∀ j : Nat, j < l1.length → (rd_T38 l1 (j : Int)).f1 ≤ 9223372036854775807) :
    Calls Try.prog 4 #[.slice A0 l0.length c0, .slice A1 l1.length c1] w fun e w' => e = .returned (.bool true) ∧ Below w.heap.size w w' := by
  have HR := Aside0.mk hr0; clear hr0
  have HL := Aside0.mk hr1; clear hr1
  have FW := Aside0.mk (Few A0 c0 l0 A1 l1.length c1 l1 w rfl HR.out hc0 HL.out hc1 hm)
  by_cases hrt : ¬ right l0
  · have RT := Aside0.mk (fun W => RightF l0 hrt W)
    clear hrt
    go_enter Try.func4, Try.ntmps4
    go_wp2_with fail
    refine FW.out.mono ?_; rintro e w1 ⟨r, rfl, _, hB⟩
    have HB := Aside0.mk hB; clear hB
    cases r
    · go_wp2_with fail
      refine (alive _).mono ?_; rintro e w2 ⟨rfl, h2⟩
      have HB2 := Aside0.mk (Aid.bthen HB.out h2); clear h2
      go_wp2_with fail
      go_ret
      exact ⟨rfl, HB2.out⟩
    · go_wp2_with fail
      refine (RT.out _).mono ?_; rintro e w2 ⟨rfl, ⟨m2, rfl⟩⟩
      go_wp2_with fail
      refine (alive _).mono ?_; rintro e w3 ⟨rfl, h2⟩
      have HB2 := Aside0.mk (Aid.bthen (pw_below_drewN HB.out m2) h2); clear h2
      go_wp2_with fail
      go_ret
      exact ⟨rfl, HB2.out⟩
  have hrt : right l0 := Classical.byContradiction hrt
  have RT := Aside0.mk (fun W => RightT l0 hrt W)
  obtain ⟨n, hn⟩ : ∃ n, l0.length = 16 * n := ⟨l0.length / 16, by have := hrt.2.2; omega⟩
  have HN := Aside0.mk hn
  have h1n : 1 ≤ n := by have := hrt.1; omega
  have h2n : n ≤ 1024 := by have := hrt.2.1; omega
  obtain ⟨ad, rfl⟩ : ∃ ad, A0 = some ad := by
    obtain ⟨x, h, _⟩ := HR.out.2.2 (by have := hrt.1; omega)
    exact ⟨x, h⟩
  clear hn hrt
  go_enter Try.func4, Try.ntmps4
  go_wp2_with fail
  refine FW.out.mono ?_; rintro e w1 ⟨r, rfl, hfew, hB⟩
  have HB := Aside0.mk hB; clear hB
  cases r
  · clear hfew
    go_wp2_with fail
    refine (alive _).mono ?_; rintro e w2 ⟨rfl, h2⟩
    have HB2 := Aside0.mk (Aid.bthen HB.out h2); clear h2
    go_wp2_with fail
    go_ret
    exact ⟨rfl, HB2.out⟩
  have L50 := Aside0.mk (hfew rfl).2
  clear hfew
  go_wp2_with fail
  refine (RT.out _).mono ?_; rintro e w2 ⟨rfl, ⟨m2, rfl⟩⟩
  go_wp2_with fail
  refine (Load.ok ad c0 n l0 _ (Kd.C_below HR.out (pw_below_drewN HB.out m2)) hc0 HN.out h1n h2n).mono ?_
  rintro e w3 ⟨g, b, rfl, hA, hg, hb, hB3⟩
  have HA := Aside0.mk hA
  have HB3 := Aside0.mk (Aid.bthen (pw_below_drewN HB.out m2) hB3)
  have HG := Aside0.mk (show w.heap.size ≤ g ∧ w.heap.size ≤ b from ⟨Nat.le_trans HB.out.size hg, Nat.le_trans HB.out.size hb⟩)
  clear hA hB3 hg hb HB
  have L84 : l0.length ≤ 16384 := by have := HN.out; omega
  go_wp2_with fail
  refine (RefNew _ l0.length c0 l0 w3 rfl (Kd.C_below HR.out HB3.out) hc0 (by omega)).mono ?_
  rintro e w4 ⟨v4, rfl, hR4, hB4⟩
  obtain ⟨A4, c4, rfl, hc4, hC4⟩ := Kd.R_reads hR4
  have HNW := Aside0.mk (show Now w (w4.alloc (Obj.cells #[.slice A4 l0.length c4, .int .i64 0, .int .i64 (-1)] 30)) g b w4.heap.size n A4 c4 ⟨l0, 0, false, 0⟩ from by
    have hlt := HA.out.lt
    refine ⟨At.below (HA.out.below hB4) ((Below.refl _ _).alloc (Nat.le_refl _) _), heap_alloc_last w4 _, ?_, ?_, fun h => by cases h⟩
    · have h1 := Kd.R_bound hR4
      have h2 := Kd.R_move h1 (fun k hk => Below.heap_alloc w4 (Obj.cells #[.slice A4 l0.length c4, .int .i64 0, .int .i64 (-1)] 30) k hk.2.2.1)
      exact Kd.R_lower (Kd.R_mono h2 (fun k hk => ⟨by omega, by omega, by omega⟩)) HB3.out.size
    · exact (Aid.bthen HB3.out hB4).alloc (Aid.bthen HB3.out hB4).size _)
  have HD := Aside0.mk (show Dist w g b w4.heap.size from by
    have hlt := HA.out.lt
    have := hB4.size
    have := HG.out
    have := HB3.out.size
    refine ⟨by omega, by omega, by omega, by omega, by omega⟩)
  clear hR4 hB4 hC4 HA HB3 L84
  go_wp2_with fail
  obtain ⟨q, hq⟩ : ∃ q, q = w4.heap.size := ⟨_, rfl⟩
  obtain ⟨w5, hw5⟩ : ∃ w5, w5 = w4.alloc (Obj.cells #[.slice A4 l0.length c4, .int .i64 0, .int .i64 (-1)] 30) := ⟨_, rfl⟩
  rw [← hw5, ← hq] at HNW ⊢
  rw [← hq] at HD
  clear hq hw5
  go_loopg [38] (l1.length + 1) (fun kq v38 w' => ∃ (j : Nat) (s : St) (A : Option Addr) (c : Nat), v38 = .int .i64 (j : Int) ∧ Aside0 (kq + j = l1.length + 1 ∧ j ≤ l1.length) ∧ Aside0 (Now w w' g b q n A c s) ∧ Aside0 (s.ok j) ∧ Aside0 (s.db.length ≤ c))
  case atStart => exact ⟨0, _, A4, c4, rfl, ⟨by omega, by omega⟩, HNW, ⟨st0_ok l0 false 0 0 (by omega) (by omega)⟩, ⟨hc4⟩⟩
  case round =>
    clear HNW hc4
    obtain ⟨j, s, A, c, rfl, HK, HNW, HOK, HCS⟩ := hrel
    cases gk with
    | zero => exact absurd HK.out (by omega)
    | succ k1 =>
      by_cases hj : j < l1.length
      · have c14 : decide ((j : Int) < (l1.length : Int)) = true := decide_eq_true (by omega)
        have p0 : (0 : Int) ≤ (j : Int) := by omega
        have q0 : (j : Int) < (l1.length : Int) := by omega
        obtain ⟨ad1, A7, c7, e7, x0, x1, x2, hc7, hC7⟩ := at_T38 HL.out (j : Int) p0 q0
        cases e7
        simp only [Int.toNat_natCast] at x0 x1 x2
        obtain ⟨o, ho⟩ : ∃ o, o = rd_T38 l1 (j : Int) := ⟨_, rfl⟩
        rw [← ho] at x0 x1 x2 hc7 hC7
        have HW := Aside0.mk (hw j hj); rw [← ho] at HW
        replace x0 := (HNW.out.low.cell (World.block_lt_of_cell? w _ x0)).trans x0
        replace x1 := (HNW.out.low.cell (World.block_lt_of_cell? w _ x1)).trans x1
        replace x2 := (HNW.out.low.cell (World.block_lt_of_cell? w _ x2)).trans x2
        have HC7 := Aside0.mk hC7
        clear ho hC7
        go_upto_region 10 with fail
        obtain ⟨w6, hw6⟩ : ∃ w6, w6 = wr.alloc (.cells #[.int .i64 o.f0, .int .i64 o.f1, .slice A7 o.f2.length c7] 38) := ⟨_, rfl⟩
        rw [← hw6]
        have hb6 : Below wr.heap.size wr w6 := by rw [hw6]; exact (Below.refl _ _).alloc (Nat.le_refl _) _
        have hx6 : w6.heap[wr.heap.size]? = some (.cells #[.int .i64 o.f0, .int .i64 o.f1, .slice A7 o.f2.length c7] 38 (0, 0)) := by rw [hw6]; exact heap_alloc_last wr _
        have HXN := Aside0.mk (show wr.heap.size ≠ g ∧ wr.heap.size ≠ b ∧ wr.heap.size ≠ q ∧ w.heap.size ≤ wr.heap.size by have h1 := At.lt HNW.out.at_; have h2 := blk_lt HNW.out.ref; have := HNW.out.low.size; omega)
        have HN6 := Aside0.mk (HNW.out.below hb6)
        have HO6 := Aside0.mk (show Kd.R (Kd.int .u8) 5 w6 w.heap.size (fun k => k ≠ g ∧ k ≠ b ∧ k ≠ q ∧ (k ≠ wr.heap.size ∧ w.heap.size ≤ k)) (.slice A s.db.length c) s.db from
          Kd.R_mono (Kd.R_kept (Kd.R_bound HNW.out.own) (Kept.of_below hb6 (fun _ => False)) (fun _ _ hf => hf)) (fun k hk => ⟨hk.1.1, hk.1.2.1, hk.1.2.2, by have := hk.2.2.1; omega, hk.2.1⟩))
        obtain ⟨x, hx⟩ : ∃ x, x = wr.heap.size := ⟨_, rfl⟩
        rw [← hx] at hx6 HXN HO6 ⊢
        have HX6 := Aside0.mk hx6
        have ej : IntKind.i64.wrap ((j : Int) + 1) = ((j + 1 : Nat) : Int) := by rw [IntKind.wrap_i64]; have := L50.out; omega
        have z0 : w6.cell? ⟨x, 0, none⟩ = some (.int .i64 o.f0) := by rw [cell_of_row _ _ _ _ _ _ HX6.out]; rfl
        have z1 : w6.cell? ⟨x, 1, none⟩ = some (.int .i64 o.f1) := by rw [cell_of_row _ _ _ _ _ _ HX6.out]; rfl
        have z2 : w6.cell? ⟨x, 2, none⟩ = some (.slice A7 o.f2.length c7) := by rw [cell_of_row _ _ _ _ _ _ HX6.out]; rfl
        have r0 : w6.cell? ⟨q, 0, none⟩ = some (.slice A s.db.length c) := by rw [cell_of_row _ _ _ _ _ _ HN6.out.ref]; rfl
        have r1 : w6.cell? ⟨q, 1, none⟩ = some (.int .i64 s.many) := by rw [cell_of_row _ _ _ _ _ _ HN6.out.ref]; rfl
        have r2 : w6.cell? ⟨q, 2, none⟩ = some (.int .i64 (rleft s)) := by rw [cell_of_row _ _ _ _ _ _ HN6.out.ref]; rfl
        clear hb6 hw6 HNW x0 x1 x2 hx hx6
        by_cases k1' : o.f0 = 1
        · have e1 : (o.f0 == 1) = true := by simp [k1']
          clear k1'
          obtain ⟨t, ht⟩ : ∃ t, t = (s.write n o.f1 o.f2).2 := ⟨_, rfl⟩
          obtain ⟨E, hE⟩ : ∃ E, E = (s.write n o.f1 o.f2).1 := ⟨_, rfl⟩
          have rw1 := refWrite n s o.f1 o.f2 21 (by omega) h2n (At.len HN6.out.at_) HN6.out.rt (St.ok_le HOK.out (by have := L50.out; omega))
          rw [← ht, ← hE] at rw1
          have wa1 := fun W (h : AtS W g b n s) hr => WriteAny h o.f1 A7 c7 o.f2 hr hc7 (St.ok_le HOK.out (by have := L50.out; omega))
          rw [← ht, ← hE] at wa1
          have RW := Aside0.mk rw1
          have WA := Aside0.mk wa1
          have HTR := Aside0.mk (show t.right by rw [ht]; exact right_write HN6.out.rt _ _)
          have HTO := Aside0.mk (show t.ok (j + 1) by rw [ht]; exact St.ok_write HOK.out _ _)
          clear ht hE rw1 wa1
          go_wp2_with fail
          refine (redressref17_Write.calls 21 (fun k => k ≠ g ∧ k ≠ b ∧ k ≠ q ∧ (k ≠ x ∧ w.heap.size ≤ k)) (.slice A s.db.length c) s.db s.many (rleft s) o.f1 A7 c7 o.f2 t.db t.many (rleft t) E w w6 HN6.out.low HO6.out (Kd.C_kept_came (Kd.heap_int _) HC7.out HN6.out.low (fun k h => h.2.2.2.2)) hc7 RW.out).mono ?_
          rintro e w8 ⟨v8, rfl, hR8, hB8, hK8⟩
          clear r0 r1 r2 z0 z1 z2
          obtain ⟨A8, c8, rfl, hc8, hC8⟩ := Kd.R_reads hR8
          have hq8 := blk_kept HN6.out.ref hK8 (fun h => h.2.2.1 rfl)
          have HX8 := Aside0.mk (blk_kept HX6.out hK8 (fun h => h.2.2.2.1 rfl))
          have HA8 := Aside0.mk (show AtS w8 g b n s from At.move (show At w6 g b n s.db s.many s.cut s.left from HN6.out.at_) (hK8.2 g (At.lt HN6.out.at_).1 (fun h => h.1 rfl)) (hK8.2 b (At.lt HN6.out.at_).2 (fun h => h.2.1 rfl)))
          have HL7 := Aside0.mk (show g < w6.heap.size ∧ b < w6.heap.size ∧ q < w6.heap.size from ⟨(At.lt HN6.out.at_).1, (At.lt HN6.out.at_).2, blk_lt HN6.out.ref⟩)
          have f0 := blk_frozen hq8 0
          have f1 := blk_frozen hq8 1
          have f2 := blk_frozen hq8 2
          have r0 : w8.cell? ⟨q, 0, none⟩ = some (.slice A s.db.length c) := by rw [cell_of_row _ _ _ _ _ _ hq8]; rfl
          have r1 : w8.cell? ⟨q, 1, none⟩ = some (.int .i64 s.many) := by rw [cell_of_row _ _ _ _ _ _ hq8]; rfl
          have r2 : w8.cell? ⟨q, 2, none⟩ = some (.int .i64 (rleft s)) := by rw [cell_of_row _ _ _ _ _ _ hq8]; rfl
          have HQ8 := Aside0.mk hq8
          clear hq8 f0 f1 f2 r0 r1 r2
          go_upto_region 13 with fail
          obtain ⟨w9, hw9⟩ : ∃ w9, w9 = w8.alloc (Obj.cells #[.slice A8 t.db.length c8, .int .i64 t.many, .int .i64 (rleft t)] 30) := ⟨_, rfl⟩
          rw [← hw9]
          have hb9 : Below w8.heap.size w8 w9 := by rw [hw9]; exact (Below.refl _ _).alloc (Nat.le_refl _) _
          have hv9 : w9.heap[w8.heap.size]? = some (.cells #[.slice A8 t.db.length c8, .int .i64 t.many, .int .i64 (rleft t)] 30 (0, 0)) := by rw [hw9]; exact heap_alloc_last w8 _
          have hq9 := (hb9.block _ (blk_lt HQ8.out)).trans HQ8.out
          have HX9 := Aside0.mk ((hb9.block _ (blk_lt HX8.out)).trans HX8.out)
          have HA9 := Aside0.mk (AtS.below HA8.out hb9)
          have HR9 := Aside0.mk (Kd.R_kept hR8 (Kept.of_below hb9 (fun _ => False)) (fun _ _ hf => hf))
          have HB9 := Aside0.mk (Aid.bthen hB8 hb9)
          have f0 := blk_frozen hq9 0
          have f1 := blk_frozen hq9 1
          have f2 := blk_frozen hq9 2
          have r0 : w9.cell? ⟨q, 0, none⟩ = some (.slice A s.db.length c) := by rw [cell_of_row _ _ _ _ _ _ hq9]; rfl
          have r1 : w9.cell? ⟨q, 1, none⟩ = some (.int .i64 s.many) := by rw [cell_of_row _ _ _ _ _ _ hq9]; rfl
          have r2 : w9.cell? ⟨q, 2, none⟩ = some (.int .i64 (rleft s)) := by rw [cell_of_row _ _ _ _ _ _ hq9]; rfl
          have v0 : w9.cell? ⟨w8.heap.size, 0, none⟩ = some (.slice A8 t.db.length c8) := by rw [cell_of_row _ _ _ _ _ _ hv9]; rfl
          have v1 : w9.cell? ⟨w8.heap.size, 1, none⟩ = some (.int .i64 t.many) := by rw [cell_of_row _ _ _ _ _ _ hv9]; rfl
          have v2 : w9.cell? ⟨w8.heap.size, 2, none⟩ = some (.int .i64 (rleft t)) := by rw [cell_of_row _ _ _ _ _ _ hv9]; rfl
          have HQ9 := Aside0.mk hq9
          have HC8 := Aside0.mk hc8
          clear hR8 hB8 hK8 hC8 HA8 HQ8 HX8 hb9 hv9 hw9 hq9 hc8
          go_upto_region 14 with fail
          obtain ⟨wX, hwX⟩ : ∃ wX, wX = ((w9.setCell ⟨q, 0, none⟩ (.slice A8 t.db.length c8)).setCell ⟨q, 1, none⟩ (.int .i64 t.many)).setCell ⟨q, 2, none⟩ (.int .i64 (rleft t)) := ⟨_, rfl⟩
          rw [← hwX]
          have HHX := Aside0.mk (Half.store (t := t) HA9.out HQ9.out HR9.out HB9.out HD.out HL7.out hwX)
          have HXX := Aside0.mk (show wX.heap[x]? = some (.cells #[.int .i64 o.f0, .int .i64 o.f1, .slice A7 o.f2.length c7] 38 (0, 0)) by rw [hwX]; exact ((heap_setCell_other _ _ _ _ HXN.out.2.2.1).trans ((heap_setCell_other _ _ _ _ HXN.out.2.2.1).trans (heap_setCell_other _ _ _ _ HXN.out.2.2.1))).trans HX9.out)
          have z1 : wX.cell? ⟨x, 1, none⟩ = some (.int .i64 o.f1) := by rw [cell_of_row _ _ _ _ _ _ HXX.out]; rfl
          have z2 : wX.cell? ⟨x, 2, none⟩ = some (.slice A7 o.f2.length c7) := by rw [cell_of_row _ _ _ _ _ _ HXX.out]; rfl
          clear hwX HA9 HQ9 HR9 HB9 HX9 r0 r1 r2 v0 v1 v2 f0 f1 f2 HN6 HX6 HO6
          go_wp2_with fail
          refine (WA.out wX HHX.out.1 (Kd.C_below HC7.out HHX.out.2.2.2)).mono ?_
          rintro e w11 ⟨rfl, hA11, hO11⟩
          have hN11 := Now.only HHX.out hA11 hO11 HD.out HTR.out
          have hX11 := (hO11.keep _ (blk_lt HXX.out) HXN.out.1 HXN.out.2.1).trans HXX.out
          clear z1 z2 hA11 hO11 HHX HXX WA RW HTR
          obtain ⟨wt, hwt⟩ : ∃ wt, wt = w11 := ⟨_, rfl⟩
          rw [← hwt] at hN11 hX11
          obtain ⟨A9, hA9⟩ : ∃ A9, A9 = A8 := ⟨_, rfl⟩
          obtain ⟨c9, hc9⟩ : ∃ c9, c9 = c8 := ⟨_, rfl⟩
          rw [← hA9, ← hc9] at hN11; rw [← hc9] at HC8
          have HN9 := Aside0.mk hN11
          have HX9 := Aside0.mk hX11
          have HOK9 := HTO; have HCS9 := HC8
          rw [← hwt]
          clear hN11 hX11 HTO HC8 hwt hA9 hc9 HOK HCS
          go_upto_region 22 with fail
          have r0 : wt.cell? ⟨q, 0, none⟩ = some (.slice A9 t.db.length c9) := by rw [cell_of_row _ _ _ _ _ _ HN9.out.ref]; rfl
          have r1 : wt.cell? ⟨q, 1, none⟩ = some (.int .i64 t.many) := by rw [cell_of_row _ _ _ _ _ _ HN9.out.ref]; rfl
          have r2 : wt.cell? ⟨q, 2, none⟩ = some (.int .i64 (rleft t)) := by rw [cell_of_row _ _ _ _ _ _ HN9.out.ref]; rfl
          have z1 : wt.cell? ⟨x, 1, none⟩ = some (.int .i64 o.f1) := by rw [cell_of_row _ _ _ _ _ _ HX9.out]; rfl
          have keepS : ∀ W W' : World, (Below wt.heap.size wt W ∧ W.cell? ⟨q, 0, none⟩ = some (.slice A9 t.db.length c9) ∧ W.cell? ⟨q, 1, none⟩ = some (.int .i64 t.many) ∧ W.cell? ⟨q, 2, none⟩ = some (.int .i64 (rleft t)) ∧ W.cell? ⟨x, 1, none⟩ = some (.int .i64 o.f1)) → Below W.heap.size W W' →
              (Below wt.heap.size wt W' ∧ W'.cell? ⟨q, 0, none⟩ = some (.slice A9 t.db.length c9) ∧ W'.cell? ⟨q, 1, none⟩ = some (.int .i64 t.many) ∧ W'.cell? ⟨q, 2, none⟩ = some (.int .i64 (rleft t)) ∧ W'.cell? ⟨x, 1, none⟩ = some (.int .i64 o.f1)) := fun W W' hS hb =>
            ⟨Aid.bthen hS.1 hb, (hb.cell (World.block_lt_of_cell? W _ hS.2.1)).trans hS.2.1, (hb.cell (World.block_lt_of_cell? W _ hS.2.2.1)).trans hS.2.2.1, (hb.cell (World.block_lt_of_cell? W _ hS.2.2.2.1)).trans hS.2.2.2.1, (hb.cell (World.block_lt_of_cell? W _ hS.2.2.2.2)).trans hS.2.2.2.2⟩
          have KS := Aside0.mk keepS; clear keepS
          have hn9 := At.len HN9.out.at_
          obtain ⟨ad9, e9⟩ : ∃ ad9, A9 = some ad9 := by
            obtain ⟨y, h, _⟩ := (Kd.R_reads' HN9.out.own).2.2.2.2 (by omega)
            exact ⟨y, h⟩
          subst e9
          have HN99 := Aside0.mk hn9; clear hn9
          go_region_held3 (fun W => Below wt.heap.size wt W ∧ W.cell? ⟨q, 0, none⟩ = some (.slice (some ad9) t.db.length c9) ∧ W.cell? ⟨q, 1, none⟩ = some (.int .i64 t.many) ∧ W.cell? ⟨q, 2, none⟩ = some (.int .i64 (rleft t)) ∧ W.cell? ⟨x, 1, none⟩ = some (.int .i64 o.f1)) (first | assumption | exact ⟨(Below.refl _ _).drew, r0, r1, r2, z1⟩)
            (first
              | (go_simp; go_at_call 11; have hS_ := ‹Below wt.heap.size wt _ ∧ _›; refine (LawSameT (HN9.out.below hS_.1).at_ (some ad9) c9 (Kd.R_reads' (HN9.out.below hS_.1).own).2.2 HCS9.out HN9.out.rt).mono ?_; rintro e w' ⟨rfl, hB⟩; have hS2_ := KS.out _ _ hS_ hB)
              | (go_simp; go_at_call 23; have hS_ := ‹Below wt.heap.size wt _ ∧ _›; refine (ReadAny (HN9.out.below hS_.1).at_ o.f1).mono ?_; rintro e w' ⟨A23, c23, rfl, hc23, hC23, hB⟩; have hS2_ := KS.out _ _ hS_ hB; have HC23 := Aside0.mk hC23; clear hC23; (first | (have hm24 := Kd.C_below HC24.out hB; clear HC24; have HC24 := Aside0.mk hm24; clear hm24) | skip))
              | (go_simp; go_at_call 24; have hS_ := ‹Below wt.heap.size wt _ ∧ _›; refine (RefReadAny ad9 c9 n t.db t.many (rleft t) (Kd.R_reads' (HN9.out.below hS_.1).own).2.2 HCS9.out HN99.out h2n o.f1).mono ?_; rintro e w' ⟨A24, c24, rfl, hc24, hC24, hB⟩; have hS2_ := KS.out _ _ hS_ hB; have HC24 := Aside0.mk hC24; clear hC24; (first | (have hm23 := Kd.C_below HC23.out hB; clear HC23; have HC23 := Aside0.mk hm23; clear hm23) | skip))
              | (go_simp; go_at_call 22; have hS_ := ‹Below wt.heap.size wt _ ∧ _›; refine (SameSelf A23 c23 A24 c24 (blk n t.db o.f1) _ HC23.out hc23 HC24.out hc24 (blk_le _ _ _)).mono ?_; rintro e w' ⟨rfl, hB⟩; have hS2_ := KS.out _ _ hS_ hB))
          all_goals
            have hS_ := ‹Below wt.heap.size wt _ ∧ _›
            have HF := Aside0.mk (HN9.out.below hS_.1)
            clear hS_ KS r0 r1 r2 z1
            go_wp2_with fail
            go_roundg k1
            case measure => omega
            case rel => exact ⟨j + 1, t, _, c9, by first | (simp; done) | rw [ej], ⟨by have := HK.out; omega, by omega⟩, HF, HOK9, HCS9⟩
        · have e1 : (o.f0 == 1) = false := by simp [k1']
          clear k1'
          by_cases k2' : o.f0 = 2
          · have e2 : (o.f0 == 2) = true := by simp [k2']
            clear k2'
            go_wp2_with fail
            refine (Cut HN6.out.at_ o.f1).mono ?_; rintro e w7 ⟨rfl, hA7, hO7⟩
            clear r0 r1 r2 z0 z1 z2
            have hq7 := (hO7.keep _ (blk_lt HN6.out.ref) HD.out.2.2.2.1.symm HD.out.2.2.2.2.symm).trans HN6.out.ref
            have r0 : w7.cell? ⟨q, 0, none⟩ = some (.slice A s.db.length c) := by rw [cell_of_row _ _ _ _ _ _ hq7]; rfl
            have r1 : w7.cell? ⟨q, 1, none⟩ = some (.int .i64 s.many) := by rw [cell_of_row _ _ _ _ _ _ hq7]; rfl
            have r2 : w7.cell? ⟨q, 2, none⟩ = some (.int .i64 (rleft s)) := by rw [cell_of_row _ _ _ _ _ _ hq7]; rfl
            have HQ7 := Aside0.mk hq7; clear hq7
            have HX7 := Aside0.mk ((hO7.keep _ (blk_lt HX6.out) HXN.out.1 HXN.out.2.1).trans HX6.out)
            have HR7 := Aside0.mk (Kd.R_kept HO6.out hO7.kept (fun k hk hn => hn.elim hk.1 hk.2.1))
            have HL7 := Aside0.mk (show g < w7.heap.size ∧ b < w7.heap.size ∧ q < w7.heap.size from ⟨(At.lt hA7).1, (At.lt hA7).2, blk_lt HQ7.out⟩)
            have HB7 := Aside0.mk (HN6.out.low.trans (hO7.low _ HD.out.1 HD.out.2.1 HN6.out.low.size))
            have HT7 := Aside0.mk HN6.out.rt
            have HA7 := Aside0.mk hA7
            clear hA7 hO7 HN6 HX6 HO6
            have z1 : w7.cell? ⟨x, 1, none⟩ = some (.int .i64 o.f1) := by rw [cell_of_row _ _ _ _ _ _ HX7.out]; rfl
            go_wp2_with fail
            clear z1
            refine (redressref17_Cut.calls (fun k => k ≠ g ∧ k ≠ b ∧ k ≠ q ∧ (k ≠ x ∧ w.heap.size ≤ k)) (.slice A s.db.length c) s.db s.many (rleft s) o.f1 s.db s.many (max 0 o.f1) w w7 HB7.out HR7.out (ref_cut _ _ _ _)).mono ?_
            rintro e w8 ⟨v8, rfl, hR8, hB8, hK8⟩
            clear r0 r1 r2
            obtain ⟨A8, c8, rfl, hc8, hC8⟩ := Kd.R_reads hR8
            have hq8 := blk_kept HQ7.out hK8 (fun h => h.2.2.1 rfl)
            have HA8 := Aside0.mk (show AtS w8 g b n (s.cutAt o.f1) from At.move (show At w7 g b n ((s.cutAt o.f1)).db ((s.cutAt o.f1)).many ((s.cutAt o.f1)).cut ((s.cutAt o.f1)).left from HA7.out) (hK8.2 g (At.lt HA7.out).1 (fun h => h.1 rfl)) (hK8.2 b (At.lt HA7.out).2 (fun h => h.2.1 rfl)))
            have f0 := blk_frozen hq8 0
            have f1 := blk_frozen hq8 1
            have f2 := blk_frozen hq8 2
            have r0 : w8.cell? ⟨q, 0, none⟩ = some (.slice A s.db.length c) := by rw [cell_of_row _ _ _ _ _ _ hq8]; rfl
            have r1 : w8.cell? ⟨q, 1, none⟩ = some (.int .i64 s.many) := by rw [cell_of_row _ _ _ _ _ _ hq8]; rfl
            have r2 : w8.cell? ⟨q, 2, none⟩ = some (.int .i64 (rleft s)) := by rw [cell_of_row _ _ _ _ _ _ hq8]; rfl
            have HX8 := Aside0.mk (blk_kept HX7.out hK8 (fun h => h.2.2.2.1 rfl))
            have HQ8 := Aside0.mk hq8; clear hq8
            go_upto_region 22 with fail
            obtain ⟨wt, hwt⟩ : ∃ wt, wt = ((w8.setCell ⟨q, 0, none⟩ (.slice A8 s.db.length c8)).setCell ⟨q, 1, none⟩ (.int .i64 s.many)).setCell ⟨q, 2, none⟩ (.int .i64 (max 0 o.f1)) := ⟨_, rfl⟩
            rw [← hwt]
            have HN9 := Aside0.mk (show Now w wt g b q n A8 c8 (s.cutAt o.f1) by rw [hwt]; exact Now.store (t := (s.cutAt o.f1)) HA8.out HQ8.out hR8 hB8 HD.out HL7.out (right_cut s o.f1))
            have HX9 := Aside0.mk (show wt.heap[x]? = some (.cells #[.int .i64 o.f0, .int .i64 o.f1, .slice A7 o.f2.length c7] 38 (0, 0)) by rw [hwt]; exact ((heap_setCell_other _ _ _ _ HXN.out.2.2.1).trans ((heap_setCell_other _ _ _ _ HXN.out.2.2.1).trans (heap_setCell_other _ _ _ _ HXN.out.2.2.1))).trans HX8.out)
            have HOK9 := Aside0.mk (show St.ok (s.cutAt o.f1) (j + 1) from St.ok_le (St.ok_cut HOK.out _ HW.out) (by omega))
            have HCS9 := Aside0.mk (show ((s.cutAt o.f1)).db.length ≤ c8 from hc8)
            clear hR8 hB8 hK8 hC8 hc8 HA8 HQ8 HX8 HX7 HQ7 HR7 HB7 HT7 HA7 HL7 HOK HCS r0 r1 r2 f0 f1 f2 hwt
            obtain ⟨t, ht⟩ : ∃ t, t = (s.cutAt o.f1) := ⟨_, rfl⟩
            rw [← ht] at HN9 HOK9 HCS9
            clear ht
            obtain ⟨A9, hA9⟩ : ∃ A9, A9 = A8 := ⟨_, rfl⟩
            obtain ⟨c9, hc9⟩ : ∃ c9, c9 = c8 := ⟨_, rfl⟩
            rw [← hA9, ← hc9] at HN9; rw [← hc9] at HCS9
            clear hA9 hc9
            have r0 : wt.cell? ⟨q, 0, none⟩ = some (.slice A9 t.db.length c9) := by rw [cell_of_row _ _ _ _ _ _ HN9.out.ref]; rfl
            have r1 : wt.cell? ⟨q, 1, none⟩ = some (.int .i64 t.many) := by rw [cell_of_row _ _ _ _ _ _ HN9.out.ref]; rfl
            have r2 : wt.cell? ⟨q, 2, none⟩ = some (.int .i64 (rleft t)) := by rw [cell_of_row _ _ _ _ _ _ HN9.out.ref]; rfl
            have z1 : wt.cell? ⟨x, 1, none⟩ = some (.int .i64 o.f1) := by rw [cell_of_row _ _ _ _ _ _ HX9.out]; rfl
            have keepS : ∀ W W' : World, (Below wt.heap.size wt W ∧ W.cell? ⟨q, 0, none⟩ = some (.slice A9 t.db.length c9) ∧ W.cell? ⟨q, 1, none⟩ = some (.int .i64 t.many) ∧ W.cell? ⟨q, 2, none⟩ = some (.int .i64 (rleft t)) ∧ W.cell? ⟨x, 1, none⟩ = some (.int .i64 o.f1)) → Below W.heap.size W W' →
                (Below wt.heap.size wt W' ∧ W'.cell? ⟨q, 0, none⟩ = some (.slice A9 t.db.length c9) ∧ W'.cell? ⟨q, 1, none⟩ = some (.int .i64 t.many) ∧ W'.cell? ⟨q, 2, none⟩ = some (.int .i64 (rleft t)) ∧ W'.cell? ⟨x, 1, none⟩ = some (.int .i64 o.f1)) := fun W W' hS hb =>
              ⟨Aid.bthen hS.1 hb, (hb.cell (World.block_lt_of_cell? W _ hS.2.1)).trans hS.2.1, (hb.cell (World.block_lt_of_cell? W _ hS.2.2.1)).trans hS.2.2.1, (hb.cell (World.block_lt_of_cell? W _ hS.2.2.2.1)).trans hS.2.2.2.1, (hb.cell (World.block_lt_of_cell? W _ hS.2.2.2.2)).trans hS.2.2.2.2⟩
            have KS := Aside0.mk keepS; clear keepS
            have hn9 := At.len HN9.out.at_
            obtain ⟨ad9, e9⟩ : ∃ ad9, A9 = some ad9 := by
              obtain ⟨y, h, _⟩ := (Kd.R_reads' HN9.out.own).2.2.2.2 (by omega)
              exact ⟨y, h⟩
            subst e9
            have HN99 := Aside0.mk hn9; clear hn9
            go_region_held3 (fun W => Below wt.heap.size wt W ∧ W.cell? ⟨q, 0, none⟩ = some (.slice (some ad9) t.db.length c9) ∧ W.cell? ⟨q, 1, none⟩ = some (.int .i64 t.many) ∧ W.cell? ⟨q, 2, none⟩ = some (.int .i64 (rleft t)) ∧ W.cell? ⟨x, 1, none⟩ = some (.int .i64 o.f1)) (first | assumption | exact ⟨(Below.refl _ _).drew, r0, r1, r2, z1⟩)
              (first
                | (go_simp; go_at_call 11; have hS_ := ‹Below wt.heap.size wt _ ∧ _›; refine (LawSameT (HN9.out.below hS_.1).at_ (some ad9) c9 (Kd.R_reads' (HN9.out.below hS_.1).own).2.2 HCS9.out HN9.out.rt).mono ?_; rintro e w' ⟨rfl, hB⟩; have hS2_ := KS.out _ _ hS_ hB)
                | (go_simp; go_at_call 23; have hS_ := ‹Below wt.heap.size wt _ ∧ _›; refine (ReadAny (HN9.out.below hS_.1).at_ o.f1).mono ?_; rintro e w' ⟨A23, c23, rfl, hc23, hC23, hB⟩; have hS2_ := KS.out _ _ hS_ hB; have HC23 := Aside0.mk hC23; clear hC23; (first | (have hm24 := Kd.C_below HC24.out hB; clear HC24; have HC24 := Aside0.mk hm24; clear hm24) | skip))
                | (go_simp; go_at_call 24; have hS_ := ‹Below wt.heap.size wt _ ∧ _›; refine (RefReadAny ad9 c9 n t.db t.many (rleft t) (Kd.R_reads' (HN9.out.below hS_.1).own).2.2 HCS9.out HN99.out h2n o.f1).mono ?_; rintro e w' ⟨A24, c24, rfl, hc24, hC24, hB⟩; have hS2_ := KS.out _ _ hS_ hB; have HC24 := Aside0.mk hC24; clear hC24; (first | (have hm23 := Kd.C_below HC23.out hB; clear HC23; have HC23 := Aside0.mk hm23; clear hm23) | skip))
                | (go_simp; go_at_call 22; have hS_ := ‹Below wt.heap.size wt _ ∧ _›; refine (SameSelf A23 c23 A24 c24 (blk n t.db o.f1) _ HC23.out hc23 HC24.out hc24 (blk_le _ _ _)).mono ?_; rintro e w' ⟨rfl, hB⟩; have hS2_ := KS.out _ _ hS_ hB))
            all_goals
              have hS_ := ‹Below wt.heap.size wt _ ∧ _›
              have HF := Aside0.mk (HN9.out.below hS_.1)
              clear hS_ KS r0 r1 r2 z1
              go_wp2_with fail
              go_roundg k1
              case measure => omega
              case rel => exact ⟨j + 1, t, _, c9, by first | (simp; done) | rw [ej], ⟨by have := HK.out; omega, by omega⟩, HF, HOK9, HCS9⟩
          · have e2 : (o.f0 == 2) = false := by simp [k2']
            clear k2'
            by_cases k3' : o.f0 = 3
            · have e3 : (o.f0 == 3) = true := by simp [k3']
              clear k3'
              go_wp2_with fail
              refine (Up HN6.out.at_).mono ?_; rintro e w7 ⟨rfl, hA7, hO7⟩
              clear r0 r1 r2 z0 z1 z2
              have hq7 := (hO7.keep _ (blk_lt HN6.out.ref) HD.out.2.2.2.1.symm HD.out.2.2.2.2.symm).trans HN6.out.ref
              have r0 : w7.cell? ⟨q, 0, none⟩ = some (.slice A s.db.length c) := by rw [cell_of_row _ _ _ _ _ _ hq7]; rfl
              have r1 : w7.cell? ⟨q, 1, none⟩ = some (.int .i64 s.many) := by rw [cell_of_row _ _ _ _ _ _ hq7]; rfl
              have r2 : w7.cell? ⟨q, 2, none⟩ = some (.int .i64 (rleft s)) := by rw [cell_of_row _ _ _ _ _ _ hq7]; rfl
              have HQ7 := Aside0.mk hq7; clear hq7
              have HX7 := Aside0.mk ((hO7.keep _ (blk_lt HX6.out) HXN.out.1 HXN.out.2.1).trans HX6.out)
              have HR7 := Aside0.mk (Kd.R_kept HO6.out hO7.kept (fun k hk hn => hn.elim hk.1 hk.2.1))
              have HL7 := Aside0.mk (show g < w7.heap.size ∧ b < w7.heap.size ∧ q < w7.heap.size from ⟨(At.lt hA7).1, (At.lt hA7).2, blk_lt HQ7.out⟩)
              have HB7 := Aside0.mk (HN6.out.low.trans (hO7.low _ HD.out.1 HD.out.2.1 HN6.out.low.size))
              have HT7 := Aside0.mk HN6.out.rt
              have HA7 := Aside0.mk hA7
              clear hA7 hO7 HN6 HX6 HO6
              go_wp2_with fail
              refine (redressref17_Up.calls (fun k => k ≠ g ∧ k ≠ b ∧ k ≠ q ∧ (k ≠ x ∧ w.heap.size ≤ k)) (.slice A s.db.length c) s.db s.many (rleft s) s.db s.many (-1) w w7 HB7.out HR7.out rfl).mono ?_
              rintro e w8 ⟨v8, rfl, hR8, hB8, hK8⟩
              clear r0 r1 r2
              obtain ⟨A8, c8, rfl, hc8, hC8⟩ := Kd.R_reads hR8
              have hq8 := blk_kept HQ7.out hK8 (fun h => h.2.2.1 rfl)
              have HA8 := Aside0.mk (show AtS w8 g b n s.up from At.move (show At w7 g b n (s.up).db (s.up).many (s.up).cut (s.up).left from HA7.out) (hK8.2 g (At.lt HA7.out).1 (fun h => h.1 rfl)) (hK8.2 b (At.lt HA7.out).2 (fun h => h.2.1 rfl)))
              have f0 := blk_frozen hq8 0
              have f1 := blk_frozen hq8 1
              have f2 := blk_frozen hq8 2
              have r0 : w8.cell? ⟨q, 0, none⟩ = some (.slice A s.db.length c) := by rw [cell_of_row _ _ _ _ _ _ hq8]; rfl
              have r1 : w8.cell? ⟨q, 1, none⟩ = some (.int .i64 s.many) := by rw [cell_of_row _ _ _ _ _ _ hq8]; rfl
              have r2 : w8.cell? ⟨q, 2, none⟩ = some (.int .i64 (rleft s)) := by rw [cell_of_row _ _ _ _ _ _ hq8]; rfl
              have HX8 := Aside0.mk (blk_kept HX7.out hK8 (fun h => h.2.2.2.1 rfl))
              have HQ8 := Aside0.mk hq8; clear hq8
              go_upto_region 22 with fail
              obtain ⟨wt, hwt⟩ : ∃ wt, wt = ((w8.setCell ⟨q, 0, none⟩ (.slice A8 s.db.length c8)).setCell ⟨q, 1, none⟩ (.int .i64 s.many)).setCell ⟨q, 2, none⟩ (.int .i64 (-1)) := ⟨_, rfl⟩
              rw [← hwt]
              have HN9 := Aside0.mk (show Now w wt g b q n A8 c8 s.up by rw [hwt]; exact Now.store (t := s.up) HA8.out HQ8.out hR8 hB8 HD.out HL7.out (right_up s))
              have HX9 := Aside0.mk (show wt.heap[x]? = some (.cells #[.int .i64 o.f0, .int .i64 o.f1, .slice A7 o.f2.length c7] 38 (0, 0)) by rw [hwt]; exact ((heap_setCell_other _ _ _ _ HXN.out.2.2.1).trans ((heap_setCell_other _ _ _ _ HXN.out.2.2.1).trans (heap_setCell_other _ _ _ _ HXN.out.2.2.1))).trans HX8.out)
              have HOK9 := Aside0.mk (show St.ok s.up (j + 1) from St.ok_le (St.ok_up HOK.out) (by omega))
              have HCS9 := Aside0.mk (show (s.up).db.length ≤ c8 from hc8)
              clear hR8 hB8 hK8 hC8 hc8 HA8 HQ8 HX8 HX7 HQ7 HR7 HB7 HT7 HA7 HL7 HOK HCS r0 r1 r2 f0 f1 f2 hwt
              obtain ⟨t, ht⟩ : ∃ t, t = s.up := ⟨_, rfl⟩
              rw [← ht] at HN9 HOK9 HCS9
              clear ht
              obtain ⟨A9, hA9⟩ : ∃ A9, A9 = A8 := ⟨_, rfl⟩
              obtain ⟨c9, hc9⟩ : ∃ c9, c9 = c8 := ⟨_, rfl⟩
              rw [← hA9, ← hc9] at HN9; rw [← hc9] at HCS9
              clear hA9 hc9
              have r0 : wt.cell? ⟨q, 0, none⟩ = some (.slice A9 t.db.length c9) := by rw [cell_of_row _ _ _ _ _ _ HN9.out.ref]; rfl
              have r1 : wt.cell? ⟨q, 1, none⟩ = some (.int .i64 t.many) := by rw [cell_of_row _ _ _ _ _ _ HN9.out.ref]; rfl
              have r2 : wt.cell? ⟨q, 2, none⟩ = some (.int .i64 (rleft t)) := by rw [cell_of_row _ _ _ _ _ _ HN9.out.ref]; rfl
              have z1 : wt.cell? ⟨x, 1, none⟩ = some (.int .i64 o.f1) := by rw [cell_of_row _ _ _ _ _ _ HX9.out]; rfl
              have keepS : ∀ W W' : World, (Below wt.heap.size wt W ∧ W.cell? ⟨q, 0, none⟩ = some (.slice A9 t.db.length c9) ∧ W.cell? ⟨q, 1, none⟩ = some (.int .i64 t.many) ∧ W.cell? ⟨q, 2, none⟩ = some (.int .i64 (rleft t)) ∧ W.cell? ⟨x, 1, none⟩ = some (.int .i64 o.f1)) → Below W.heap.size W W' →
                  (Below wt.heap.size wt W' ∧ W'.cell? ⟨q, 0, none⟩ = some (.slice A9 t.db.length c9) ∧ W'.cell? ⟨q, 1, none⟩ = some (.int .i64 t.many) ∧ W'.cell? ⟨q, 2, none⟩ = some (.int .i64 (rleft t)) ∧ W'.cell? ⟨x, 1, none⟩ = some (.int .i64 o.f1)) := fun W W' hS hb =>
                ⟨Aid.bthen hS.1 hb, (hb.cell (World.block_lt_of_cell? W _ hS.2.1)).trans hS.2.1, (hb.cell (World.block_lt_of_cell? W _ hS.2.2.1)).trans hS.2.2.1, (hb.cell (World.block_lt_of_cell? W _ hS.2.2.2.1)).trans hS.2.2.2.1, (hb.cell (World.block_lt_of_cell? W _ hS.2.2.2.2)).trans hS.2.2.2.2⟩
              have KS := Aside0.mk keepS; clear keepS
              have hn9 := At.len HN9.out.at_
              obtain ⟨ad9, e9⟩ : ∃ ad9, A9 = some ad9 := by
                obtain ⟨y, h, _⟩ := (Kd.R_reads' HN9.out.own).2.2.2.2 (by omega)
                exact ⟨y, h⟩
              subst e9
              have HN99 := Aside0.mk hn9; clear hn9
              go_region_held3 (fun W => Below wt.heap.size wt W ∧ W.cell? ⟨q, 0, none⟩ = some (.slice (some ad9) t.db.length c9) ∧ W.cell? ⟨q, 1, none⟩ = some (.int .i64 t.many) ∧ W.cell? ⟨q, 2, none⟩ = some (.int .i64 (rleft t)) ∧ W.cell? ⟨x, 1, none⟩ = some (.int .i64 o.f1)) (first | assumption | exact ⟨(Below.refl _ _).drew, r0, r1, r2, z1⟩)
                (first
                  | (go_simp; go_at_call 11; have hS_ := ‹Below wt.heap.size wt _ ∧ _›; refine (LawSameT (HN9.out.below hS_.1).at_ (some ad9) c9 (Kd.R_reads' (HN9.out.below hS_.1).own).2.2 HCS9.out HN9.out.rt).mono ?_; rintro e w' ⟨rfl, hB⟩; have hS2_ := KS.out _ _ hS_ hB)
                  | (go_simp; go_at_call 23; have hS_ := ‹Below wt.heap.size wt _ ∧ _›; refine (ReadAny (HN9.out.below hS_.1).at_ o.f1).mono ?_; rintro e w' ⟨A23, c23, rfl, hc23, hC23, hB⟩; have hS2_ := KS.out _ _ hS_ hB; have HC23 := Aside0.mk hC23; clear hC23; (first | (have hm24 := Kd.C_below HC24.out hB; clear HC24; have HC24 := Aside0.mk hm24; clear hm24) | skip))
                  | (go_simp; go_at_call 24; have hS_ := ‹Below wt.heap.size wt _ ∧ _›; refine (RefReadAny ad9 c9 n t.db t.many (rleft t) (Kd.R_reads' (HN9.out.below hS_.1).own).2.2 HCS9.out HN99.out h2n o.f1).mono ?_; rintro e w' ⟨A24, c24, rfl, hc24, hC24, hB⟩; have hS2_ := KS.out _ _ hS_ hB; have HC24 := Aside0.mk hC24; clear hC24; (first | (have hm23 := Kd.C_below HC23.out hB; clear HC23; have HC23 := Aside0.mk hm23; clear hm23) | skip))
                  | (go_simp; go_at_call 22; have hS_ := ‹Below wt.heap.size wt _ ∧ _›; refine (SameSelf A23 c23 A24 c24 (blk n t.db o.f1) _ HC23.out hc23 HC24.out hc24 (blk_le _ _ _)).mono ?_; rintro e w' ⟨rfl, hB⟩; have hS2_ := KS.out _ _ hS_ hB))
              all_goals
                have hS_ := ‹Below wt.heap.size wt _ ∧ _›
                have HF := Aside0.mk (HN9.out.below hS_.1)
                clear hS_ KS r0 r1 r2 z1
                go_wp2_with fail
                go_roundg k1
                case measure => omega
                case rel => exact ⟨j + 1, t, _, c9, by first | (simp; done) | rw [ej], ⟨by have := HK.out; omega, by omega⟩, HF, HOK9, HCS9⟩
            · have e3 : (o.f0 == 3) = false := by simp [k3']
              clear k3'
              go_wp2_with fail
              have HN9 := HN6; have HX9 := HX6; have HOK9 := Aside0.mk (St.ok_le HOK.out (show j ≤ j + 1 by omega)); have HCS9 := HCS
              obtain ⟨t, ht⟩ : ∃ t, t = s := ⟨_, rfl⟩
              rw [← ht] at HN9 HOK9 HCS9
              obtain ⟨A9, hA9⟩ : ∃ A9, A9 = A := ⟨_, rfl⟩
              obtain ⟨c9, hc9⟩ : ∃ c9, c9 = c := ⟨_, rfl⟩
              rw [← hA9, ← hc9] at HN9; rw [← hc9] at HCS9
              obtain ⟨wt, hwt⟩ : ∃ wt, wt = w6 := ⟨_, rfl⟩
              rw [← hwt] at HN9 HX9 ⊢
              clear HN6 HX6 HOK HCS r0 r1 r2 z0 z1 z2 ht hA9 hc9 hwt
              have r0 : wt.cell? ⟨q, 0, none⟩ = some (.slice A9 t.db.length c9) := by rw [cell_of_row _ _ _ _ _ _ HN9.out.ref]; rfl
              have r1 : wt.cell? ⟨q, 1, none⟩ = some (.int .i64 t.many) := by rw [cell_of_row _ _ _ _ _ _ HN9.out.ref]; rfl
              have r2 : wt.cell? ⟨q, 2, none⟩ = some (.int .i64 (rleft t)) := by rw [cell_of_row _ _ _ _ _ _ HN9.out.ref]; rfl
              have z1 : wt.cell? ⟨x, 1, none⟩ = some (.int .i64 o.f1) := by rw [cell_of_row _ _ _ _ _ _ HX9.out]; rfl
              have keepS : ∀ W W' : World, (Below wt.heap.size wt W ∧ W.cell? ⟨q, 0, none⟩ = some (.slice A9 t.db.length c9) ∧ W.cell? ⟨q, 1, none⟩ = some (.int .i64 t.many) ∧ W.cell? ⟨q, 2, none⟩ = some (.int .i64 (rleft t)) ∧ W.cell? ⟨x, 1, none⟩ = some (.int .i64 o.f1)) → Below W.heap.size W W' →
                  (Below wt.heap.size wt W' ∧ W'.cell? ⟨q, 0, none⟩ = some (.slice A9 t.db.length c9) ∧ W'.cell? ⟨q, 1, none⟩ = some (.int .i64 t.many) ∧ W'.cell? ⟨q, 2, none⟩ = some (.int .i64 (rleft t)) ∧ W'.cell? ⟨x, 1, none⟩ = some (.int .i64 o.f1)) := fun W W' hS hb =>
                ⟨Aid.bthen hS.1 hb, (hb.cell (World.block_lt_of_cell? W _ hS.2.1)).trans hS.2.1, (hb.cell (World.block_lt_of_cell? W _ hS.2.2.1)).trans hS.2.2.1, (hb.cell (World.block_lt_of_cell? W _ hS.2.2.2.1)).trans hS.2.2.2.1, (hb.cell (World.block_lt_of_cell? W _ hS.2.2.2.2)).trans hS.2.2.2.2⟩
              have KS := Aside0.mk keepS; clear keepS
              have hn9 := At.len HN9.out.at_
              obtain ⟨ad9, e9⟩ : ∃ ad9, A9 = some ad9 := by
                obtain ⟨y, h, _⟩ := (Kd.R_reads' HN9.out.own).2.2.2.2 (by omega)
                exact ⟨y, h⟩
              subst e9
              have HN99 := Aside0.mk hn9; clear hn9
              go_region_held3 (fun W => Below wt.heap.size wt W ∧ W.cell? ⟨q, 0, none⟩ = some (.slice (some ad9) t.db.length c9) ∧ W.cell? ⟨q, 1, none⟩ = some (.int .i64 t.many) ∧ W.cell? ⟨q, 2, none⟩ = some (.int .i64 (rleft t)) ∧ W.cell? ⟨x, 1, none⟩ = some (.int .i64 o.f1)) (first | assumption | exact ⟨(Below.refl _ _).drew, r0, r1, r2, z1⟩)
                (first
                  | (go_simp; go_at_call 11; have hS_ := ‹Below wt.heap.size wt _ ∧ _›; refine (LawSameT (HN9.out.below hS_.1).at_ (some ad9) c9 (Kd.R_reads' (HN9.out.below hS_.1).own).2.2 HCS9.out HN9.out.rt).mono ?_; rintro e w' ⟨rfl, hB⟩; have hS2_ := KS.out _ _ hS_ hB)
                  | (go_simp; go_at_call 23; have hS_ := ‹Below wt.heap.size wt _ ∧ _›; refine (ReadAny (HN9.out.below hS_.1).at_ o.f1).mono ?_; rintro e w' ⟨A23, c23, rfl, hc23, hC23, hB⟩; have hS2_ := KS.out _ _ hS_ hB; have HC23 := Aside0.mk hC23; clear hC23; (first | (have hm24 := Kd.C_below HC24.out hB; clear HC24; have HC24 := Aside0.mk hm24; clear hm24) | skip))
                  | (go_simp; go_at_call 24; have hS_ := ‹Below wt.heap.size wt _ ∧ _›; refine (RefReadAny ad9 c9 n t.db t.many (rleft t) (Kd.R_reads' (HN9.out.below hS_.1).own).2.2 HCS9.out HN99.out h2n o.f1).mono ?_; rintro e w' ⟨A24, c24, rfl, hc24, hC24, hB⟩; have hS2_ := KS.out _ _ hS_ hB; have HC24 := Aside0.mk hC24; clear hC24; (first | (have hm23 := Kd.C_below HC23.out hB; clear HC23; have HC23 := Aside0.mk hm23; clear hm23) | skip))
                  | (go_simp; go_at_call 22; have hS_ := ‹Below wt.heap.size wt _ ∧ _›; refine (SameSelf A23 c23 A24 c24 (blk n t.db o.f1) _ HC23.out hc23 HC24.out hc24 (blk_le _ _ _)).mono ?_; rintro e w' ⟨rfl, hB⟩; have hS2_ := KS.out _ _ hS_ hB))
              all_goals
                have hS_ := ‹Below wt.heap.size wt _ ∧ _›
                have HF := Aside0.mk (HN9.out.below hS_.1)
                clear hS_ KS r0 r1 r2 z1
                go_wp2_with fail
                go_roundg k1
                case measure => omega
                case rel => exact ⟨j + 1, t, _, c9, by first | (simp; done) | rw [ej], ⟨by have := HK.out; omega, by omega⟩, HF, HOK9, HCS9⟩
      · have c14 : decide ((j : Int) < (l1.length : Int)) = false := decide_eq_false (by omega)
        clear HK
        go_wp2_with fail
        refine (alive _).mono ?_; rintro e w6 ⟨rfl, hb6⟩
        have HB6 := Aside0.mk (Aid.bthen HNW.out.low hb6)
        clear hb6
        go_wp2_with fail
        go_ret
        exact ⟨rfl, HB6.out⟩
theorem redresslaw17_DiskAll.done : True := trivial
end Disk
end Go.Proofs.Ytphgoiepoojikaa
