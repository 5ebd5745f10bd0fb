/- The law SlotsAll: its walk. -/
import Derived.Test.YtbjjpckldjjcgaaSO2
import Derived.Test.YtbjjpckldjjcgaaSP0
namespace Go.Proofs.Ytbjjpckldjjcgaa
open Go.RowKit Go.Proofs.YtbjjpckldjjcgaaW.PrintWords Go.Proofs.YtbjjpckldjjcgaaW.PrintLast Go.Proofs.YtbjjpckldjjcgaaW.PrintMore Go.Proofs.Ytbjjpckldjjcgaa.PK
set_option linter.unusedVariables false
set_option linter.unusedSimpArgs false
set_option maxHeartbeats 4000000
set_option maxRecDepth 100000
namespace Disk
namespace Slots
/-- The store, its disk, and the document's disk in block q. -/
structure NowS (w W : World) (s g b q n : Nat) (A : Option Addr) (c : Nat) (T : St) : Prop where
  st : StAt W s g b n T
  ref : W.heap[q]? = some (.cells #[.slice A T.db.length c, .int .i64 T.many, .int .i64 (rleft T)] 44 (0, 0))
  own : Kd.R (Kd.int .u8) 5 W w.heap.size (fun k => k ≠ s ∧ k ≠ g ∧ k ≠ b ∧ k ≠ q) (.slice A T.db.length c) T.db
  low : Below w.heap.size w W
  rt : T.right
def DistS (w : World) (s g b q : Nat) : Prop := (w.heap.size ≤ s ∧ w.heap.size ≤ g ∧ w.heap.size ≤ b ∧ w.heap.size ≤ q) ∧ q ≠ s ∧ q ≠ g ∧ q ≠ b
theorem NowS.below {w W W' : World} {s g b q n : Nat} {A : Option Addr} {c : Nat} {T : St} (h : NowS w W s g b q n A c T) (hb : Below W.heap.size W W') : NowS w W' s g b q n A c T :=
  ⟨h.st.below hb, (hb.block _ (blk_lt h.ref)).trans h.ref, Kd.R_below h.own hb, Aid.bthen h.low hb, h.rt⟩
/-- The store was changed; the document's disk is told anew: both are T'. -/
theorem NowS.store {w W W5 W6 : World} {s g b q n : Nat} {T0 T : St} {A6 : Option Addr} {c6 : Nat} {x0 x1 x2 : Value} {P : Nat → Prop} (hd : DistS w s g b q) (hs : StAt W6 s g b n T) (hq : W6.heap[q]? = some (.cells #[x0, x1, x2] 44 (0, 0)))
    (hR : Kd.R (Kd.int .u8) 5 W6 w.heap.size P (.slice A6 T.db.length c6) T.db) (hP : ∀ k, P k → k ≠ s ∧ k ≠ g ∧ k ≠ b ∧ k ≠ q) (hb : Below w.heap.size w W6) (hrt : T.right)
    (hW : W = ((W6.setCell ⟨q, 0, none⟩ (.slice A6 T.db.length c6)).setCell ⟨q, 1, none⟩ (.int .i64 T.many)).setCell ⟨q, 2, none⟩ (.int .i64 (rleft T))) : NowS w W s g b q n A6 c6 T := by
  subst hW
  have hk := set3_kept (W := W6) (q := q) (.slice A6 T.db.length c6) (.int .i64 T.many) (.int .i64 (rleft T))
  have hlt := At.lt hs.at_
  refine ⟨⟨(hk.2 _ hs.lt (fun e => hd.2.1 e.symm)).trans hs.hs, At.move (show At W6 g b n T.db T.many T.cut T.left from hs.at_) (hk.2 _ hlt.1 (fun e => hd.2.2.1 e.symm)) (hk.2 _ hlt.2 (fun e => hd.2.2.2 e.symm)), hs.h3, hs.ob⟩, store3 hq _ _ _, Kd.R_kept (Kd.R_mono hR hP) hk (fun k h e => h.2.2.2 e), ?_, hrt⟩
  exact ((hb.setCell (p := ⟨q, 0, none⟩) hd.1.2.2.2 _).setCell (p := ⟨q, 1, none⟩) hd.1.2.2.2 _).setCell (p := ⟨q, 2, none⟩) hd.1.2.2.2 _
/-- The document's disk was changed first. -/
theorem HalfS.store {w W W6 : World} {s g b q n : Nat} {T0 T : St} {A6 : Option Addr} {c6 : Nat} {x0 x1 x2 : Value} {P : Nat → Prop} (hd : DistS w s g b q) (hs : StAt W6 s g b n T0) (hq : W6.heap[q]? = some (.cells #[x0, x1, x2] 44 (0, 0)))
    (hR : Kd.R (Kd.int .u8) 5 W6 w.heap.size P (.slice A6 T.db.length c6) T.db) (hP : ∀ k, P k → k ≠ s ∧ k ≠ g ∧ k ≠ b ∧ k ≠ q) (hb : Below w.heap.size w W6)
    (hW : W = ((W6.setCell ⟨q, 0, none⟩ (.slice A6 T.db.length c6)).setCell ⟨q, 1, none⟩ (.int .i64 T.many)).setCell ⟨q, 2, none⟩ (.int .i64 (rleft T))) :
    StAt W s g b n T0 ∧ W.heap[q]? = some (.cells #[.slice A6 T.db.length c6, .int .i64 T.many, .int .i64 (rleft T)] 44 (0, 0)) ∧ Kd.R (Kd.int .u8) 5 W w.heap.size (fun k => k ≠ s ∧ k ≠ g ∧ k ≠ b ∧ k ≠ q) (.slice A6 T.db.length c6) T.db ∧ Below w.heap.size w W := by
  subst hW
  have hk := set3_kept (W := W6) (q := q) (.slice A6 T.db.length c6) (.int .i64 T.many) (.int .i64 (rleft T))
  have hlt := At.lt hs.at_
  refine ⟨⟨(hk.2 _ hs.lt (fun e => hd.2.1 e.symm)).trans hs.hs, At.move (show At W6 g b n T0.db T0.many T0.cut T0.left from hs.at_) (hk.2 _ hlt.1 (fun e => hd.2.2.1 e.symm)) (hk.2 _ hlt.2 (fun e => hd.2.2.2 e.symm)), hs.h3, hs.ob⟩, store3 hq _ _ _, Kd.R_kept (Kd.R_mono hR hP) hk (fun k h e => h.2.2.2 e), ?_⟩
  exact ((hb.setCell (p := ⟨q, 0, none⟩) hd.1.2.2.2 _).setCell (p := ⟨q, 1, none⟩) hd.1.2.2.2 _).setCell (p := ⟨q, 2, none⟩) hd.1.2.2.2 _
/-- Then the store. -/
theorem NowS.only {w W W1 W' : World} {s g b q n : Nat} {A : Option Addr} {c : Nat} {T0 T : St}
    (h : StAt W s g b n T0 ∧ W.heap[q]? = some (.cells #[.slice A T.db.length c, .int .i64 T.many, .int .i64 (rleft T)] 44 (0, 0)) ∧ Kd.R (Kd.int .u8) 5 W w.heap.size (fun k => k ≠ s ∧ k ≠ g ∧ k ≠ b ∧ k ≠ q) (.slice A T.db.length c) T.db ∧ Below w.heap.size w W)
    (hb : Below W.heap.size W W1) (hs : StAt W' s g b n T) (ho : Only g b W1 W') (hd : DistS w s g b q) (ht : T.right) : NowS w W' s g b q n A c T := by
  have hq := (hb.block _ (blk_lt h.2.1)).trans h.2.1
  have hR := Kd.R_below h.2.2.1 hb
  have hl := Aid.bthen h.2.2.2 hb
  exact ⟨hs, (ho.keep _ (blk_lt hq) hd.2.2.1 hd.2.2.2).trans hq, Kd.R_kept hR ho.kept (fun k hk hn => hn.elim hk.2.1 hk.2.2.1), hl.trans (ho.low _ hd.1.2.1 hd.1.2.2.1 hl.size), ht⟩
theorem SlotsAll.no (A : Option Addr) (c : Nat) (l : List Int) (A1 : Option Addr) (c1 : Nat) (ls : List S63) (w : World) (hr : Kd.C (Kd.int .u8) w A l.length l) (hc : l.length ≤ c) (h : ¬ good l) :
    Calls Try.prog 9 #[.slice A l.length c, .slice A1 ls.length c1] w fun e w' => e = .returned (.bool true) ∧ Below w.heap.size w w' := by
  have HM := Aside0.mk (Made.none A c l w hr hc h)
  clear h hr hc
  go_enter Try.func9, Try.ntmps9
  go_wp2_with fail
  refine HM.out.mono ?_; rintro e w1 ⟨rfl, hB1⟩
  have HB1 := Aside0.mk hB1
  clear HM hB1
  go_wp2_with fail
  refine (alive _).mono ?_; rintro e w90 ⟨rfl, hB90⟩
  have HB90 := Aside0.mk (Aid.bthen HB1.out hB90)
  clear hB90 HB1
  go_wp2_with fail
  go_ret
  exact ⟨rfl, HB90.out⟩
theorem SlotsAll.yes (A : Option Addr) (c : Nat) (l : List Int) (A1 : Option Addr) (c1 : Nat) (ls : List S63) (w : World) (hr : Kd.C (Kd.int .u8) w A l.length l) (hc : l.length ≤ c) (h : good l) (ho : Crc.okb l = true)
    (hr1 : Kd.C k63 w A1 ls.length ls) (hc1 : ls.length ≤ c1) (hM : ls.length ≤ 9223372036854775807) (hox : ∀ y ∈ ls, ((-9223372036854775808 ≤ y.f0 ∧ y.f0 ≤ 9223372036854775807) ∧ (0 ≤ y.f1 ∧ y.f1 < 18446744073709551616) ∧ Crc.okb y.f2 = true)) :
    Calls Try.prog 9 #[.slice A l.length c, .slice A1 ls.length c1] w fun e w' => e = .returned (.bool true) ∧ Below w.heap.size w w' := by
  have HM := Aside0.mk (Made.some A c l w hr hc h ho)
  obtain ⟨n, hn1, hn2, hn3, hn4⟩ := good_n h
  rw [hn4] at HM
  have HC := Aside0.mk hr; have HL := Aside0.mk hr1
  obtain ⟨r, hfew, hF⟩ := Few A c l A1 c1 ls hM
  have HF := Aside0.mk (fun W (h1 : Kd.C (Kd.int .u8) W A l.length l) (h2 : Kd.C k63 W A1 ls.length ls) => hF W h1 hc h2 hc1)
  have HN := Aside0.mk (fun W => RefNew A l.length c l W rfl)
  have HG := Aside0.mk (show l.length ≤ c ∧ l.length = 16 * n ∧ n ≤ 1024 ∧ 3 ≤ n / 2 from ⟨hc, hn1, hn2, hn3⟩)
  have HO := Aside0.mk hox
  clear hr hr1 hc h ho hc1 hox hn1 hn2 hn3 hn4 hF
  go_enter Try.func9, Try.ntmps9
  go_wp2_with fail
  refine HM.out.mono ?_; rintro e w1 ⟨s, g, b, rfl, hS, h1, h2, h3, hB1⟩
  have HB1 := Aside0.mk hB1; have HS1 := Aside0.mk hS; have HSG := Aside0.mk (show w.heap.size ≤ s ∧ w.heap.size ≤ g ∧ w.heap.size ≤ b from ⟨h1, h2, h3⟩)
  clear HM hB1 hS h1 h2 h3
  go_wp2_with fail
  refine (HF.out _ (Kd.C_below HC.out HB1.out) (Kd.C_below HL.out HB1.out)).mono ?_; rintro e w2 ⟨rfl, hB2⟩
  have HB2 := Aside0.mk (Aid.bthen HB1.out hB2); have HS2 := Aside0.mk (HS1.out.below hB2)
  clear HB1 hB2 HS1 HF
  cases r
  · clear hfew
    go_wp2_with fail
    refine (alive _).mono ?_; rintro e w90 ⟨rfl, hB90⟩
    have HB90 := Aside0.mk (Aid.bthen HB2.out hB90)
    clear hB90 HB2
    go_wp2_with fail
    go_ret
    exact ⟨rfl, HB90.out⟩
  have L40 := Aside0.mk (hfew rfl)
  clear hfew hM
  go_wp2_with fail
  refine (HN.out _ (Kd.C_below HC.out HB2.out) HG.out.1 (by have := L40.out; omega)).mono ?_; rintro e w4 ⟨v4, rfl, hR4, hB4⟩
  obtain ⟨A4, c4, rfl, hc4, hC4⟩ := Kd.R_reads hR4
  have HNW := Aside0.mk (show NowS w (w4.alloc (.cells #[.slice A4 l.length c4, .int .i64 0, .int .i64 (-1)] 44)) s g b w4.heap.size n A4 c4 ⟨l, 0, false, 0⟩ from by
    have hal := (Below.refl w4.heap.size w4).alloc (Nat.le_refl _) (.cells #[.slice A4 l.length c4, .int .i64 0, .int .i64 (-1)] 44)
    have hlt := At.lt HS2.out.at_
    have hls := HS2.out.lt
    refine ⟨(HS2.out.below hB4).below hal, Aid.heap_new w4 _, ?_, Aid.bthen (Aid.bthen HB2.out hB4) hal, fun h => by cases h⟩
    refine Kd.R_lower (Kd.R_below (Kd.R_mono (Kd.R_bound hR4) (fun k hk => ?_)) hal) HB2.out.size
    have := hk.2.1; have := hk.2.2.1
    exact ⟨by omega, by omega, by omega, by omega⟩)
  have HD := Aside0.mk (show DistS w s g b w4.heap.size from by
    have hlt := At.lt HS2.out.at_
    have hls := HS2.out.lt
    have := hB4.size; have := HB2.out.size
    exact ⟨⟨HSG.out.1, HSG.out.2.1, HSG.out.2.2, by omega⟩, by omega, by omega, by omega⟩)
  clear hR4 hB4 hC4 hc4 HB2 HS2
  obtain ⟨q, hq⟩ : ∃ q, q = w4.heap.size := ⟨_, rfl⟩
  obtain ⟨w5, hw5⟩ : ∃ w5, w5 = w4.alloc (.cells #[.slice A4 l.length c4, .int .i64 0, .int .i64 (-1)] 44) := ⟨_, rfl⟩
  go_upto_region 5 with fail
  rw [← hw5, ← hq] at HNW ⊢
  rw [← hq] at HD
  clear hq hw5
  go_wp2_with fail
  go_loopg [32] (ls.length + 1) (fun kq v32 w' => ∃ (j : Nat) (T : St) (A5 : Option Addr) (c5 : Nat), v32 = .int .i64 (j : Int) ∧ Aside0 (kq + j = ls.length + 1 ∧ j ≤ ls.length) ∧ Aside0 (NowS w w' s g b q n A5 c5 T) ∧ Aside0 (T.ok (200 * j)))
  case atStart => exact ⟨0, _, A4, c4, rfl, ⟨by omega, by omega⟩, HNW, ⟨st0_ok l false 0 0 (by omega) (by omega)⟩⟩
  case round =>
    clear HNW
    obtain ⟨j, T, A5, c5, rfl, HK, HNW, HOK⟩ := hrel
    cases gk with
    | zero => exact absurd HK.out (by omega)
    | succ k1 =>
      by_cases hj : j < ls.length
      · have c14 : decide ((j : Int) < (ls.length : Int)) = true := decide_eq_true (by omega)
        have p0 : (0 : Int) ≤ (j : Int) := by omega
        have q0 : (j : Int) < (ls.length : Int) := by omega
        obtain ⟨ad1, A7, c7, e7, x0, x1, x2, hc7, hC7⟩ := at_T63 HL.out (j : Int) p0 q0
        cases e7
        simp only [Int.toNat_natCast] at x0 x1 x2
        obtain ⟨o, hoo⟩ : ∃ o, o = rd_T63 ls (j : Int) := ⟨_, rfl⟩
        rw [← hoo] at x0 x1 x2 hc7 hC7
        have HW := Aside0.mk (HO.out _ (List.getElem_mem hj))
        rw [show ls[j] = o by rw [hoo]; unfold rd_T63; simp [List.getD_eq_getElem?_getD, List.getElem?_eq_getElem hj]] at HW
        replace x0 := (HNW.out.low.cell (World.block_lt_of_cell? w _ x0)).trans x0
        replace x1 := (HNW.out.low.cell (World.block_lt_of_cell? w _ x1)).trans x1
        replace x2 := (HNW.out.low.cell (World.block_lt_of_cell? w _ x2)).trans x2
        have HC7 := Aside0.mk hC7; have HCC7 := Aside0.mk hc7
        clear hoo hC7 hc7
        go_upto_region 8 with fail
        obtain ⟨w6, hw6⟩ : ∃ w6, w6 = wr.alloc (.cells #[.int .i64 o.f0, .int .u64 o.f1, .slice A7 o.f2.length c7] 63) := ⟨_, rfl⟩
        rw [← hw6]
        have hb6 : Below wr.heap.size wr w6 := by rw [hw6]; exact (Below.refl _ _).alloc (Nat.le_refl _) _
        have hx6 : w6.heap[wr.heap.size]? = some (.cells #[.int .i64 o.f0, .int .u64 o.f1, .slice A7 o.f2.length c7] 63 (0, 0)) := by rw [hw6]; exact Aid.heap_new wr _
        have HXN := Aside0.mk (show wr.heap.size ≠ s ∧ wr.heap.size ≠ g ∧ wr.heap.size ≠ b ∧ wr.heap.size ≠ q ∧ w.heap.size ≤ wr.heap.size by have h1 := At.lt HNW.out.st.at_; have h2 := blk_lt HNW.out.ref; have h3 := HNW.out.st.lt; have := HNW.out.low.size; omega)
        have HN6 := Aside0.mk (HNW.out.below hb6)
        have HO6 := Aside0.mk (show Kd.R (Kd.int .u8) 5 w6 w.heap.size (fun k => (k ≠ s ∧ k ≠ g ∧ k ≠ b ∧ k ≠ q) ∧ k ≠ wr.heap.size) (.slice A5 T.db.length c5) T.db from
          Kd.R_below (Kd.R_mono (Kd.R_bound HNW.out.own) (fun k hk => ⟨hk.1, by have := hk.2.2.1; omega⟩)) hb6)
        obtain ⟨x, hx⟩ : ∃ x, x = wr.heap.size := ⟨_, rfl⟩
        rw [← hx] at hx6 HXN HO6 ⊢
        have HX6 := Aside0.mk hx6
        have ej : IntKind.i64.wrap ((j : Int) + 1) = ((j + 1 : Nat) : Int) := by rw [IntKind.wrap_i64]; have := L40.out; omega
        have z0 : w6.cell? ⟨x, 0, none⟩ = some (.int .i64 o.f0) := by rw [cell_of_row _ _ _ _ _ _ HX6.out]; rfl
        have z1 : w6.cell? ⟨x, 1, none⟩ = some (.int .u64 o.f1) := by rw [cell_of_row _ _ _ _ _ _ HX6.out]; rfl
        have z2 : w6.cell? ⟨x, 2, none⟩ = some (.slice A7 o.f2.length c7) := by rw [cell_of_row _ _ _ _ _ _ HX6.out]; rfl
        have r0 : w6.cell? ⟨q, 0, none⟩ = some (.slice A5 T.db.length c5) := by rw [cell_of_row _ _ _ _ _ _ HN6.out.ref]; rfl
        have r1 : w6.cell? ⟨q, 1, none⟩ = some (.int .i64 T.many) := by rw [cell_of_row _ _ _ _ _ _ HN6.out.ref]; rfl
        have r2 : w6.cell? ⟨q, 2, none⟩ = some (.int .i64 (rleft T)) := by rw [cell_of_row _ _ _ _ _ _ HN6.out.ref]; rfl
        have hm1 : 0 ≤ o.f1 % 1000 := by omega
        have hm2 : o.f1 % 1000 < 1000 := by omega
        have hm3 : 0 ≤ o.f1 := HW.out.2.1.1
        clear hb6 hw6 HNW x0 x1 x2 hx hx6
        by_cases k1' : o.f0 = 1
        · have e1 : (o.f0 == 1) = true := by simp [k1']
          clear k1'
          obtain ⟨num, hnm⟩ : ∃ num : Nat, o.f1 = (num : Int) := ⟨o.f1.toNat, by omega⟩
          have hnum : num < 18446744073709551616 := by have := HW.out.2.1.2; omega
          rw [hnm] at z1
          have HX6 := Aside0.mk (show w6.heap[x]? = some (.cells #[.int .i64 o.f0, .int .u64 (num : Int), .slice A7 o.f2.length c7] 63 (0, 0)) by rw [← hnm]; exact HX6.out)
          clear hnm hm1 hm2 hm3
          have HOK9 := Aside0.mk (St.ok_le HOK.out (d' := 900000) (by have := L40.out; omega))
          have SV := RefSave (fun k => (k ≠ s ∧ k ≠ g ∧ k ≠ b ∧ k ≠ q) ∧ k ≠ x) A5 c5 n T num hnum A7 c7 o.f2 w w6 HN6.out.low HO6.out HG.out.2.2.1 HN6.out.st.len HN6.out.st.h3 HC7.out HCC7.out HW.out.2.2 HN6.out.rt HOK9.out
          have WA := fun W (h : StAt W s g b n T) hr => Save h num hnum A7 c7 o.f2 hr HCC7.out HW.out.2.2 HOK9.out
          have H3 := Aside0.mk (show (save n T num o.f2).2.right ∧ (save n T num o.f2).2.ok (200 * (j + 1)) from ⟨save_right HN6.out.rt, St.ok_le (save_ok3 HOK.out) (by omega)⟩)
          obtain ⟨rs, hrs⟩ : ∃ rs, rs = save n T num o.f2 := ⟨_, rfl⟩
          rw [← hrs] at SV WA H3
          have SV := Aside0.mk SV; have WA := Aside0.mk WA
          clear hrs hnum HOK9
          go_wp2_with fail
          refine SV.out.mono ?_
          intro e w8 h8
          obtain ⟨v8, rfl, hR8, hB8, hK8⟩ := h8
          clear z0 z1 z2 r0 r1 r2 SV
          obtain ⟨A8, c8, rfl, hc8, hC8⟩ := Kd.R_reads hR8
          have hlt6 := At.lt HN6.out.st.at_
          have hq8 := blk_kept HN6.out.ref hK8 (fun h => h.1.2.2.2 rfl)
          have hx8 := blk_kept HX6.out hK8 (fun h => h.2 rfl)
          have hs8 : StAt w8 s g b n T := ⟨(hK8.2 s HN6.out.st.lt (fun h => h.1.1 rfl)).trans HN6.out.st.hs, At.move (show At w6 g b n T.db T.many T.cut T.left from HN6.out.st.at_) (hK8.2 g hlt6.1 (fun h => h.1.2.1 rfl)) (hK8.2 b hlt6.2 (fun h => h.1.2.2.1 rfl)), HN6.out.st.h3, HN6.out.st.ob⟩
          have HL6 := Aside0.mk (show s < w6.heap.size ∧ g < w6.heap.size ∧ b < w6.heap.size ∧ q < w6.heap.size from ⟨HN6.out.st.lt, hlt6.1, hlt6.2, blk_lt HN6.out.ref⟩)
          have HQ8 := Aside0.mk hq8; have HX8 := Aside0.mk hx8; have HS8 := Aside0.mk hs8; have HR8 := Aside0.mk hR8; have HB8 := Aside0.mk hB8
          clear hq8 hx8 hs8 hR8 hB8 hK8 hC8 hc8 hlt6 HN6 HX6 HO6
          go_upto_region 11 with fail
          obtain ⟨w9, hw9⟩ : ∃ w9, w9 = w8.alloc (Obj.cells #[.slice A8 rs.2.db.length c8, .int .i64 rs.2.many, .int .i64 (rleft rs.2)] 44) := ⟨_, rfl⟩
          rw [← hw9]
          have hb9 : Below w8.heap.size w8 w9 := by rw [hw9]; exact (Below.refl _ _).alloc (Nat.le_refl _) _
          have hv9 : w9.heap[w8.heap.size]? = some (.cells #[.slice A8 rs.2.db.length c8, .int .i64 rs.2.many, .int .i64 (rleft rs.2)] 44 (0, 0)) := by rw [hw9]; exact Aid.heap_new w8 _
          have hq9 := (hb9.block _ (blk_lt HQ8.out)).trans HQ8.out
          have HX9 := Aside0.mk ((hb9.block _ (blk_lt HX8.out)).trans HX8.out)
          have HS9 := Aside0.mk (HS8.out.below hb9)
          have HR9 := Aside0.mk (Kd.R_below HR8.out hb9)
          have HB9 := Aside0.mk (Aid.bthen HB8.out hb9)
          have f0 := blk_frozen hq9 0
          have f1 := blk_frozen hq9 1
          have f2 := blk_frozen hq9 2
          have r0 : w9.cell? ⟨q, 0, none⟩ = some (.slice A5 T.db.length c5) := by rw [cell_of_row _ _ _ _ _ _ hq9]; rfl
          have r1 : w9.cell? ⟨q, 1, none⟩ = some (.int .i64 T.many) := by rw [cell_of_row _ _ _ _ _ _ hq9]; rfl
          have r2 : w9.cell? ⟨q, 2, none⟩ = some (.int .i64 (rleft T)) := by rw [cell_of_row _ _ _ _ _ _ hq9]; rfl
          have v0 : w9.cell? ⟨w8.heap.size, 0, none⟩ = some (.slice A8 rs.2.db.length c8) := by rw [cell_of_row _ _ _ _ _ _ hv9]; rfl
          have v1 : w9.cell? ⟨w8.heap.size, 1, none⟩ = some (.int .i64 rs.2.many) := by rw [cell_of_row _ _ _ _ _ _ hv9]; rfl
          have v2 : w9.cell? ⟨w8.heap.size, 2, none⟩ = some (.int .i64 (rleft rs.2)) := by rw [cell_of_row _ _ _ _ _ _ hv9]; rfl
          have HQ9 := Aside0.mk hq9
          clear HR8 HB8 HQ8 HX8 HS8 hb9 hv9 hw9 hq9
          go_upto_region 12 with fail
          obtain ⟨wX, hwX⟩ : ∃ wX, wX = ((w9.setCell ⟨q, 0, none⟩ (.slice A8 rs.2.db.length c8)).setCell ⟨q, 1, none⟩ (.int .i64 rs.2.many)).setCell ⟨q, 2, none⟩ (.int .i64 (rleft rs.2)) := ⟨_, rfl⟩
          rw [← hwX]
          have HHX := Aside0.mk (HalfS.store (T0 := T) (T := rs.2) HD.out HS9.out HQ9.out HR9.out (fun k hk => hk.elim (fun h => h.1) (fun h => by have := HL6.out; omega)) HB9.out hwX)
          have HXX := Aside0.mk (show wX.heap[x]? = some (.cells #[.int .i64 o.f0, .int .u64 (num : Int), .slice A7 o.f2.length c7] 63 (0, 0)) by rw [hwX]; exact ((set3_kept _ _ _).2 _ (blk_lt HX9.out) HXN.out.2.2.2.1).trans HX9.out)
          clear hwX HS9 HQ9 HR9 HB9 HX9 r0 r1 r2 v0 v1 v2 f0 f1 f2 HL6
          have z1 : wX.cell? ⟨x, 1, none⟩ = some (.int .u64 (num : Int)) := by rw [cell_of_row _ _ _ _ _ _ HXX.out]; rfl
          have z2 : wX.cell? ⟨x, 2, none⟩ = some (.slice A7 o.f2.length c7) := by rw [cell_of_row _ _ _ _ _ _ HXX.out]; rfl
          have HBx : Aside0 (Below wX.heap.size wX wX.drew) := ⟨(Below.refl _ _).drew⟩
          go_region_held3 (fun W => W.cell? ⟨x, 1, none⟩ = some (.int .u64 (num : Int)) ∧ W.cell? ⟨x, 2, none⟩ = some (.slice A7 o.f2.length c7)) (first | assumption | exact ⟨z1, z2⟩)
            (first
              | (go_simp; go_at_call 15; refine (WA.out _ (HHX.out.1.below HBx.out) (Kd.C_below HC7.out (Aid.bthen HHX.out.2.2.2 HBx.out))).mono ?_; rintro e w' ⟨rfl, hS, hO⟩; have HNc := Aside0.mk (NowS.only HHX.out HBx.out hS hO HD.out H3.out.1); have HXc := Aside0.mk ((hO.keep _ (blk_lt ((HBx.out.block _ (blk_lt HXX.out)).trans HXX.out)) HXN.out.2.1 HXN.out.2.2.1).trans ((HBx.out.block _ (blk_lt HXX.out)).trans HXX.out)); have hS2_ : w'.cell? ⟨x, 1, none⟩ = some (.int .u64 (num : Int)) ∧ w'.cell? ⟨x, 2, none⟩ = some (.slice A7 o.f2.length c7) := ⟨(by rw [cell_of_row _ _ _ _ _ _ HXc.out]; rfl), (by rw [cell_of_row _ _ _ _ _ _ HXc.out]; rfl)⟩; clear hS hO)
              | (go_simp; go_at_call 32; refine (CntP A7 c7 o.f2 _ (Kd.C_below HC7.out HNc.out.low) HCC7.out).mono ?_; rintro e w' ⟨rfl, hd⟩; have HNd := Aside0.mk (HNc.out.below hd.below); have HXd := Aside0.mk ((hd.below.block _ (blk_lt HXc.out)).trans HXc.out); clear HNc HXc; have HNc := HNd; have HXc := HXd; clear HNd HXd; have hS2_ : w'.cell? ⟨x, 1, none⟩ = some (.int .u64 (num : Int)) ∧ w'.cell? ⟨x, 2, none⟩ = some (.slice A7 o.f2.length c7) := ⟨(by rw [cell_of_row _ _ _ _ _ _ HXc.out]; rfl), (by rw [cell_of_row _ _ _ _ _ _ HXc.out]; rfl)⟩)
              | (go_simp; go_at_call 16; refine (CntR A7 c7 o.f2 _ (Kd.C_below HC7.out HNc.out.low) HCC7.out).mono ?_; rintro e w' ⟨rfl, hd⟩; have HNd := Aside0.mk (HNc.out.below hd.below); have HXd := Aside0.mk ((hd.below.block _ (blk_lt HXc.out)).trans HXc.out); clear HNc HXc; have HNc := HNd; have HXc := HXd; clear HNd HXd; have hS2_ : w'.cell? ⟨x, 1, none⟩ = some (.int .u64 (num : Int)) ∧ w'.cell? ⟨x, 2, none⟩ = some (.slice A7 o.f2.length c7) := ⟨(by rw [cell_of_row _ _ _ _ _ _ HXc.out]; rfl), (by rw [cell_of_row _ _ _ _ _ _ HXc.out]; rfl)⟩))
          all_goals
            have HOK9 := Aside0.mk H3.out.2
            clear z1 z2 HHX HXX HBx H3 WA HXc hS2_ hd
            go_upto_region 20 with fail
            obtain ⟨wt, hwt⟩ : ∃ wt, wt = w' := ⟨_, rfl⟩
            rw [← hwt] at HNc ⊢
            clear hwt
            obtain ⟨t, ht⟩ : ∃ t, t = rs.2 := ⟨_, rfl⟩
            rw [← ht] at HNc HOK9
            clear ht
            obtain ⟨A9, hA9⟩ : ∃ A9, A9 = A8 := ⟨_, rfl⟩
            obtain ⟨c9, hc9⟩ : ∃ c9, c9 = c8 := ⟨_, rfl⟩
            rw [← hA9, ← hc9] at HNc
            clear hA9 hc9
            have HN9 := HNc
            clear HNc
            have HLEN := Aside0.mk HN9.out.st.len
            obtain ⟨ad9, e9⟩ : ∃ ad9, A9 = some ad9 := by
              obtain ⟨y, h, _⟩ := (Kd.R_reads' HN9.out.own).2.2.2.2 (by have := HLEN.out; have := HN9.out.st.h3; omega)
              exact ⟨y, h⟩
            subst e9
            have r0 : wt.cell? ⟨q, 0, none⟩ = some (.slice (some ad9) t.db.length c9) := by rw [cell_of_row _ _ _ _ _ _ HN9.out.ref]; rfl
            have r1 : wt.cell? ⟨q, 1, none⟩ = some (.int .i64 t.many) := by rw [cell_of_row _ _ _ _ _ _ HN9.out.ref]; rfl
            have r2 : wt.cell? ⟨q, 2, none⟩ = some (.int .i64 (rleft t)) := by rw [cell_of_row _ _ _ _ _ _ HN9.out.ref]; rfl
            go_wp2_with fail
            refine (LawSameT HN9.out.st.at_ (some ad9) c9 (Kd.R_reads' HN9.out.own).2.2 (Kd.R_reads' HN9.out.own).2.1 HN9.out.rt).mono ?_; rintro e w50 ⟨rfl, hB50⟩
            have HN50 := Aside0.mk (HN9.out.below hB50)
            clear hB50 HN9 r0 r1 r2
            have r0 : w50.cell? ⟨q, 0, none⟩ = some (.slice (some ad9) t.db.length c9) := by rw [cell_of_row _ _ _ _ _ _ HN50.out.ref]; rfl
            have r1 : w50.cell? ⟨q, 1, none⟩ = some (.int .i64 t.many) := by rw [cell_of_row _ _ _ _ _ _ HN50.out.ref]; rfl
            have r2 : w50.cell? ⟨q, 2, none⟩ = some (.int .i64 (rleft t)) := by rw [cell_of_row _ _ _ _ _ _ HN50.out.ref]; rfl
            go_wp2_with fail
            refine (LawTold HN50.out.st ad9 c9 t.many (rleft t) (Kd.R_reads' HN50.out.own).2.2 (Kd.R_reads' HN50.out.own).2.1).mono ?_; rintro e w51 ⟨rfl, hB51⟩
            have HN51 := Aside0.mk (HN50.out.below hB51)
            clear hB51 HN50 r0 r1 r2 HLEN
            go_wp2_with fail
            go_roundg k1
            case measure => omega
            case rel => exact ⟨j + 1, t, some ad9, c9, by first | (simp; done) | rw [ej], ⟨by have := HK.out; omega, by omega⟩, HN51, HOK9⟩
        · have e1 : (o.f0 == 1) = false := by simp [k1']
          clear k1'
          by_cases k2' : o.f0 = 2
          · have e2 : (o.f0 == 2) = true := by simp [k2']
            clear k2'
            go_wp2_with fail
            refine (Cut HN6.out.st.at_ (o.f1 % 1000)).mono ?_; rintro e w7 ⟨rfl, hA7, hO7⟩
            have HS7 := Aside0.mk (show StAt w7 s g b n (St.cutAt T (o.f1 % 1000)) from HN6.out.st.only hO7 hA7 HN6.out.st.ob)
            have HQ7 := Aside0.mk ((hO7.keep _ (blk_lt HN6.out.ref) HD.out.2.2.1 HD.out.2.2.2).trans HN6.out.ref)
            have HX7 := Aside0.mk ((hO7.keep _ (blk_lt HX6.out) HXN.out.2.1 HXN.out.2.2.1).trans HX6.out)
            have HR7 := Aside0.mk (Kd.R_kept HO6.out hO7.kept (fun k hk hn => hn.elim hk.1.2.1 hk.1.2.2.1))
            have HB7 := Aside0.mk (HN6.out.low.trans (hO7.low _ HD.out.1.2.1 HD.out.1.2.2.1 HN6.out.low.size))
            have HT7 := Aside0.mk HN6.out.rt
            clear hA7 hO7 HN6 HX6 HO6 r0 r1 r2 z0 z1 z2
            have r0 : w7.cell? ⟨q, 0, none⟩ = some (.slice A5 T.db.length c5) := by rw [cell_of_row _ _ _ _ _ _ HQ7.out]; rfl
            have r1 : w7.cell? ⟨q, 1, none⟩ = some (.int .i64 T.many) := by rw [cell_of_row _ _ _ _ _ _ HQ7.out]; rfl
            have r2 : w7.cell? ⟨q, 2, none⟩ = some (.int .i64 (rleft T)) := by rw [cell_of_row _ _ _ _ _ _ HQ7.out]; rfl
            have z0 : w7.cell? ⟨x, 0, none⟩ = some (.int .i64 o.f0) := by rw [cell_of_row _ _ _ _ _ _ HX7.out]; rfl
            have z1 : w7.cell? ⟨x, 1, none⟩ = some (.int .u64 o.f1) := by rw [cell_of_row _ _ _ _ _ _ HX7.out]; rfl
            have z2 : w7.cell? ⟨x, 2, none⟩ = some (.slice A7 o.f2.length c7) := by rw [cell_of_row _ _ _ _ _ _ HX7.out]; rfl
            clear z0 z2
            go_wp2_with fail
            clear z1
            refine (redressref17_Cut.calls (fun k => (k ≠ s ∧ k ≠ g ∧ k ≠ b ∧ k ≠ q) ∧ k ≠ x) (.slice A5 T.db.length c5) T.db T.many (rleft T) (o.f1 % 1000) T.db T.many (max 0 (o.f1 % 1000)) w w7 HB7.out HR7.out (ref_cut _ _ _ _)).mono ?_
            rintro e w8 ⟨v8, rfl, hR8, hB8, hK8⟩
            clear r0 r1 r2
            obtain ⟨A8, c8, rfl, hc8, hC8⟩ := Kd.R_reads hR8
            have hq8 := blk_kept HQ7.out hK8 (fun h => h.1.2.2.2 rfl)
            have hlt7 := At.lt HS7.out.at_
            have HS8 := Aside0.mk (show StAt w8 s g b n (St.cutAt T (o.f1 % 1000)) from ⟨(hK8.2 s HS7.out.lt (fun h => h.1.1 rfl)).trans HS7.out.hs, At.move (show At w7 g b n (St.cutAt T (o.f1 % 1000)).db (St.cutAt T (o.f1 % 1000)).many (St.cutAt T (o.f1 % 1000)).cut (St.cutAt T (o.f1 % 1000)).left from HS7.out.at_) (hK8.2 g hlt7.1 (fun h => h.1.2.1 rfl)) (hK8.2 b hlt7.2 (fun h => h.1.2.2.1 rfl)), HS7.out.h3, HS7.out.ob⟩)
            have HL7 := Aside0.mk (show s < w7.heap.size ∧ g < w7.heap.size ∧ b < w7.heap.size ∧ q < w7.heap.size from ⟨HS7.out.lt, hlt7.1, hlt7.2, blk_lt HQ7.out⟩)
            have f0 := blk_frozen hq8 0
            have f1 := blk_frozen hq8 1
            have f2 := blk_frozen hq8 2
            have r0 : w8.cell? ⟨q, 0, none⟩ = some (.slice A5 T.db.length c5) := by rw [cell_of_row _ _ _ _ _ _ hq8]; rfl
            have r1 : w8.cell? ⟨q, 1, none⟩ = some (.int .i64 T.many) := by rw [cell_of_row _ _ _ _ _ _ hq8]; rfl
            have r2 : w8.cell? ⟨q, 2, none⟩ = some (.int .i64 (rleft T)) := by rw [cell_of_row _ _ _ _ _ _ hq8]; rfl
            have HQ8 := Aside0.mk hq8; clear hq8 hlt7
            go_upto_region 20 with fail
            obtain ⟨wt, hwt⟩ : ∃ wt, wt = ((w8.setCell ⟨q, 0, none⟩ (.slice A8 T.db.length c8)).setCell ⟨q, 1, none⟩ (.int .i64 T.many)).setCell ⟨q, 2, none⟩ (.int .i64 (max 0 (o.f1 % 1000))) := ⟨_, rfl⟩
            rw [← hwt]
            have HN9 := Aside0.mk (show NowS w wt s g b q n A8 c8 (St.cutAt T (o.f1 % 1000)) from NowS.store (T0 := T) (W5 := w7) (T := St.cutAt T (o.f1 % 1000)) HD.out HS8.out HQ8.out hR8 (fun k hk => hk.elim (fun h => h.1) (fun h => by have := HL7.out; omega)) hB8 (right_cut T _) hwt)
            have HOK9 := Aside0.mk (show St.ok (St.cutAt T (o.f1 % 1000)) (200 * (j + 1)) from St.ok_le (St.ok_cut HOK.out _ (by omega)) (by omega))
            clear hwt hR8 hB8 hK8 hC8 hc8 HS8 HQ8 HX7 HQ7 HR7 HB7 HT7 HS7 HL7 HOK f0 f1 f2 r0 r1 r2
            obtain ⟨t, ht⟩ : ∃ t, t = St.cutAt T (o.f1 % 1000) := ⟨_, rfl⟩
            rw [← ht] at HN9 HOK9
            clear ht
            obtain ⟨A9, hA9⟩ : ∃ A9, A9 = A8 := ⟨_, rfl⟩
            obtain ⟨c9, hc9⟩ : ∃ c9, c9 = c8 := ⟨_, rfl⟩
            rw [← hA9, ← hc9] at HN9
            clear hA9 hc9
            have HLEN := Aside0.mk HN9.out.st.len
            obtain ⟨ad9, e9⟩ : ∃ ad9, A9 = some ad9 := by
              obtain ⟨y, h, _⟩ := (Kd.R_reads' HN9.out.own).2.2.2.2 (by have := HLEN.out; have := HN9.out.st.h3; omega)
              exact ⟨y, h⟩
            subst e9
            have r0 : wt.cell? ⟨q, 0, none⟩ = some (.slice (some ad9) t.db.length c9) := by rw [cell_of_row _ _ _ _ _ _ HN9.out.ref]; rfl
            have r1 : wt.cell? ⟨q, 1, none⟩ = some (.int .i64 t.many) := by rw [cell_of_row _ _ _ _ _ _ HN9.out.ref]; rfl
            have r2 : wt.cell? ⟨q, 2, none⟩ = some (.int .i64 (rleft t)) := by rw [cell_of_row _ _ _ _ _ _ HN9.out.ref]; rfl
            go_wp2_with fail
            refine (LawSameT HN9.out.st.at_ (some ad9) c9 (Kd.R_reads' HN9.out.own).2.2 (Kd.R_reads' HN9.out.own).2.1 HN9.out.rt).mono ?_; rintro e w50 ⟨rfl, hB50⟩
            have HN50 := Aside0.mk (HN9.out.below hB50)
            clear hB50 HN9 r0 r1 r2
            have r0 : w50.cell? ⟨q, 0, none⟩ = some (.slice (some ad9) t.db.length c9) := by rw [cell_of_row _ _ _ _ _ _ HN50.out.ref]; rfl
            have r1 : w50.cell? ⟨q, 1, none⟩ = some (.int .i64 t.many) := by rw [cell_of_row _ _ _ _ _ _ HN50.out.ref]; rfl
            have r2 : w50.cell? ⟨q, 2, none⟩ = some (.int .i64 (rleft t)) := by rw [cell_of_row _ _ _ _ _ _ HN50.out.ref]; rfl
            go_wp2_with fail
            refine (LawTold HN50.out.st ad9 c9 t.many (rleft t) (Kd.R_reads' HN50.out.own).2.2 (Kd.R_reads' HN50.out.own).2.1).mono ?_; rintro e w51 ⟨rfl, hB51⟩
            have HN51 := Aside0.mk (HN50.out.below hB51)
            clear hB51 HN50 r0 r1 r2 HLEN
            go_wp2_with fail
            go_roundg k1
            case measure => omega
            case rel => exact ⟨j + 1, t, some ad9, c9, by first | (simp; done) | rw [ej], ⟨by have := HK.out; omega, by omega⟩, HN51, HOK9⟩
          · have e2 : (o.f0 == 2) = false := by simp [k2']
            clear k2'
            by_cases k3' : o.f0 = 3
            · have e3 : (o.f0 == 3) = true := by simp [k3']
              clear k3'
              go_wp2_with fail
              refine (Up HN6.out.st.at_).mono ?_; rintro e w7 ⟨rfl, hA7, hO7⟩
              have HS7 := Aside0.mk (show StAt w7 s g b n (St.up T) from HN6.out.st.only hO7 hA7 HN6.out.st.ob)
              have HQ7 := Aside0.mk ((hO7.keep _ (blk_lt HN6.out.ref) HD.out.2.2.1 HD.out.2.2.2).trans HN6.out.ref)
              have HX7 := Aside0.mk ((hO7.keep _ (blk_lt HX6.out) HXN.out.2.1 HXN.out.2.2.1).trans HX6.out)
              have HR7 := Aside0.mk (Kd.R_kept HO6.out hO7.kept (fun k hk hn => hn.elim hk.1.2.1 hk.1.2.2.1))
              have HB7 := Aside0.mk (HN6.out.low.trans (hO7.low _ HD.out.1.2.1 HD.out.1.2.2.1 HN6.out.low.size))
              have HT7 := Aside0.mk HN6.out.rt
              clear hA7 hO7 HN6 HX6 HO6 r0 r1 r2 z0 z1 z2
              have r0 : w7.cell? ⟨q, 0, none⟩ = some (.slice A5 T.db.length c5) := by rw [cell_of_row _ _ _ _ _ _ HQ7.out]; rfl
              have r1 : w7.cell? ⟨q, 1, none⟩ = some (.int .i64 T.many) := by rw [cell_of_row _ _ _ _ _ _ HQ7.out]; rfl
              have r2 : w7.cell? ⟨q, 2, none⟩ = some (.int .i64 (rleft T)) := by rw [cell_of_row _ _ _ _ _ _ HQ7.out]; rfl
              have z0 : w7.cell? ⟨x, 0, none⟩ = some (.int .i64 o.f0) := by rw [cell_of_row _ _ _ _ _ _ HX7.out]; rfl
              have z1 : w7.cell? ⟨x, 1, none⟩ = some (.int .u64 o.f1) := by rw [cell_of_row _ _ _ _ _ _ HX7.out]; rfl
              have z2 : w7.cell? ⟨x, 2, none⟩ = some (.slice A7 o.f2.length c7) := by rw [cell_of_row _ _ _ _ _ _ HX7.out]; rfl
              clear z0 z2
              go_wp2_with fail
              clear z1
              refine (redressref17_Up.calls (fun k => (k ≠ s ∧ k ≠ g ∧ k ≠ b ∧ k ≠ q) ∧ k ≠ x) (.slice A5 T.db.length c5) T.db T.many (rleft T) T.db T.many (-1) w w7 HB7.out HR7.out rfl).mono ?_
              rintro e w8 ⟨v8, rfl, hR8, hB8, hK8⟩
              clear r0 r1 r2
              obtain ⟨A8, c8, rfl, hc8, hC8⟩ := Kd.R_reads hR8
              have hq8 := blk_kept HQ7.out hK8 (fun h => h.1.2.2.2 rfl)
              have hlt7 := At.lt HS7.out.at_
              have HS8 := Aside0.mk (show StAt w8 s g b n (St.up T) from ⟨(hK8.2 s HS7.out.lt (fun h => h.1.1 rfl)).trans HS7.out.hs, At.move (show At w7 g b n (St.up T).db (St.up T).many (St.up T).cut (St.up T).left from HS7.out.at_) (hK8.2 g hlt7.1 (fun h => h.1.2.1 rfl)) (hK8.2 b hlt7.2 (fun h => h.1.2.2.1 rfl)), HS7.out.h3, HS7.out.ob⟩)
              have HL7 := Aside0.mk (show s < w7.heap.size ∧ g < w7.heap.size ∧ b < w7.heap.size ∧ q < w7.heap.size from ⟨HS7.out.lt, hlt7.1, hlt7.2, blk_lt HQ7.out⟩)
              have f0 := blk_frozen hq8 0
              have f1 := blk_frozen hq8 1
              have f2 := blk_frozen hq8 2
              have r0 : w8.cell? ⟨q, 0, none⟩ = some (.slice A5 T.db.length c5) := by rw [cell_of_row _ _ _ _ _ _ hq8]; rfl
              have r1 : w8.cell? ⟨q, 1, none⟩ = some (.int .i64 T.many) := by rw [cell_of_row _ _ _ _ _ _ hq8]; rfl
              have r2 : w8.cell? ⟨q, 2, none⟩ = some (.int .i64 (rleft T)) := by rw [cell_of_row _ _ _ _ _ _ hq8]; rfl
              have HQ8 := Aside0.mk hq8; clear hq8 hlt7
              go_upto_region 20 with fail
              obtain ⟨wt, hwt⟩ : ∃ wt, wt = ((w8.setCell ⟨q, 0, none⟩ (.slice A8 T.db.length c8)).setCell ⟨q, 1, none⟩ (.int .i64 T.many)).setCell ⟨q, 2, none⟩ (.int .i64 (-1)) := ⟨_, rfl⟩
              rw [← hwt]
              have HN9 := Aside0.mk (show NowS w wt s g b q n A8 c8 (St.up T) from NowS.store (T0 := T) (W5 := w7) (T := St.up T) HD.out HS8.out HQ8.out hR8 (fun k hk => hk.elim (fun h => h.1) (fun h => by have := HL7.out; omega)) hB8 (right_up T) hwt)
              have HOK9 := Aside0.mk (show St.ok (St.up T) (200 * (j + 1)) from St.ok_le (St.ok_up HOK.out) (by omega))
              clear hwt hR8 hB8 hK8 hC8 hc8 HS8 HQ8 HX7 HQ7 HR7 HB7 HT7 HS7 HL7 HOK f0 f1 f2 r0 r1 r2
              obtain ⟨t, ht⟩ : ∃ t, t = St.up T := ⟨_, rfl⟩
              rw [← ht] at HN9 HOK9
              clear ht
              obtain ⟨A9, hA9⟩ : ∃ A9, A9 = A8 := ⟨_, rfl⟩
              obtain ⟨c9, hc9⟩ : ∃ c9, c9 = c8 := ⟨_, rfl⟩
              rw [← hA9, ← hc9] at HN9
              clear hA9 hc9
              have HLEN := Aside0.mk HN9.out.st.len
              obtain ⟨ad9, e9⟩ : ∃ ad9, A9 = some ad9 := by
                obtain ⟨y, h, _⟩ := (Kd.R_reads' HN9.out.own).2.2.2.2 (by have := HLEN.out; have := HN9.out.st.h3; omega)
                exact ⟨y, h⟩
              subst e9
              have r0 : wt.cell? ⟨q, 0, none⟩ = some (.slice (some ad9) t.db.length c9) := by rw [cell_of_row _ _ _ _ _ _ HN9.out.ref]; rfl
              have r1 : wt.cell? ⟨q, 1, none⟩ = some (.int .i64 t.many) := by rw [cell_of_row _ _ _ _ _ _ HN9.out.ref]; rfl
              have r2 : wt.cell? ⟨q, 2, none⟩ = some (.int .i64 (rleft t)) := by rw [cell_of_row _ _ _ _ _ _ HN9.out.ref]; rfl
              go_wp2_with fail
              refine (LawSameT HN9.out.st.at_ (some ad9) c9 (Kd.R_reads' HN9.out.own).2.2 (Kd.R_reads' HN9.out.own).2.1 HN9.out.rt).mono ?_; rintro e w50 ⟨rfl, hB50⟩
              have HN50 := Aside0.mk (HN9.out.below hB50)
              clear hB50 HN9 r0 r1 r2
              have r0 : w50.cell? ⟨q, 0, none⟩ = some (.slice (some ad9) t.db.length c9) := by rw [cell_of_row _ _ _ _ _ _ HN50.out.ref]; rfl
              have r1 : w50.cell? ⟨q, 1, none⟩ = some (.int .i64 t.many) := by rw [cell_of_row _ _ _ _ _ _ HN50.out.ref]; rfl
              have r2 : w50.cell? ⟨q, 2, none⟩ = some (.int .i64 (rleft t)) := by rw [cell_of_row _ _ _ _ _ _ HN50.out.ref]; rfl
              go_wp2_with fail
              refine (LawTold HN50.out.st ad9 c9 t.many (rleft t) (Kd.R_reads' HN50.out.own).2.2 (Kd.R_reads' HN50.out.own).2.1).mono ?_; rintro e w51 ⟨rfl, hB51⟩
              have HN51 := Aside0.mk (HN50.out.below hB51)
              clear hB51 HN50 r0 r1 r2 HLEN
              go_wp2_with fail
              go_roundg k1
              case measure => omega
              case rel => exact ⟨j + 1, t, some ad9, c9, by first | (simp; done) | rw [ej], ⟨by have := HK.out; omega, by omega⟩, HN51, HOK9⟩
            · have e3 : (o.f0 == 3) = false := by simp [k3']
              clear k3'
              go_upto_region 20 with fail
              clear z0 z1 z2 r0 r1 r2
              have HOK9 := Aside0.mk (St.ok_le HOK.out (show 200 * j ≤ 200 * (j + 1) by omega))
              obtain ⟨wt, hwt⟩ : ∃ wt, wt = w6 := ⟨_, rfl⟩
              rw [← hwt] at HN6 ⊢
              clear hwt
              obtain ⟨t, ht⟩ : ∃ t, t = T := ⟨_, rfl⟩
              rw [← ht] at HN6 HOK9
              clear ht
              obtain ⟨A9, hA9⟩ : ∃ A9, A9 = A5 := ⟨_, rfl⟩
              obtain ⟨c9, hc9⟩ : ∃ c9, c9 = c5 := ⟨_, rfl⟩
              rw [← hA9, ← hc9] at HN6
              clear hA9 hc9
              have HN9 := HN6
              clear HN6
              have HLEN := Aside0.mk HN9.out.st.len
              obtain ⟨ad9, e9⟩ : ∃ ad9, A9 = some ad9 := by
                obtain ⟨y, h, _⟩ := (Kd.R_reads' HN9.out.own).2.2.2.2 (by have := HLEN.out; have := HN9.out.st.h3; omega)
                exact ⟨y, h⟩
              subst e9
              have r0 : wt.cell? ⟨q, 0, none⟩ = some (.slice (some ad9) t.db.length c9) := by rw [cell_of_row _ _ _ _ _ _ HN9.out.ref]; rfl
              have r1 : wt.cell? ⟨q, 1, none⟩ = some (.int .i64 t.many) := by rw [cell_of_row _ _ _ _ _ _ HN9.out.ref]; rfl
              have r2 : wt.cell? ⟨q, 2, none⟩ = some (.int .i64 (rleft t)) := by rw [cell_of_row _ _ _ _ _ _ HN9.out.ref]; rfl
              go_wp2_with fail
              refine (LawSameT HN9.out.st.at_ (some ad9) c9 (Kd.R_reads' HN9.out.own).2.2 (Kd.R_reads' HN9.out.own).2.1 HN9.out.rt).mono ?_; rintro e w50 ⟨rfl, hB50⟩
              have HN50 := Aside0.mk (HN9.out.below hB50)
              clear hB50 HN9 r0 r1 r2
              have r0 : w50.cell? ⟨q, 0, none⟩ = some (.slice (some ad9) t.db.length c9) := by rw [cell_of_row _ _ _ _ _ _ HN50.out.ref]; rfl
              have r1 : w50.cell? ⟨q, 1, none⟩ = some (.int .i64 t.many) := by rw [cell_of_row _ _ _ _ _ _ HN50.out.ref]; rfl
              have r2 : w50.cell? ⟨q, 2, none⟩ = some (.int .i64 (rleft t)) := by rw [cell_of_row _ _ _ _ _ _ HN50.out.ref]; rfl
              go_wp2_with fail
              refine (LawTold HN50.out.st ad9 c9 t.many (rleft t) (Kd.R_reads' HN50.out.own).2.2 (Kd.R_reads' HN50.out.own).2.1).mono ?_; rintro e w51 ⟨rfl, hB51⟩
              have HN51 := Aside0.mk (HN50.out.below hB51)
              clear hB51 HN50 r0 r1 r2 HLEN
              go_wp2_with fail
              go_roundg k1
              case measure => omega
              case rel => exact ⟨j + 1, t, some ad9, c9, by first | (simp; done) | rw [ej], ⟨by have := HK.out; omega, by omega⟩, HN51, HOK9⟩
      · have c14 : decide ((j : Int) < (ls.length : Int)) = false := decide_eq_false (by omega)
        have HBB := Aside0.mk HNW.out.low
        clear HNW
        go_wp2_with fail
        refine (alive _).mono ?_; rintro e w90 ⟨rfl, hB90⟩
        have HB90 := Aside0.mk (Aid.bthen HBB.out hB90)
        clear hB90 HBB
        go_wp2_with fail
        go_ret
        exact ⟨rfl, HB90.out⟩
theorem SlotsAll (A : Option Addr) (c : Nat) (l : List Int) (A1 : Option Addr) (c1 : Nat) (ls : List S63) (w : World) (hr : Kd.C (Kd.int .u8) w A l.length l) (hc : l.length ≤ c) (ho : Crc.okb l = true)
    (hr1 : Kd.C k63 w A1 ls.length ls) (hc1 : ls.length ≤ c1) (hM : ls.length ≤ 9223372036854775807) (hox : ∀ y ∈ ls, ((-9223372036854775808 ≤ y.f0 ∧ y.f0 ≤ 9223372036854775807) ∧ (0 ≤ y.f1 ∧ y.f1 < 18446744073709551616) ∧ Crc.okb y.f2 = true)) :
    Calls Try.prog 9 #[.slice A l.length c, .slice A1 ls.length c1] w fun e w' => e = .returned (.bool true) ∧ Below w.heap.size w w' := by
  by_cases h : good l
  · exact SlotsAll.yes A c l A1 c1 ls w hr hc h ho hr1 hc1 hM hox
  · exact SlotsAll.no A c l A1 c1 ls w hr hc h
end Slots
end Disk
end Go.Proofs.Ytbjjpckldjjcgaa
