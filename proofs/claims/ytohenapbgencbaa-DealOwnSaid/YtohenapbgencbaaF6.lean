/- The law DealOwn: its walk (printed by genF.py). -/
import Derived.Test.YtohenapbgencbaaH3
import Derived.BigQuiet
import Derived.Deep.QuietTactic
namespace Go.Proofs.Ytohenapbgencbaa
open Go.RowKit Go.Proofs.YtohenapbgencbaaW.PrintWords Go.Proofs.YtohenapbgencbaaW.PrintLast Go.Proofs.YtohenapbgencbaaW.PrintMore Go.Proofs.Ytohenapbgencbaa.PK
set_option linter.unusedVariables false
set_option linter.unusedSimpArgs false
set_option maxHeartbeats 4000000
set_option maxRecDepth 100000
namespace Deal

theorem DealOwn (A0 : Option Addr) (c0 : Nat) (l0 : List Int) (A1 : Option Addr) (c1 : Nat) (l1 : List S32) (w : World) (hr0 : Kd.C (Kd.int .i64) w A0 l0.length l0) (hc0 : l0.length ≤ c0) (hr1 : Kd.C k32 w A1 l1.length l1) (hc1 : l1.length ≤ c1) (hm : l1.length ≤ 9223372036854775807) (hw : ∀ y ∈ l1, wfI y.f0) :
    Calls Try.prog 7 #[.slice A0 l0.length c0, .slice A1 l1.length c1] w fun e w' => e = .returned (.bool true) ∧ Below w.heap.size w w' := by
  have HR := Aside0.mk hr0; clear hr0
  have HL := Aside0.mk hr1; clear hr1
  have FW := Aside0.mk (Few A0 c0 l0 A1 c1 l1 w HR.out hc0 HL.out hc1 hm)
  have HW := Aside0.mk hw; clear hw
  go_enter Try.func7, Try.ntmps7
  go_wp2_with fail
  refine FW.out.mono ?_; rintro e w1 ⟨r, rfl, hfew, hB⟩
  have HB := Aside0.mk hB; clear hB
  cases r
  · clear hfew
    go_wp2_with fail
    refine (alive _).mono ?_; rintro e wz ⟨rfl, hz⟩
    have HBZ := Aside0.mk (Aid.bthen HB.out hz); clear hz
    go_wp2_with fail
    go_ret
    exact ⟨rfl, HBZ.out⟩
  have L0 := (hfew rfl).1
  have L1 := (hfew rfl).2
  clear hfew hm
  go_wp2_with fail
  refine (NewNow (w0 := w) A0 c0 l0 w1 HB.out (Kd.C_below HR.out HB.out) hc0 (by omega)).mono ?_; rintro e w2 ⟨g, rfl, hN, _⟩
  have HN2 := Aside0.mk hN; clear hN HB
  go_upto_region 7 with fail
  obtain ⟨w5, hw5⟩ : ∃ w5, w5 = w2.alloc (Obj.cells #[.slice A0 l0.length c0, .slice none 0 0, .int .i64 0] 30) := ⟨_, rfl⟩
  rw [← hw5]
  have hb5 : Below w2.heap.size w2 w5 := by rw [hw5]; exact (Below.refl _ _).alloc (Nat.le_refl _) _
  obtain ⟨q, hq⟩ : ∃ q, q = w2.heap.size := ⟨_, rfl⟩
  have hz5 : w5.heap.size = w2.heap.size + 1 := by rw [hw5]; simp
  have HBT := Aside0.mk (show Both w w5 w5.heap.size _ g q ⟨l0, [], 0⟩ A0 c0 none 0 from
    ⟨HN2.out.below hb5, by rw [hw5, hq]; exact Aid.heap_new w2 _, Kd.R_nil _ _ _ _ _, fun h => by have := (HN2.out.lo q h).2; omega, by rw [hq]; exact HN2.out.low.size, fun k hk => by have := (HN2.out.lo k hk).2; omega, by omega⟩)
  rw [← hq]
  clear hw5 hb5 hz5 hq HN2
  go_wp2_with fail
  go_loopg [28] (l1.length + 1) (fun kq v28 w' => ∃ (j : Nat) (s : DS), v28 = .int .i64 (j : Int) ∧ Aside0 (kq + j = l1.length + 1 ∧ j ≤ l1.length) ∧ Aside0 (∃ own DA Dc, Both w w' w'.heap.size own g q s A0 c0 DA Dc) ∧ Aside0 (s.sane l0 j))
  case atStart => exact ⟨0, _, rfl, ⟨by omega, by omega⟩, ⟨_, _, _, HBT.out⟩, ⟨sane0 l0⟩⟩
  case round =>
    clear HBT
    obtain ⟨j, s, rfl, HK, HNE, HS⟩ := hrel
    obtain ⟨own, DA, Dc, hN⟩ := HNE.out
    have HN := Aside0.mk hN
    clear hN HNE
    have hrf := HS.out.2.2
    have HRF := Aside0.mk hrf
    clear hrf
    cases gk with
    | zero => exact absurd HK.out (by omega)
    | succ k1 =>
      by_cases hj : j < l1.length
      · have c14 : decide ((j : Int) < (l1.length : Int)) = true := decide_eq_true (by omega)
        have p0 : (0 : Int) ≤ (j : Int) := by omega
        have q0 : (j : Int) < (l1.length : Int) := by omega
        obtain ⟨ad, e7, x0, x1⟩ := at_T32 HL.out (j : Int) p0 q0
        cases e7
        rw [rd32 l1 j hj] at x0 x1
        simp only [Int.toNat_natCast] at x0 x1
        obtain ⟨o, ho⟩ : ∃ o, o = l1[j] := ⟨_, rfl⟩
        rw [← ho] at x0 x1
        have HOJ := Aside0.mk ho; clear ho
        have HWJ := Aside0.mk (show wfI o.f0 by rw [HOJ.out]; exact HW.out _ (List.getElem_mem hj))
        replace x0 := (HN.out.now.low.cell (World.block_lt_of_cell? w _ x0)).trans x0
        replace x1 := (HN.out.now.low.cell (World.block_lt_of_cell? w _ x1)).trans x1
        have ej : IntKind.i64.wrap ((j : Int) + 1) = ((j + 1 : Nat) : Int) := by rw [IntKind.wrap_i64]; omega
        go_upto_region 10 with fail
        obtain ⟨w6, hw6⟩ : ∃ w6, w6 = wr.alloc (.cells #[.int .i64 o.f0, .string o.f1] 32) := ⟨_, rfl⟩
        rw [← hw6]
        have hb6 : Below wr.heap.size wr w6 := by rw [hw6]; exact (Below.refl _ _).alloc (Nat.le_refl _) _
        have HX6 := Aside0.mk (show w6.heap[wr.heap.size]? = some (.cells #[.int .i64 o.f0, .string o.f1] 32 (0, 0)) by rw [hw6]; exact Aid.heap_new wr _)
        obtain ⟨x, hx⟩ : ∃ x, x = wr.heap.size := ⟨_, rfl⟩
        rw [← hx] at HX6 ⊢
        have z0 : w6.cell? ⟨x, 0, none⟩ = some (.int .i64 o.f0) := by rw [cell_of_row _ _ _ _ _ _ HX6.out]; rfl
        have z1 : w6.cell? ⟨x, 1, none⟩ = some (.string o.f1) := by rw [cell_of_row _ _ _ _ _ _ HX6.out]; rfl
        have HN6 := Aside0.mk ((HN.out.more hb6.size).below hb6)
        have HXQ := Aside0.mk (show ¬ own x ∧ x ≠ q ∧ x < w6.heap.size by rw [hx]; exact ⟨fun h => by have := (HN.out.now.lo _ h).2; omega, by have := blk_lt HN.out.hq; omega, by have := blk_lt HX6.out; omega⟩)
        clear hb6 hw6 hx x0 x1 HN
        obtain ⟨s2, hs2⟩ : ∃ s2, s2 = (s.ask o.f0 o.f1).2 := ⟨_, rfl⟩
        obtain ⟨bb, hbb⟩ : ∃ bb, bb = (s.ask o.f0 o.f1).1 := ⟨_, rfl⟩
        have HS2 := Aside0.mk (show s2.sane l0 (j + 1) by rw [hs2]; exact sane_ask HS.out _ _)
        have rask := fun W ok hr hd => RefAsk A0 c0 DA Dc s o.f0 o.f1 W ok hr (by rw [HRF.out]; exact hc0) hd (by have := HS.out.1; omega) (by have := HS.out.2.1; omega) (by rw [HRF.out]; omega)
        have dask := HN6.out.now.ask o.f0 o.f1 HWJ.out (by have := HS.out.1; omega) (by have := HS.out.2.1; omega) (by rw [HRF.out]; omega)
        rw [← hs2, ← hbb] at rask dask
        have RASK := Aside0.mk rask
        have DASK := Aside0.mk dask
        clear rask dask hs2 hbb
        go_wp2_with fail
        refine DASK.out.mono ?_; rintro e w7 ⟨rfl, hN7, hO7⟩
        clear z0 z1 DASK
        obtain ⟨own', hown'⟩ : ∃ own' : Nat → Prop, own' = (fun k => own k ∨ (w6.heap.size ≤ k ∧ k < w7.heap.size)) := ⟨_, rfl⟩
        rw [← hown'] at hN7
        have HQ7 := Aside0.mk ((hO7.keep _ (blk_lt HN6.out.hq) HN6.out.oq).trans HN6.out.hq)
        have HX7 := Aside0.mk ((hO7.keep _ (blk_lt HX6.out) HXQ.out.1).trans HX6.out)
        have hoq : ¬ own' q := by rw [hown']; exact fun h => h.elim HN6.out.oq (fun h2 => by have := blk_lt HN6.out.hq; omega)
        have HR7 := Aside0.mk (show Kd.R k53 53 w7 0 (fun k => ¬ own' k ∧ k ≠ q ∧ k < w7.heap.size) (.slice DA s.deeds.length Dc) s.deeds from
          Kd.R_mono (Kd.R_kept HN6.out.row hO7.kept (fun k hk => hk.1)) (fun k hk => ⟨by rw [hown']; exact fun h => h.elim hk.1 (fun h2 => by have := hk.2.2; omega), hk.2.1, by have := hk.2.2; have := hO7.size; omega⟩))
        have HQN := Aside0.mk (show ¬ own' q ∧ w.heap.size ≤ q ∧ q < w7.heap.size from ⟨hoq, HN6.out.lq, blk_lt HQ7.out⟩)
        have HN7 := Aside0.mk hN7
        clear hN7 hO7 hown' hoq HN6 HX6
        have z0 : w7.cell? ⟨x, 0, none⟩ = some (.int .i64 o.f0) := by rw [cell_of_row _ _ _ _ _ _ HX7.out]; rfl
        have z1 : w7.cell? ⟨x, 1, none⟩ = some (.string o.f1) := by rw [cell_of_row _ _ _ _ _ _ HX7.out]; rfl
        have r0 : w7.cell? ⟨q, 0, none⟩ = some (.slice A0 s.refuses.length c0) := by rw [cell_of_row _ _ _ _ _ _ HQ7.out]; rfl
        have r1 : w7.cell? ⟨q, 1, none⟩ = some (.slice DA s.deeds.length Dc) := by rw [cell_of_row _ _ _ _ _ _ HQ7.out]; rfl
        have r2 : w7.cell? ⟨q, 2, none⟩ = some (.int .i64 s.asked) := by rw [cell_of_row _ _ _ _ _ _ HQ7.out]; rfl
        go_wp2_with fail
        refine (RASK.out w7 _ (by rw [HRF.out]; exact Kd.C_below HR.out HN7.out.low) HR7.out).mono ?_; rintro e w8 ⟨DA2, Dc2, rfl, hR8, hb8⟩
        clear r0 r1 r2 z0 z1 RASK
        have HQ8 := Aside0.mk ((hb8.block _ (blk_lt HQ7.out)).trans HQ7.out)
        have HN8 := Aside0.mk (HN7.out.below hb8)
        have HR8 := Aside0.mk (Kd.R_bound hR8)
        have HZ8 := Aside0.mk hb8.size
        have r0 : w8.cell? ⟨q, 0, none⟩ = some (.slice A0 s.refuses.length c0) := by rw [cell_of_row _ _ _ _ _ _ HQ8.out]; rfl
        have r1 : w8.cell? ⟨q, 1, none⟩ = some (.slice DA s.deeds.length Dc) := by rw [cell_of_row _ _ _ _ _ _ HQ8.out]; rfl
        have r2 : w8.cell? ⟨q, 2, none⟩ = some (.int .i64 s.asked) := by rw [cell_of_row _ _ _ _ _ _ HQ8.out]; rfl
        have f0 := blk_frozen HQ8.out 0
        have f1 := blk_frozen HQ8.out 1
        have f2 := blk_frozen HQ8.out 2
        clear hR8 hb8 HQ7 HR7 HX7
        go_upto_region 12 with fail
        clear r0 r1 r2 f0 f1 f2
        obtain ⟨wX, hwX⟩ : ∃ wX, wX = ((w8.setCell ⟨q, 0, none⟩ (.slice A0 s2.refuses.length c0)).setCell ⟨q, 1, none⟩ (.slice DA2 s2.deeds.length Dc2)).setCell ⟨q, 2, none⟩ (.int .i64 s2.asked) := ⟨_, rfl⟩
        rw [← hwX]
        have hoX : Only (fun k => k = q) w8 wX := by rw [hwX]; exact only_set3 _ _ _ _ _
        have hzX : wX.heap.size = w8.heap.size := by rw [hwX]; simp
        have HBX := Aside0.mk (show ∃ own DA Dc, Both w wX wX.heap.size own g q s2 A0 c0 DA Dc from ⟨own', DA2, Dc2,
          HN8.out.only hoX (fun k h1 h2 => HQN.out.1 (by rw [← show k = q from h2]; exact h1)) (fun k h => by rw [show k = q from h]; exact HQN.out.2.1),
          by rw [hwX]; exact heap_setCell_same _ q 2 _ 30 _ (heap_setCell_same _ q 1 _ 30 _ (heap_setCell_same w8 q 0 _ 30 _ HQ8.out)),
          Kd.R_kept (Kd.R_mono HR8.out (fun k hk => by
            have h1 := hk.2.2.1
            rcases hk.1 with h | h
            · exact ⟨h.1, h.2.1, by omega⟩
            · exact ⟨fun h3 => by have := (HN7.out.lo k h3).2; omega, by have := HQN.out.2.2; omega, by omega⟩)) hoX.kept (fun k hk e => hk.2.1 e),
          HQN.out.1, HQN.out.2.1, fun k h => by have := (HN7.out.lo k h).2; have := HZ8.out; omega, by have := HQN.out.2.2; have := HZ8.out; omega⟩)
        clear hwX hoX hzX HN8 HR8 HQ8 HN7 HZ8 HQN
        go_wp2_with fail
        go_roundg k1
        case measure => omega
        case rel => exact ⟨j + 1, s2, by first | (simp; done) | rw [ej], ⟨by have := HK.out; omega, by omega⟩, HBX, HS2⟩
      · have c14 : decide ((j : Int) < (l1.length : Int)) = false := decide_eq_false (by omega)
        have hJ : j = l1.length := by have := HK.out; omega
        have HDL := Aside0.mk (show s.deeds.length ≤ 100 by have := HS.out.2.1; omega)
        clear HK hJ
        obtain ⟨m, hm⟩ : ∃ m, m = wr.heap.size := ⟨_, rfl⟩
        have HBT0 := Aside0.mk (show Both w wr m own g q s A0 c0 DA Dc by rw [hm]; exact HN.out)
        have HM0 := Aside0.mk hm
        clear hm HN
        go_wp2_with fail
        refine (Deeds HBT0.out.now.at_ (by have := HDL.out; omega)).mono ?_; rintro e w7 ⟨va, rfl, hRa, hba⟩
        obtain ⟨la, hla⟩ : ∃ la, la = s.deeds := ⟨_, rfl⟩
        rw [← hla] at hRa
        obtain ⟨AA, ca, rfl, _, _⟩ := Kd.R_reads hRa
        obtain ⟨ga, hga⟩ := row_blk hRa
        have hlla : la.length ≤ 100 := by rw [hla]; exact HDL.out
        have HRA := Aside0.mk hga
        have HBT1 := Aside0.mk (HBT0.out.below hba)
        have HM1 := Aside0.mk (show m ≤ w7.heap.size by rw [HM0.out]; exact hba.size)
        clear hRa hba hga hla HBT0
        go_wp2_with fail
        refine (Done HBT1.out.now.at_ (by have := HDL.out; omega)).mono ?_; rintro e w8 ⟨vb, rfl, hRb, hbb⟩
        have hllb0 := pick_len (fun x => x.f2) s.deeds
        obtain ⟨lb, hlb⟩ : ∃ lb, lb = pick (fun x => x.f2) s.deeds := ⟨_, rfl⟩
        rw [← hlb] at hRb hllb0
        obtain ⟨AB, cb, rfl, _, _⟩ := Kd.R_reads hRb
        obtain ⟨gb, hgb⟩ := row_blk hRb
        have HRB := Aside0.mk hgb
        have HBT2 := Aside0.mk (HBT1.out.below hbb)
        have HBA2 := Aside0.mk (fun h => (HRA.out h).2.2.2.below hbb)
        have HM2 := Aside0.mk (show m ≤ w8.heap.size from Nat.le_trans HM1.out hbb.size)
        clear hRb hbb hgb hlb HBT1
        go_wp2_with fail
        refine (Refused HBT2.out.now.at_ (by have := HDL.out; omega)).mono ?_; rintro e w9 ⟨vc, rfl, hRc, hbc⟩
        have hllc0 := Nat.le_trans (uniq_len (pick (fun x => !x.f2) s.deeds)) (pick_len (fun x => !x.f2) s.deeds)
        obtain ⟨lc, hlc⟩ : ∃ lc, lc = uniq (pick (fun x => !x.f2) s.deeds) := ⟨_, rfl⟩
        rw [← hlc] at hRc hllc0
        obtain ⟨AC, cc, rfl, _, _⟩ := Kd.R_reads hRc
        obtain ⟨gc, hgc⟩ := row_blk hRc
        have HBT := Aside0.mk (HBT2.out.below hbc)
        have HBB := Aside0.mk (show (0 < la.length → Blk w9 ga 42 (la.length * 3)) ∧ (0 < lb.length → Blk w9 gb 9 lb.length) ∧ (0 < lc.length → Blk w9 gc 9 lc.length) from
          ⟨fun h => (HBA2.out h).below hbc, fun h => by have := (HRB.out h).2.2.2.below hbc; rwa [show lb.length * Kd.string.sz = lb.length from Nat.mul_one _] at this, fun h => by have := (hgc h).2.2.2; rwa [show lc.length * Kd.string.sz = lc.length from Nat.mul_one _] at this⟩)
        have HGA := Aside0.mk (fun h => And.intro (HRA.out h).1 (show m ≤ ga by rw [HM0.out]; exact (HRA.out h).2.1))
        have HGB := Aside0.mk (fun h => And.intro (HRB.out h).1 (show m ≤ gb from Nat.le_trans HM1.out (HRB.out h).2.1))
        have HGC := Aside0.mk (fun h => And.intro (hgc h).1 (show m ≤ gc from Nat.le_trans HM2.out (hgc h).2.1))
        have HLX := Aside0.mk (show la.length ≤ 100 ∧ lb.length ≤ 100 ∧ lc.length ≤ 100 from ⟨hlla, Nat.le_trans hllb0 HDL.out, Nat.le_trans hllc0 HDL.out⟩)
        clear hRc hbc hgc hlc HBT2 HRA HRB HBA2 HM0 HM1 HM2 hllb0 hllc0 hlla
        go_wp2_with fail
        go_loopg [56] (la.length + 1) (fun kq v56 w' => ∃ (j : Nat), v56 = .int .i64 (j : Int) ∧ Aside0 (kq + j = la.length + 1 ∧ j ≤ la.length) ∧ Aside0 (Both w w' m own g q s A0 c0 DA Dc) ∧ Aside0 ((0 < la.length → Blk w' ga 42 (la.length * 3)) ∧ (0 < lb.length → Blk w' gb 9 lb.length) ∧ (0 < lc.length → Blk w' gc 9 lc.length)))
        case atStart => exact ⟨0, rfl, ⟨by omega, by omega⟩, HBT, HBB⟩
        case round =>
          clear HBT HBB
          obtain ⟨j, rfl, HK, HBT, HBB⟩ := hrel
          cases gk with
          | zero => exact absurd HK.out (by omega)
          | succ k1 =>
            by_cases hj : j < la.length
            · have c15 : decide ((j : Int) < (la.length : Int)) = true := decide_eq_true (by omega)
              have p3 : (0 : Int) ≤ (j : Int) := by omega
              have q3 : (j : Int) < (la.length : Int) := by omega
              have hLx := HLX.out
              have ej3 : IntKind.i64.wrap ((j : Int) + 1) = ((j + 1 : Nat) : Int) := by rw [IntKind.wrap_i64]; omega
              have hA := (HGA.out (by omega)).1
              have HM := Aside0.mk (HGA.out (by omega)).2
              subst hA
              have hblk := HBB.out.1 (by omega)
              obtain ⟨⟨u0_, hu0⟩, hf0⟩ := hblk.cell (j * 3) (by omega)
              obtain ⟨⟨u1_, hu1⟩, hf1⟩ := hblk.cell (j * 3 + 1) (by omega)
              obtain ⟨⟨u2_, hu2⟩, hf2⟩ := hblk.cell (j * 3 + 2) (by omega)
              clear hblk hLx
              go_wp2_with fail
              go_roundg k1
              case measure => omega
              case rel => exact ⟨j + 1, by first | (simp; done) | rw [ej3], ⟨by have := HK.out; omega, by omega⟩, ⟨HBT.out.only ((((Only.refl (fun k => k = ga) wr).set rfl (j * 3) _).set rfl (j * 3 + 1) _).set rfl (j * 3 + 2) _) (fun k h => by rw [show k = ga from h]; exact HM.out)⟩, ⟨And.intro (fun h => (((HBB.out.1 h).any ga (j * 3) _).any ga (j * 3 + 1) _).any ga (j * 3 + 2) _) (And.intro (fun h => (((HBB.out.2.1 h).any ga (j * 3) _).any ga (j * 3 + 1) _).any ga (j * 3 + 2) _) (fun h => (((HBB.out.2.2 h).any ga (j * 3) _).any ga (j * 3 + 1) _).any ga (j * 3 + 2) _))⟩⟩
            · have c15 : decide ((j : Int) < (la.length : Int)) = false := decide_eq_false (by omega)
              clear HK
              go_wp2_with fail
              go_loopg [66] (lb.length + 1) (fun kq v66 w' => ∃ (j : Nat), v66 = .int .i64 (j : Int) ∧ Aside0 (kq + j = lb.length + 1 ∧ j ≤ lb.length) ∧ Aside0 (Both w w' m own g q s A0 c0 DA Dc) ∧ Aside0 ((0 < la.length → Blk w' ga 42 (la.length * 3)) ∧ (0 < lb.length → Blk w' gb 9 lb.length) ∧ (0 < lc.length → Blk w' gc 9 lc.length)))
              case atStart => exact ⟨0, rfl, ⟨by omega, by omega⟩, HBT, HBB⟩
              case round =>
                clear HBT HBB
                obtain ⟨j, rfl, HK, HBT, HBB⟩ := hrel
                cases gk with
                | zero => exact absurd HK.out (by omega)
                | succ k1 =>
                  by_cases hj : j < lb.length
                  · have c15 : decide ((j : Int) < (lb.length : Int)) = true := decide_eq_true (by omega)
                    have p3 : (0 : Int) ≤ (j : Int) := by omega
                    have q3 : (j : Int) < (lb.length : Int) := by omega
                    have hLx := HLX.out
                    have ej3 : IntKind.i64.wrap ((j : Int) + 1) = ((j + 1 : Nat) : Int) := by rw [IntKind.wrap_i64]; omega
                    have hA := (HGB.out (by omega)).1
                    have HM := Aside0.mk (HGB.out (by omega)).2
                    subst hA
                    have hblk := HBB.out.2.1 (by omega)
                    obtain ⟨⟨u0_, hu0⟩, hf0⟩ := hblk.cell (j) (by omega)
                    clear hblk hLx
                    go_wp2_with fail
                    go_roundg k1
                    case measure => omega
                    case rel => exact ⟨j + 1, by first | (simp; done) | rw [ej3], ⟨by have := HK.out; omega, by omega⟩, ⟨HBT.out.only ((Only.refl (fun k => k = gb) wr).set rfl (j) _) (fun k h => by rw [show k = gb from h]; exact HM.out)⟩, ⟨And.intro (fun h => (HBB.out.1 h).any gb (j) _) (And.intro (fun h => (HBB.out.2.1 h).any gb (j) _) (fun h => (HBB.out.2.2 h).any gb (j) _))⟩⟩
                  · have c15 : decide ((j : Int) < (lb.length : Int)) = false := decide_eq_false (by omega)
                    clear HK
                    go_wp2_with fail
                    go_loopg [75] (lc.length + 1) (fun kq v75 w' => ∃ (j : Nat), v75 = .int .i64 (j : Int) ∧ Aside0 (kq + j = lc.length + 1 ∧ j ≤ lc.length) ∧ Aside0 (Both w w' m own g q s A0 c0 DA Dc) ∧ Aside0 ((0 < la.length → Blk w' ga 42 (la.length * 3)) ∧ (0 < lb.length → Blk w' gb 9 lb.length) ∧ (0 < lc.length → Blk w' gc 9 lc.length)))
                    case atStart => exact ⟨0, rfl, ⟨by omega, by omega⟩, HBT, HBB⟩
                    case round =>
                      clear HBT HBB
                      obtain ⟨j, rfl, HK, HBT, HBB⟩ := hrel
                      cases gk with
                      | zero => exact absurd HK.out (by omega)
                      | succ k1 =>
                        by_cases hj : j < lc.length
                        · have c15 : decide ((j : Int) < (lc.length : Int)) = true := decide_eq_true (by omega)
                          have p3 : (0 : Int) ≤ (j : Int) := by omega
                          have q3 : (j : Int) < (lc.length : Int) := by omega
                          have hLx := HLX.out
                          have ej3 : IntKind.i64.wrap ((j : Int) + 1) = ((j + 1 : Nat) : Int) := by rw [IntKind.wrap_i64]; omega
                          have hA := (HGC.out (by omega)).1
                          have HM := Aside0.mk (HGC.out (by omega)).2
                          subst hA
                          have hblk := HBB.out.2.2 (by omega)
                          obtain ⟨⟨u0_, hu0⟩, hf0⟩ := hblk.cell (j) (by omega)
                          clear hblk hLx
                          go_wp2_with fail
                          go_roundg k1
                          case measure => omega
                          case rel => exact ⟨j + 1, by first | (simp; done) | rw [ej3], ⟨by have := HK.out; omega, by omega⟩, ⟨HBT.out.only ((Only.refl (fun k => k = gc) wr).set rfl (j) _) (fun k h => by rw [show k = gc from h]; exact HM.out)⟩, ⟨And.intro (fun h => (HBB.out.1 h).any gc (j) _) (And.intro (fun h => (HBB.out.2.1 h).any gc (j) _) (fun h => (HBB.out.2.2 h).any gc (j) _))⟩⟩
                        · have c15 : decide ((j : Int) < (lc.length : Int)) = false := decide_eq_false (by omega)
                          clear HK
                          go_wp2_with fail
                          refine (alive _).mono ?_; rintro e wz ⟨rfl, hz⟩
                          have HNZ := Aside0.mk (HBT.out.below hz)
                          clear hz HBT
                          obtain ⟨r0, r1, r2, rf⟩ := HNZ.out.cells
                          clear rf
                          go_wp2_with fail
                          refine (Same HNZ.out.now.at_ A0 c0 DA Dc (by rw [HRF.out]; exact Kd.C_below HR.out HNZ.out.now.low) (by rw [HRF.out]; exact hc0) (Kd.R_reads' HNZ.out.row).2.2 (Kd.R_reads' HNZ.out.row).2.1 (by have := HDL.out; omega)).mono ?_
                          rintro e w11 ⟨rfl, hb11⟩
                          have HBE := Aside0.mk (Aid.bthen HNZ.out.now.low hb11)
                          clear hb11 r0 r1 r2 HNZ
                          go_wp2_with fail
                          go_ret
                          exact ⟨rfl, HBE.out⟩
end Deal
end Go.Proofs.Ytohenapbgencbaa
