/- The law DealAll: its walk (printed by genF.py). -/
import Derived.Test.YtohenapbgencbaaH3
import Derived.BigQuiet
import Derived.Deep.QuietTactic
namespace Go.Proofs.Ytohenapbgencbaa
open Go.RowKit Go.Proofs.YtohenapbgencbaaW.PrintWords Go.Proofs.YtohenapbgencbaaW.PrintLast Go.Proofs.YtohenapbgencbaaW.PrintMore Go.Proofs.Ytohenapbgencbaa.PK
set_option linter.unusedVariables false
set_option linter.unusedSimpArgs false
set_option maxHeartbeats 4000000
set_option maxRecDepth 100000
namespace Deal

theorem DealAll (A0 : Option Addr) (c0 : Nat) (l0 : List Int) (A1 : Option Addr) (c1 : Nat) (l1 : List S32) (w : World) (hr0 : Kd.C (Kd.int .i64) w A0 l0.length l0) (hc0 : l0.length ≤ c0) (hr1 : Kd.C k32 w A1 l1.length l1) (hc1 : l1.length ≤ c1) (hm : l1.length ≤ 9223372036854775807) (hw : ∀ y ∈ l1, wfI y.f0) :
    Calls Try.prog 3 #[.slice A0 l0.length c0, .slice A1 l1.length c1] w fun e w' => e = .returned (.bool true) ∧ Below w.heap.size w w' := by
  have HR := Aside0.mk hr0; clear hr0
  have HL := Aside0.mk hr1; clear hr1
  have FW := Aside0.mk (Few A0 c0 l0 A1 c1 l1 w HR.out hc0 HL.out hc1 hm)
  have HW := Aside0.mk hw; clear hw
  go_enter Try.func3, Try.ntmps3
  go_wp2_with fail
  refine FW.out.mono ?_; rintro e w1 ⟨r, rfl, hfew, hB⟩
  have HB := Aside0.mk hB; clear hB
  cases r
  · clear hfew
    go_wp2_with fail
    refine (alive _).mono ?_; rintro e wz ⟨rfl, hz⟩
    have HBZ := Aside0.mk (Aid.bthen HB.out hz); clear hz
    go_wp2_with fail
    go_ret
    exact ⟨rfl, HBZ.out⟩
  have L0 := (hfew rfl).1
  have L1 := (hfew rfl).2
  clear hfew hm
  go_wp2_with (first | ((with_reducible refine gate_dst (N := 18) rfl ?_); refine Kd.R_lit (Kd.int .i64) (w0 := w) w.heap.size 3 ?hg (N := 18) ?hd (xs := ([] : List Int)) (inner := []) (ok := fun _ => True) (okp := fun _ => True) ?hr ?hp (fun _ hk => hk) trivial HB.out HB.out.size (by simp) ?_; (case hd => rfl); (case hg => rfl); (case hr => first | (go_simp; done) | (go_simp; rfl)); (case hp => exact (Reps.none _ _)); intro v18 w2 ho9 hb hg_ hnew_; clear hg_ hnew_; have HB2 := Aside0.mk hb; have HO2 := Aside0.mk ho9; clear hb ho9) | ((with_reducible refine gate_builtin (b := .append) (xs := #[.tmp 18, .tmp 19]) rfl ?_); at_builtin; refine Kd.R_append_rows (Kd.int .i64) (w0 := w) w.heap.size rfl (.tmp 18) (.tmp 19) 22 3 (.int .i64 0) 8 rfl Try.underlying22 info3 rfl (by decide) (by omega) v18 ([] : List Int) l0 _ _ _ (fun _ => True) (fun _ => False) rfl rfl ?aO ?aR (fun _ _ h => h) (fun _ h => h.elim) ?aF ?aB ?aS ?aL ?_; (case aR => exact (Kd.C_below HR.out HB2.out)); (case aB => exact HB2.out); (case aF => exact (fun _ _ => trivial)); (case aO => exact HO2.out); (case aS => exact HB2.out.size); (case aL => simp; omega); intro v20 w3 ho hb hg hat; rw [List.nil_append] at ho; have HB3 := Aside0.mk hb; have HO3 := Aside0.mk ho; clear ho hb hg hat; obtain ⟨AG, cG, eo11⟩ := Kd.R_slice HO3.out; subst eo11))
  refine (NewNow (w0 := w) AG cG l0 w3 HB3.out (Kd.R_reads' HO3.out).2.2 (Kd.R_reads' HO3.out).2.1 (by omega)).mono ?_; rintro e w4 ⟨g, rfl, hN, hb4⟩
  have HN4 := Aside0.mk hN
  obtain ⟨own, hown⟩ : ∃ own : Nat → Prop, own = (fun k => w3.heap.size ≤ k ∧ k < w4.heap.size) := ⟨_, rfl⟩
  rw [← hown] at HN4
  have HOWN := Aside0.mk (show ∀ k, own k → w3.heap.size ≤ k by rw [hown]; exact fun k hk => hk.1)
  have HG4 := Aside0.mk (Kd.R_kept (Kd.R_mono (Kd.R_bound HO3.out) (ok' := fun k => w.heap.size ≤ k ∧ k < w3.heap.size) (fun k hk => ⟨hk.2.1, hk.2.2.1⟩)) (Kept.of_below hb4 (fun _ => False)) (fun _ _ hf => hf))
  clear hN hb4 hown HB3 HO3 HB HB2 HO2
  go_wp2_with fail
  go_loopg [25] (l0.length + 1) (fun kq v25 w' => ∃ (x5 : List Int) (j : Nat), v25 = .int .i64 (j : Int) ∧ Aside0 (kq + j = l0.length + 1 ∧ j ≤ l0.length) ∧ Aside0 (Kd.R (Kd.int .i64) 3 w' w.heap.size (fun k => w.heap.size ≤ k ∧ k < w3.heap.size) (.slice AG l0.length cG) x5) ∧ Aside0 (Now w w' own g ⟨l0, [], 0⟩))
  case atStart => exact ⟨l0, 0, rfl, ⟨by omega, by omega⟩, HG4, HN4⟩
  case round =>
    clear HG4 HN4
    obtain ⟨x5, j, rfl, HK, HG, HN⟩ := hrel
    have hl5 := (Kd.R_reads' HG.out).1
    cases gk with
    | zero => exact absurd HK.out (by omega)
    | succ k1 =>
      by_cases hj : j < l0.length
      · have c14 : decide ((j : Int) < (l0.length : Int)) = true := decide_eq_true (by omega)
        have p0 : (0 : Int) ≤ (j : Int) := by omega
        have q0 : (j : Int) < (l0.length : Int) := by omega
        have HL5 := Aside0.mk hl5; clear hl5
        obtain ⟨ad3, e3, hx3⟩ := Kd.at_int (Kd.R_reads' HG.out).2.2 (j : Int) p0 (by have := HL5.out; omega)
        cases e3
        obtain ⟨gz, cz, ez, gbz, glz, clz, HGz⟩ := Kd.R_form HG.out (by have := HL5.out; omega)
        have gokz : w.heap.size ≤ gz ∧ gz < w3.heap.size := HG.out.1 gz (by rw [ez]; simp [Value.ownBlock])
        (first | cases ez | (injection ez with ea_ en_ ec_; (first | subst ea_ | (injection ea_ with ea_; subst ea_)); subst ec_; clear en_))
        have GOK := Aside0.mk gokz
        clear gbz glz HGz gokz clz
        (first | simp only [add_plain] at hx3 | skip)
        obtain ⟨hxz, hfz⟩ := Kd.R_celln 0 HG.out (j : Int) p0 q0
        simp only [Int.toNat_natCast] at hx3 hxz hfz
        have hput := fun x => (Kd.R_putg HG.out (j : Int) x).1
        simp only [Int.toNat_natCast] at hput
        have HPUT := Aside0.mk hput
        clear hput
        have ej : IntKind.i64.wrap ((j : Int) + 1) = ((j + 1 : Nat) : Int) := by rw [IntKind.wrap_i64]; omega
        go_wp2_with fail
        go_roundg k1
        case measure => omega
        case rel => exact ⟨_, j + 1, by first | (simp; done) | rw [ej], ⟨by have := HK.out; omega, by omega⟩, ⟨HPUT.out _⟩, ⟨HN.out.only ((Only.refl (fun k => k = gz) wr).set rfl j _) (fun k h1 h2 => by have := HOWN.out k h1; have := GOK.out.2; omega) (fun k h => by rw [h]; exact GOK.out.1)⟩⟩
      · have c14 : decide ((j : Int) < (l0.length : Int)) = false := decide_eq_false (by omega)
        clear HK hl5 HG
        go_upto_region 11 with fail
        obtain ⟨w5, hw5⟩ : ∃ w5, w5 = wr.alloc (Obj.cells #[.slice A0 l0.length c0, .slice none 0 0, .int .i64 0] 30) := ⟨_, rfl⟩
        rw [← hw5]
        have hb5 : Below wr.heap.size wr w5 := by rw [hw5]; exact (Below.refl _ _).alloc (Nat.le_refl _) _
        obtain ⟨q, hq⟩ : ∃ q, q = wr.heap.size := ⟨_, rfl⟩
        have hz5 : w5.heap.size = wr.heap.size + 1 := by rw [hw5]; simp
        have HBT := Aside0.mk (show Both w w5 w5.heap.size own g q ⟨l0, [], 0⟩ A0 c0 none 0 from
          ⟨HN.out.below hb5, by rw [hw5, hq]; exact Aid.heap_new wr _, Kd.R_nil _ _ _ _ _, fun h => by have := (HN.out.lo q h).2; omega, by rw [hq]; exact HN.out.low.size, fun k hk => by have := (HN.out.lo k hk).2; omega, by omega⟩)
        rw [← hq]
        clear hw5 hb5 hz5 hq HN HOWN
        go_wp2_with fail
        go_loopg [44] (l1.length + 1) (fun kq v44 w' => ∃ (j : Nat) (s : DS), v44 = .int .i64 (j : Int) ∧ Aside0 (kq + j = l1.length + 1 ∧ j ≤ l1.length) ∧ Aside0 (∃ own DA Dc, Both w w' w'.heap.size own g q s A0 c0 DA Dc) ∧ Aside0 (s.sane l0 j))
        case atStart => exact ⟨0, _, rfl, ⟨by omega, by omega⟩, ⟨_, _, _, HBT.out⟩, ⟨sane0 l0⟩⟩
        case round =>
          clear HBT
          obtain ⟨j, s, rfl, HK, HNE, HS⟩ := hrel
          obtain ⟨own, DA, Dc, hN⟩ := HNE.out
          have HN := Aside0.mk hN
          clear hN HNE
          have hrf := HS.out.2.2
          have HRF := Aside0.mk hrf
          clear hrf
          cases gk with
          | zero => exact absurd HK.out (by omega)
          | succ k1 =>
            by_cases hj : j < l1.length
            · have c14 : decide ((j : Int) < (l1.length : Int)) = true := decide_eq_true (by omega)
              have p0 : (0 : Int) ≤ (j : Int) := by omega
              have q0 : (j : Int) < (l1.length : Int) := by omega
              obtain ⟨ad, e7, x0, x1⟩ := at_T32 HL.out (j : Int) p0 q0
              cases e7
              rw [rd32 l1 j hj] at x0 x1
              simp only [Int.toNat_natCast] at x0 x1
              obtain ⟨o, ho⟩ : ∃ o, o = l1[j] := ⟨_, rfl⟩
              rw [← ho] at x0 x1
              have HOJ := Aside0.mk ho; clear ho
              have HWJ := Aside0.mk (show wfI o.f0 by rw [HOJ.out]; exact HW.out _ (List.getElem_mem hj))
              replace x0 := (HN.out.now.low.cell (World.block_lt_of_cell? w _ x0)).trans x0
              replace x1 := (HN.out.now.low.cell (World.block_lt_of_cell? w _ x1)).trans x1
              have ej : IntKind.i64.wrap ((j : Int) + 1) = ((j + 1 : Nat) : Int) := by rw [IntKind.wrap_i64]; omega
              go_upto_region 16 with fail
              obtain ⟨w6, hw6⟩ : ∃ w6, w6 = wr.alloc (.cells #[.int .i64 o.f0, .string o.f1] 32) := ⟨_, rfl⟩
              rw [← hw6]
              have hb6 : Below wr.heap.size wr w6 := by rw [hw6]; exact (Below.refl _ _).alloc (Nat.le_refl _) _
              have HX6 := Aside0.mk (show w6.heap[wr.heap.size]? = some (.cells #[.int .i64 o.f0, .string o.f1] 32 (0, 0)) by rw [hw6]; exact Aid.heap_new wr _)
              obtain ⟨x, hx⟩ : ∃ x, x = wr.heap.size := ⟨_, rfl⟩
              rw [← hx] at HX6 ⊢
              have z0 : w6.cell? ⟨x, 0, none⟩ = some (.int .i64 o.f0) := by rw [cell_of_row _ _ _ _ _ _ HX6.out]; rfl
              have z1 : w6.cell? ⟨x, 1, none⟩ = some (.string o.f1) := by rw [cell_of_row _ _ _ _ _ _ HX6.out]; rfl
              have HN6 := Aside0.mk ((HN.out.more hb6.size).below hb6)
              have HXQ := Aside0.mk (show ¬ own x ∧ x ≠ q ∧ x < w6.heap.size by rw [hx]; exact ⟨fun h => by have := (HN.out.now.lo _ h).2; omega, by have := blk_lt HN.out.hq; omega, by have := blk_lt HX6.out; omega⟩)
              clear hb6 hw6 hx x0 x1 HN
              obtain ⟨r0, r1, r2, rf⟩ := HN6.out.cells
              obtain ⟨s2, hs2⟩ : ∃ s2, s2 = (s.ask o.f0 o.f1).2 := ⟨_, rfl⟩
              obtain ⟨bb, hbb⟩ : ∃ bb, bb = (s.ask o.f0 o.f1).1 := ⟨_, rfl⟩
              have HS2 := Aside0.mk (show s2.sane l0 (j + 1) by rw [hs2]; exact sane_ask HS.out _ _)
              have rask := RefAsk A0 c0 DA Dc s o.f0 o.f1 w6 (fun k => ¬ own k ∧ k ≠ q ∧ k < w6.heap.size) (by rw [HRF.out]; exact Kd.C_below HR.out HN6.out.now.low) (by rw [HRF.out]; exact hc0) HN6.out.row (by have := HS.out.1; omega) (by have := HS.out.2.1; omega) (by rw [HRF.out]; omega)
              have dask := fun W o2 (h : Now w W o2 g s) => h.ask o.f0 o.f1 HWJ.out (by have := HS.out.1; omega) (by have := HS.out.2.1; omega) (by rw [HRF.out]; omega)
              rw [← hs2, ← hbb] at rask dask
              have RASK := Aside0.mk rask
              have DASK := Aside0.mk dask
              clear rask dask hs2 hbb rf
              go_wp2_with fail
              refine RASK.out.mono ?_; rintro e w7 ⟨DA2, Dc2, rfl, hR7, hb7⟩
              clear r0 r1 r2 z0 z1 RASK
              go_upto_region 17 with fail
              obtain ⟨w8, hw8⟩ : ∃ w8, w8 = w7.alloc (Obj.cells #[.slice A0 s2.refuses.length c0, .slice DA2 s2.deeds.length Dc2, .int .i64 s2.asked] 30) := ⟨_, rfl⟩
              rw [← hw8]
              have hb8 : Below w7.heap.size w7 w8 := by rw [hw8]; exact (Below.refl _ _).alloc (Nat.le_refl _) _
              have hv8 : w8.heap[w7.heap.size]? = some (.cells #[.slice A0 s2.refuses.length c0, .slice DA2 s2.deeds.length Dc2, .int .i64 s2.asked] 30 (0, 0)) := by rw [hw8]; exact Aid.heap_new w7 _
              have HN8 := Aside0.mk (HN6.out.below (Aid.bthen hb7 hb8))
              have HR8 := Aside0.mk (Kd.R_kept (Kd.R_bound hR7) (Kept.of_below hb8 (fun _ => False)) (fun _ _ hf => hf))
              have HX8 := Aside0.mk (((Aid.bthen hb7 hb8).block _ (blk_lt HX6.out)).trans HX6.out)
              have HZ8 := Aside0.mk (And.intro hb7.size hb8.size)
              have v0 : w8.cell? ⟨w7.heap.size, 0, none⟩ = some (.slice A0 s2.refuses.length c0) := by rw [cell_of_row _ _ _ _ _ _ hv8]; rfl
              have v1 : w8.cell? ⟨w7.heap.size, 1, none⟩ = some (.slice DA2 s2.deeds.length Dc2) := by rw [cell_of_row _ _ _ _ _ _ hv8]; rfl
              have v2 : w8.cell? ⟨w7.heap.size, 2, none⟩ = some (.int .i64 s2.asked) := by rw [cell_of_row _ _ _ _ _ _ hv8]; rfl
              obtain ⟨r0, r1, r2, rf⟩ := HN8.out.cells
              have f0 := rf 0; have f1 := rf 1; have f2 := rf 2
              clear rf hb7 hb8 hv8 hw8 hR7 HX6
              go_upto_region 18 with fail
              clear v0 v1 v2 r0 r1 r2 f0 f1 f2
              obtain ⟨wX, hwX⟩ : ∃ wX, wX = ((w8.setCell ⟨q, 0, none⟩ (.slice A0 s2.refuses.length c0)).setCell ⟨q, 1, none⟩ (.slice DA2 s2.deeds.length Dc2)).setCell ⟨q, 2, none⟩ (.int .i64 s2.asked) := ⟨_, rfl⟩
              rw [← hwX]
              have hoX : Only (fun k => k = q) w8 wX := by rw [hwX]; exact only_set3 _ _ _ _ _
              have hzX : wX.heap.size = w8.heap.size := by rw [hwX]; simp
              have HNX := Aside0.mk (HN8.out.now.only hoX (fun k h1 h2 => HN8.out.oq (by rw [← show k = q from h2]; exact h1)) (fun k h => by rw [show k = q from h]; exact HN8.out.lq))
              have HQX := Aside0.mk (show wX.heap[q]? = some (.cells #[.slice A0 s2.refuses.length c0, .slice DA2 s2.deeds.length Dc2, .int .i64 s2.asked] 30 (0, 0)) by
                rw [hwX]; exact heap_setCell_same _ q 2 _ 30 _ (heap_setCell_same _ q 1 _ 30 _ (heap_setCell_same w8 q 0 _ 30 _ HN8.out.hq)))
              have HRX := Aside0.mk (show Kd.R k53 53 wX 0 (fun k => ¬ own k ∧ k ≠ q ∧ k < wX.heap.size) (.slice DA2 s2.deeds.length Dc2) s2.deeds from
                Kd.R_kept (Kd.R_mono HR8.out (fun k hk => by
                  have h1 := hk.2.2.1
                  have h2 := HZ8.out
                  rcases hk.1 with h | h
                  · exact ⟨h.1, h.2.1, by omega⟩
                  · exact ⟨fun h3 => by have := HN8.out.om k h3; omega, by have := HN8.out.qm; omega, by omega⟩)) hoX.kept (fun k hk e => hk.2.1 e))
              have HXX := Aside0.mk ((hoX.keep _ (blk_lt HX8.out) HXQ.out.2.1).trans HX8.out)
              have z0 : wX.cell? ⟨x, 0, none⟩ = some (.int .i64 o.f0) := by rw [cell_of_row _ _ _ _ _ _ HXX.out]; rfl
              have z1 : wX.cell? ⟨x, 1, none⟩ = some (.string o.f1) := by rw [cell_of_row _ _ _ _ _ _ HXX.out]; rfl
              have HQN := Aside0.mk (show ¬ own q ∧ w.heap.size ≤ q from ⟨HN8.out.oq, HN8.out.lq⟩)
              clear hwX hoX hzX HN8 HR8 HX8 HZ8
              go_wp2_with fail
              refine (DASK.out wX own HNX.out).mono ?_; rintro e w10 ⟨rfl, hN10, hO10⟩
              clear z0 z1
              have HB10 := Aside0.mk (show Both w w10 w10.heap.size (fun k => own k ∨ (wX.heap.size ≤ k ∧ k < w10.heap.size)) g q s2 A0 c0 DA2 Dc2 from
                ⟨hN10, (hO10.keep _ (blk_lt HQX.out) HQN.out.1).trans HQX.out, Kd.R_mono (Kd.R_kept HRX.out hO10.kept (fun k hk => hk.1)) (fun k hk => ⟨fun h => h.elim hk.1 (fun h2 => by have := hk.2.2; omega), hk.2.1, by have := hk.2.2; have := hO10.size; omega⟩),
                 fun h => h.elim HQN.out.1 (fun h2 => by have := blk_lt HQX.out; omega), HQN.out.2, fun k h => (hN10.lo k h).2, by have := blk_lt HQX.out; have := hO10.size; omega⟩)
              clear hN10 hO10 HNX HQX HRX HXX DASK
              obtain ⟨r0, r1, r2, rf⟩ := HB10.out.cells
              clear rf

              go_wp2_with fail
              refine (Same HB10.out.now.at_ A0 c0 DA2 Dc2 (by rw [HS2.out.2.2]; exact Kd.C_below HR.out HB10.out.now.low) (by rw [HS2.out.2.2]; exact hc0) (Kd.R_reads' HB10.out.row).2.2 (Kd.R_reads' HB10.out.row).2.1 (by have := HS2.out.2.1; omega)).mono ?_
              rintro e w11 ⟨rfl, hb11⟩
              have HB11 := Aside0.mk (show ∃ own DA Dc, Both w w11 w11.heap.size own g q s2 A0 c0 DA Dc from ⟨_, _, _, (HB10.out.more hb11.size).below hb11⟩)
              clear hb11 r0 r1 r2 HB10
              go_wp2_with fail
              go_roundg k1
              case measure => omega
              case rel => exact ⟨j + 1, s2, by first | (simp; done) | rw [ej], ⟨by have := HK.out; omega, by omega⟩, HB11, HS2⟩
            · have c14 : decide ((j : Int) < (l1.length : Int)) = false := decide_eq_false (by omega)
              have hJ : j = l1.length := by have := HK.out; omega
              have HDL := Aside0.mk (show s.deeds.length ≤ 100 by have := HS.out.2.1; omega)
              clear HK hJ
              go_wp2_with fail
              refine (alive _).mono ?_; rintro e wz ⟨rfl, hz⟩
              have HNZ := Aside0.mk ((HN.out.more hz.size).below hz)
              clear hz HN
              obtain ⟨r0, r1, r2, rf⟩ := HNZ.out.cells
              clear rf
              go_wp2_with fail
              refine (Same HNZ.out.now.at_ A0 c0 DA Dc (by rw [HRF.out]; exact Kd.C_below HR.out HNZ.out.now.low) (by rw [HRF.out]; exact hc0) (Kd.R_reads' HNZ.out.row).2.2 (Kd.R_reads' HNZ.out.row).2.1 (by have := HDL.out; omega)).mono ?_
              rintro e w11 ⟨rfl, hb11⟩
              have HBE := Aside0.mk (Aid.bthen HNZ.out.now.low hb11)
              clear hb11 r0 r1 r2 HNZ
              go_wp2_with fail
              go_ret
              exact ⟨rfl, HBE.out⟩
end Deal
end Go.Proofs.Ytohenapbgencbaa
