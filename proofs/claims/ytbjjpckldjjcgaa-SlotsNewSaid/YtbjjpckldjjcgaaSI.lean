/- The law SlotsNew: its walk. -/
import Derived.Test.YtbjjpckldjjcgaaS2
namespace Go.Proofs.Ytbjjpckldjjcgaa
open Go.RowKit Go.Proofs.YtbjjpckldjjcgaaW.PrintWords Go.Proofs.YtbjjpckldjjcgaaW.PrintLast Go.Proofs.YtbjjpckldjjcgaaW.PrintMore Go.Proofs.Ytbjjpckldjjcgaa.PK
set_option linter.unusedVariables false
set_option linter.unusedSimpArgs false
set_option maxHeartbeats 4000000
set_option maxRecDepth 100000
namespace Disk
namespace Slots
theorem addr_some {w : World} {A : Option Addr} {l : List Int} (hr : Kd.C (Kd.int .u8) w A l.length l) (h : 0 < l.length) : ∃ ad, A = some ad := by
  obtain ⟨a, h', _⟩ := hr.2.2 h
  exact ⟨a, h'⟩
theorem SlotsNew.no (A : Option Addr) (c : Nat) (l : List Int) (w : World) (h : ¬ right l) :
    Calls Try.prog 4 #[.slice A l.length c] w fun e w' => e = .returned (.bool true) ∧ Below w.heap.size w w' := by
  have HR := Aside0.mk (RightF l h)
  clear h
  go_enter Try.func4, Try.ntmps4
  go_wp2_with fail
  refine (HR.out _).mono ?_; rintro e w1 ⟨rfl, ⟨m1, rfl⟩⟩
  have HB1 := Aside0.mk (Aid.bdrew (Below.refl w.heap.size w) m1)
  clear HR
  go_wp2_with fail
  refine (alive _).mono ?_; rintro e w2 ⟨rfl, hB2⟩
  have HB2 := Aside0.mk (Aid.bthen HB1.out hB2)
  clear hB2 HB1
  go_wp2_with fail
  go_ret
  exact ⟨rfl, HB2.out⟩
theorem SlotsNew.small (ad : Addr) (c n : Nat) (l : List Int) (w : World) (hr : Kd.C (Kd.int .u8) w (some ad) l.length l) (hc : l.length ≤ c) (hl : l.length = 16 * n) (h1 : 1 ≤ n) (hn : n ≤ 1024) (h3 : ¬ 3 ≤ n / 2) :
    Calls Try.prog 4 #[.slice (some ad) l.length c] w fun e w' => e = .returned (.bool true) ∧ Below w.heap.size w w' := by
  have HR := Aside0.mk (RightT l ⟨by omega, by omega, by omega⟩)
  have HN := Aside0.mk (fun W => RefNew (some ad) l.length c l W rfl)
  have HC := Aside0.mk hr
  have HG := Aside0.mk (show l.length = 16 * n ∧ n ≤ 1024 ∧ l.length ≤ c ∧ false = decide (3 ≤ n / 2) ∧ ¬ 3 ≤ n / 2 ∧ 1 ≤ n from ⟨hl, hn, hc, (decide_eq_false h3).symm, h3, h1⟩)
  have hL : ¬ (20000 : Int) < (l.length : Int) := by omega
  clear hr hc hl hn h3 h1
  go_enter Try.func4, Try.ntmps4
  go_wp2_with fail
  refine (HR.out _).mono ?_; rintro e w1 ⟨rfl, ⟨m1, rfl⟩⟩
  have HB1 := Aside0.mk (Aid.bdrew (Below.refl w.heap.size w) m1)
  have HC1 := Aside0.mk (Kd.C_drewN HC.out m1)
  clear HR HC
  go_wp2_with fail
  refine (Load.ok ad c n l _ HC1.out HG.out.2.2.1 HG.out.1 HG.out.2.2.2.2.2 HG.out.2.1).mono ?_; rintro e w4 ⟨g, b, rfl, hA, hg, hb, hB4⟩
  have HA := Aside0.mk (show AtS w4 g b n ⟨l, 0, false, 0⟩ from hA)
  have HB4 := Aside0.mk (Aid.bthen HB1.out hB4)
  have HC4 := Aside0.mk (Kd.C_below HC1.out hB4)
  clear hA hB4 hg hb HB1 HC1
  go_wp2_with fail
  refine (New.small HA.out HG.out.2.2.2.2.1).mono ?_; rintro e w5 ⟨rfl, ⟨m5, rfl⟩⟩
  have HB5 := Aside0.mk (Aid.bdrew HB4.out m5)
  have HC5 := Aside0.mk (Kd.C_drewN HC4.out m5)
  clear HB4 HA HC4
  go_wp2_with fail
  refine (HN.out _ HC5.out HG.out.2.2.1 (by have := HG.out.1; have := HG.out.2.1; omega)).mono ?_; rintro e w2 ⟨v2, rfl, hv2, hB2⟩
  obtain ⟨A2, c2, rfl, hc2, hC2⟩ := Kd.R_reads hv2
  have HC2 := Aside0.mk (Kd.C_below hC2 ((Below.refl _ _).alloc (Nat.le_refl _) (.cells #[.slice A2 l.length c2, .int .i64 0, .int .i64 (-1)] 44)))
  have HB2 := Aside0.mk ((Aid.bthen HB5.out hB2).alloc (Aid.bthen HB5.out hB2).size (.cells #[.slice A2 l.length c2, .int .i64 0, .int .i64 (-1)] 44))
  clear hC2 hv2 hB2 HB5 HC5 HN
  go_wp2_with fail
  refine (RefRight A2 c2 n l 0 (-1) _ HC2.out hc2 HG.out.1 HG.out.2.1 false HG.out.2.2.2.1).mono ?_; rintro e w3 ⟨rfl, hB3⟩
  have HB3 := Aside0.mk (Aid.bthen HB2.out hB3)
  clear hB3 HB2 HC2
  go_wp2_with fail
  refine (alive _).mono ?_; rintro e w6 ⟨rfl, hB6⟩
  have HB6 := Aside0.mk (Aid.bthen HB3.out hB6)
  clear hB6 HB3
  go_wp2_with fail
  go_ret
  exact ⟨rfl, HB6.out⟩
theorem SlotsNew.yes (ad : Addr) (c n : Nat) (l : List Int) (w : World) (hr : Kd.C (Kd.int .u8) w (some ad) l.length l) (hc : l.length ≤ c) (hl : l.length = 16 * n) (hn : n ≤ 1024) (h3 : 3 ≤ n / 2) (ho : Crc.okb l = true) :
    Calls Try.prog 4 #[.slice (some ad) l.length c] w fun e w' => e = .returned (.bool true) ∧ Below w.heap.size w w' := by
  have HR := Aside0.mk (RightT l ⟨by omega, by omega, by omega⟩)
  have HN := Aside0.mk (fun W => RefNew (some ad) l.length c l W rfl)
  have HC := Aside0.mk hr
  have HG := Aside0.mk (show l.length = 16 * n ∧ n ≤ 1024 ∧ l.length ≤ c ∧ true = decide (3 ≤ n / 2) ∧ 3 ≤ n / 2 ∧ 1 ≤ n ∧ Crc.okb l = true from ⟨hl, hn, hc, (decide_eq_true h3).symm, h3, by omega, ho⟩)
  have hL : ¬ (20000 : Int) < (l.length : Int) := by omega
  have hl0 := addr_some hr (by omega)
  clear hr hc hl hn h3 ho
  go_enter Try.func4, Try.ntmps4
  go_wp2_with fail
  refine (HR.out _).mono ?_; rintro e w1 ⟨rfl, ⟨m1, rfl⟩⟩
  have HB1 := Aside0.mk (Aid.bdrew (Below.refl w.heap.size w) m1)
  have HC1 := Aside0.mk (Kd.C_drewN HC.out m1)
  clear HR HC
  go_wp2_with fail
  refine (Load.ok ad c n l _ HC1.out HG.out.2.2.1 HG.out.1 HG.out.2.2.2.2.2.1 HG.out.2.1).mono ?_; rintro e w4 ⟨g, b, rfl, hA, hg, hb, hB4⟩
  have HA := Aside0.mk (show AtS w4 g b n ⟨l, 0, false, 0⟩ from hA)
  have HB4 := Aside0.mk (Aid.bthen HB1.out hB4)
  have HC4 := Aside0.mk (Kd.C_below HC1.out hB4)
  clear hA hB4 hg hb HB1 HC1
  go_wp2_with fail
  refine (New.ok HA.out HG.out.2.2.2.2.1 HG.out.2.2.2.2.2.2).mono ?_; rintro e w5 ⟨s, rfl, hs, hS, hB5⟩
  have HS := Aside0.mk hS
  have HB5 := Aside0.mk (Aid.bthen HB4.out hB5)
  have HC5 := Aside0.mk (Kd.C_below HC4.out hB5)
  clear hS hB5 HB4 HA HC4 hs
  go_wp2_with fail
  refine (HN.out _ HC5.out HG.out.2.2.1 (by have := HG.out.1; have := HG.out.2.1; omega)).mono ?_; rintro e w2 ⟨v2, rfl, hv2, hB2⟩
  obtain ⟨A2, c2, rfl, hc2, hC2⟩ := Kd.R_reads hv2
  have HC2 := Aside0.mk (Kd.C_below hC2 ((Below.refl _ _).alloc (Nat.le_refl _) (.cells #[.slice A2 l.length c2, .int .i64 0, .int .i64 (-1)] 44)))
  have HB2 := Aside0.mk ((Aid.bthen HB5.out hB2).alloc (Aid.bthen HB5.out hB2).size (.cells #[.slice A2 l.length c2, .int .i64 0, .int .i64 (-1)] 44))
  have HS2 := Aside0.mk ((HS.out.below hB2).below ((Below.refl _ _).alloc (Nat.le_refl _) (.cells #[.slice A2 l.length c2, .int .i64 0, .int .i64 (-1)] 44)))
  clear hC2 hv2 hB2 HB5 HC5 HN HS
  go_wp2_with fail
  refine (RefRight A2 c2 n l 0 (-1) _ HC2.out hc2 HG.out.1 HG.out.2.1 true HG.out.2.2.2.1).mono ?_; rintro e w3 ⟨rfl, hB3⟩
  obtain ⟨ad2, rfl⟩ := addr_some HC2.out (by have := HG.out.1; have := HG.out.2.2.2.2.2.1; omega)
  have HB3 := Aside0.mk (Aid.bthen HB2.out hB3)
  have HS3 := Aside0.mk (HS2.out.below hB3)
  have HC3 := Aside0.mk (Kd.C_below HC2.out hB3)
  have hq : w3.heap[w2.heap.size]? = some (.cells #[.slice (some ad2) l.length c2, .int .i64 0, .int .i64 (-1)] 44) := by
    rw [hB3.block _ (by simp)]; simp [World.alloc, -World.alloc_eq]
  have HQ := Aside0.mk hq
  clear hB3 HB2 HC2 HS2 hq
  obtain ⟨q, hqq⟩ : ∃ q, q = w2.heap.size := ⟨_, rfl⟩
  rw [← hqq] at HQ ⊢
  clear hqq
  go_upto_region 8 with fail
  have r0 : w3.cell? ⟨q, 0, none⟩ = some (.slice (some ad2) l.length c2) := by rw [cell_of_row _ _ _ _ _ _ HQ.out]; rfl
  have r1 : w3.cell? ⟨q, 1, none⟩ = some (.int .i64 0) := by rw [cell_of_row _ _ _ _ _ _ HQ.out]; rfl
  have r2 : w3.cell? ⟨q, 2, none⟩ = some (.int .i64 (-1)) := by rw [cell_of_row _ _ _ _ _ _ HQ.out]; rfl
  have keepS : ∀ W W' : World, (Below w3.heap.size w3 W ∧ W.cell? ⟨q, 0, none⟩ = some (.slice (some ad2) l.length c2) ∧ W.cell? ⟨q, 1, none⟩ = some (.int .i64 0) ∧ W.cell? ⟨q, 2, none⟩ = some (.int .i64 (-1))) → Below W.heap.size W W' →
      (Below w3.heap.size w3 W' ∧ W'.cell? ⟨q, 0, none⟩ = some (.slice (some ad2) l.length c2) ∧ W'.cell? ⟨q, 1, none⟩ = some (.int .i64 0) ∧ W'.cell? ⟨q, 2, none⟩ = some (.int .i64 (-1))) := fun W W' hS hb =>
    ⟨Aid.bthen hS.1 hb, (hb.cell (World.block_lt_of_cell? W _ hS.2.1)).trans hS.2.1, (hb.cell (World.block_lt_of_cell? W _ hS.2.2.1)).trans hS.2.2.1, (hb.cell (World.block_lt_of_cell? W _ hS.2.2.2)).trans hS.2.2.2⟩
  have KS := Aside0.mk keepS; clear keepS
  go_region_held3 (fun W => Below w3.heap.size w3 W ∧ W.cell? ⟨q, 0, none⟩ = some (.slice (some ad2) l.length c2) ∧ W.cell? ⟨q, 1, none⟩ = some (.int .i64 0) ∧ W.cell? ⟨q, 2, none⟩ = some (.int .i64 (-1))) (first | assumption | exact ⟨(Below.refl _ _).drew, r0, r1, r2⟩)
    (first
      | (go_simp; go_at_call 10; have hS_ := ‹Below w3.heap.size w3 _ ∧ _›; refine (alive _).mono ?_; rintro e w' ⟨rfl, hB⟩; have hS2_ := KS.out _ _ hS_ hB)
      | (go_simp; go_at_call 13; have hS_ := ‹Below w3.heap.size w3 _ ∧ _›; refine (Room (HS3.out.below hS_.1)).mono ?_; rintro e w' ⟨rfl, hd⟩; have hS2_ := KS.out _ _ hS_ hd.below)
      | (go_simp; go_at_call 23; have hS_ := ‹Below w3.heap.size w3 _ ∧ _›; refine (RefRoom (some ad2) c2 n l 0 (-1) _ (Kd.C_below HC3.out hS_.1) hc2 HG.out.1 HG.out.2.1 HG.out.2.2.2.2.1).mono ?_; rintro e w' ⟨rfl, hB⟩; have hS2_ := KS.out _ _ hS_ hB)
      | (go_simp; go_at_call 24; have hS_ := ‹Below w3.heap.size w3 _ ∧ _›; refine (LawTold (HS3.out.below hS_.1) ad2 c2 0 (-1) (Kd.C_below HC3.out hS_.1) hc2).mono ?_; rintro e w' ⟨rfl, hB⟩; have hS2_ := KS.out _ _ hS_ hB))
  have hS_ := ‹Below w3.heap.size w3 _ ∧ _›
  have HF := Aside0.mk (Aid.bthen HB3.out hS_.1)
  clear hS_ KS
  go_wp2_with fail
  go_ret
  exact ⟨rfl, HF.out⟩
theorem SlotsNew (A : Option Addr) (c : Nat) (l : List Int) (w : World) (hr : Kd.C (Kd.int .u8) w A l.length l) (hc : l.length ≤ c) (ho : Crc.okb l = true) :
    Calls Try.prog 4 #[.slice A l.length c] w fun e w' => e = .returned (.bool true) ∧ Below w.heap.size w w' := by
  by_cases h : right l
  · have h' := h
    obtain ⟨a1, a2, a3⟩ := h'
    obtain ⟨ad, rfl⟩ := addr_some hr (by omega)
    by_cases h3 : 3 ≤ l.length / 16 / 2
    · exact SlotsNew.yes ad c (l.length / 16) l w hr hc (by omega) (by omega) h3 ho
    · exact SlotsNew.small ad c (l.length / 16) l w hr hc (by omega) (by omega) (by omega) h3
  · exact SlotsNew.no A c l w h
end Slots
end Disk
end Go.Proofs.Ytbjjpckldjjcgaa
