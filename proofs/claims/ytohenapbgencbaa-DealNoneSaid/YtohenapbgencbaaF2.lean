/- The law DealNone: its walk (printed by genF.py). -/
import Derived.Test.YtohenapbgencbaaG
import Derived.BigQuiet
import Derived.Deep.QuietTactic
namespace Go.Proofs.Ytohenapbgencbaa
open Go.RowKit Go.Proofs.YtohenapbgencbaaW.PrintWords Go.Proofs.YtohenapbgencbaaW.PrintLast Go.Proofs.YtohenapbgencbaaW.PrintMore Go.Proofs.Ytohenapbgencbaa.PK
set_option linter.unusedVariables false
set_option linter.unusedSimpArgs false
set_option maxHeartbeats 4000000
set_option maxRecDepth 100000
namespace Deal

theorem DealNone (A1 : Option Addr) (c1 : Nat) (l1 : List S32) (w : World) (hr1 : Kd.C k32 w A1 l1.length l1) (hc1 : l1.length ≤ c1) (hm : l1.length ≤ 9223372036854775807) (hw : ∀ y ∈ l1, wfI y.f0) :
    Calls Try.prog 6 #[.slice A1 l1.length c1] w fun e w' => e = .returned (.bool true) ∧ Below w.heap.size w w' := by
  have HR := Aside0.mk (Kd.C_nil (Kd.int .i64) w)
  have HL := Aside0.mk hr1; clear hr1
  have FW := Aside0.mk (Few none 0 [] A1 c1 l1 w HR.out (Nat.le_refl _) HL.out hc1 hm)
  have HW := Aside0.mk hw; clear hw
  go_enter Try.func6, Try.ntmps6
  go_wp2_with fail
  refine FW.out.mono ?_; rintro e w1 ⟨r, rfl, hfew, hB⟩
  have HB := Aside0.mk hB; clear hB
  cases r
  · clear hfew
    go_wp2_with fail
    refine (alive _).mono ?_; rintro e wz ⟨rfl, hz⟩
    have HBZ := Aside0.mk (Aid.bthen HB.out hz); clear hz
    go_wp2_with fail
    go_ret
    exact ⟨rfl, HBZ.out⟩
  have L1 := (hfew rfl).2
  clear hfew hm FW HR
  go_wp2_with fail
  go_loopg [3, 16] (l1.length + 1) (fun kq v3 v16 w' => ∃ (j : Nat), v16 = .int .i64 (j : Int) ∧ Aside0 (kq + j = l1.length + 1 ∧ j ≤ l1.length) ∧ Aside0 (Kd.R (Kd.int .i64) 3 w' w.heap.size (fun _ => True) v3 ((l1.take j).map (·.f0))) ∧ Aside0 (Below w.heap.size w w'))
  case atStart => exact ⟨0, rfl, ⟨by omega, by omega⟩, ⟨Kd.R_nil _ _ _ _ _⟩, HB⟩
  case round =>
    clear HB
    obtain ⟨j, rfl, HK, HO, HB⟩ := hrel
    cases gk with
    | zero => exact absurd HK.out (by omega)
    | succ k1 =>
      by_cases hj : j < l1.length
      · have c14 : decide ((j : Int) < (l1.length : Int)) = true := decide_eq_true (by omega)
        have p0 : (0 : Int) ≤ (j : Int) := by omega
        have q0 : (j : Int) < (l1.length : Int) := by omega
        obtain ⟨ad, e7, x0, x1⟩ := at_T32 HL.out (j : Int) p0 q0
        cases e7
        rw [rd32 l1 j hj] at x0 x1
        simp only [Int.toNat_natCast] at x0 x1
        obtain ⟨o, ho⟩ : ∃ o, o = l1[j] := ⟨_, rfl⟩
        rw [← ho] at x0 x1
        have HOJ := Aside0.mk ho; clear ho
        have HWJ := Aside0.mk (show wfI o.f0 by rw [HOJ.out]; exact HW.out _ (List.getElem_mem hj))
        replace x0 := (HB.out.cell (World.block_lt_of_cell? w _ x0)).trans x0
        replace x1 := (HB.out.cell (World.block_lt_of_cell? w _ x1)).trans x1
        have ej : IntKind.i64.wrap ((j : Int) + 1) = ((j + 1 : Nat) : Int) := by rw [IntKind.wrap_i64]; omega
        go_upto_region 7 with fail
        obtain ⟨w6, hw6⟩ : ∃ w6, w6 = wr.alloc (.cells #[.int .i64 o.f0, .string o.f1] 32) := ⟨_, rfl⟩
        rw [← hw6]
        have hb6 : Below wr.heap.size wr w6 := by rw [hw6]; exact (Below.refl _ _).alloc (Nat.le_refl _) _
        have HX6 := Aside0.mk (show w6.heap[wr.heap.size]? = some (.cells #[.int .i64 o.f0, .string o.f1] 32 (0, 0)) by rw [hw6]; exact Aid.heap_new wr _)
        obtain ⟨x, hx⟩ : ∃ x, x = wr.heap.size := ⟨_, rfl⟩
        rw [← hx] at HX6 ⊢
        have z0 : w6.cell? ⟨x, 0, none⟩ = some (.int .i64 o.f0) := by rw [cell_of_row _ _ _ _ _ _ HX6.out]; rfl
        have z1 : w6.cell? ⟨x, 1, none⟩ = some (.string o.f1) := by rw [cell_of_row _ _ _ _ _ _ HX6.out]; rfl
        have HB6 := Aside0.mk (Aid.bthen HB.out hb6)
        have HO6 := Aside0.mk (Kd.R_kept HO.out (Kept.of_below hb6 (fun _ => False)) (fun _ _ hf => hf))
        clear hb6 hw6 hx x0 x1 HB HO
        have HT := Aside0.mk (show (l1.take (j + 1)).map (·.f0) = (l1.take j).map (·.f0) ++ [o.f0] by rw [List.take_succ_eq_append_getElem hj, List.map_append, HOJ.out]; rfl)
        have HPL := Aside0.mk (show ((l1.take j).map (·.f0)).length ≤ 1000 by rw [List.length_map, List.length_take]; omega)
        go_wp2_with ((with_reducible refine gate_builtin (b := .append) (xs := #[.tmp 20, .tmp 23]) rfl ?_); at_builtin; refine Kd.R_append (Kd.int .i64) (w0 := w) w.heap.size rfl (.tmp 20) (.tmp 23) 22 3 (.int .i64 0) 8 rfl Try.underlying22 info3 rfl (by decide) (by omega) u3 ((l1.take j).map (·.f0)) o.f0 [.int .i64 o.f0] (fun _ => True) (fun _ => False) rfl rfl ?aP (fun _ hk => hk.elim) ?aF ?aO ?aB ?aS ?aL ?_; (case aP => exact rfl); (case aB => exact HB6.out); (case aF => exact (fun _ _ => trivial)); (case aO => exact HO6.out); (case aS => exact (below_size HB6.out)); (case aL => have := HPL.out; omega); intro v9 w9 ho hb hg hat; rw [← HT.out] at ho; have HB9 := Aside0.mk hb; have HO9 := Aside0.mk ho; clear ho hb hg hat)
        clear z0 z1 HX6
        go_roundg k1
        case measure => omega
        case rel => exact ⟨j + 1, by first | (simp; done) | rw [ej], ⟨by have := HK.out; omega, by omega⟩, HO9, HB9⟩
      · have c14 : decide ((j : Int) < (l1.length : Int)) = false := decide_eq_false (by omega)
        have htk : l1.take j = l1 := List.take_of_length_le (by omega)
        rw [htk] at HO
        clear HK htk
        obtain ⟨all, hall⟩ : ∃ all, all = l1.map (·.f0) := ⟨_, rfl⟩
        rw [← hall] at HO
        have HALL := Aside0.mk hall; clear hall
        have HLA := Aside0.mk (show all.length ≤ 100 by rw [HALL.out, List.length_map]; exact L1)
        obtain ⟨A3, c3, rfl, hc3, hC3⟩ := Kd.R_reads HO.out
        have HC3 := Aside0.mk hC3; clear hC3 HO
        go_wp2_with fail
        refine (NewNow (w0 := w) none 0 [] wr HB.out (Kd.C_nil _ _) (Nat.le_refl _) (by decide)).mono ?_; rintro e w2 ⟨ga, rfl, hNa, hb2⟩
        have HNA := Aside0.mk hNa
        have HC32 := Aside0.mk (Kd.C_below HC3.out hb2)
        clear hNa HB HC3 hb2
        go_wp2_with fail
        refine (NewNow (w0 := w) A3 c3 all w2 HNA.out.low HC32.out hc3 (by have := HLA.out; omega)).mono ?_; rintro e w3 ⟨gb, rfl, hNb, hb3⟩
        have HSEP := Aside0.mk (show ∀ k, (wr.heap.size ≤ k ∧ k < w2.heap.size) → ¬ (w2.heap.size ≤ k ∧ k < w3.heap.size) from fun k h1 h2 => by omega)
        have HNA3 := Aside0.mk (HNA.out.below hb3)
        have HNB3 := Aside0.mk hNb
        have HINV := Aside0.mk (show Inv1 all ⟨[], [], 0⟩ ⟨all, [], 0⟩ from ⟨rfl, rfl, (fun d hd => by cases hd), (fun d hd => by cases hd), rfl⟩)
        clear hNb hb3 HC32 HNA
        go_wp2_with fail
        go_loopg [37] (l1.length + 1) (fun kq v37 w' => ∃ (j : Nat) (a b : DS), v37 = .int .i64 (j : Int) ∧ Aside0 (kq + j = l1.length + 1 ∧ j ≤ l1.length) ∧ Aside0 (∃ oa ob, Now w w' oa ga a ∧ Now w w' ob gb b ∧ ∀ k, oa k → ¬ ob k) ∧ Aside0 (Inv1 all a b) ∧ Aside0 (a.sane [] j ∧ b.sane all j))
        case atStart => exact ⟨0, _, _, rfl, ⟨by omega, by omega⟩, ⟨_, _, HNA3.out, HNB3.out, HSEP.out⟩, HINV, ⟨sane0 _, sane0 _⟩⟩
        case round =>
          clear HNA3 HNB3 HINV HSEP
          obtain ⟨j, a, b, rfl, HK, HNE, HINV, HS⟩ := hrel
          obtain ⟨oa, ob, hNa, hNb, hsep⟩ := HNE.out
          have HNA := Aside0.mk hNa
          have HNB := Aside0.mk hNb
          have HSEP := Aside0.mk hsep
          clear hNa hNb hsep HNE
          cases gk with
          | zero => exact absurd HK.out (by omega)
          | succ k1 =>
            by_cases hj : j < l1.length
            · have c14 : decide ((j : Int) < (l1.length : Int)) = true := decide_eq_true (by omega)
              have p0 : (0 : Int) ≤ (j : Int) := by omega
              have q0 : (j : Int) < (l1.length : Int) := by omega
              obtain ⟨ad, e7, x0, x1⟩ := at_T32 HL.out (j : Int) p0 q0
              cases e7
              rw [rd32 l1 j hj] at x0 x1
              simp only [Int.toNat_natCast] at x0 x1
              obtain ⟨o, ho⟩ : ∃ o, o = l1[j] := ⟨_, rfl⟩
              rw [← ho] at x0 x1
              have HOJ := Aside0.mk ho; clear ho
              have HWJ := Aside0.mk (show wfI o.f0 by rw [HOJ.out]; exact HW.out _ (List.getElem_mem hj))
              replace x0 := (HNA.out.low.cell (World.block_lt_of_cell? w _ x0)).trans x0
              replace x1 := (HNA.out.low.cell (World.block_lt_of_cell? w _ x1)).trans x1
              have ej : IntKind.i64.wrap ((j : Int) + 1) = ((j + 1 : Nat) : Int) := by rw [IntKind.wrap_i64]; omega
              go_upto_region 15 with fail
              obtain ⟨w6, hw6⟩ : ∃ w6, w6 = wr.alloc (.cells #[.int .i64 o.f0, .string o.f1] 32) := ⟨_, rfl⟩
              rw [← hw6]
              have hb6 : Below wr.heap.size wr w6 := by rw [hw6]; exact (Below.refl _ _).alloc (Nat.le_refl _) _
              have HX6 := Aside0.mk (show w6.heap[wr.heap.size]? = some (.cells #[.int .i64 o.f0, .string o.f1] 32 (0, 0)) by rw [hw6]; exact Aid.heap_new wr _)
              obtain ⟨x, hx⟩ : ∃ x, x = wr.heap.size := ⟨_, rfl⟩
              rw [← hx] at HX6 ⊢
              have z0 : w6.cell? ⟨x, 0, none⟩ = some (.int .i64 o.f0) := by rw [cell_of_row _ _ _ _ _ _ HX6.out]; rfl
              have z1 : w6.cell? ⟨x, 1, none⟩ = some (.string o.f1) := by rw [cell_of_row _ _ _ _ _ _ HX6.out]; rfl
              have HNA6 := Aside0.mk (HNA.out.below hb6)
              have HNB6 := Aside0.mk (HNB.out.below hb6)
              have HXO := Aside0.mk (show ¬ oa x ∧ ¬ ob x by rw [hx]; exact ⟨fun h => by have := (HNA.out.lo _ h).2; omega, fun h => by have := (HNB.out.lo _ h).2; omega⟩)
              clear hb6 hw6 hx x0 x1 HNA HNB
              have HMEM := Aside0.mk (show o.f0 ∈ all by rw [HALL.out, HOJ.out]; exact List.mem_map_of_mem (List.getElem_mem hj))
              have hia := HINV.out.ask HMEM.out o.f1
              obtain ⟨a2, ha2⟩ : ∃ a2, a2 = (a.ask o.f0 o.f1).2 := ⟨_, rfl⟩
              obtain ⟨b2, hb2⟩ : ∃ b2, b2 = (b.ask o.f0 o.f1).2 := ⟨_, rfl⟩
              have aska := HNA6.out.ask o.f0 o.f1 HWJ.out (by have := HS.out.1.1; omega) (by have := HS.out.1.2.1; omega) (by rw [HS.out.1.2.2]; simp)
              have askb := fun W (h : Now w W ob gb b) => h.ask o.f0 o.f1 HWJ.out (by have := HS.out.2.1; omega) (by have := HS.out.2.2.1; omega) (by rw [HS.out.2.2.2]; have := HLA.out; omega)
              rw [hia.1, ← ha2] at aska
              rw [hia.2.1, ← hb2] at askb
              have HIN2 := Aside0.mk (show Inv1 all a2 b2 by rw [ha2, hb2]; exact hia.2.2)
              have HS2 := Aside0.mk (show a2.sane [] (j + 1) ∧ b2.sane all (j + 1) by rw [ha2, hb2]; exact ⟨sane_ask HS.out.1 _ _, sane_ask HS.out.2 _ _⟩)
              have ASKA := Aside0.mk aska
              have ASKB := Aside0.mk askb
              clear aska askb ha2 hb2 hia
              go_wp2_with fail
              refine ASKA.out.mono ?_; rintro e w7 ⟨rfl, hN7, hO7⟩
              have HNB7 := Aside0.mk (HNB6.out.only hO7 (fun k h1 h2 => HSEP.out k h2 h1) (fun k h => (HNA6.out.lo k h).1))
              have HSEP7 := Aside0.mk (show ∀ k, (oa k ∨ (w6.heap.size ≤ k ∧ k < w7.heap.size)) → ¬ ob k from fun k h1 h2 => h1.elim (fun h => HSEP.out k h h2) (fun h => by have := (HNB6.out.lo k h2).2; omega))
              have HX7 := Aside0.mk ((hO7.keep _ (blk_lt HX6.out) HXO.out.1).trans HX6.out)
              have HNA7 := Aside0.mk hN7
              clear hN7 hO7 HNB6 HNA6 HX6 z0 z1 ASKA
              have z0 : w7.cell? ⟨x, 0, none⟩ = some (.int .i64 o.f0) := by rw [cell_of_row _ _ _ _ _ _ HX7.out]; rfl
              have z1 : w7.cell? ⟨x, 1, none⟩ = some (.string o.f1) := by rw [cell_of_row _ _ _ _ _ _ HX7.out]; rfl
              go_wp2_with fail
              refine (ASKB.out w7 HNB7.out).mono ?_; rintro e w8 ⟨rfl, hN8, hO8⟩
              have HNA8 := Aside0.mk (HNA7.out.only hO8 (fun k h1 h2 => HSEP7.out k h1 h2) (fun k h => (HNB7.out.lo k h).1))
              have HSEP8 := Aside0.mk (show ∀ k, (oa k ∨ (w6.heap.size ≤ k ∧ k < w7.heap.size)) → ¬ (ob k ∨ (w7.heap.size ≤ k ∧ k < w8.heap.size)) from fun k h1 h2 => h2.elim (fun h => HSEP7.out k h1 h) (fun h => by have := (HNA7.out.lo k h1).2; omega))
              have HNB8 := Aside0.mk hN8
              clear hN8 hO8 HNB7 HNA7 HX7 z0 z1 ASKB
              go_wp2_with fail
              go_roundg k1
              case measure => omega
              case rel => exact ⟨j + 1, a2, b2, by first | (simp; done) | rw [ej], ⟨by have := HK.out; omega, by omega⟩, ⟨_, _, HNA8.out, HNB8.out, HSEP8.out⟩, HIN2, HS2⟩
            · have c14 : decide ((j : Int) < (l1.length : Int)) = false := decide_eq_false (by omega)
              have hJ : j = l1.length := by have := HK.out; omega
              have HLD := Aside0.mk (show a.deeds.length ≤ 100 ∧ b.deeds.length ≤ 100 from ⟨by have := HS.out.1.2.1; omega, by have := HS.out.2.2.1; omega⟩)
              have HE := Aside0.mk HINV.out.ends
              clear HK hJ HS HSEP HINV
              go_wp2_with fail
              refine (alive _).mono ?_; rintro e w6 ⟨rfl, hz⟩
              have HNA6 := Aside0.mk (HNA.out.below hz)
              have HNB6 := Aside0.mk (HNB.out.below hz)
              clear hz HNA HNB
              go_wp2_with fail
              refine (Refused HNA6.out.at_ (by have := HLD.out.1; omega)).mono ?_; rintro e w7 ⟨v7, rfl, hR, hb⟩
              rw [HE.out.1] at hR
              obtain ⟨A7, c7, rfl, _, _⟩ := Kd.R_reads hR
              have HNA7 := Aside0.mk (HNA6.out.below hb)
              have HNB7 := Aside0.mk (HNB6.out.below hb)
              clear hb hR HNA6 HNB6
              go_wp2_with fail
              refine (Done HNB7.out.at_ (by have := HLD.out.2; omega)).mono ?_; rintro e w8 ⟨v8, rfl, hR, hb⟩
              rw [HE.out.2.1] at hR
              obtain ⟨A8, c8, rfl, _, _⟩ := Kd.R_reads hR
              have HNA8 := Aside0.mk (HNA7.out.below hb)
              have HNB8 := Aside0.mk (HNB7.out.below hb)
              clear hb hR HNA7 HNB7
              go_wp2_with fail
              refine (Done HNA8.out.at_ (by have := HLD.out.1; omega)).mono ?_; rintro e w9 ⟨v9, rfl, hR, hb⟩
              obtain ⟨A9, c9, rfl, _, _⟩ := Kd.R_reads hR
              rw [HE.out.2.2]
              have HNB9 := Aside0.mk (HNB8.out.below hb)
              clear hb hR HNA8 HNB8
              go_wp2_with fail
              refine (Deeds HNB9.out.at_ (by have := HLD.out.2; omega)).mono ?_; rintro e w10 ⟨v10, rfl, hR, hb⟩
              obtain ⟨A10, c10, rfl, _, _⟩ := Kd.R_reads hR
              have HB10 := Aside0.mk (HNB9.out.below hb).low
              clear hb hR HNB9
              go_wp2_with fail
              go_ret
              exact ⟨rfl, HB10.out⟩
end Deal
end Go.Proofs.Ytohenapbgencbaa
