/- The law DealMore: its walk (printed by genF.py). -/
import Derived.Test.YtohenapbgencbaaG2
import Derived.BigQuiet
import Derived.Deep.QuietTactic
namespace Go.Proofs.Ytohenapbgencbaa
open Go.RowKit Go.Proofs.YtohenapbgencbaaW.PrintWords Go.Proofs.YtohenapbgencbaaW.PrintLast Go.Proofs.YtohenapbgencbaaW.PrintMore Go.Proofs.Ytohenapbgencbaa.PK
set_option linter.unusedVariables false
set_option linter.unusedSimpArgs false
set_option maxHeartbeats 4000000
set_option maxRecDepth 100000
namespace Deal

theorem DealMore (A0 : Option Addr) (c0 : Nat) (l0 : List Int) (Ab : Option Addr) (cb : Nat) (lb : List Int) (A1 : Option Addr) (c1 : Nat) (l1 : List S32) (w : World) (hr0 : Kd.C (Kd.int .i64) w A0 l0.length l0) (hc0 : l0.length ≤ c0) (hrb : Kd.C (Kd.int .i64) w Ab lb.length lb) (hcb : lb.length ≤ cb) (hr1 : Kd.C k32 w A1 l1.length l1) (hc1 : l1.length ≤ c1) (hm : l1.length ≤ 9223372036854775807) (hw : ∀ y ∈ l1, wfI y.f0) :
    Calls Try.prog 8 #[.slice A0 l0.length c0, .slice Ab lb.length cb, .slice A1 l1.length c1] w fun e w' => e = .returned (.bool true) ∧ Below w.heap.size w w' := by
  have HR := Aside0.mk hr0; clear hr0
  have HRB := Aside0.mk hrb; clear hrb
  have HL := Aside0.mk hr1; clear hr1
  have FW := Aside0.mk (Few A0 c0 l0 A1 c1 l1 w HR.out hc0 HL.out hc1 hm)
  have HW := Aside0.mk hw; clear hw
  by_cases h100 : 100 < lb.length
  · have g100 : decide ((100 : Int) < (lb.length : Int)) = true := decide_eq_true (by omega)
    clear h100
    go_enter Try.func8, Try.ntmps8
    go_wp2_with fail
    refine FW.out.mono ?_; rintro e w1 ⟨r, rfl, hfew, hB⟩
    have HB := Aside0.mk hB; clear hB hfew
    cases r
    all_goals
      go_wp2_with fail
      refine (alive _).mono ?_; rintro e wz ⟨rfl, hz⟩
      have HBZ := Aside0.mk (Aid.bthen HB.out hz); clear hz
      go_wp2_with fail
      go_ret
      exact ⟨rfl, HBZ.out⟩
  have g100 : decide ((100 : Int) < (lb.length : Int)) = false := decide_eq_false (by omega)
  have LB := Aside0.mk (show lb.length ≤ 100 by omega)
  clear h100
  go_enter Try.func8, Try.ntmps8
  go_wp2_with fail
  refine FW.out.mono ?_; rintro e w1 ⟨r, rfl, hfew, hB⟩
  have HB := Aside0.mk hB; clear hB
  cases r
  · clear hfew
    go_wp2_with fail
    refine (alive _).mono ?_; rintro e wz ⟨rfl, hz⟩
    have HBZ := Aside0.mk (Aid.bthen HB.out hz); clear hz
    go_wp2_with fail
    go_ret
    exact ⟨rfl, HBZ.out⟩
  have L0 := (hfew rfl).1
  have L1 := (hfew rfl).2
  have HL0 := Aside0.mk L0
  clear hfew hm FW
  have q22 := cut_all A0 l0.length c0 hc0 (fun e => by
    subst e
    cases l0 with
    | nil => rfl
    | cons x l => obtain ⟨ad, e, _⟩ := HR.out.2.2 (by simp); cases e)
  go_wp2_with fail
  obtain ⟨lm, hlm⟩ : ∃ lm, lm = l0 ++ lb := ⟨_, rfl⟩
  have HLML := Aside0.mk (show lm.length ≤ 200 by rw [hlm, List.length_append]; have := HL0.out; have := LB.out; omega)
  have HLM := Aside0.mk hlm
  clear hlm
  go_region_held3 (fun W => Below w1.heap.size w1 W) (first | assumption | exact (Below.refl _ _).drew)
    (first
      | (go_simp; go_at_call_of 11 (Value.slice A0 l0.length c0); have hS_ := ‹Below w1.heap.size w1 _›; refine (NewNow (w0 := w) A0 c0 l0 _ (Aid.bthen HB.out hS_) (Kd.C_below HR.out (Aid.bthen HB.out hS_)) hc0 (by have := HL0.out; omega)).mono ?_; rintro e w' ⟨ga, rfl, hNa, hba⟩; have HNA := Aside0.mk hNa; clear hNa; have hS2_ := Aid.bthen hS_ hba; (first | (have HSEP := Aside0.mk (HNB.out.sepL w'.heap.size); have hm := HNB.out.below hba; clear HNB; have HNB := Aside0.mk hm; clear hm) | skip); (first | (have hm := Kd.C_below HC32.out hba; clear HC32; have HC32 := Aside0.mk hm; clear hm) | skip))
      | (go_simp; go_at_call 11; have hS_ := ‹Below w1.heap.size w1 _›; refine (NewNow (w0 := w) A32 c32 lm _ (Aid.bthen HB.out hS_) HC32.out hc32 (by have := HLML.out; omega)).mono ?_; rintro e w' ⟨gb, rfl, hNb, hbb⟩; have HNB := Aside0.mk hNb; clear hNb; have hS2_ := Aid.bthen hS_ hbb; (first | (have HSEP := Aside0.mk (HNA.out.sepR w'.heap.size); have hm := HNA.out.below hbb; clear HNA; have HNA := Aside0.mk hm; clear hm) | skip))
      | (refine app_cut_step (by rfl) (.tmp 30) (.tmp 31) (by rfl) A0 Ab cb l0 lb lm HLM.out.symm (by rfl) (by rfl) (Kd.C_below HR.out (Aid.bthen HB.out ‹Below w1.heap.size w1 _›)) (Kd.C_below HRB.out (Aid.bthen HB.out ‹Below w1.heap.size w1 _›)) (by have := HL0.out; have := LB.out; omega) ?_; intro A32 c32 w' hc32 hC32 hb32; have hS2_ := Aid.bthen ‹Below w1.heap.size w1 _› hb32; have HC32 := Aside0.mk hC32; clear hC32; (first | (have hm := HNA.out.below hb32; clear HNA; have HNA := Aside0.mk hm; clear hm) | skip)))
  all_goals
    have HP := Aside0.mk (show ∃ oa ob, Now w _ oa ga ⟨l0, [], 0⟩ ∧ Now w _ ob gb ⟨lm, [], 0⟩ ∧ ∀ k, oa k → ¬ ob k from ⟨_, _, HNA.out, HNB.out, HSEP.out⟩)
    have HINV := Aside0.mk (show Inv2 ⟨l0, [], 0⟩ ⟨lm, [], 0⟩ from ⟨fun i hi => by rw [HLM.out]; exact List.mem_append_left _ hi, .nil⟩)
    clear HNA HNB HSEP HC32
    go_wp2_with fail
    go_loopg [42] (l1.length + 1) (fun kq v42 w' => ∃ (j : Nat) (a b : DS), v42 = .int .i64 (j : Int) ∧ Aside0 (kq + j = l1.length + 1 ∧ j ≤ l1.length) ∧ Aside0 (∃ oa ob, Now w w' oa ga a ∧ Now w w' ob gb b ∧ ∀ k, oa k → ¬ ob k) ∧ Aside0 (Inv2 a b) ∧ Aside0 (a.sane l0 j ∧ b.sane lm j))
    case atStart => exact ⟨0, _, _, rfl, ⟨by omega, by omega⟩, HP, HINV, ⟨sane0 _, sane0 _⟩⟩
    case round =>
      clear HP HINV
      obtain ⟨j, a, b, rfl, HK, HNE, HINV, HS⟩ := hrel
      obtain ⟨oa, ob, hNa, hNb, hsep⟩ := HNE.out
      have HNA := Aside0.mk hNa
      have HNB := Aside0.mk hNb
      have HSEP := Aside0.mk hsep
      clear hNa hNb hsep HNE
      cases gk with
      | zero => exact absurd HK.out (by omega)
      | succ k1 =>
        by_cases hj : j < l1.length
        · have c14 : decide ((j : Int) < (l1.length : Int)) = true := decide_eq_true (by omega)
          have p0 : (0 : Int) ≤ (j : Int) := by omega
          have q0 : (j : Int) < (l1.length : Int) := by omega
          obtain ⟨ad, e7, x0, x1⟩ := at_T32 HL.out (j : Int) p0 q0
          cases e7
          rw [rd32 l1 j hj] at x0 x1
          simp only [Int.toNat_natCast] at x0 x1
          obtain ⟨o, ho⟩ : ∃ o, o = l1[j] := ⟨_, rfl⟩
          rw [← ho] at x0 x1
          have HOJ := Aside0.mk ho; clear ho
          have HWJ := Aside0.mk (show wfI o.f0 by rw [HOJ.out]; exact HW.out _ (List.getElem_mem hj))
          replace x0 := (HNA.out.low.cell (World.block_lt_of_cell? w _ x0)).trans x0
          replace x1 := (HNA.out.low.cell (World.block_lt_of_cell? w _ x1)).trans x1
          have ej : IntKind.i64.wrap ((j : Int) + 1) = ((j + 1 : Nat) : Int) := by rw [IntKind.wrap_i64]; omega
          go_upto_region 9 with fail
          obtain ⟨w6, hw6⟩ : ∃ w6, w6 = wr.alloc (.cells #[.int .i64 o.f0, .string o.f1] 32) := ⟨_, rfl⟩
          rw [← hw6]
          have hb6 : Below wr.heap.size wr w6 := by rw [hw6]; exact (Below.refl _ _).alloc (Nat.le_refl _) _
          have HX6 := Aside0.mk (show w6.heap[wr.heap.size]? = some (.cells #[.int .i64 o.f0, .string o.f1] 32 (0, 0)) by rw [hw6]; exact Aid.heap_new wr _)
          obtain ⟨x, hx⟩ : ∃ x, x = wr.heap.size := ⟨_, rfl⟩
          rw [← hx] at HX6 ⊢
          have z0 : w6.cell? ⟨x, 0, none⟩ = some (.int .i64 o.f0) := by rw [cell_of_row _ _ _ _ _ _ HX6.out]; rfl
          have z1 : w6.cell? ⟨x, 1, none⟩ = some (.string o.f1) := by rw [cell_of_row _ _ _ _ _ _ HX6.out]; rfl
          have HP6 := Aside0.mk (show Pair w w6 ga gb a b x o.f0 o.f1 from ⟨⟨oa, ob, HNA.out.below hb6, HNB.out.below hb6, HSEP.out, (fun h => by have := (HNA.out.lo _ h).2; omega), (fun h => by have := (HNB.out.lo _ h).2; omega)⟩, HX6.out⟩)
          clear hb6 hw6 hx x0 x1 HNA HNB HSEP HX6
          have hia := HINV.out.ask o.f0 o.f1
          have aska := fun W (b' : DS) (h : Pair w W ga gb a b' x o.f0 o.f1) => h.askA HWJ.out (by have := HS.out.1.1; omega) (by have := HS.out.1.2.1; omega) (by rw [HS.out.1.2.2]; omega)
          have askb := fun W (a' : DS) (h : Pair w W ga gb a' b x o.f0 o.f1) => h.askB HWJ.out (by have := HS.out.2.1; omega) (by have := HS.out.2.2.1; omega) (by rw [HS.out.2.2.2]; have := HLML.out; omega)
          obtain ⟨a2, ha2⟩ : ∃ a2, a2 = (a.ask o.f0 o.f1).2 := ⟨_, rfl⟩
          obtain ⟨b2, hb2⟩ : ∃ b2, b2 = (b.ask o.f0 o.f1).2 := ⟨_, rfl⟩
          obtain ⟨ra, hra⟩ : ∃ ra, ra = (a.ask o.f0 o.f1).1 := ⟨_, rfl⟩
          obtain ⟨rb, hrb⟩ : ∃ rb, rb = (b.ask o.f0 o.f1).1 := ⟨_, rfl⟩
          rw [← ha2, ← hra] at aska
          rw [← hb2, ← hrb] at askb
          have HIN2 := Aside0.mk (show Inv2 a2 b2 by rw [ha2, hb2]; exact hia.2)
          have HS2 := Aside0.mk (show a2.sane l0 (j + 1) ∧ b2.sane lm (j + 1) by rw [ha2, hb2]; exact ⟨sane_ask HS.out.1 _ _, sane_ask HS.out.2 _ _⟩)
          have HRAB := Aside0.mk (show rb = true → ra = true by rw [hra, hrb]; exact hia.1)
          have ASKA := Aside0.mk aska
          have ASKB := Aside0.mk askb
          clear aska askb ha2 hb2 hra hrb hia
          go_wp2_with fail
          go_region_held3 (fun W => W.cell? ⟨x, 0, none⟩ = some (.int .i64 o.f0) ∧ W.cell? ⟨x, 1, none⟩ = some (.string o.f1)) (first | assumption | exact ⟨z0, z1⟩)
            (first
              | (go_simp; go_at_call_of 13 (Value.pointer (some (⟨ga, 0, none⟩ : Addr))); refine (ASKA.out _ _ (by first | exact HP6.out | exact HP6.out.below (pw_below_drewN (Below.refl _ _) 1) | exact HP6.out.below (pw_below_drewN (Below.refl _ _) 2))).mono ?_; rintro e w' ⟨rfl, hP⟩; have hS2_ := hP.cells; clear HP6; have HP6 := Aside0.mk hP; clear hP)
              | (go_simp; go_at_call_of 13 (Value.pointer (some (⟨gb, 0, none⟩ : Addr))); refine (ASKB.out _ _ (by first | exact HP6.out | exact HP6.out.below (pw_below_drewN (Below.refl _ _) 1) | exact HP6.out.below (pw_below_drewN (Below.refl _ _) 2))).mono ?_; rintro e w' ⟨rfl, hP⟩; have hS2_ := hP.cells; clear HP6; have HP6 := Aside0.mk hP; clear hP))
          all_goals
            have HNX := Aside0.mk (show ∃ oa ob, Now w _ oa ga a2 ∧ Now w _ ob gb b2 ∧ ∀ k, oa k → ¬ ob k by obtain ⟨oa, ob, h1, h2, h3, _⟩ := HP6.out.two; exact ⟨oa, ob, h1, h2, h3⟩)
            clear z0 z1 HP6 ASKA ASKB
            cases rb
            · go_wp2_with fail
              go_roundg k1
              case measure => omega
              case rel => exact ⟨j + 1, a2, b2, by first | (simp; done) | rw [ej], ⟨by have := HK.out; omega, by omega⟩, HNX, HIN2, HS2⟩
            · obtain rfl := HRAB.out rfl
              go_wp2_with fail
              go_roundg k1
              case measure => omega
              case rel => exact ⟨j + 1, a2, b2, by first | (simp; done) | rw [ej], ⟨by have := HK.out; omega, by omega⟩, HNX, HIN2, HS2⟩
        · have c14 : decide ((j : Int) < (l1.length : Int)) = false := decide_eq_false (by omega)
          have hJ : j = l1.length := by have := HK.out; omega
          have HLD := Aside0.mk (show a.deeds.length ≤ 100 ∧ b.deeds.length ≤ 100 from ⟨by have := HS.out.1.2.1; omega, by have := HS.out.2.2.1; omega⟩)
          have HE := Aside0.mk HINV.out.ends
          clear HK hJ HS HSEP HINV
          go_wp2_with fail
          refine (alive _).mono ?_; rintro e w6 ⟨rfl, hz⟩
          have HNA6 := Aside0.mk (HNA.out.below hz)
          have HNB6 := Aside0.mk (HNB.out.below hz)
          clear hz HNA HNB
          go_wp2_with fail
          refine (Done HNB6.out.at_ (by have := HLD.out.2; omega)).mono ?_; rintro e w8 ⟨v8, rfl, hR, hb⟩
          obtain ⟨A8, c8, rfl, _, _⟩ := Kd.R_reads hR
          have HNA8 := Aside0.mk (HNA6.out.below hb)
          have HNB8 := Aside0.mk (HNB6.out.below hb)
          clear hb hR HNA6 HNB6
          go_wp2_with fail
          refine (Done HNA8.out.at_ (by have := HLD.out.1; omega)).mono ?_; rintro e w9 ⟨v9, rfl, hR, hb⟩
          obtain ⟨A9, c9, rfl, _, _⟩ := Kd.R_reads hR
          have HNA9 := Aside0.mk (HNA8.out.below hb)
          have HNB9 := Aside0.mk (HNB8.out.below hb)
          have y1 : decide (((pick (fun x => x.f2) b.deeds).length : Int) ≤ ((pick (fun x => x.f2) a.deeds).length : Int)) = true := decide_eq_true (by have := HE.out.1; omega)
          have y2 : decide ((pick (fun x => x.f2) b.deeds).length ≤ (pick (fun x => x.f2) a.deeds).length) = true := decide_eq_true HE.out.1
          clear hb hR HNA8 HNB8
          go_wp2_with fail
          refine (Deeds HNA9.out.at_ (by have := HLD.out.1; omega)).mono ?_; rintro e w10 ⟨v10, rfl, hR, hb⟩
          obtain ⟨A10, c10, rfl, _, _⟩ := Kd.R_reads hR
          rw [HE.out.2]
          have HNB10 := Aside0.mk (HNB9.out.below hb)
          clear hb hR HNA9 HNB9
          go_wp2_with fail
          refine (Deeds HNB10.out.at_ (by have := HLD.out.2; omega)).mono ?_; rintro e w11 ⟨v11, rfl, hR, hb⟩
          obtain ⟨A11, c11, rfl, _, _⟩ := Kd.R_reads hR
          have HB11 := Aside0.mk (HNB10.out.below hb).low
          clear hb hR HNB10
          go_wp2_with fail
          go_ret
          exact ⟨rfl, HB11.out⟩
end Deal
end Go.Proofs.Ytohenapbgencbaa
