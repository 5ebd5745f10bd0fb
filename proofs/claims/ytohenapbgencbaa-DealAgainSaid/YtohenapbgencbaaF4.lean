/- The law DealAgain: its walk (printed by genF.py). -/
import Derived.Test.YtohenapbgencbaaE
import Derived.BigQuiet
import Derived.Deep.QuietTactic
namespace Go.Proofs.Ytohenapbgencbaa
open Go.RowKit Go.Proofs.YtohenapbgencbaaW.PrintWords Go.Proofs.YtohenapbgencbaaW.PrintLast Go.Proofs.YtohenapbgencbaaW.PrintMore Go.Proofs.Ytohenapbgencbaa.PK
set_option linter.unusedVariables false
set_option linter.unusedSimpArgs false
set_option maxHeartbeats 4000000
set_option maxRecDepth 100000
namespace Deal

theorem info4 : (Try.prog.info? 4).map (fun i => (i.zero, i.size, i.bytes)) = some (some (.bool false), 1, 1) := by kernel_rfl
theorem Now.grown {w0 W W' : World} {own : Nat → Prop} {g : Nat} {s : DS} {row : Option Nat} (h : Now w0 W own g s) (hg : W.grownBy W' row) (hr : ∀ k, row = some k → ¬ own k) (hb : Below w0.heap.size w0 W') : Now w0 W' own g s :=
  ⟨h.at_.keep (Kept.of_grown hg (Kept.refl W (fun k => row = some k)) (fun k e => .inl e)) (fun k h1 h2 => hr k h2 h1), fun k hk => ⟨(h.lo k hk).1, Nat.lt_of_lt_of_le (h.lo k hk).2 hg.size⟩, hb⟩
attribute [local go_sem high] eqA42
theorem DealAgain (A0 : Option Addr) (c0 : Nat) (l0 : List Int) (A1 : Option Addr) (c1 : Nat) (l1 : List S32) (nm : ByteArray) (w : World) (hr0 : Kd.C (Kd.int .i64) w A0 l0.length l0) (hc0 : l0.length ≤ c0) (hr1 : Kd.C k32 w A1 l1.length l1) (hc1 : l1.length ≤ c1) (hm : l1.length ≤ 9223372036854775807) (hw : ∀ y ∈ l1, wfI y.f0) :
    Calls Try.prog 4 #[.slice A0 l0.length c0, .slice A1 l1.length c1, .string nm] w fun e w' => e = .returned (.bool true) ∧ Below w.heap.size w w' := by
  have HR := Aside0.mk hr0; clear hr0
  have HL := Aside0.mk hr1; clear hr1
  have FW := Aside0.mk (Few A0 c0 l0 A1 c1 l1 w HR.out hc0 HL.out hc1 hm)
  have HW := Aside0.mk hw; clear hw
  by_cases h100 : 100 < nm.size
  · have g100 : decide ((100 : Int) < (nm.size : Int)) = true := decide_eq_true (by omega)
    clear h100
    go_enter Try.func4, Try.ntmps4
    go_wp2_with fail
    refine FW.out.mono ?_; rintro e w1 ⟨r, rfl, hfew, hB⟩
    have HB := Aside0.mk hB; clear hB hfew
    cases r
    all_goals
      go_wp2_with fail
      refine (alive _).mono ?_; rintro e wz ⟨rfl, hz⟩
      have HBZ := Aside0.mk (Aid.bthen HB.out hz); clear hz
      go_wp2_with fail
      go_ret
      exact ⟨rfl, HBZ.out⟩
  have g100 : decide ((100 : Int) < (nm.size : Int)) = false := decide_eq_false (by omega)
  clear h100
  go_enter Try.func4, Try.ntmps4
  go_wp2_with fail
  refine FW.out.mono ?_; rintro e w1 ⟨r, rfl, hfew, hB⟩
  have HB := Aside0.mk hB; clear hB
  cases r
  · clear hfew
    go_wp2_with fail
    refine (alive _).mono ?_; rintro e wz ⟨rfl, hz⟩
    have HBZ := Aside0.mk (Aid.bthen HB.out hz); clear hz
    go_wp2_with fail
    go_ret
    exact ⟨rfl, HBZ.out⟩
  have L0 := (hfew rfl).1
  have L1 := (hfew rfl).2
  clear hfew hm FW
  go_wp2_with fail
  refine (NewNow (w0 := w) A0 c0 l0 w1 HB.out (Kd.C_below HR.out HB.out) hc0 (by omega)).mono ?_; rintro e w2 ⟨g, rfl, hN, _⟩
  obtain ⟨s0, hs0⟩ : ∃ s0 : DS, s0 = ⟨l0, [], 0⟩ := ⟨_, rfl⟩
  rw [← hs0] at hN
  have HS0 := Aside0.mk (show s0.sane l0 0 ∧ s0.deeds = [] by rw [hs0]; exact ⟨sane0 l0, rfl⟩)
  have HN2 := Aside0.mk hN; clear hN HB hs0
  clear g100
  go_wp2_with fail
  go_loopg [8, 32] (l1.length + 1) (fun kq v8 v32 w' => ∃ (j : Nat) (T : List Bool) (s : DS), v32 = .int .i64 (j : Int) ∧ Aside0 (kq + j = l1.length + 1 ∧ j ≤ l1.length) ∧ Aside0 (∃ own, Now w w' own g s ∧ Kd.R Kd.bool 4 w' w.heap.size (fun k => ¬ own k) v8 T) ∧ Aside0 (s.sane l0 j ∧ T.length = j) ∧ Aside0 (∀ (i : Nat) (x : S32) (b : Bool), l1[i]? = some x → T[i]? = some b → known s.deeds x.f0 = some b))
  case atStart => exact ⟨0, [], s0, rfl, ⟨by omega, by omega⟩, ⟨_, HN2.out, Kd.R_nil _ _ _ _ _⟩, ⟨HS0.out.1, rfl⟩, ⟨fun i x b _ h => by simp at h⟩⟩
  case round =>
    clear HN2
    obtain ⟨j, T, s, rfl, HK, HNE, HS, HT⟩ := hrel
    obtain ⟨own, hN, hR⟩ := HNE.out
    have HN := Aside0.mk hN
    have HTR := Aside0.mk hR
    clear hN hR HNE
    cases gk with
    | zero => exact absurd HK.out (by omega)
    | succ k1 =>
      by_cases hj : j < l1.length
      · have c14 : decide ((j : Int) < (l1.length : Int)) = true := decide_eq_true (by omega)
        have p0 : (0 : Int) ≤ (j : Int) := by omega
        have q0 : (j : Int) < (l1.length : Int) := by omega
        obtain ⟨ad, e7, x0, x1⟩ := at_T32 HL.out (j : Int) p0 q0
        cases e7
        rw [rd32 l1 j hj] at x0 x1
        simp only [Int.toNat_natCast] at x0 x1
        obtain ⟨o, ho⟩ : ∃ o, o = l1[j] := ⟨_, rfl⟩
        rw [← ho] at x0 x1
        have HOJ := Aside0.mk ho; clear ho
        have HWJ := Aside0.mk (show wfI o.f0 by rw [HOJ.out]; exact HW.out _ (List.getElem_mem hj))
        replace x0 := ((HN.out.low).cell (World.block_lt_of_cell? w _ x0)).trans x0
        replace x1 := ((HN.out.low).cell (World.block_lt_of_cell? w _ x1)).trans x1
        have ej : IntKind.i64.wrap ((j : Int) + 1) = ((j + 1 : Nat) : Int) := by rw [IntKind.wrap_i64]; omega
        go_upto_region 10 with fail
        obtain ⟨w6, hw6⟩ : ∃ w6, w6 = wr.alloc (.cells #[.int .i64 o.f0, .string o.f1] 32) := ⟨_, rfl⟩
        rw [← hw6]
        have hb6 : Below wr.heap.size wr w6 := by rw [hw6]; exact (Below.refl _ _).alloc (Nat.le_refl _) _
        have HX6 := Aside0.mk (show w6.heap[wr.heap.size]? = some (.cells #[.int .i64 o.f0, .string o.f1] 32 (0, 0)) by rw [hw6]; exact Aid.heap_new wr _)
        obtain ⟨x, hx⟩ : ∃ x, x = wr.heap.size := ⟨_, rfl⟩
        rw [← hx] at HX6 ⊢
        have z0 : w6.cell? ⟨x, 0, none⟩ = some (.int .i64 o.f0) := by rw [cell_of_row _ _ _ _ _ _ HX6.out]; rfl
        have z1 : w6.cell? ⟨x, 1, none⟩ = some (.string o.f1) := by rw [cell_of_row _ _ _ _ _ _ HX6.out]; rfl
        have HN6 := Aside0.mk (HN.out.below hb6)
        have HTR6 := Aside0.mk (Kd.R_kept (Kd.R_bound HTR.out) (Kept.of_below hb6 (fun _ => False)) (fun _ _ hf => hf))
        have HSZ6 := Aside0.mk hb6.size
        clear hb6 hw6 hx x0 x1 HN HTR
        obtain ⟨s2, hs2⟩ : ∃ s2, s2 = (s.ask o.f0 o.f1).2 := ⟨_, rfl⟩
        obtain ⟨bb, hbb⟩ : ∃ bb, bb = (s.ask o.f0 o.f1).1 := ⟨_, rfl⟩
        have ask1 := HN6.out.ask o.f0 o.f1 HWJ.out (by have := HS.out.1.1; omega) (by have := HS.out.1.2.1; omega) (by have := HS.out.1.2.2; rw [this]; omega)
        rw [← hs2, ← hbb] at ask1
        have ASK := Aside0.mk ask1
        have HS2 := Aside0.mk (show s2.sane l0 (j + 1) by rw [hs2]; exact sane_ask HS.out.1 _ _)
        have HT2 := Aside0.mk (show ∀ (i : Nat) (x : S32) (b : Bool), l1[i]? = some x → (T ++ [bb])[i]? = some b → known s2.deeds x.f0 = some b by
          intro i y b h1 h2
          by_cases hi : i < T.length
          · rw [List.getElem?_append_left hi] at h2
            obtain ⟨t, ht⟩ := (ask_facts s o.f0 o.f1).2.2.2
            rw [hs2, ht]
            exact known_append (HT.out i y b h1 h2)
          · have hi2 : i < (T ++ [bb]).length := (List.getElem?_eq_some_iff.1 h2).1
            have hie : i = j := by rw [List.length_append] at hi2; simp at hi2; have := HS.out.2; omega
            subst hie
            rw [List.getElem?_append_right (by have := HS.out.2; omega), show i - T.length = 0 by have := HS.out.2; omega] at h2
            rw [List.getElem?_eq_getElem hj] at h1
            have e1 : y = o := by rw [HOJ.out]; exact (Option.some.inj h1).symm
            have e2 : bb = b := by simpa using h2
            rw [e1, hs2, ← e2, hbb]
            exact known_ask s o.f0 o.f1)
        clear ask1 hs2 hbb
        go_wp2_with fail
        refine ASK.out.mono ?_
        rintro e w7 ⟨rfl, hN7, hO7⟩
        have HN7 := Aside0.mk hN7
        have HTR7 := Aside0.mk (show Kd.R Kd.bool 4 w7 w.heap.size (fun k => ¬ (own k ∨ (w6.heap.size ≤ k ∧ k < w7.heap.size))) u8 T from
          Kd.R_mono (Kd.R_kept HTR6.out hO7.kept (fun k hk => hk.1)) (fun k hk h => h.elim hk.1 (fun h2 => by have := hk.2.2.1; have := HSZ6.out; omega)))
        clear hN7 hO7 z0 z1 HN6 HX6 ASK HTR6
        have HTL := Aside0.mk (show T.length ≤ 1000 by have := HS.out.2; omega)
        go_wp2_with ((with_reducible refine gate_builtin (b := .append) (xs := #[.tmp 36, .tmp 43]) rfl ?_); at_builtin; refine Kd.R_append Kd.bool (w0 := w) w.heap.size rfl (.tmp 36) (.tmp 43) 37 4 (.bool false) 1 rfl Try.underlying37 info4 rfl (by decide) (by omega) u8 T bb [.bool bb] (fun k => ¬ (own k ∨ (w6.heap.size ≤ k ∧ k < w7.heap.size))) (fun _ => False) rfl rfl ?aP (fun _ hk => hk.elim) ?aF ?aO ?aB ?aS ?aL ?_; (case aP => exact rfl); (case aB => exact HN7.out.low); (case aF => exact (fun k hk h => by have := (HN7.out.lo k h).2; omega)); (case aO => exact HTR7.out); (case aS => exact HN7.out.low.size); (case aL => have := HTL.out; omega); intro v9 w9 ho hb hg hat; have HN9 := Aside0.mk (HN7.out.grown hg (fun k e h => HTR7.out.1 k e h) hb); have HO9 := Aside0.mk ho; clear ho hb hg hat)
        have HNN := Aside0.mk (show ∃ own, Now w w9 own g s2 ∧ Kd.R Kd.bool 4 w9 w.heap.size (fun k => ¬ own k) v9 (T ++ [bb]) from ⟨_, HN9.out, HO9.out⟩)
        clear HN7 HTR7 HN9 HO9
        go_roundg k1
        case measure => omega
        case rel => exact ⟨j + 1, T ++ [bb], s2, by first | (simp; done) | rw [ej], ⟨by have := HK.out; omega, by omega⟩, HNN, ⟨HS2.out, by rw [List.length_append]; have := HS.out.2; simp; omega⟩, HT2⟩
      · have c14 : decide ((j : Int) < (l1.length : Int)) = false := decide_eq_false (by omega)
        have hJ : j = l1.length := by have := HK.out; omega
        have HSA := Aside0.mk (show s.sane l0 l1.length by rw [← hJ]; exact HS.out.1)
        have HTLE := Aside0.mk (show T.length = l1.length by rw [← hJ]; exact HS.out.2)
        clear HK hJ HS
        obtain ⟨At_, ct, rfl, hct, _⟩ := Kd.R_reads HTR.out
        go_wp2_with fail
        refine (Deeds HN.out.at_ (by have := HSA.out.2.1; omega)).mono ?_; rintro e w7 ⟨v7, rfl, hR, hb⟩
        obtain ⟨D, hD⟩ : ∃ D, D = s.deeds := ⟨_, rfl⟩
        rw [← hD] at hR
        have HD := Aside0.mk (show s.deeds = D ∧ s.refuses = l0 ∧ s.asked = (l1.length : Int) + ((0 : Nat) : Int) from ⟨hD.symm, HSA.out.2.2, by rw [HSA.out.1]; omega⟩)
        have HDL := Aside0.mk (show D.length ≤ 100 by rw [hD]; have := HSA.out.2.1; omega)
        have HTK := Aside0.mk (show ∀ (i : Nat) (x : S32) (b : Bool), l1[i]? = some x → T[i]? = some b → known D x.f0 = some b by rw [hD]; exact HT.out)
        clear hD
        obtain ⟨A7, c7, rfl, hc7, _⟩ := Kd.R_reads hR
        have HWR := Aside0.mk (show Kd.R k53 42 w7 w.heap.size (fun k => ¬ own k) (.slice A7 D.length c7) D from Kd.R_lower (Kd.R_mono (Kd.R_bound hR) (fun k hk h => by have := (HN.out.lo k h).2; have := hk.2.1; omega)) HN.out.low.size)
        have HTR7 := Aside0.mk (Kd.R_kept HTR.out (Kept.of_below hb (fun _ => False)) (fun _ _ hf => hf))
        have HN7 := Aside0.mk (HN.out.below hb)
        have HPK := Aside0.mk (show ∃ own, Now w w7 own g s ∧ Kd.R Kd.bool 4 w7 w.heap.size (fun k => ¬ own k) (.slice At_ T.length ct) T ∧ Kd.R k53 42 w7 w.heap.size (fun k => ¬ own k) (.slice A7 D.length c7) D from ⟨own, HN7.out, HTR7.out, HWR.out⟩)
        clear hR hb HN HTR HN7 HTR7 HWR HSA HT
        go_wp2_with fail
        go_loopg [50] (l1.length + 1) (fun kq v50 w' => ∃ (j : Nat) (s2 : DS), v50 = .int .i64 (j : Int) ∧ Aside0 (kq + j = l1.length + 1 ∧ j ≤ l1.length) ∧ Aside0 (∃ own, Now w w' own g s2 ∧ Kd.R Kd.bool 4 w' w.heap.size (fun k => ¬ own k) (.slice At_ T.length ct) T ∧ Kd.R k53 42 w' w.heap.size (fun k => ¬ own k) (.slice A7 D.length c7) D) ∧ Aside0 (s2.deeds = D ∧ s2.refuses = l0 ∧ s2.asked = (l1.length : Int) + (j : Int)))
        case atStart => exact ⟨0, s, rfl, ⟨by omega, by omega⟩, HPK, HD⟩
        case round =>
          clear HPK HD
          obtain ⟨j, s2, rfl, HK, HNE, HD⟩ := hrel
          obtain ⟨own, hN, hR1, hR2⟩ := HNE.out
          have HN := Aside0.mk hN
          have HTR := Aside0.mk hR1
          have HWR := Aside0.mk hR2
          clear hN hR1 hR2 HNE
          cases gk with
          | zero => exact absurd HK.out (by omega)
          | succ k1 =>
            by_cases hj : j < l1.length
            · have c14 : decide ((j : Int) < (l1.length : Int)) = true := decide_eq_true (by omega)
              have p0 : (0 : Int) ≤ (j : Int) := by omega
              have q0 : (j : Int) < (l1.length : Int) := by omega
              obtain ⟨ad, e7, x0, x1⟩ := at_T32 HL.out (j : Int) p0 q0
              cases e7
              rw [rd32 l1 j hj] at x0 x1
              simp only [Int.toNat_natCast] at x0 x1
              obtain ⟨o, ho⟩ : ∃ o, o = l1[j] := ⟨_, rfl⟩
              rw [← ho] at x0 x1
              have HOJ := Aside0.mk ho; clear ho
              have HWJ := Aside0.mk (show wfI o.f0 by rw [HOJ.out]; exact HW.out _ (List.getElem_mem hj))
              replace x0 := ((HN.out.low).cell (World.block_lt_of_cell? w _ x0)).trans x0
              replace x1 := ((HN.out.low).cell (World.block_lt_of_cell? w _ x1)).trans x1
              have ej : IntKind.i64.wrap ((j : Int) + 1) = ((j + 1 : Nat) : Int) := by rw [IntKind.wrap_i64]; omega
              go_upto_region 16 with fail
              obtain ⟨w6, hw6⟩ : ∃ w6, w6 = wr.alloc (.cells #[.int .i64 o.f0, .string o.f1] 32) := ⟨_, rfl⟩
              rw [← hw6]
              have hb6 : Below wr.heap.size wr w6 := by rw [hw6]; exact (Below.refl _ _).alloc (Nat.le_refl _) _
              have HX6 := Aside0.mk (show w6.heap[wr.heap.size]? = some (.cells #[.int .i64 o.f0, .string o.f1] 32 (0, 0)) by rw [hw6]; exact Aid.heap_new wr _)
              obtain ⟨x, hx⟩ : ∃ x, x = wr.heap.size := ⟨_, rfl⟩
              rw [← hx] at HX6 ⊢
              have z0 : w6.cell? ⟨x, 0, none⟩ = some (.int .i64 o.f0) := by rw [cell_of_row _ _ _ _ _ _ HX6.out]; rfl
              have z1 : w6.cell? ⟨x, 1, none⟩ = some (.string o.f1) := by rw [cell_of_row _ _ _ _ _ _ HX6.out]; rfl
              have HN6 := Aside0.mk (HN.out.below hb6)
              have HTR6 := Aside0.mk (Kd.R_kept (Kd.R_bound HTR.out) (Kept.of_below hb6 (fun _ => False)) (fun _ _ hf => hf))
              have HWR6 := Aside0.mk (Kd.R_kept (Kd.R_bound HWR.out) (Kept.of_below hb6 (fun _ => False)) (fun _ _ hf => hf))
              have HSZ6 := Aside0.mk hb6.size
              have HXO := Aside0.mk (show ¬ own x by rw [hx]; exact fun h => by have := (HN.out.lo _ h).2; omega)
              clear hb6 hw6 hx x0 x1 HN HTR HWR
              have hjt : j < T.length := by have := HTLE.out; omega
              obtain ⟨tb, htb⟩ : ∃ tb, tb = T[j] := ⟨_, rfl⟩
              have hkn : known s2.deeds o.f0 = some tb := by rw [HD.out.1]; exact HTK.out j o tb (by rw [List.getElem?_eq_getElem hj, HOJ.out]) (by rw [List.getElem?_eq_getElem hjt, htb])
              obtain ⟨s3, hs3⟩ : ∃ s3, s3 = { s2 with asked := s2.asked + 1 } := ⟨_, rfl⟩
              have he : s2.ask o.f0 nm = (tb, s3) := by unfold DS.ask; rw [hkn, hs3]
              have ask1 := fun W (h : Now w W own g s2) => h.ask o.f0 nm HWJ.out (by have := HD.out.2.2; omega) (by rw [HD.out.1]; have := HDL.out; omega) (by rw [HD.out.2.1]; omega)
              rw [he] at ask1
              have ASK := Aside0.mk ask1
              have HD3 := Aside0.mk (show s3.deeds = D ∧ s3.refuses = l0 ∧ s3.asked = (l1.length : Int) + ((j + 1 : Nat) : Int) by rw [hs3]; exact ⟨HD.out.1, HD.out.2.1, by show s2.asked + 1 = _; rw [HD.out.2.2]; omega⟩)
              have q0t : (j : Int) < (T.length : Int) := by omega
              obtain ⟨adt, e7, xt⟩ := Kd.at_bool (Kd.R_reads' HTR6.out).2.2 (j : Int) p0 q0t
              cases e7
              simp only [Int.toNat_natCast] at xt
              have HTB := Aside0.mk (show rdOf false T (j : Int) = tb by rw [htb]; simp [rdOf, List.getD_eq_getElem?_getD, List.getElem?_eq_getElem hjt])
              rw [HTB.out] at xt
              clear ask1 hs3 he hkn htb HD
              go_wp2_with fail
              go_region_held3 (fun W => W.cell? ⟨x, 0, none⟩ = some (.int .i64 o.f0) ∧ W.cell? (adt.add j) = some (.bool tb)) (first | assumption | exact ⟨z0, xt⟩)
                ((go_simp; go_at_call 13; refine (ASK.out _ (by first | exact HN6.out | exact HN6.out.below (pw_below_drewN (Below.refl _ _) 1) | exact HN6.out.below (pw_below_drewN (Below.refl _ _) 2))).mono ?_; rintro e w7 ⟨rfl, hN7, hO7⟩; have hz7 := (hO7.keep _ (blk_lt HX6.out) HXO.out).trans HX6.out; have hr7 := Kd.R_kept HTR6.out hO7.kept (fun k hk => hk.1); obtain ⟨ad7, e7, xt7⟩ := Kd.at_bool (Kd.R_reads' hr7).2.2 (j : Int) p0 q0t; cases e7; rw [HTB.out] at xt7; have hS2_ := And.intro (show w7.cell? ⟨x, 0, none⟩ = some (.int .i64 o.f0) by rw [cell_of_row _ _ _ _ _ _ hz7]; rfl) xt7; have HN7 := Aside0.mk hN7; have HTR7 := Aside0.mk hr7; have HWR7 := Aside0.mk (Kd.R_kept HWR6.out hO7.kept (fun k hk => hk.1)); clear hz7 hr7 xt7 hN7 hO7))
              have HPK := Aside0.mk (show ∃ own, Now w _ own g s3 ∧ Kd.R Kd.bool 4 _ w.heap.size (fun k => ¬ own k) (.slice (some adt) T.length ct) T ∧ Kd.R k53 42 _ w.heap.size (fun k => ¬ own k) (.slice A7 D.length c7) D from
                ⟨_, HN7.out, Kd.R_mono HTR7.out (fun k hk h => h.elim hk.1 (fun h2 => by have := hk.2.2.1; have h3 := h2.1; have := HSZ6.out; simp at h3; omega)), Kd.R_mono HWR7.out (fun k hk h => h.elim hk.1 (fun h2 => by have := hk.2.2.1; have h3 := h2.1; have := HSZ6.out; simp at h3; omega))⟩)
              clear HN7 HTR7 HWR7 HN6 HTR6 HWR6 HX6 ASK z0 z1 xt
              go_wp2_with fail
              go_roundg k1
              case measure => omega
              case rel => exact ⟨j + 1, s3, by first | (simp; done) | rw [ej], ⟨by have := HK.out; omega, by omega⟩, HPK, HD3⟩
            · have c14 : decide ((j : Int) < (l1.length : Int)) = false := decide_eq_false (by omega)
              have HAS := Aside0.mk (show s2.asked = 2 * (l1.length : Int) by rw [HD.out.2.2]; have := HK.out; omega)
              have HDD := Aside0.mk HD.out.1
              clear HK HD
              go_wp2_with fail
              refine (Deeds HN.out.at_ (by rw [HDD.out]; have := HDL.out; omega)).mono ?_; rintro e w8 ⟨v8, rfl, hR, hb⟩
              rw [HDD.out] at hR
              obtain ⟨A8, c8, rfl, hc8, hC8⟩ := Kd.R_reads hR
              have HC8 := Aside0.mk hC8
              have HC7 := Aside0.mk (Kd.C_below (Kd.R_reads' HWR.out).2.2 hb)
              have HN8 := Aside0.mk (HN.out.below hb)
              clear hR hb hC8 HN HTR HWR
              go_wp2_with fail
              refine (Asked HN8.out.at_).mono ?_; rintro e w9 ⟨rfl, ⟨m9, rfl⟩⟩
              rw [HAS.out]
              have HC89 := Aside0.mk (Kd.C_drewN HC8.out m9)
              have HC79 := Aside0.mk (Kd.C_drewN HC7.out m9)
              have HB9 := Aside0.mk (pw_below_drewN HN8.out.low m9)
              clear HC8 HC7 HN8
              go_wp2_with fail
              go_loopg [83] (D.length + 1) (fun kq v83 w' => ∃ (j : Nat), v83 = .int .i64 (j : Int) ∧ Aside0 (kq + j = D.length + 1 ∧ j ≤ D.length) ∧ Aside0 (Kd.C k53 w' A7 D.length D ∧ Kd.C k53 w' A8 D.length D) ∧ Aside0 (Below w.heap.size w w'))
              case atStart => exact ⟨0, rfl, ⟨by omega, by omega⟩, ⟨HC79.out, HC89.out⟩, HB9⟩
              case round =>
                clear HC79 HC89 HB9
                obtain ⟨j3, rfl, HK, HC, HB⟩ := hrel
                cases gk with
                | zero => exact absurd HK.out (by omega)
                | succ k1 =>
                  by_cases hj3 : j3 < D.length
                  · have c15 : decide ((j3 : Int) < (D.length : Int)) = true := decide_eq_true (by omega)
                    have p3 : (0 : Int) ≤ (j3 : Int) := by omega
                    have q3 : (j3 : Int) < (D.length : Int) := by omega
                    obtain ⟨ad7, e7, y0, y1, y2⟩ := at_T53 HC.out.1 (j3 : Int) p3 q3
                    obtain ⟨ad8, e8, z0, z1, z2⟩ := at_T53 HC.out.2 (j3 : Int) p3 q3
                    cases e7
                    cases e8
                    obtain ⟨dd, hdd⟩ : ∃ dd, dd = rd_T53 D (j3 : Int) := ⟨_, rfl⟩
                    rw [← hdd] at y0 y1 y2 z0 z1 z2
                    simp only [Int.toNat_natCast] at y0 y1 y2 z0 z1 z2
                    clear hdd
                    have HLDx := HDL.out
                    have ej3 : IntKind.i64.wrap ((j3 : Int) + 1) = ((j3 + 1 : Nat) : Int) := by rw [IntKind.wrap_i64]; omega
                    go_wp2_with fail
                    go_quiet (fail)
                    have HCn := Aside0.mk (And.intro (Kd.C_drewN HC.out.1 nq) (Kd.C_drewN HC.out.2 nq))
                    have HBn := Aside0.mk (pw_below_drewN HB.out nq)
                    go_wp2_with fail
                    go_roundg k1
                    case measure => omega
                    case rel => exact ⟨j3 + 1, by first | (simp; done) | rw [ej3], ⟨by have := HK.out; omega, by omega⟩, HCn, HBn⟩
                  · have c15 : decide ((j3 : Int) < (D.length : Int)) = false := decide_eq_false (by omega)
                    clear HK
                    go_wp2_with fail
                    refine (alive _).mono ?_; rintro e wz ⟨rfl, hz⟩
                    have HBZ := Aside0.mk (Aid.bthen HB.out hz); clear hz
                    go_wp2_with fail
                    go_ret
                    exact ⟨rfl, HBZ.out⟩

end Deal
end Go.Proofs.Ytohenapbgencbaa
