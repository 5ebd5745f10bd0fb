/- The disk: alive. -/
import Derived.Test.YtphgoiepoojikaaC
namespace Go.Proofs.Ytphgoiepoojikaa
open Go.RowKit Go.Proofs.YtphgoiepoojikaaW.PrintWords Go.Proofs.YtphgoiepoojikaaW.PrintLast Go.Proofs.YtphgoiepoojikaaW.PrintMore Go.Proofs.Ytphgoiepoojikaa.PK
set_option linter.unusedVariables false
set_option linter.unusedSimpArgs false
set_option maxHeartbeats 2000000
set_option maxRecDepth 100000
namespace Disk

theorem mk22 (n : Nat) (h2 : n ≤ 1000000) (w : World) : (Instr.makeSlice 22 (.int .i64 (n : Int)) (.int .i64 (n : Int))).run Try.prog w = .ok (.slice (some ⟨w.heap.size, 0, none⟩) n n) (w.alloc (.cells (((List.replicate n (0 : Int)).map (Value.int .u8)).toArray) 5)) := by
  obtain ⟨i, hi, hz⟩ := Option.map_eq_some_iff.1 info5
  simp only [Prod.mk.injEq] at hz
  obtain ⟨hz, hs, hb⟩ := hz
  have := run_make (P := Try.prog) w 22 5 i _ Try.underlying22 hi hz .i64 .i64 (n : Int) (n : Int) (by omega) (Int.le_refl _) (by rw [hb]; omega) (by omega)
  rw [this, hs]
  simp only [Int.toNat_natCast]
  congr 3
  apply Array.ext_getElem?
  intro j
  by_cases hj : j < n
  · have hm : j % 1 < 1 := Nat.mod_lt _ (by decide)
    simp [madeCells, Value.cells, hj, Nat.mod_one]
  · rw [Array.getElem?_eq_none (by rw [size_madeCells]; omega), Array.getElem?_eq_none (by simp; omega)]

theorem alive (w : World) : Calls Try.prog 9 #[] w fun e w' => e = .returned (.bool true) ∧ Below w.heap.size w w' := by
  have hmk : ∀ w, (Instr.makeSlice 22 (.int .i64 17) (.int .i64 17)).run Try.prog w = .ok (.slice (some ⟨w.heap.size, 0, none⟩) 17 17) (w.alloc (.cells (((List.replicate 17 (0 : Int)).map (Value.int .u8)).toArray) 5)) := fun w => mk22 17 (by decide) w
  go_enter Try.func9, Try.ntmps9
  go_wp2_with fail
  refine (New.ok 2 _ (by decide) (by decide)).mono ?_; rintro e w1 ⟨g, b, rfl, hA, hg, hb, hB⟩
  have HA := Aside0.mk hA; have HB := Aside0.mk hB; clear hA hB
  go_wp2_with fail
  refine (New.bad 0 _ (by decide)).mono ?_; rintro e w2 ⟨rfl, ⟨m, rfl⟩⟩
  go_wp2_with fail
  have L17 := fun W => Load.bad (some ⟨w1.heap.size, 0, none⟩) 17 (List.replicate 17 0) W (by decide) (by decide)
  have HL17 := Aside0.mk L17; clear L17 hmk
  refine (HL17.out _).mono ?_; rintro e w3 ⟨rfl, hB3⟩
  have HB3 := Aside0.mk (((Aid.bdrew HB.out m).alloc (Aid.bdrew HB.out m).size _).trans (hB3.mono (Nat.le_trans HB.out.size (by simp))))
  have HA3 := Aside0.mk (((HA.out.drewN m).below ((Below.refl _ _).alloc (Nat.le_refl _) _)).below hB3)
  clear HB hB3 HA HL17
  go_wp2_with fail
  refine (Cut HA3.out 1).mono ?_; rintro e w4 ⟨rfl, hA4, hO4⟩
  have HA4 := Aside0.mk hA4; have HB4 := Aside0.mk (HB3.out.trans (hO4.low _ hg hb HB3.out.size)); clear hA4 hO4 HA3 HB3
  go_wp2_with fail
  have C7 := Aside0.mk (Aid.C_new (enc := Value.int .u8) (h1 := fun _ => rfl) (0 : Int) w4 [7] #[Value.int .u8 7] 5 (0, 0) rfl (by decide))
  have HA5 := Aside0.mk (HA4.out.below ((Below.refl _ _).alloc (Nat.le_refl _) (Obj.cells #[Value.int .u8 7] 5)))
  have HB5 := Aside0.mk (HB4.out.alloc HB4.out.size (Obj.cells #[Value.int .u8 7] 5))
  clear HA4 HB4
  refine (Write.ok HA5.out 0 (some ⟨w4.heap.size, 0, none⟩) 1 [7] C7.out (by decide) (by decide) (by decide) (by decide) (by decide) (by decide)).mono ?_; rintro e w5 ⟨rfl, hA6, hO6⟩
  have HA6 := Aside0.mk hA6; have HB6 := Aside0.mk (HB5.out.trans (hO6.low _ hg hb HB5.out.size)); clear hA6 hO6 HA5 HB5
  go_wp2_with fail
  have HA7 := Aside0.mk (HA6.out.below ((Below.refl _ _).alloc (Nat.le_refl _) (Obj.cells #[Value.int .u8 8] 5)))
  have HB7 := Aside0.mk (HB6.out.alloc HB6.out.size (Obj.cells #[Value.int .u8 8] 5))
  clear HA6 HB6
  refine (Write.down HA7.out 1 (some ⟨w5.heap.size, 0, none⟩) 1 [8] (by decide) (by decide) (by decide)).mono ?_; rintro e w6 ⟨rfl, ⟨m6, rfl⟩⟩
  go_wp2_with fail
  refine (Write.arg (HA7.out.drewN m6) 2 none 0 [] (by decide)).mono ?_; rintro e w7 ⟨rfl, ⟨m7, rfl⟩⟩
  go_wp2_with fail
  refine (Down (HA7.out.drewN _)).mono ?_; rintro e w8 ⟨rfl, ⟨m8, rfl⟩⟩
  go_wp2_with fail
  refine (Up (HA7.out.drewN _)).mono ?_; rintro e w9 ⟨rfl, hA9, hO9⟩
  have HA9 := Aside0.mk hA9
  have HB9 := Aside0.mk ((pw_below_drewN HB7.out _).trans (hO9.low _ hg hb HB7.out.size)); clear hA9 hO9 HA7 HB7
  go_wp2_with fail
  refine (Down HA9.out).mono ?_; rintro e w10 ⟨rfl, ⟨m10, rfl⟩⟩
  go_wp2_with fail
  refine (Writes (HA9.out.drewN _)).mono ?_; rintro e w11 ⟨rfl, ⟨m11, rfl⟩⟩
  go_wp2_with fail
  refine (Blocks (HA9.out.drewN _)).mono ?_; rintro e w12 ⟨rfl, ⟨m12, rfl⟩⟩
  go_wp2_with fail
  refine (Bytes (HA9.out.drewN _)).mono ?_; rintro e w13 ⟨v13, rfl, hR13, hB13⟩
  obtain ⟨A13, c13, rfl, _, _⟩ := Kd.R_reads hR13
  have HA13 := Aside0.mk ((HA9.out.drewN _).below hB13)
  have HB13 := Aside0.mk (Aid.bthen (pw_below_drewN HB9.out _) hB13)
  have e32 : (put (List.replicate (16 * 2) 0) 0 [7]).length = 32 := by decide
  clear hR13 hB13 HA9 HB9
  go_wp2_with fail
  refine (Read.yes HA13.out 0 (by decide)).mono ?_; rintro e w14 ⟨x14, rfl, _, _, hB14⟩
  have HA14 := Aside0.mk (HA13.out.below hB14)
  have HB14 := Aside0.mk (Aid.bthen HB13.out hB14)
  clear hB14 HA13 HB13
  go_wp2_with fail
  refine (Read.yes HA14.out 0 (by decide)).mono ?_; rintro e w15 ⟨x15, rfl, _, hx15, hB15⟩
  have HA15 := Aside0.mk (HA14.out.below hB15)
  have HB15 := Aside0.mk (Aid.bthen HB14.out hB15)
  have c15 : w15.cell? ⟨x15, 0, none⟩ = some (.int .u8 7) := by rw [cell_of_row _ _ _ _ _ _ hx15]; rfl
  clear hB15 HA14 HB14 hx15
  go_wp2_with fail
  refine (Read.no HA15.out 2 (by decide)).mono ?_; rintro e w16 ⟨rfl, ⟨m16, rfl⟩⟩
  go_wp2_with fail
  go_ret
  exact ⟨rfl, pw_below_drewN HB15.out _⟩
end Disk
end Go.Proofs.Ytphgoiepoojikaa
