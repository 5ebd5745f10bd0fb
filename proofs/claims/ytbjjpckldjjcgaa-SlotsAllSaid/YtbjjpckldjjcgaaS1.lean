/- The slots: the program's functions that only read. -/
import Derived.Test.YtbjjpckldjjcgaaZ1
import Derived.Test.YtbjjpckldjjcgaaY1
import Derived.Deep.RegionHeld3
namespace Go.Proofs.Ytbjjpckldjjcgaa
open Go.RowKit Go.Proofs.YtbjjpckldjjcgaaW.PrintWords Go.Proofs.YtbjjpckldjjcgaaW.PrintLast Go.Proofs.YtbjjpckldjjcgaaW.PrintMore Go.Proofs.Ytbjjpckldjjcgaa.PK
set_option linter.unusedVariables false
set_option linter.unusedSimpArgs false
set_option maxHeartbeats 4000000
set_option maxRecDepth 100000
attribute [local go_sem] max2_int min2_int max_two min_two
namespace Disk
namespace Slots

/-- A store: block s holds the disk's place. -/
structure StAt (W : World) (s g b n : Nat) (t : St) : Prop where
  hs : W.heap[s]? = some (.cells #[.pointer (some ⟨g, 0, none⟩)] 73 (0, 0))
  at_ : AtS W g b n t
  h3 : 3 ≤ n / 2
  ob : Crc.okb t.db = true
section
variable {W W' : World} {s g b n : Nat} {t t' : St}
theorem StAt.c0 (h : StAt W s g b n t) : W.cell? ⟨s, 0, none⟩ = some (.pointer (some ⟨g, 0, none⟩)) := by rw [cell_of_row W s 0 _ _ _ h.hs]; rfl
theorem StAt.lt (h : StAt W s g b n t) : s < W.heap.size := blk_lt h.hs
theorem StAt.ne (h : StAt W s g b n t) : s ≠ g ∧ s ≠ b := by
  have h1 := h.hs
  have h2 := At.hg h.at_
  have h3 := At.hb h.at_
  refine ⟨?_, ?_⟩
  · intro e
    rw [e, h2] at h1
    injection h1 with h1
    injection h1 with h4 h5
    cases h5
  · intro e
    rw [e, h3] at h1
    injection h1 with h1
    injection h1 with h4 h5
    cases h5
theorem StAt.below (h : StAt W s g b n t) (hb : Below W.heap.size W W') : StAt W' s g b n t :=
  ⟨(hb.block _ h.lt).trans h.hs, AtS.below h.at_ hb, h.h3, h.ob⟩
theorem StAt.drewN (h : StAt W s g b n t) (m : Nat) : StAt (W.drewN m) s g b n t := ⟨h.hs, At.drewN h.at_ m, h.h3, h.ob⟩
theorem StAt.only (h : StAt W s g b n t) (ho : Only g b W W') (ha : AtS W' g b n t') (hb : Crc.okb t'.db = true) : StAt W' s g b n t' :=
  ⟨(ho.keep _ h.lt h.ne.1 h.ne.2).trans h.hs, ha, h.h3, hb⟩
theorem StAt.n2 (h : StAt W s g b n t) : n ≤ 1024 := At.n2 h.at_
theorem StAt.len (h : StAt W s g b n t) : t.db.length = 16 * n := At.len h.at_
end
theorem run_okb {db : List Int} (h : Crc.okb db = true) (a j : Nat) : Crc.okb (run db a j) = true := Crc.okb_take _ _ (Crc.okb_drop _ _ h)

theorem Half {w : World} {s g b n : Nat} {t : St} (h : StAt w s g b n t) :
    Calls Try.prog 38 #[.pointer (some ⟨s, 0, none⟩)] w fun e w' => e = .returned (.int .i64 ((n / 2 : Nat) : Int)) ∧ Drawn0 w w' := by
  have HC := Aside0.mk (Blocks (At.drewN h.at_ 0))
  have h0 := h.c0
  have HN := Aside0.mk h.n2
  have e2 : wrap64 ((n : Int) / 2) = ((n / 2 : Nat) : Int) := by have := h.n2; unfold wrap64; omega
  clear h
  go_enter Try.func38, Try.ntmps38
  go_wp2_with fail
  refine HC.out.mono ?_; rintro e w1 ⟨rfl, ⟨m, rfl⟩⟩
  go_wp2_with fail
  go_ret
  exact ⟨by first | rfl | (simp only [e2]; done) | (congr 2; have := e2; simp [IntKind.wrap_i64] at this ⊢; omega) | (have hn := HN.out; congr 2; simp [wrap64]; omega), ⟨m, rfl⟩⟩
theorem Room {w : World} {s g b n : Nat} {t : St} (h : StAt w s g b n t) :
    Calls Try.prog 13 #[.pointer (some ⟨s, 0, none⟩)] w fun e w' => e = .returned (.int .i64 (room n : Int)) ∧ Drawn0 w w' := by
  have HC := Aside0.mk (Half h)
  obtain ⟨m, hm⟩ : ∃ m, m = n / 2 := ⟨_, rfl⟩
  have hm3 : 3 ≤ m := by have := h.h3; omega
  have hm4 : m ≤ 512 := by have := h.n2; omega
  have er : room n = min 2048 ((m - 2) * 16) := by unfold room; rw [hm]
  rw [← hm] at HC
  have e1 : IntKind.i64.wrap ((m : Int) - 2) = ((m - 2 : Nat) : Int) := by rw [IntKind.wrap_i64]; omega
  have e2 : IntKind.i64.wrap (((m - 2 : Nat) : Int) * 16) = (((m - 2) * 16 : Nat) : Int) := by rw [IntKind.wrap_i64]; omega
  rw [er]
  clear h hm er
  go_enter Try.func13, Try.ntmps13
  go_wp2_with fail
  refine HC.out.mono ?_; rintro e w1 ⟨rfl, ⟨mm, rfl⟩⟩
  go_wp2_with fail
  all_goals
    go_ret
    exact ⟨by congr 1; show Value.int .i64 _ = Value.int .i64 _; congr 1; omega, ⟨mm, rfl⟩⟩
end Slots
end Disk
end Go.Proofs.Ytbjjpckldjjcgaa
/- The slots: what a slot holds. -/
namespace Go.Proofs.Ytbjjpckldjjcgaa
open Go.RowKit Go.Proofs.YtbjjpckldjjcgaaW.PrintWords Go.Proofs.YtbjjpckldjjcgaaW.PrintLast Go.Proofs.YtbjjpckldjjcgaaW.PrintMore Go.Proofs.Ytbjjpckldjjcgaa.PK
set_option linter.unusedVariables false
set_option linter.unusedSimpArgs false
set_option maxHeartbeats 4000000
set_option maxRecDepth 100000
namespace Disk
namespace Slots
/-- What a slot's walk tells. -/
def Told (w : World) (r : Int × List Int × Bool) (e : Ending) (w' : World) : Prop :=
  ∃ v, e = .returned (.tuple #[.int .u64 r.1, v, .bool r.2.2]) ∧ Kd.R (Kd.int .u8) 5 w' w.heap.size (fun _ => True) v r.2.1 ∧ Below w.heap.size w w'
theorem Slot.no {w : World} {s g b n : Nat} {t : St} (h : StAt w s g b n t) (k : Int) (hk : ¬ (0 ≤ k ∧ k < 2)) :
    Calls Try.prog 27 #[.pointer (some ⟨s, 0, none⟩), .int .i64 k] w (Told w (slotOf n t.db k)) := by
  have e : slotOf n t.db k = (0, [], false) := by unfold slotOf; rw [if_neg hk]
  rw [e]
  clear h e
  by_cases h0 : k < 0
  · go_enter Try.func27, Try.ntmps27
    go_wp2_with fail
    go_ret3
    exact ⟨_, rfl, Kd.R_nil _ _ _ _ _, Below.refl _ _⟩
  · have h2 : (2 : Int) ≤ k := by omega
    have c0 : decide (k < 0) = false := decide_eq_false h0
    go_enter Try.func27, Try.ntmps27
    go_wp2_with fail
    all_goals first
      | (go_ret3; exact ⟨_, rfl, Kd.R_nil _ _ _ _ _, Below.refl _ _⟩)
      | (exfalso; omega)
theorem wrap_sub (a m j : Nat) (h1 : a + m ≤ 1024) (h2 : j + 1 = m) : IntKind.i64.wrap (IntKind.i64.wrap ((a : Int) + (m : Int)) - 1) = ((a + j : Nat) : Int) := by
  have e1 : IntKind.i64.wrap ((a : Int) + (m : Int)) = ((a + m : Nat) : Int) := by rw [IntKind.wrap_i64]; omega
  have e2 : IntKind.i64.wrap (((a + m : Nat) : Int) - 1) = ((a + j : Nat) : Int) := by rw [IntKind.wrap_i64]; omega
  rw [e1, e2]
theorem Slot.yes {w : World} {s g b n : Nat} {t : St} (h : StAt w s g b n t) (k : Nat) (hk : k < 2) :
    Calls Try.prog 27 #[.pointer (some ⟨s, 0, none⟩), .int .i64 (k : Int)] w (Told w (slotOf n t.db (k : Int))) := by
  obtain ⟨m, hm⟩ : ∃ m, m = n / 2 := ⟨_, rfl⟩
  have hm3 : 3 ≤ m := by have := h.h3; omega
  have hm4 : m ≤ 512 := by have := h.n2; omega
  have h2m : m + m ≤ n := by omega
  have H := Aside0.mk h
  have LN := Aside0.mk h.len
  have c0 := h.c0
  clear h
  have p0 : ¬ ((k : Int) < 0) := by omega
  have p1 : ¬ ((2 : Int) ≤ (k : Int)) := by omega
  have HH : Aside0 (∀ W, Below w.heap.size w W → Calls Try.prog 38 #[.pointer (some ⟨s, 0, none⟩)] W fun e w' => e = .returned (.int .i64 (m : Int)) ∧ Drawn0 W w') := ⟨fun W hW => by have := Half (H.out.below hW); rwa [← hm] at this⟩
  have hkm : k * m + m ≤ n := by
    have : k = 0 ∨ k = 1 := by omega
    rcases this with rfl | rfl <;> omega
  have HKM := Aside0.mk hkm
  have HM := Aside0.mk hm
  obtain ⟨a, ha⟩ : ∃ a, a = k * m := ⟨_, rfl⟩
  have hA := Aside0.mk ha
  have e1 : wrap64 ((k : Int) * (m : Int)) = (a : Int) := by
    have : k = 0 ∨ k = 1 := by omega
    rw [ha]
    rcases this with rfl | rfl <;> unfold wrap64 <;> omega
  obtain ⟨m1, hm1⟩ : ∃ m1, m1 = m - 1 := ⟨_, rfl⟩
  have HM1 := Aside0.mk (show m1 + 1 = m by omega)
  have e2 : wrap64 ((m : Int) - 1) = (m1 : Int) := by unfold wrap64; omega
  have HN2 := Aside0.mk H.out.n2
  clear hkm hm ha hm1 hm3 h2m
  go_enter Try.func27, Try.ntmps27
  go_wp2_with fail
  refine (HH.out _ (Below.refl _ _)).mono ?_; rintro e w1 ⟨rfl, ⟨n1, rfl⟩⟩
  go_wp2_with fail
  refine (HH.out _ (Aid.bdrew (Below.refl _ _) _)).mono ?_; rintro e w1 ⟨rfl, ⟨n2, rfl⟩⟩
  go_wp2_with fail
  have HB0 := Aside0.mk (Aid.bdrew (Below.refl w.heap.size w) (n1 + n2))
  go_loopg [7, 27] (m + 1) (fun kq v7 v27 w' => ∃ (j : Nat), v27 = .int .i64 (j : Int) ∧ Aside0 (kq + j = m + 1 ∧ j ≤ m1) ∧ Aside0 (Kd.R (Kd.int .u8) 5 w' w.heap.size (fun _ => True) v7 (run t.db a j)) ∧ Aside0 (Below w.heap.size w w'))
  case atStart => exact ⟨0, rfl, ⟨by have := HM1.out; omega, by omega⟩, ⟨by rw [run_zero]; exact Kd.R_nil _ _ _ _ _⟩, HB0⟩
  case round =>
    obtain ⟨j, rfl, HK, HO, HB⟩ := hrel
    cases gk with
    | zero => exact absurd HK.out (by have := HM1.out; omega)
    | succ k1 =>
      by_cases hj : j < m1
      · have cj : decide ((j : Int) < (m : Int) - 1) = true := decide_eq_true (by have := HM1.out; omega)
        have LA : Aside0 (a + m ≤ 1024 ∧ a + m ≤ n) := ⟨by have h1 := hA.out; have h2 := HKM.out; have h3 := HN2.out; rw [← h1] at h2; omega⟩
        have la : (a : Int) ≤ 1024 := by have := LA.out; omega
        have a0 : (0 : Int) ≤ (a : Int) := by omega
        have hs0 := (H.out.below HB.out).c0
        go_wp2_with fail
        refine (ReadAny (H.out.below HB.out).at_ _).mono ?_; rintro e w1 ⟨A1, c1, rfl, hc1, hC1, hB1⟩
        have EB : blk n t.db (wrap64 ((a : Int) + (j : Int))) = part t.db (a + j) := by have h1 := LA.out; have h4 := HM1.out; rw [show wrap64 ((a : Int) + (j : Int)) = ((a + j : Nat) : Int) by unfold wrap64; omega]; unfold blk; rw [if_pos (by omega), Int.toNat_natCast]
        have EL : (part t.db (a + j)).length = 16 := part_len LN.out (by have h1 := LA.out; have h4 := HM1.out; omega)
        rw [EB] at hc1 hC1 ⊢
        rw [EL] at hc1 hC1 ⊢
        clear EB
        have EL := Aside0.mk EL
        have HC1 := Aside0.mk hC1; clear hC1
        have HO1 := Aside0.mk (Kd.R_below HO.out hB1)
        have HB1 := Aside0.mk (Aid.bthen HB.out hB1)
        clear hB1 HO HB
        go_wp2_with (first | ((with_reducible refine gate_builtin (b := .append) (xs := #[.tmp 30, .tmp 38]) rfl ?_); refine stop ?_))
        refine Stop.go ?_
        at_builtin
        refine Kd.R_append_rows (Kd.int .u8) (w0 := w) w.heap.size rfl (.tmp 30) (.tmp 38) 32 5 (.int .u8 0) 1 rfl Try.underlying32 info5 rfl (by decide) (by omega) u7 (run t.db a j) (part t.db (a + j)) A1 16 c1 (fun _ => True) (fun _ => False) ?aV ?aW ?aO ?aR (fun _ _ h => h) (fun _ h => h.elim) ?aF ?aB ?aS ?aL ?_
        case aV => rfl
        case aW => rfl
        case aO => exact HO1.out
        case aR => exact HC1.out
        case aF => exact fun _ _ => trivial
        case aB => exact HB1.out
        case aS => exact HB1.out.size
        case aL => have h1 := LA.out; have h3 := HM1.out; have h2 := run_len LN.out (show a + j ≤ n by omega); rw [h2]; omega
        intro v4 w4 ho4 hb4 hg4 hat4
        have HO4 := Aside0.mk ho4
        have HB4 := Aside0.mk hb4
        clear ho4 hb4 hg4 hat4 HO1 HC1 HB1
        have ej : wrap64 ((j : Int) + 1) = ((j + 1 : Nat) : Int) := by have h3 := HM1.out; unfold wrap64; omega
        go_wp2_with fail
        go_roundg k1
        case measure => omega
        case rel => exact ⟨j + 1, by first | (simp; done) | rw [ej], ⟨by have := HK.out; omega, by omega⟩, ⟨by rw [run_succ]; exact HO4.out⟩, HB4⟩
      · have cj : decide ((j : Int) < (m : Int) - 1) = false := decide_eq_false (by have := HM1.out; omega)
        have EJ : j = m1 := by have := HK.out; omega
        subst EJ
        have LA : Aside0 (a + m ≤ n) := ⟨by have h1 := hA.out; have h2 := HKM.out; rw [← h1] at h2; exact h2⟩
        obtain ⟨xs, hxs⟩ : ∃ xs, xs = run t.db a j := ⟨_, rfl⟩
        have EX := Aside0.mk hxs
        have LX : Aside0 (xs.length = j * 16) := ⟨by rw [hxs]; exact run_len LN.out (by have := LA.out; have := HM1.out; omega)⟩
        have OX : Aside0 (Crc.okb xs = true) := ⟨by rw [hxs]; exact run_okb H.out.ob _ _⟩
        rw [← hxs] at HO
        clear hxs hj
        obtain ⟨A7, c7, rfl, hc7, hC7⟩ := Kd.R_reads HO.out
        have HC7 := Aside0.mk hC7; clear hC7
        have HC7n := Aside0.mk hc7; clear hc7
        go_wp2_with fail
        refine (crc_Open.n A7 xs.length c7 xs _ rfl HC7.out HC7n.out OX.out).mono ?_; rintro e w1 ⟨v1, rfl, hv1, hB1⟩
        have HV1 := Aside0.mk hv1; clear hv1
        have HB1 := Aside0.mk (Aid.bthen HB.out hB1); clear hB1
        obtain ⟨r1, hr1⟩ : ∃ r1, r1 = (openl xs).1 := ⟨_, rfl⟩
        obtain ⟨r2, hr2⟩ : ∃ r2, r2 = (openl xs).2.1 := ⟨_, rfl⟩
        obtain ⟨r3, hr3⟩ : ∃ r3, r3 = (openl xs).2.2 := ⟨_, rfl⟩
        rw [← hr2] at HV1
        rw [← hr1, ← hr3]
        have ER : Aside0 (r1 = (openl xs).1 ∧ r2 = (openl xs).2.1 ∧ r3 = (openl xs).2.2) := ⟨hr1, hr2, hr3⟩
        clear hr1 hr2 hr3
        have hs1 := (H.out.below HB1.out).c0
        go_upto_region 11 with fail
        have r0 : Below w1.heap.size w1 w1 := Below.refl _ _
        have KS : Aside0 (∀ W W' : World, (Below w1.heap.size w1 W ∧ W.cell? ⟨s, 0, none⟩ = some (.pointer (some ⟨g, 0, none⟩))) → Below W.heap.size W W' → (Below w1.heap.size w1 W' ∧ W'.cell? ⟨s, 0, none⟩ = some (.pointer (some ⟨g, 0, none⟩)))) :=
          ⟨fun W W' h1 h2 => ⟨Aid.bthen h1.1 h2, (H.out.below (Aid.bthen HB1.out (Aid.bthen h1.1 h2))).c0⟩⟩
        go_region_held3 (fun W => Below w1.heap.size w1 W ∧ W.cell? ⟨s, 0, none⟩ = some (.pointer (some ⟨g, 0, none⟩))) (first | assumption | exact ⟨(Below.refl _ _).drew, hs1⟩)
          (first
            | (go_simp; go_at_call 38; have hS_ := ‹Below w1.heap.size w1 _ ∧ _›; refine (HH.out _ (Aid.bthen HB1.out hS_.1)).mono ?_; rintro e w' ⟨rfl, hd⟩; have hS2_ := KS.out _ _ hS_ hd.below)
            | (go_simp; go_at_call 45; have hS_ := ‹Below w1.heap.size w1 _ ∧ _›; refine (ReadAny (H.out.below (Aid.bthen HB1.out hS_.1)).at_ _).mono ?_; rintro e w' ⟨A9, c9, rfl, hc9, hC9, hB⟩; have hS2_ := KS.out _ _ hS_ hB; have HC9 := Aside0.mk hC9; clear hC9))
        have HB9 := Aside0.mk (Aid.bthen HB1.out hS2_.1)
        have HV9 := Aside0.mk (Kd.R_lower (Kd.R_below HV1.out hS2_.1) HB.out.size)
        clear HB1 HV1 KS hS2_ hS_ r0 hd hB hs1 HC7 HC7n HO
        have LT : Aside0 ((part t.db (a + j)).length = 16) := ⟨part_len LN.out (by have := LA.out; have := HM1.out; omega)⟩
        have EB : blk n t.db (IntKind.i64.wrap (IntKind.i64.wrap ((a : Int) + (m : Int)) - 1)) = part t.db (a + j) := by
          have h1 := LA.out; have h4 := HM1.out; have h5 := HN2.out
          rw [wrap_sub a m j (by omega) h4]; unfold blk; rw [if_pos (by omega), Int.toNat_natCast]
        rw [EB] at hc9 HC9 ⊢
        rw [LT.out] at hc9 HC9 ⊢
        clear EB
        have OT : Aside0 (Crc.okb ((part t.db (a + j)).take 8) = true) := ⟨by unfold part; exact Crc.okb_take _ _ (Crc.okb_take _ _ (Crc.okb_drop _ _ H.out.ob))⟩
        obtain ⟨tl, htl⟩ : ∃ tl, tl = part t.db (a + j) := ⟨_, rfl⟩
        rw [← htl] at HC9 LT OT
        have ES : Aside0 (slotOf n t.db (k : Int) = if r3 = true ∧ r1 ≠ 0 ∧ ((Crc.getn 8 (tl.take 8) : Nat) : Int) = r1 then (r1, r2, r3) else (0, [], false)) := ⟨by
          have h1 := ER.out; have h2 := EX.out; have h3 := hA.out; have h4 := HM.out; have h5 := HM1.out
          unfold slotOf
          rw [if_pos (by omega), Int.toNat_natCast, ← h4, ← h3, show m - 1 = j by omega, show a + m - 1 = a + j by omega, ← h2, ← htl, h1.1, h1.2.1, h1.2.2]
          try rfl⟩
        clear htl ER EX
        have GC : Aside0 (Calls Try.prog 47 #[.slice A9 8 c9] w' fun e w'' => e = .returned (.int .u64 ((Crc.getn 8 (tl.take 8) : Nat) : Int)) ∧ Below w'.heap.size w' w'') := by
          refine ⟨crc_Get.n A9 8 c9 (tl.take 8) w' (by rw [List.length_take, LT.out]; rfl) ?_ (by omega) OT.out⟩
          have := Kd.C_take (m := 8) (show Kd.C (Kd.int .u8) w' A9 tl.length tl by rw [LT.out]; exact HC9.out) (by rw [LT.out]; decide)
          first | exact this | (rw [show min 8 tl.length = 8 by rw [LT.out]; rfl] at this; exact this) | (rw [List.length_take, LT.out]; exact this)
        by_cases c3 : r3 = true
        · by_cases c1 : r1 = 0
          · have E0 := ES.out
            rw [if_neg (fun h => h.2.1 c1)] at E0
            have E0 := Aside0.mk E0
            clear ES GC
            subst c3; subst c1
            go_wp2_with fail
            go_ret3
            refine (show Told w (slotOf n t.db (k : Int)) _ _ from ?_)
            rw [E0.out]
            exact ⟨_, rfl, Kd.R_nil _ _ _ _ _, HB9.out⟩
          · have q8 : (8 : Int) ≤ (c9 : Int) := by omega
            obtain ⟨gv, hgv⟩ : ∃ gv : Int, gv = ((Crc.getn 8 (tl.take 8) : Nat) : Int) := ⟨_, rfl⟩
            rw [← hgv] at ES GC
            clear hgv
            by_cases cg : gv = r1
            · have E0 := ES.out
              rw [if_pos ⟨c3, c1, cg⟩] at E0
              have E0 := Aside0.mk E0
              clear ES
              subst c3; subst cg
              go_wp2_with fail
              refine GC.out.mono ?_; rintro e w6 ⟨rfl, hB6⟩
              have HB6 := Aside0.mk (Aid.bthen HB9.out hB6)
              have HV6 := Aside0.mk (Kd.R_below HV9.out hB6)
              clear hB6 GC
              go_wp2_with fail
              go_ret3
              refine (show Told w (slotOf n t.db (k : Int)) _ _ from ?_)
              rw [E0.out]
              exact ⟨_, rfl, HV6.out, HB6.out⟩
            · have E0 := ES.out
              rw [if_neg (fun h => cg h.2.2)] at E0
              have E0 := Aside0.mk E0
              clear ES
              subst c3
              go_wp2_with fail
              refine GC.out.mono ?_; rintro e w6 ⟨rfl, hB6⟩
              have HB6 := Aside0.mk (Aid.bthen HB9.out hB6)
              clear hB6 GC
              go_wp2_with fail
              all_goals first
                | (go_ret3; refine (show Told w (slotOf n t.db (k : Int)) _ _ from ?_); rw [E0.out]; exact ⟨_, rfl, Kd.R_nil _ _ _ _ _, HB6.out⟩)
                | (exfalso; omega)
                | (exfalso; simp_all; done)
        · have c3 : r3 = false := by simpa using c3
          have E0 := ES.out
          rw [if_neg (fun h => by rw [c3] at h; exact absurd h.1 (by decide))] at E0
          have E0 := Aside0.mk E0
          clear ES GC
          subst c3
          go_wp2_with fail
          go_ret3
          refine (show Told w (slotOf n t.db (k : Int)) _ _ from ?_)
          rw [E0.out]
          exact ⟨_, rfl, Kd.R_nil _ _ _ _ _, HB9.out⟩
theorem Slot {w : World} {s g b n : Nat} {t : St} (h : StAt w s g b n t) (k : Int) :
    Calls Try.prog 27 #[.pointer (some ⟨s, 0, none⟩), .int .i64 k] w (Told w (slotOf n t.db k)) := by
  by_cases hk : 0 ≤ k ∧ k < 2
  · obtain ⟨q, rfl⟩ : ∃ q : Nat, k = (q : Int) := ⟨k.toNat, by omega⟩
    exact Slot.yes h q (by omega)
  · exact Slot.no h k hk
end Slots
end Disk
end Go.Proofs.Ytbjjpckldjjcgaa
/- The slots: the later one; a store on a disk. -/
namespace Go.Proofs.Ytbjjpckldjjcgaa
open Go.RowKit Go.Proofs.YtbjjpckldjjcgaaW.PrintWords Go.Proofs.YtbjjpckldjjcgaaW.PrintLast Go.Proofs.YtbjjpckldjjcgaaW.PrintMore Go.Proofs.Ytbjjpckldjjcgaa.PK
set_option linter.unusedVariables false
set_option linter.unusedSimpArgs false
set_option maxHeartbeats 4000000
set_option maxRecDepth 100000
namespace Disk
namespace Slots
/-- The later of what there was and of what a slot holds. -/
def later (a : Int × List Int) (r : Int × List Int × Bool) : Int × List Int := if r.2.2 = true ∧ a.1 < r.1 then (r.1, r.2.1) else a
def best (n : Nat) (db : List Int) : Nat → Int × List Int
  | 0 => (0, [])
  | j + 1 => later (best n db j) (slotOf n db (j : Int))
def lastOf (n : Nat) (db : List Int) : Int × List Int × Int := if (best n db 2).1 = 0 then (0, [], 180) else ((best n db 2).1, (best n db 2).2, 0)
def ToldLast (w : World) (r : Int × List Int × Int) (e : Ending) (w' : World) : Prop :=
  ∃ v, e = .returned (.tuple #[.int .u64 r.1, v, .int .i64 r.2.2]) ∧ Kd.R (Kd.int .u8) 5 w' w.heap.size (fun _ => True) v r.2.1 ∧ Below w.heap.size w w'
theorem Last {w : World} {s g b n : Nat} {t : St} (h : StAt w s g b n t) :
    Calls Try.prog 17 #[.pointer (some ⟨s, 0, none⟩)] w (ToldLast w (lastOf n t.db)) := by
  have H := Aside0.mk h
  clear h
  obtain ⟨B, hBd⟩ : ∃ B, B = best n t.db := ⟨_, rfl⟩
  have B0 : Aside0 (B 0 = (0, [])) := ⟨by rw [hBd]; rfl⟩
  have BS : Aside0 (∀ j : Nat, B (j + 1) = later (B j) (slotOf n t.db (j : Int))) := ⟨fun j => by rw [hBd]; rfl⟩
  have EL : Aside0 (lastOf n t.db = if (B 2).1 = 0 then (0, [], 180) else ((B 2).1, (B 2).2, 0)) := ⟨by rw [hBd]; rfl⟩
  clear hBd
  go_enter Try.func17, Try.ntmps17
  go_wp2_with fail
  go_loopg [5, 6, 11] 3 (fun kq v5 v6 v11 w' => ∃ (j : Nat) (x : Int) (xs : List Int), v11 = .int .i64 (j : Int) ∧ v5 = .int .u64 x ∧ Aside0 (kq + j = 3 ∧ j ≤ 2) ∧ Aside0 (B j = (x, xs)) ∧ Aside0 (Kd.R (Kd.int .u8) 5 w' w.heap.size (fun _ => True) v6 xs) ∧ Aside0 (Below w.heap.size w w'))
  case atStart => exact ⟨0, 0, [], rfl, rfl, ⟨by omega, by omega⟩, B0, ⟨Kd.R_nil _ _ _ _ _⟩, ⟨Below.refl _ _⟩⟩
  case round =>
    obtain ⟨j, x, xs, rfl, rfl, HK, HX, HO, HB⟩ := hrel
    cases gk with
    | zero => exact absurd HK.out (by omega)
    | succ k1 =>
      by_cases hj : j < 2
      · have cj : decide ((j : Int) < 2) = true := decide_eq_true (by omega)
        have ej : wrap64 ((j : Int) + 1) = ((j + 1 : Nat) : Int) := by unfold wrap64; omega
        go_wp2_with fail
        refine (Slot (H.out.below HB.out) (j : Int)).mono ?_; rintro e w1 ⟨v1, rfl, hv1, hB1⟩
        obtain ⟨r1, hr1⟩ : ∃ r1, r1 = (slotOf n t.db (j : Int)).1 := ⟨_, rfl⟩
        obtain ⟨r2, hr2⟩ : ∃ r2, r2 = (slotOf n t.db (j : Int)).2.1 := ⟨_, rfl⟩
        obtain ⟨r3, hr3⟩ : ∃ r3, r3 = (slotOf n t.db (j : Int)).2.2 := ⟨_, rfl⟩
        rw [← hr2] at hv1
        rw [← hr1, ← hr3]
        have HN : Aside0 (B (j + 1) = if r3 = true ∧ x < r1 then (r1, r2) else (x, xs)) := ⟨by rw [BS.out, HX.out, hr1, hr2, hr3]; rfl⟩
        clear hr1 hr2 hr3
        have HV1 := Aside0.mk (Kd.R_lower hv1 HB.out.size); clear hv1
        have HO1 := Aside0.mk (Kd.R_below HO.out hB1)
        have HB1 := Aside0.mk (Aid.bthen HB.out hB1)
        clear hB1 HO HB HX
        cases r3
        · have HN2 := Aside0.mk (show B (j + 1) = (x, xs) by rw [HN.out]; rfl)
          clear HN
          go_wp2_with fail
          go_roundg k1
          case measure => omega
          case rel => exact ⟨j + 1, x, xs, by first | (simp; done) | rw [ej], rfl, ⟨by have := HK.out; omega, by omega⟩, HN2, HO1, HB1⟩
        · by_cases hx : x < r1
          · have HN2 := Aside0.mk (show B (j + 1) = (r1, r2) by rw [HN.out, if_pos ⟨rfl, hx⟩])
            clear HN
            have cx : decide (x < r1) = true := decide_eq_true hx
            go_wp2_with fail
            go_roundg k1
            case measure => omega
            case rel => exact ⟨j + 1, r1, r2, by first | (simp; done) | rw [ej], rfl, ⟨by have := HK.out; omega, by omega⟩, HN2, HV1, HB1⟩
          · have HN2 := Aside0.mk (show B (j + 1) = (x, xs) by rw [HN.out, if_neg (fun h => hx h.2)])
            clear HN
            have cx : decide (x < r1) = false := decide_eq_false hx
            go_wp2_with fail
            go_roundg k1
            case measure => omega
            case rel => exact ⟨j + 1, x, xs, by first | (simp; done) | rw [ej], rfl, ⟨by have := HK.out; omega, by omega⟩, HN2, HO1, HB1⟩
      · have cj : decide ((j : Int) < 2) = false := decide_eq_false (by omega)
        have E1 := EL.out
        have ej : j = 2 := by have := HK.out; omega
        subst ej
        rw [HX.out] at E1
        have E2 := Aside0.mk E1
        clear EL E1
        by_cases hx : x = 0
        · subst hx
          go_wp2_with fail
          go_ret3
          refine (show ToldLast w (lastOf n t.db) _ _ from ?_)
          rw [E2.out]; simp only [if_true]
          exact ⟨_, rfl, Kd.R_nil _ _ _ _ _, HB.out⟩
        · go_wp2_with fail
          all_goals first
            | (go_ret3; refine (show ToldLast w (lastOf n t.db) _ _ from ?_); rw [E2.out, if_neg hx]; exact ⟨_, rfl, HO.out, HB.out⟩)
            | (exfalso; omega)
/-- A store on a disk. -/
theorem New.ok {w : World} {g b n : Nat} {t : St} (h : AtS w g b n t) (h3 : 3 ≤ n / 2) (ho : Crc.okb t.db = true) :
    Calls Try.prog 12 #[.pointer (some ⟨g, 0, none⟩)] w fun e w' => ∃ s, e = .returned (.tuple #[.pointer (some ⟨s, 0, none⟩), .int .i64 0]) ∧ w.heap.size ≤ s ∧ StAt w' s g b n t ∧ Below w.heap.size w w' := by
  have HC := Aside0.mk (Blocks (At.drewN h 0))
  have H := Aside0.mk h
  have hn : (3 : Int) ≤ (n : Int) / 2 := by omega
  have hn0 : (0 : Int) ≤ (n : Int) := by omega
  have hn2 : (n : Int) ≤ 1024 := by have := At.n2 h; omega
  have H3 := Aside0.mk h3
  clear h h3
  go_enter Try.func12, Try.ntmps12
  go_wp2_with fail
  refine HC.out.mono ?_; rintro e w1 ⟨rfl, ⟨m, rfl⟩⟩
  go_wp2_with fail
  go_ret2
  have hB : Below w.heap.size w ((w.drewN m).alloc (.cells #[.pointer (some ⟨g, 0, none⟩)] 73)) := (Aid.bdrew (Below.refl w.heap.size w) m).alloc (Nat.le_refl _) _
  refine ⟨w.heap.size, rfl, Nat.le_refl _, ⟨?_, AtS.below H.out hB, H3.out, ho⟩, hB⟩
  exact heap_alloc_last (w.drewN m) _
theorem New.nil (w : World) : Calls Try.prog 12 #[.pointer none] w fun e w' => e = .returned (.tuple #[.pointer none, .int .i64 1]) ∧ Drawn0 w w' := by
  go_enter Try.func12, Try.ntmps12
  go_wp2_with fail
  go_ret2
  exact ⟨rfl, ⟨0, rfl⟩⟩
theorem New.small {w : World} {g b n : Nat} {t : St} (h : AtS w g b n t) (h3 : ¬ 3 ≤ n / 2) :
    Calls Try.prog 12 #[.pointer (some ⟨g, 0, none⟩)] w fun e w' => e = .returned (.tuple #[.pointer none, .int .i64 1]) ∧ Drawn0 w w' := by
  have HC := Aside0.mk (Blocks (At.drewN h 0))
  have hn : (n : Int) / 2 < 3 := by omega
  have hn0 : (0 : Int) ≤ (n : Int) := by omega
  have hn2 : (n : Int) ≤ 1024 := by have := At.n2 h; omega
  clear h h3
  go_enter Try.func12, Try.ntmps12
  go_wp2_with fail
  refine HC.out.mono ?_; rintro e w1 ⟨rfl, ⟨m, rfl⟩⟩
  go_wp2_with fail
  all_goals first
    | (go_ret2; exact ⟨rfl, ⟨m, rfl⟩⟩)
    | (exfalso; omega)
end Slots
end Disk
end Go.Proofs.Ytbjjpckldjjcgaa
/- The slots: Save. -/
namespace Go.Proofs.Ytbjjpckldjjcgaa
open Go.RowKit Go.Proofs.YtbjjpckldjjcgaaW.PrintWords Go.Proofs.YtbjjpckldjjcgaaW.PrintLast Go.Proofs.YtbjjpckldjjcgaaW.PrintMore Go.Proofs.Ytbjjpckldjjcgaa.PK
set_option linter.unusedVariables false
set_option linter.unusedSimpArgs false
set_option maxHeartbeats 4000000
set_option maxRecDepth 100000
attribute [local go_sem] max2_int min2_int max_two min_two
namespace Disk
namespace Slots
def rows (a : Nat) (f : List Int) (j d : Nat) : List (Nat × List Int) := (List.range' j d).map (fun k => (a + k, chunk f k))
theorem rows_row (a : Nat) (f : List Int) (d : Nat) : row a f d = rows a f 0 d := by unfold row rows; rw [List.range_eq_range']
theorem rows_succ (a : Nat) (f : List Int) (j d : Nat) : rows a f j (d + 1) = (a + j, chunk f j) :: rows a f (j + 1) d := by unfold rows; rw [List.range'_succ]; rfl
theorem save_arg (n : Nat) (t : St) (data : List Int) : save n t 0 data = (1, t) := rfl
theorem save_long {n num : Nat} (t : St) {data : List Int} (h0 : num ≠ 0) (h : room n < data.length) : save n t num data = (181, t) := by unfold save; rw [if_neg h0, if_pos h]
theorem save_rows {n num : Nat} (t : St) {data : List Int} (h0 : num ≠ 0) (h : ¬ room n < data.length) : save n t num data = wrs n (rows (from_ n num) (Ref.framel num data) 0 (many (Ref.framel num data)) ++ [(from_ n num + n / 2 - 1, Crc.putl num 8)]) t := by
  unfold save plan; rw [if_neg h0, if_neg h, rows_row]
theorem write_okb {n : Nat} {t : St} (h : Crc.okb t.db = true) (k : Int) {l : List Int} (hl : Crc.okb l = true) : Crc.okb (t.write n k l).2.db = true := by
  unfold St.write
  split
  · exact h
  · split
    · exact h
    · show Crc.okb (put t.db k.toNat l) = true
      unfold put sixteen
      have hz : Crc.okb (List.replicate (16 - l.length) (0 : Int)) = true := (Crc.okb_iff _).2 (fun x hx => by rw [List.eq_of_mem_replicate hx]; decide)
      rw [Crc.okb_append, Crc.okb_append, Crc.okb_append, Crc.okb_take _ _ h, hl, Crc.okb_drop _ _ h, hz]
      rfl
theorem StAt.write {W W' : World} {s g b n : Nat} {t : St} (h : StAt W s g b n t) (k : Int) {l : List Int} (hl : Crc.okb l = true) (ha : AtS W' g b n (t.write n k l).2) (ho : Only g b W W') : StAt W' s g b n (t.write n k l).2 :=
  h.only ho ha (write_okb h.ob k hl)
theorem Save.arg {w : World} {s g b n : Nat} {t : St} (h : StAt w s g b n t) (A : Option Addr) (c : Nat) (data : List Int) :
    Calls Try.prog 15 #[.pointer (some ⟨s, 0, none⟩), .int .u64 0, .slice A data.length c] w fun e w' => e = .returned (.int .i64 1) ∧ Drawn0 w w' := by
  clear h
  go_enter Try.func15, Try.ntmps15
  go_wp2_with fail
  go_ret
  exact ⟨rfl, ⟨0, rfl⟩⟩
theorem Save.long {w : World} {s g b n : Nat} {t : St} (h : StAt w s g b n t) (num : Nat) (h0 : num ≠ 0) (A : Option Addr) (c : Nat) (data : List Int) (hl : room n < data.length) :
    Calls Try.prog 15 #[.pointer (some ⟨s, 0, none⟩), .int .u64 (num : Int), .slice A data.length c] w fun e w' => e = .returned (.int .i64 181) ∧ Drawn0 w w' := by
  have HR := Aside0.mk (Room h)
  have hn : ¬ ((num : Int) = 0) := by omega
  have hl2 : (room n : Int) < (data.length : Int) := by omega
  clear h
  go_enter Try.func15, Try.ntmps15
  go_wp2_with fail
  refine HR.out.mono ?_; rintro e w1 ⟨rfl, ⟨m, rfl⟩⟩
  go_wp2_with fail
  all_goals first
    | (go_ret; exact ⟨rfl, ⟨m, rfl⟩⟩)
    | (exfalso; omega)
theorem chunk_cut (f : List Int) (j hi : Nat) (h1 : j * 16 < f.length) (h2 : (hi = f.length ∧ f.length ≤ (j + 1) * 16) ∨ (hi = (j + 1) * 16 ∧ (j + 1) * 16 < f.length)) : chunk f j = (f.take hi).drop (j * 16) ∧ (chunk f j).length = hi - j * 16 := by
  have e : chunk f j = (f.take hi).drop (j * 16) := by
    unfold chunk
    rcases h2 with ⟨h, h3⟩ | ⟨h, h3⟩
    · rw [h, List.take_length, List.take_of_length_le (by rw [List.length_drop]; omega)]
    · rw [h, List.drop_take, show (j + 1) * 16 - j * 16 = 16 by omega]
  refine ⟨e, ?_⟩
  rw [e, List.length_drop, List.length_take]
  omega
theorem wrs_no {n : Nat} {k : Int} {l : List Int} {p : Nat} {r : List (Nat × List Int)} {t : St} (hp : (p : Int) = k) (h : (t.write n k l).1 ≠ 0) : wrs n ((p, l) :: r) t = t.write n k l := by
  subst hp; rw [wrs, if_neg h]
theorem wrs_go {n : Nat} {k : Int} {l : List Int} {p : Nat} {r : List (Nat × List Int)} {t : St} (hp : (p : Int) = k) (h : (t.write n k l).1 = 0) : wrs n ((p, l) :: r) t = wrs n r (t.write n k l).2 := by
  subst hp; rw [wrs, if_pos h]
theorem wrs_one {n : Nat} {k : Int} {l : List Int} {p : Nat} {t : St} (hp : (p : Int) = k) : wrs n [(p, l)] t = t.write n k l := by
  subst hp; rw [wrs]
  split
  · rename_i h; rw [wrs, ← h]
  · rfl
theorem cut_any (ad : Addr) (m c lo hi : Nat) (L U : Int) (hL : L = (lo : Int)) (hU : U = (hi : Int)) (h1 : lo < hi) (h2 : hi ≤ c) (W : World) :
    (Instr.sliceAt 32 (.slice (some ad) m c) (some (.int .i64 L)) (some (.int .i64 U)) none).run Try.prog W = .ok (.slice (some (ad.add lo)) (hi - lo) (c - lo)) W := by
  subst hL; subst hU
  have e2 : ¬ ((c : Int) < (hi : Int)) := by omega
  have e3 : ¬ ((hi : Int) < (lo : Int)) := by omega
  have e4 : (0 : Int) ≤ (lo : Int) := by omega
  have e5 : (0 : Int) ≤ (hi : Int) := by omega
  have e6 : ¬ (c = lo) := by omega
  go_simp
  intro h; exact absurd h (by omega)
theorem wrap_from (num m a : Nat) (h : a = num % 2 * m) (hm : m ≤ 512) : wrap64 ((num : Int) % 2 * (m : Int)) = (a : Int) := by
  have h2 : num % 2 = 0 ∨ num % 2 = 1 := by omega
  have h3 : (num : Int) % 2 = ((num % 2 : Nat) : Int) := by omega
  rw [h3, h]
  rcases h2 with h2 | h2
  · rw [h2]; unfold wrap64; omega
  · rw [h2]; unfold wrap64; omega
theorem Save.go {w : World} {s g b n : Nat} {t : St} (h : StAt w s g b n t) (num : Nat) (h0 : num ≠ 0) (hnum : num < 18446744073709551616) (A : Option Addr) (c : Nat) (data : List Int) (hr : Kd.C (Kd.int .u8) w A data.length data) (hc : data.length ≤ c) (hd : Crc.okb data = true)
    (hl : ¬ room n < data.length) (hok : t.ok 900000) :
    Calls Try.prog 15 #[.pointer (some ⟨s, 0, none⟩), .int .u64 (num : Int), .slice A data.length c] w fun e w' => e = .returned (.int .i64 (save n t num data).1) ∧ StAt w' s g b n (save n t num data).2 ∧ Only g b w w' := by
  have HR := Aside0.mk (Room h)
  have hn : ¬ ((num : Int) = 0) := by omega
  have hl2 : ¬ ((room n : Int) < (data.length : Int)) := by omega
  have hl2048 : data.length ≤ 2048 := by unfold room at hl; omega
  have hcr : many (Ref.framel num data) ≤ n / 2 - 1 := room_many num h.h3 (by omega)
  have HLE := Aside0.mk (from_le n num)
  obtain ⟨M, hM⟩ : ∃ M, M = many (Ref.framel num data) := ⟨_, rfl⟩
  obtain ⟨a, ha⟩ : ∃ a, a = from_ n num := ⟨_, rfl⟩
  obtain ⟨f, hf⟩ : ∃ f, f = Ref.framel num data := ⟨_, rfl⟩
  obtain ⟨m, hm⟩ : ∃ m, m = n / 2 := ⟨_, rfl⟩
  obtain ⟨rs, hrs⟩ : ∃ rs, rs = save n t num data := ⟨_, rfl⟩
  have ES : Aside0 (rs = wrs n (rows a f 0 M ++ [(a + m - 1, Crc.putl num 8)]) t) := ⟨by rw [hrs, save_rows t h0 hl, hM, ha, hf, hm]⟩
  have HM : Aside0 (M ≤ m - 1) := ⟨by rw [hM, hm]; exact hcr⟩
  have HF : Aside0 (f.length = 16 + data.length ∧ M * 16 < f.length + 16 ∧ f.length ≤ M * 16) := ⟨by rw [hM, hf]; unfold many; rw [Ref.framel_length]; omega⟩
  have HFO : Aside0 (Crc.okb f = true) := ⟨by rw [hf]; exact Ref.framel_okb num data hd⟩
  have HA : Aside0 (a + m ≤ n ∧ 3 ≤ m ∧ m ≤ 512 ∧ n ≤ 1024) := ⟨by have h1 := HLE.out; have h2 := h.h3; have h3 := h.n2; rw [← ha, ← hm] at h1; rw [← hm] at h2; omega⟩
  have HF1 : Aside0 (∀ W, Kd.C (Kd.int .u8) W A data.length data → Calls Try.prog 39 #[.int .u64 (num : Int), .slice A data.length c] W fun e w' => ∃ v0_ : Value, e = .returned (.tuple #[v0_, .bool true]) ∧ Kd.R (Kd.int .u8) 5 w' W.heap.size (fun _ => True) v0_ f ∧ Below W.heap.size W w') :=
    ⟨fun W hW => by rw [hf]; exact crc_Frame.calls (num : Int) A c data _ true W hW hc (Ref.crcFrame num data hnum hd hl2048)⟩
  have HP1 : Aside0 (∀ W, Calls Try.prog 41 #[.int .u64 (num : Int), .int .i64 8] W fun e w' => ∃ v0_ : Value, e = .returned v0_ ∧ Kd.R (Kd.int .u8) 5 w' W.heap.size (fun _ => True) v0_ (Crc.putl num 8) ∧ Below W.heap.size W w') :=
    ⟨fun W => crc_Put.calls (num : Int) 8 (Crc.putl num 8) W (by rw [Ref.crcPut num 8 hnum]; rfl)⟩
  have EA : Aside0 (a = num % 2 * m) := ⟨by rw [ha, hm]; rfl⟩
  rw [← hrs]
  have H := Aside0.mk h
  have HH : Aside0 (∀ W (t' : St), StAt W s g b n t' → Calls Try.prog 38 #[.pointer (some ⟨s, 0, none⟩)] W fun e w' => e = .returned (.int .i64 (m : Int)) ∧ Drawn0 W w') := ⟨fun W t' hW => by have := Half hW; rwa [← hm] at this⟩
  have e3 : wrap64 ((num : Int) % 2 * (m : Int)) = (a : Int) := wrap_from num m a EA.out HA.out.2.2.1
  have HR0 := Aside0.mk hr
  clear hrs hm hf ha hM hcr hl hl2048 h hr
  go_enter Try.func15, Try.ntmps15
  go_wp2_with fail
  refine HR.out.mono ?_; rintro e w1 ⟨rfl, ⟨m1, rfl⟩⟩
  go_wp2_with fail
  refine (HH.out _ t (H.out.drewN m1)).mono ?_; rintro e w1 ⟨rfl, ⟨m2, rfl⟩⟩
  go_wp2_with fail
  rw [e3]
  refine (HF1.out _ (Kd.C_drewN HR0.out _)).mono ?_; rintro e w1 ⟨v1, rfl, hv1, hB1⟩
  obtain ⟨A7, c7, rfl, hc7, hC7⟩ := Kd.R_reads hv1
  obtain ⟨ad, rfl, -⟩ := (Kd.reads_of_C (d := (0 : Int)) hC7).2.2 (by have := HF.out; omega)
  have hgw : g < w.heap.size ∧ b < w.heap.size := At.lt H.out.at_
  have HV0 : Aside0 (Kd.R (Kd.int .u8) 5 w1 w.heap.size (fun k => k ≠ g ∧ k ≠ b) (.slice (some ad) f.length c7) f) := ⟨Kd.R_mono (Kd.R_bound hv1) (fun k hk => ⟨by have := hk.2.1; have h2 := hgw.1; intro e; subst e; exact absurd this (by exact Nat.not_le.2 h2), by have := hk.2.1; have h2 := hgw.2; intro e; subst e; exact absurd this (by exact Nat.not_le.2 h2)⟩)⟩
  have HB0 : Aside0 (Below w.heap.size w w1) := ⟨Aid.bthen (Aid.bdrew (Below.refl w.heap.size w) (m1 + m2)) hB1⟩
  clear hv1 hC7 hB1
  have HS0 := Aside0.mk (H.out.below HB0.out)
  have HO0 := Aside0.mk (Only.below (g := g) (b := b) HB0.out)
  go_wp2_with fail
  go_loopg [10] (M + 1) (fun kq v10 w' => ∃ (j : Nat) (t' : St), v10 = .int .i64 (j : Int) ∧ Aside0 (kq + j = M + 1 ∧ j ≤ M) ∧ Aside0 (StAt w' s g b n t') ∧ Aside0 (Only g b w w') ∧ Aside0 (Kd.R (Kd.int .u8) 5 w' w.heap.size (fun k => k ≠ g ∧ k ≠ b) (.slice (some ad) f.length c7) f) ∧ Aside0 (t'.ok (900000 + j)) ∧ Aside0 (rs = wrs n (rows a f j (M - j) ++ [(a + m - 1, Crc.putl num 8)]) t'))
  case atStart => exact ⟨0, t, rfl, ⟨by omega, by omega⟩, HS0, HO0, HV0, ⟨hok⟩, ES⟩
  case round =>
    obtain ⟨j, t', rfl, HK, HS, HO, HV, HOK, HE⟩ := hrel
    cases gk with
    | zero => exact absurd HK.out (by omega)
    | succ k1 =>
      by_cases hj : j < M
      · have HL : Aside0 (j * 16 < f.length ∧ j ≤ 512 ∧ f.length ≤ 8192 ∧ a + j < n) := ⟨by have h1 := HF.out; have h2 := HM.out; have h3 := HA.out; omega⟩
        have p1 : (j : Int) * 16 < (f.length : Int) := by have := HL.out; omega
        have p2 : (j : Int) ≤ 512 := by have := HL.out; omega
        have p3 : (f.length : Int) ≤ 8192 := by have := HL.out; omega
        have p4 : (f.length : Int) ≤ (c7 : Int) := by omega
        have hs1 := HS.out.c0
        go_upto_region 10 with fail
        have w1_ : IntKind.i64.wrap ((j : Int) * 16) = ((j * 16 : Nat) : Int) := by rw [IntKind.wrap_i64]; omega
        have w2_ : IntKind.i64.wrap ((j : Int) + 1) = (j : Int) + 1 := by rw [IntKind.wrap_i64]; omega
        have w3_ : IntKind.i64.wrap (((j : Int) + 1) * 16) = ((j : Int) + 1) * 16 := by rw [IntKind.wrap_i64]; omega
        have w4_ : IntKind.i64.wrap ((a : Int) + (j : Int)) = ((a + j : Nat) : Int) := by have h1 := HL.out; have h2 := HA.out; rw [IntKind.wrap_i64]; omega
        obtain ⟨hi, hmin, hhi⟩ : ∃ hi : Nat, (if ((j : Int) + 1) * 16 < (f.length : Int) then ((j : Int) + 1) * 16 else (f.length : Int)) = (hi : Int) ∧ ((hi = f.length ∧ f.length ≤ (j + 1) * 16) ∨ (hi = (j + 1) * 16 ∧ (j + 1) * 16 < f.length)) := by
          by_cases h16 : ((j : Int) + 1) * 16 < (f.length : Int)
          · exact ⟨(j + 1) * 16, by rw [if_pos h16]; omega, .inr ⟨rfl, by omega⟩⟩
          · exact ⟨f.length, by rw [if_neg h16], .inl ⟨rfl, by omega⟩⟩
        have HI := Aside0.mk (show j * 16 < hi ∧ hi ≤ f.length ∧ hi - j * 16 ≤ 16 by have := HL.out; omega)
        have W1 := Aside0.mk w1_; have W2 := Aside0.mk w2_; have W3 := Aside0.mk w3_; have W4 := Aside0.mk w4_; have HMIN := Aside0.mk hmin; have HHI := Aside0.mk hhi
        clear w1_ w2_ w3_ w4_ hmin hhi
        go_still_tail 17, (by kernel_rfl)
        simp only [W1.out, W2.out, W3.out, W4.out, HMIN.out]
        refine still_run (v := Value.slice (some (ad.add (j * 16))) (hi - j * 16) (c7 - j * 16)) rfl (by simp [execOp, Act.eval]; rw [cut_any ad f.length c7 (j * 16) hi ((j : Int) * 16) _ (by omega) rfl HI.out.1 (by have := HI.out; omega)]; rfl) ?_
        refine wpStill_nil ?_
        change wpList _ _ _ _ _ wr.drew
        have HS1 := Aside0.mk (HS.out.drewN 1)
        have HV1 := Aside0.mk (Kd.R_drewN HV.out 1)
        have HO1 := Aside0.mk (HO.out.drewN 1)
        obtain ⟨wd, hwd⟩ : ∃ wd, wd = wr.drew := ⟨_, rfl⟩
        have HS1 : Aside0 (StAt wd s g b n t') := ⟨by rw [hwd]; exact HS1.out⟩
        have HV1 : Aside0 (Kd.R (Kd.int .u8) 5 wd w.heap.size (fun k => k ≠ g ∧ k ≠ b) (.slice (some ad) f.length c7) f) := ⟨by rw [hwd]; exact HV1.out⟩
        have HO1 : Aside0 (Only g b w wd) := ⟨by rw [hwd]; exact HO1.out⟩
        rw [← hwd]
        clear hwd HS HV HO
        go_wp2_with fail
        obtain ⟨ec, el⟩ := chunk_cut f j hi HL.out.1 HHI.out
        have C5 : Kd.C (Kd.int .u8) wd (some (ad.add (j * 16))) (chunk f j).length (chunk f j) := by
          obtain ⟨A6, c6, e6, -, h6⟩ := Kd.R_reads HV1.out
          injection e6 with e7 e8 e9
          subst e7
          have := C_cut (j * 16) hi h6 (by have := HI.out; omega) (by have := HI.out; omega)
          rwa [← ec] at this
        have OC : Crc.okb (chunk f j) = true := Crc.okb_take _ _ (Crc.okb_drop _ _ HFO.out)
        rw [← el]
        refine (WriteAny HS1.out.at_ ((a : Int) + (j : Int)) _ _ (chunk f j) C5 (by have := HI.out; rw [el]; omega) (St.ok_le HOK.out (by have := HL.out; omega))).mono ?_; rintro e w5 ⟨rfl, hA5, hO5⟩
        obtain ⟨r, hrr⟩ : ∃ r, r = t'.write n ((a : Int) + (j : Int)) (chunk f j) := ⟨_, rfl⟩
        have HS5 := Aside0.mk (HS1.out.write _ OC hA5 hO5)
        have HV5 := Aside0.mk (Kd.R_kept HV1.out hO5.kept (fun k hk hs => hs.elim hk.1 hk.2))
        have HO5 := Aside0.mk (HO1.out.trans hO5)
        have HOK5 := Aside0.mk (St.ok_write (n := n) HOK.out ((a : Int) + (j : Int)) (chunk f j))
        have ER : rs = wrs n ((a + j, chunk f j) :: (rows a f (j + 1) (M - (j + 1)) ++ [(a + m - 1, Crc.putl num 8)])) t' := by
          rw [HE.out, show M - j = (M - (j + 1)) + 1 by omega, rows_succ]; rfl
        by_cases he : r.1 = 0
        · have ER2 := Aside0.mk (ER.trans (wrs_go (k := (a : Int) + (j : Int)) (by omega) (by rw [← hrr]; exact he)))
          rw [← hrr] at HS5 HOK5 ER2 ⊢
          clear hA5 hO5 C5 OC ER hrr ec el HS1 HV1 HO1 HE
          go_wp2_with fail
          go_roundg k1
          case measure => omega
          case rel => exact ⟨j + 1, r.2, by first | (simp; done) | rfl, ⟨by have := HK.out; omega, by omega⟩, HS5, HO5, HV5, ⟨St.ok_le HOK5.out (by omega)⟩, ER2⟩
        · have ER2 := Aside0.mk (ER.trans (wrs_no (k := (a : Int) + (j : Int)) (by omega) (by rw [← hrr]; exact he)))
          rw [← hrr] at HS5 HOK5 ER2 ⊢
          clear hA5 hO5 C5 OC ER hrr ec el HS1 HV1 HO1 HE
          go_wp2_with fail
          all_goals first
            | (go_ret; rw [ER2.out]; exact ⟨rfl, HS5.out, HO5.out⟩)
            | (exfalso; omega)
      · have EJ : j = M := by have := HK.out; omega
        subst EJ
        have HL : Aside0 (j * 16 ≥ f.length ∧ j ≤ 512 ∧ f.length ≤ 8192) := ⟨by have h1 := HF.out; have h2 := HM.out; have h3 := HA.out; omega⟩
        have p1 : ¬ ((j : Int) * 16 < (f.length : Int)) := by have := HL.out; omega
        have p2 : (j : Int) ≤ 512 := by have := HL.out; omega
        have ER := HE.out
        rw [show j - j = 0 by omega, show rows a f j 0 = [] from rfl, List.nil_append, wrs_one (k := (a : Int) + (m : Int) - 1) (by have := HA.out; omega)] at ER
        have ER := Aside0.mk ER
        have hs1 := HS.out.c0
        clear hj HE ES
        go_upto_region 13 with fail
        have r0 : Below wr.heap.size wr wr := Below.refl _ _
        have HBx : Aside0 (Below wr.heap.size wr wr.drew) := ⟨(Below.refl _ _).drew⟩
        have KS : Aside0 (∀ W : World, Below wr.heap.size wr W → W.cell? ⟨s, 0, none⟩ = some (.pointer (some ⟨g, 0, none⟩))) := ⟨fun W h1 => (HS.out.below h1).c0⟩
        have W4 : Aside0 (IntKind.i64.wrap (IntKind.i64.wrap ((a : Int) + (m : Int)) - 1) = (a : Int) + (m : Int) - 1) := ⟨by have h2 := HA.out; rw [show IntKind.i64.wrap ((a : Int) + (m : Int)) = (a : Int) + (m : Int) by rw [IntKind.wrap_i64]; omega, IntKind.wrap_i64]; omega⟩
        go_region_held3 (fun W => W.cell? ⟨s, 0, none⟩ = some (.pointer (some ⟨g, 0, none⟩))) (first | assumption | exact hs1)
          (first
            | (go_simp; go_at_call 38; refine (HH.out _ t' (HS.out.below HBx.out)).mono ?_; rintro e w' ⟨rfl, hd⟩; have HBy := Aside0.mk (Aid.bthen HBx.out hd.below); clear HBx; have HBx := HBy; clear HBy; have hS2_ := KS.out _ HBx.out; (first | (have hm := Kd.R_below HP.out hd.below; clear HP; have HP := Aside0.mk hm; clear hm) | skip))
            | (go_simp; go_at_call 41; refine (HP1.out _).mono ?_; rintro e w' ⟨v0_, rfl, hR, hB⟩; have HBy := Aside0.mk (Aid.bthen HBx.out hB); clear HBx; have HBx := HBy; clear HBy; have hS2_ := KS.out _ HBx.out; have HP := Aside0.mk hR; clear hR)
            | (go_simp; go_at_call 40; rw [W4.out]; obtain ⟨A9, c9, rfl, hc9, hC9⟩ := Kd.R_reads HP.out; refine (WriteAny (HS.out.below HBx.out).at_ _ A9 c9 (Crc.putl num 8) hC9 hc9 (St.ok_le HOK.out (by have := HL.out; omega))).mono ?_; rintro e w5 ⟨rfl, hA5, hO5⟩; have HO6 := Aside0.mk ((HO.out.trans (Only.below HBx.out)).trans hO5); have HS6 := Aside0.mk ((HS.out.below HBx.out).write _ (Crc.putl_okb _ _) hA5 hO5); have hS2_ := HS6.out.c0))
        all_goals
          go_wp2_with fail
          go_ret
          rw [ER.out]
          exact ⟨rfl, HS6.out, HO6.out⟩
theorem Save {w : World} {s g b n : Nat} {t : St} (h : StAt w s g b n t) (num : Nat) (hnum : num < 18446744073709551616) (A : Option Addr) (c : Nat) (data : List Int) (hr : Kd.C (Kd.int .u8) w A data.length data) (hc : data.length ≤ c) (hd : Crc.okb data = true) (hok : t.ok 900000) :
    Calls Try.prog 15 #[.pointer (some ⟨s, 0, none⟩), .int .u64 (num : Int), .slice A data.length c] w fun e w' => e = .returned (.int .i64 (save n t num data).1) ∧ StAt w' s g b n (save n t num data).2 ∧ Only g b w w' := by
  by_cases h0 : num = 0
  · subst h0
    rw [save_arg]
    refine (Save.arg h A c data).mono ?_
    rintro e w' ⟨rfl, ⟨k, rfl⟩⟩
    exact ⟨rfl, h.drewN k, (Only.refl g b w).drewN k⟩
  · by_cases hl : room n < data.length
    · rw [save_long t h0 hl]
      refine (Save.long h num h0 A c data hl).mono ?_
      rintro e w' ⟨rfl, ⟨k, rfl⟩⟩
      exact ⟨rfl, h.drewN k, (Only.refl g b w).drewN k⟩
    · exact Save.go h num h0 hnum A c data hr hc hd hl hok
end Slots
end Disk
end Go.Proofs.Ytbjjpckldjjcgaa
