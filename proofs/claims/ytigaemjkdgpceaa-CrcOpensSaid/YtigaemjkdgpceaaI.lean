/- The reference's Open (function 22): its walk; the region that draws its order and makes by an invariant (I0). -/
import Derived.Test.YtigaemjkdgpceaaI0
import Derived.Test.YtigaemjkdgpceaaG
namespace Go.Proofs.Ytigaemjkdgpceaa
open Go.RowKit Go.Proofs.YtigaemjkdgpceaaW.PrintWords Go.Proofs.YtigaemjkdgpceaaW.PrintLast Go.Proofs.YtigaemjkdgpceaaW.PrintMore Crc PK Ref
set_option linter.unusedVariables false
set_option linter.unusedSimpArgs false
attribute [local go_sem] Aid.below_all

theorem split14 (i : Nat) (h : i < 14) : i = 0 ∨ i = 1 ∨ i = 2 ∨ i = 3 ∨ i = 4 ∨ i = 5 ∨ i = 6 ∨ i = 7 ∨ i = 8 ∨ i = 9 ∨ i = 10 ∨ i = 11 ∨ i = 12 ∨ i = 13 := by omega
theorem run5 (n : Nat) (h : n ≤ 2048) (w : World) : (convert 29 3 (.int .u64 n)).run Try.prog w = .ok (.int .i64 n) w := by
  go_simp
  rw [IntKind.wrap_i64]; omega
theorem run1 (ad : Addr) (m c0 : Nat) (h : 8 ≤ c0) (w : World) : (Instr.sliceAt 23 (.slice (some ad) m c0) none (some (.int .i64 8)) none).run Try.prog w = .ok (.slice (some ad) 8 c0) w := by
  go_simp
  intro hc; omega
theorem run7 (ad : Addr) (m c0 n : Nat) (h : 16 + n ≤ c0) (hn : n ≤ 2048) (w : World) : (Instr.sliceAt 23 (.slice (some ad) m c0) (some (.int .i64 16)) (some (.int .i64 (16 + (n : Int)))) none).run Try.prog w = .ok (.slice (if c0 = 16 then some ad else some (ad.add 16)) n (c0 - 16)) w := by
  have e1 : (16 + (n : Int)).toNat = 16 + n := by omega
  have e2 : ¬ ((c0 : Int) < 16 + n) := by omega
  have e3 : ¬ (16 + (n : Int) < 16) := by omega
  go_simp
  rw [if_pos ⟨by omega, by omega⟩, if_pos (by omega)]
theorem C_none (w : World) : Kd.C (Kd.int .u8) w none 0 ([] : List Int) := Kd.C_of_reads (d := (0 : Int)) ⟨rfl, by decide, fun h => absurd h (by decide)⟩

set_option maxRecDepth 100000 in
set_option maxHeartbeats 2000000 in
theorem ref_Open.any (A0 : Option Addr) (c0 : Nat) (l0 : List Int) (w : World) (hr0 : Kd.C (Kd.int .u8) w A0 l0.length l0) (hc0 : l0.length ≤ c0) (hb : okb l0 = true) (hm2 : l0.length ≤ 2100) :
    Calls Try.prog 22 #[.slice A0 l0.length c0] w fun e w' => ∃ (A : Option Addr) (c : Nat), e = .returned (.tuple #[.int .u64 (openl l0).1, .slice A (openl l0).2.1.length c, .bool (openl l0).2.2]) ∧ (openl l0).2.1.length ≤ c ∧ Kd.C (Kd.int .u8) w' A (openl l0).2.1.length (openl l0).2.1 ∧ Below w.heap.size w w' := by
  by_cases hlen : l0.length < 16
  · have h : openl l0 = (0, [], false) := by unfold openl; rw [if_pos hlen]
    rw [h]
    go_enter Try.func22, Try.ntmps22
    go_wp2
    go_ret3
    exact ⟨_, _, rfl, Nat.le_refl _, C_none _, Below.refl _ _⟩
  obtain ⟨ad, rfl⟩ : ∃ ad, A0 = some ad := by
    obtain ⟨ad, h1, _⟩ := hr0.2.2 (by omega)
    exact ⟨ad, h1⟩
  have c1 := C_cut 8 12 hr0 (by omega) (by omega)
  have k1 := okb_drop _ 8 (okb_take l0 12 hb)
  have l1 : ((l0.take 12).drop 8).length = 4 := by simp; omega
  obtain ⟨n, hn⟩ : ∃ n, n = getn 8 ((l0.take 12).drop 8) := ⟨_, rfl⟩
  have G1 := fun W (hW : Kd.C (Kd.int .u8) W (some (ad.add 8)) ((l0.take 12).drop 8).length ((l0.take 12).drop 8)) => ref_Get.n (some (ad.add 8)) 4 (c0 - 8) _ W l1 hW (by omega) k1
  rw [← hn] at G1
  have HR := Aside0.mk hr0; clear hr0
  have C1 := Aside0.mk c1; clear c1
  have HG1 := Aside0.mk G1; clear G1
  have HO := Aside0.mk hb; clear hb k1 l1
  by_cases hbig : n > 2048 ∨ n + 16 > l0.length
  · have h : openl l0 = (0, [], false) := by unfold openl; rw [if_neg hlen, ← hn, if_pos hbig]
    rw [h]
    by_cases g1 : n > 2048
    · have c2048 : decide ((2048 : Int) < (n : Int)) = true := by simp; omega
      clear hn hbig h
      go_enter Try.func22, Try.ntmps22
      go_wp2_with fail
      refine (HG1.out _ C1.out).mono ?_; rintro e w1 ⟨rfl, ⟨n1, rfl⟩⟩
      go_wp2_with fail
      go_ret3
      exact ⟨_, _, rfl, Nat.le_refl _, C_none _, by repeat (first | exact Below.refl _ _ | apply Aid.bdrew)⟩
    · have g2 : l0.length < n + 16 := by omega
      clear hn hbig h
      go_enter Try.func22, Try.ntmps22
      go_wp2_with fail
      refine (HG1.out _ C1.out).mono ?_; rintro e w1 ⟨rfl, ⟨n1, rfl⟩⟩
      go_wp2_with fail
      go_ret3
      exact ⟨_, _, rfl, Nat.le_refl _, C_none _, by repeat (first | exact Below.refl _ _ | apply Aid.bdrew)⟩
  have g1 : n ≤ 2048 := by omega
  have g2 : n + 16 ≤ l0.length := by omega
  have HN := Aside0.mk hn
  clear hbig hn
  have k12 : (12 : Int) ≤ (c0 : Int) := by omega
  go_enter Try.func22, Try.ntmps22
  go_wp2_with fail
  refine (HG1.out _ C1.out).mono ?_; rintro e w1 ⟨rfl, ⟨n1, rfl⟩⟩
  go_wp2_with fail
  obtain ⟨d, hd⟩ : ∃ d, d = (l0.drop 16).take n := ⟨_, rfl⟩
  obtain ⟨q, hq⟩ : ∃ q, q = getn 8 (l0.take 8) := ⟨_, rfl⟩
  have HQ := Aside0.mk hq
  have HQ2 := Aside0.mk (show q < 18446744073709551616 by rw [hq]; exact getn_lt 8 _ (okb_take l0 8 HO.out))
  have HDD := Aside0.mk hd
  have HDL := Aside0.mk (show d.length = n by rw [hd]; simp; omega)
  have HD2 := Aside0.mk (show okb d = true by rw [hd]; exact okb_take _ _ (okb_drop _ _ HO.out))
  clear hq hd
  have k16 : (16 : Int) ≤ (c0 : Int) := by omega
  have hC16 : ∀ W, Below w.heap.size w W → Kd.C (Kd.int .u8) W (if c0 = 16 then some ad else some (ad.add 16)) n d := by
    intro W hW
    by_cases hc : c0 = 16
    · have h0 : n = 0 := by omega
      have hd0 : d = [] := List.length_eq_zero_iff.1 (by rw [HDL.out, h0])
      rw [h0, hd0]
      exact Kd.C_of_reads (d := (0 : Int)) ⟨rfl, by decide, fun h => absurd h (by decide)⟩
    · rw [if_neg hc]
      have := C_cut 16 (16 + n) (Kd.C_below HR.out hW) (by omega) (by omega)
      have e : (l0.take (16 + n)).drop 16 = d := by rw [HDD.out, List.drop_take]; congr 1; omega
      rw [e, HDL.out] at this
      exact this
  have HC16 := Aside0.mk hC16; clear hC16
  --INV
  refine wp_region_inv (by kernel_rfl) (fun listed a w' => ∃ (b0 b1 b2 b3 b4 b5 b6 b7 b8 b9 b10 b11 b12 b13 : Bool) (x25 x26 x27 x28 x29 x30 x31 x32 x33 x24 x34 x35 x6 x7 : Value) (A : Option Addr) (c : Nat), listed = #[b0, b1, b2, b3, b4, b5, b6, b7, b8, b9, b10, b11, b12, b13] ∧ a = { tmps := #[Value.slice (some ad) l0.length c0, undef, Value.int IntKind.u64 0, Value.slice none 0 0, Value.bool false, Value.int IntKind.u64 n, x6, x7, Value.slice (some ad) l0.length c0, Value.int IntKind.i64 l0.length, Value.bool (decide ((l0.length : Int) < 16)), Value.slice (some ad) l0.length c0, Value.slice (some { block := ad.block, off := ad.off + 8 }) 4 (c0 - 8), Value.int IntKind.u64 n, Value.int IntKind.u64 n, Value.bool (decide (2048 < (n : Int))), Value.bool (decide (2048 < (n : Int))), Value.int IntKind.u64 n, Value.int IntKind.i64 n, Value.int IntKind.i64 ((n : Int) + 16), Value.slice (some ad) l0.length c0, Value.int IntKind.i64 l0.length, Value.bool (decide ((l0.length : Int) < n + 16)), Value.bool (decide (2048 < (n : Int)) || decide ((l0.length : Int) < n + 16)), x24, x25, x26, x27, x28, x29, x30, x31, x32, x33, x34, x35, undef, undef, undef, undef, undef, undef, undef, undef, undef, undef, undef, undef, undef], defers := [] } ∧ Aside0 (b0 = true → x25 = Value.slice (some ad) l0.length c0) ∧ Aside0 (b1 = true → x26 = Value.slice (some ad) 8 c0) ∧ Aside0 (b2 = true → x27 = Value.int .u64 (q : Int)) ∧ Aside0 (b3 = true → x28 = Value.slice (some ad) l0.length c0) ∧ Aside0 (b4 = true → x29 = Value.int .u64 n) ∧ Aside0 (b5 = true → x30 = Value.int .i64 n) ∧ Aside0 (b6 = true → x31 = Value.int .i64 (16 + (n : Int))) ∧ Aside0 (b7 = true → ∃ A7 c7, x32 = Value.slice A7 n c7 ∧ n ≤ c7 ∧ ∀ W, Below w.heap.size w W → Kd.C (Kd.int .u8) W A7 n d) ∧ Aside0 (b8 = true → x33 = Value.tuple #[.slice A (16 + n) c, .bool true] ∧ 16 + n ≤ c ∧ Kd.C (Kd.int .u8) w' A (16 + n) (framel q d)) ∧ Aside0 (b9 = true → x24 = Value.tuple #[.slice A (16 + n) c, .bool true] ∧ b8 = true) ∧ Aside0 (b10 = true → x34 = Value.slice A (16 + n) c ∧ b8 = true) ∧ Aside0 (b11 = true → x35 = Value.bool true ∧ b8 = true) ∧ Aside0 (b12 = true → x6 = Value.slice A (16 + n) c ∧ b8 = true) ∧ Aside0 (b13 = true → x7 = Value.bool true ∧ b8 = true) ∧ Aside0 (Below w.heap.size w w')) ?start ?step ?fin
  case start =>
    exact ⟨false, false, false, false, false, false, false, false, false, false, false, false, false, false, undef, undef, undef, undef, undef, undef, undef, undef, undef, undef, undef, undef, undef, undef, none, 0, rfl, rfl, ⟨fun h => by cases h⟩, ⟨fun h => by cases h⟩, ⟨fun h => by cases h⟩, ⟨fun h => by cases h⟩, ⟨fun h => by cases h⟩, ⟨fun h => by cases h⟩, ⟨fun h => by cases h⟩, ⟨fun h => by cases h⟩, ⟨fun h => by cases h⟩, ⟨fun h => by cases h⟩, ⟨fun h => by cases h⟩, ⟨fun h => by cases h⟩, ⟨fun h => by cases h⟩, ⟨fun h => by cases h⟩, ⟨by repeat (first | exact Below.refl _ _ | apply Aid.bdrew | exact (Below.refl _ _).drew | exact (Aid.bdrew (Below.refl _ _) _).drew)⟩⟩
  case step =>
    intro listed a w' hI i hi
    obtain ⟨b0, b1, b2, b3, b4, b5, b6, b7, b8, b9, b10, b11, b12, b13, x25, x26, x27, x28, x29, x30, x31, x32, x33, x24, x34, x35, x6, x7, A, c, rfl, rfl, h0, h1, h2, h3, h4, h5, h6, h7, h8, h9, h10, h11, h12, h13, hB⟩ := hI
    obtain ⟨hl, o, ho, hd⟩ := mem_ready.1 hi
    have hi14 : i < 14 := by
      rcases Nat.lt_or_ge i 14 with h | h
      · exact h
      · rw [Array.getElem?_eq_none (by simpa using h)] at ho; cases ho
    obtain rfl | rfl | rfl | rfl | rfl | rfl | rfl | rfl | rfl | rfl | rfl | rfl | rfl | rfl := split14 i hi14
    · have hl' : b0 = false := by simpa using hl
      clear hl hi hi14
      obtain rfl := Option.some.inj ho
      clear ho
      clear hd
      refine wpOp_step rfl (fun K hK => ?_)
      refine Aid.event_run_w (v := Value.slice (some ad) l0.length c0) (w1 := w') rfl (by first | rfl | (simp [execOp, Act.eval]; done)) ?_
      show K _ _
      refine hK _ _ ?_
      exact ⟨true, b1, b2, b3, b4, b5, b6, b7, b8, b9, b10, b11, b12, b13, _, _, _, _, _, _, _, _, _, _, _, _, _, _, A, c, rfl, rfl, ⟨fun _ => rfl⟩, h1, h2, h3, h4, h5, h6, h7, h8, h9, h10, h11, h12, h13, hB⟩
    · have hl' : b1 = false := by simpa using hl
      clear hl hi hi14
      obtain rfl := Option.some.inj ho
      clear ho
      have d0 : b0 = true := by simpa using hd ⟨0, .data⟩ (by simp) rfl
      clear hd
      obtain rfl := h0.out d0
      refine wpOp_step rfl (fun K hK => ?_)
      refine Aid.event_run_w (v := Value.slice (some ad) 8 c0) (w1 := w') rfl (by simp [execOp, Act.eval]; rw [run1 ad l0.length c0 (by omega)]; rfl) ?_
      show K _ _
      refine hK _ _ ?_
      exact ⟨b0, true, b2, b3, b4, b5, b6, b7, b8, b9, b10, b11, b12, b13, _, _, _, _, _, _, _, _, _, _, _, _, _, _, A, c, rfl, rfl, h0, ⟨fun _ => rfl⟩, h2, h3, h4, h5, h6, h7, h8, h9, h10, h11, h12, h13, hB⟩
    · have hl' : b2 = false := by simpa using hl
      clear hl hi hi14
      obtain rfl := Option.some.inj ho
      clear ho
      have d1 : b1 = true := by simpa using hd ⟨1, .data⟩ (by simp) rfl
      clear hd
      obtain rfl := h1.out d1
      refine wpOp_step rfl (fun K hK => ?_)
      go_wp2_with fail
      refine (ref_Get.n (some ad) 8 c0 (l0.take 8) w' (by simp; omega) (Kd.C_take (m := 8) (Kd.C_below HR.out hB.out) (by omega)) (by omega) (okb_take l0 8 HO.out)).mono ?_; rw [← HQ.out]; rintro e w2 ⟨rfl, ⟨n2, rfl⟩⟩
      rename_i K2 hK2
      refine hK2 _ _ ?_
      show K _ _
      refine hK _ _ ?_
      exact ⟨b0, b1, true, b3, b4, b5, b6, b7, b8, b9, b10, b11, b12, b13, _, _, _, _, _, _, _, _, _, _, _, _, _, _, A, c, rfl, rfl, h0, ⟨fun _ => rfl⟩, ⟨fun _ => rfl⟩, h3, h4, h5, h6, h7, ⟨fun h => ⟨(h8.out h).1, (h8.out h).2.1, Kd.C_drewN (h8.out h).2.2 _⟩⟩, h9, h10, h11, h12, h13, ⟨Aid.bdrew hB.out _⟩⟩
    · have hl' : b3 = false := by simpa using hl
      clear hl hi hi14
      obtain rfl := Option.some.inj ho
      clear ho
      clear hd
      refine wpOp_step rfl (fun K hK => ?_)
      refine Aid.event_run_w (v := Value.slice (some ad) l0.length c0) (w1 := w') rfl (by first | rfl | (simp [execOp, Act.eval]; done)) ?_
      show K _ _
      refine hK _ _ ?_
      exact ⟨b0, b1, b2, true, b4, b5, b6, b7, b8, b9, b10, b11, b12, b13, _, _, _, _, _, _, _, _, _, _, _, _, _, _, A, c, rfl, rfl, h0, h1, h2, ⟨fun _ => rfl⟩, h4, h5, h6, h7, h8, h9, h10, h11, h12, h13, hB⟩
    · have hl' : b4 = false := by simpa using hl
      clear hl hi hi14
      obtain rfl := Option.some.inj ho
      clear ho
      clear hd
      refine wpOp_step rfl (fun K hK => ?_)
      refine Aid.event_run_w (v := Value.int .u64 n) (w1 := w') rfl (by first | rfl | (simp [execOp, Act.eval]; done)) ?_
      show K _ _
      refine hK _ _ ?_
      exact ⟨b0, b1, b2, b3, true, b5, b6, b7, b8, b9, b10, b11, b12, b13, _, _, _, _, _, _, _, _, _, _, _, _, _, _, A, c, rfl, rfl, h0, h1, h2, h3, ⟨fun _ => rfl⟩, h5, h6, h7, h8, h9, h10, h11, h12, h13, hB⟩
    · have hl' : b5 = false := by simpa using hl
      clear hl hi hi14
      obtain rfl := Option.some.inj ho
      clear ho
      have d4 : b4 = true := by simpa using hd ⟨4, .data⟩ (by simp) rfl
      clear hd
      obtain rfl := h4.out d4
      refine wpOp_step rfl (fun K hK => ?_)
      refine Aid.event_run_w (v := Value.int .i64 n) (w1 := w') rfl (by simp [execOp, Act.eval]; rw [run5 n g1]; rfl) ?_
      show K _ _
      refine hK _ _ ?_
      exact ⟨b0, b1, b2, b3, b4, true, b6, b7, b8, b9, b10, b11, b12, b13, _, _, _, _, _, _, _, _, _, _, _, _, _, _, A, c, rfl, rfl, h0, h1, h2, h3, h4, ⟨fun _ => rfl⟩, h6, h7, h8, h9, h10, h11, h12, h13, hB⟩
    · have hl' : b6 = false := by simpa using hl
      clear hl hi hi14
      obtain rfl := Option.some.inj ho
      clear ho
      have d5 : b5 = true := by simpa using hd ⟨5, .data⟩ (by simp) rfl
      clear hd
      obtain rfl := h5.out d5
      refine wpOp_step rfl (fun K hK => ?_)
      have e6 : IntKind.i64.wrap (16 + (n : Int)) = 16 + (n : Int) := by rw [IntKind.wrap_i64]; omega
      refine Aid.event_run_w (v := Value.int .i64 (16 + (n : Int))) (w1 := w') rfl (by go_simp) ?_
      show K _ _
      refine hK _ _ ?_
      exact ⟨b0, b1, b2, b3, b4, b5, true, b7, b8, b9, b10, b11, b12, b13, _, _, _, _, _, _, _, _, _, _, _, _, _, _, A, c, rfl, rfl, h0, h1, h2, h3, h4, h5, ⟨fun _ => rfl⟩, h7, h8, h9, h10, h11, h12, h13, hB⟩
    · have hl' : b7 = false := by simpa using hl
      clear hl hi hi14
      obtain rfl := Option.some.inj ho
      clear ho
      have d3 : b3 = true := by simpa using hd ⟨3, .data⟩ (by simp) rfl
      have d6 : b6 = true := by simpa using hd ⟨6, .data⟩ (by simp) rfl
      clear hd
      obtain rfl := h3.out d3
      obtain rfl := h6.out d6
      refine wpOp_step rfl (fun K hK => ?_)
      refine Aid.event_run_w (v := Value.slice (if c0 = 16 then some ad else some (ad.add 16)) n (c0 - 16)) (w1 := w') rfl (by simp [execOp, Act.eval]; rw [run7 ad l0.length c0 n (by omega) g1]; rfl) ?_
      show K _ _
      refine hK _ _ ?_
      exact ⟨b0, b1, b2, b3, b4, b5, b6, true, b8, b9, b10, b11, b12, b13, _, _, _, _, _, _, _, _, _, _, _, _, _, _, A, c, rfl, rfl, h0, h1, h2, h3, h4, h5, h6, ⟨fun _ => ⟨_, _, rfl, by omega, HC16.out⟩⟩, h8, h9, h10, h11, h12, h13, hB⟩
    · have hl' : b8 = false := by simpa using hl
      clear hl hi hi14
      obtain rfl := Option.some.inj ho
      clear ho
      have d2 : b2 = true := by simpa using hd ⟨2, .data⟩ (by simp) rfl
      have d7 : b7 = true := by simpa using hd ⟨7, .data⟩ (by simp) rfl
      clear hd
      obtain rfl := h2.out d2
      obtain ⟨A7, c7, rfl, hc7, hC7⟩ := h7.out d7
      refine wpOp_step rfl (fun K hK => ?_)
      have F8 := redressref16_Frame.calls 3000 (q : Int) A7 c7 d (framel q d) true w' (by rw [HDL.out]; exact hC7 _ hB.out) (by rw [HDL.out]; exact hc7) (refFrame q 3000 d HQ2.out HD2.out (by rw [HDL.out]; exact g1) (by decide))
      rw [HDL.out] at F8
      have HF8 := Aside0.mk F8; clear F8
      go_wp2_with fail
      refine HF8.out.mono ?_
      rintro e w2 ⟨v, rfl, hR, hb2⟩
      obtain ⟨A8, c8, hv, hc8, hC8⟩ := Kd.R_reads hR
      have hfl : (framel q d).length = 16 + n := by rw [framel_length, HDL.out]
      rw [hfl] at hv hc8 hC8
      rw [hv]
      rename_i K2 hK2
      refine hK2 _ _ ?_
      show K _ _
      refine hK _ _ ?_
      exact ⟨b0, b1, b2, b3, b4, b5, b6, b7, true, b9, b10, b11, b12, b13, _, _, _, _, _, _, _, _, _, _, _, _, _, _, A8, c8, rfl, rfl, h0, h1, ⟨fun _ => rfl⟩, h3, h4, h5, h6, ⟨fun _ => ⟨_, _, rfl, hc7, hC7⟩⟩, ⟨fun _ => ⟨rfl, hc8, hC8⟩⟩, ⟨fun h => absurd (h9.out h).2 (by rw [hl']; decide)⟩, ⟨fun h => absurd (h10.out h).2 (by rw [hl']; decide)⟩, ⟨fun h => absurd (h11.out h).2 (by rw [hl']; decide)⟩, ⟨fun h => absurd (h12.out h).2 (by rw [hl']; decide)⟩, ⟨fun h => absurd (h13.out h).2 (by rw [hl']; decide)⟩, ⟨Aid.bthen hB.out hb2⟩⟩
    · have hl' : b9 = false := by simpa using hl
      clear hl hi hi14
      obtain rfl := Option.some.inj ho
      clear ho
      have d8 : b8 = true := by simpa using hd ⟨8, .data⟩ (by simp) rfl
      clear hd
      obtain ⟨rfl, hcA, hCA⟩ := h8.out d8
      refine wpOp_step rfl (fun K hK => ?_)
      refine Aid.event_run_w (v := Value.tuple #[.slice A (16 + n) c, .bool true]) (w1 := w') rfl (by first | rfl | (simp [execOp, Act.eval]; done)) ?_
      show K _ _
      refine hK _ _ ?_
      exact ⟨b0, b1, b2, b3, b4, b5, b6, b7, b8, true, b10, b11, b12, b13, _, _, _, _, _, _, _, _, _, _, _, _, _, _, A, c, rfl, rfl, h0, h1, h2, h3, h4, h5, h6, h7, h8, ⟨fun _ => ⟨rfl, d8⟩⟩, h10, h11, h12, h13, hB⟩
    · have hl' : b10 = false := by simpa using hl
      clear hl hi hi14
      obtain rfl := Option.some.inj ho
      clear ho
      have d9 : b9 = true := by simpa using hd ⟨9, .data⟩ (by simp) rfl
      clear hd
      obtain ⟨rfl, d8⟩ := h9.out d9
      refine wpOp_step rfl (fun K hK => ?_)
      refine Aid.event_run_w (v := Value.slice A (16 + n) c) (w1 := w') rfl (by first | rfl | (simp [execOp, Act.eval]; done)) ?_
      show K _ _
      refine hK _ _ ?_
      exact ⟨b0, b1, b2, b3, b4, b5, b6, b7, b8, b9, true, b11, b12, b13, _, _, _, _, _, _, _, _, _, _, _, _, _, _, A, c, rfl, rfl, h0, h1, h2, h3, h4, h5, h6, h7, h8, h9, ⟨fun _ => ⟨rfl, d8⟩⟩, h11, h12, h13, hB⟩
    · have hl' : b11 = false := by simpa using hl
      clear hl hi hi14
      obtain rfl := Option.some.inj ho
      clear ho
      have d9 : b9 = true := by simpa using hd ⟨9, .data⟩ (by simp) rfl
      clear hd
      obtain ⟨rfl, d8⟩ := h9.out d9
      refine wpOp_step rfl (fun K hK => ?_)
      refine Aid.event_run_w (v := Value.bool true) (w1 := w') rfl (by first | rfl | (simp [execOp, Act.eval]; done)) ?_
      show K _ _
      refine hK _ _ ?_
      exact ⟨b0, b1, b2, b3, b4, b5, b6, b7, b8, b9, b10, true, b12, b13, _, _, _, _, _, _, _, _, _, _, _, _, _, _, A, c, rfl, rfl, h0, h1, h2, h3, h4, h5, h6, h7, h8, h9, h10, ⟨fun _ => ⟨rfl, d8⟩⟩, h12, h13, hB⟩
    · have hl' : b12 = false := by simpa using hl
      clear hl hi hi14
      obtain rfl := Option.some.inj ho
      clear ho
      have d10 : b10 = true := by simpa using hd ⟨10, .data⟩ (by simp) rfl
      clear hd
      obtain ⟨rfl, d8⟩ := h10.out d10
      refine wpOp_step rfl (fun K hK => ?_)
      refine Aid.event_run_w (v := Value.slice A (16 + n) c) (w1 := w') rfl (by first | rfl | (simp [execOp, Act.eval]; done)) ?_
      show K _ _
      refine hK _ _ ?_
      exact ⟨b0, b1, b2, b3, b4, b5, b6, b7, b8, b9, b10, b11, true, b13, _, _, _, _, _, _, _, _, _, _, _, _, _, _, A, c, rfl, rfl, h0, h1, h2, h3, h4, h5, h6, h7, h8, h9, h10, h11, ⟨fun _ => ⟨rfl, d8⟩⟩, h13, hB⟩
    · have hl' : b13 = false := by simpa using hl
      clear hl hi hi14
      obtain rfl := Option.some.inj ho
      clear ho
      have d11 : b11 = true := by simpa using hd ⟨11, .data⟩ (by simp) rfl
      clear hd
      obtain ⟨rfl, d8⟩ := h11.out d11
      refine wpOp_step rfl (fun K hK => ?_)
      refine Aid.event_run_w (v := Value.bool true) (w1 := w') rfl (by first | rfl | (simp [execOp, Act.eval]; done)) ?_
      show K _ _
      refine hK _ _ ?_
      exact ⟨b0, b1, b2, b3, b4, b5, b6, b7, b8, b9, b10, b11, b12, true, _, _, _, _, _, _, _, _, _, _, _, _, _, _, A, c, rfl, rfl, h0, h1, h2, h3, h4, h5, h6, h7, h8, h9, h10, h11, h12, ⟨fun _ => ⟨rfl, d8⟩⟩, hB⟩
  case fin =>
    intro listed a w' hI hr
    obtain ⟨b0, b1, b2, b3, b4, b5, b6, b7, b8, b9, b10, b11, b12, b13, x25, x26, x27, x28, x29, x30, x31, x32, x33, x24, x34, x35, x6, x7, A, c, rfl, rfl, h0, h1, h2, h3, h4, h5, h6, h7, h8, h9, h10, h11, h12, h13, hB⟩ := hI
    obtain rfl : b0 = true := by
      cases hb : b0 with
      | true => rfl
      | false =>
        subst hb
        have hm : 0 ∈ ([] : List Nat) := by
          rw [← hr]
          exact mem_ready.2 ⟨rfl, _, rfl, by simp [Region.binds]⟩
        cases hm
    obtain rfl : b1 = true := by
      cases hb : b1 with
      | true => rfl
      | false =>
        subst hb
        have hm : 1 ∈ ([] : List Nat) := by
          rw [← hr]
          exact mem_ready.2 ⟨rfl, _, rfl, by simp [Region.binds]⟩
        cases hm
    obtain rfl : b2 = true := by
      cases hb : b2 with
      | true => rfl
      | false =>
        subst hb
        have hm : 2 ∈ ([] : List Nat) := by
          rw [← hr]
          exact mem_ready.2 ⟨rfl, _, rfl, by simp [Region.binds]⟩
        cases hm
    obtain rfl : b3 = true := by
      cases hb : b3 with
      | true => rfl
      | false =>
        subst hb
        have hm : 3 ∈ ([] : List Nat) := by
          rw [← hr]
          exact mem_ready.2 ⟨rfl, _, rfl, by simp [Region.binds]⟩
        cases hm
    obtain rfl : b4 = true := by
      cases hb : b4 with
      | true => rfl
      | false =>
        subst hb
        have hm : 4 ∈ ([] : List Nat) := by
          rw [← hr]
          exact mem_ready.2 ⟨rfl, _, rfl, by simp [Region.binds]⟩
        cases hm
    obtain rfl : b5 = true := by
      cases hb : b5 with
      | true => rfl
      | false =>
        subst hb
        have hm : 5 ∈ ([] : List Nat) := by
          rw [← hr]
          exact mem_ready.2 ⟨rfl, _, rfl, by simp [Region.binds]⟩
        cases hm
    obtain rfl : b6 = true := by
      cases hb : b6 with
      | true => rfl
      | false =>
        subst hb
        have hm : 6 ∈ ([] : List Nat) := by
          rw [← hr]
          exact mem_ready.2 ⟨rfl, _, rfl, by simp [Region.binds]⟩
        cases hm
    obtain rfl : b7 = true := by
      cases hb : b7 with
      | true => rfl
      | false =>
        subst hb
        have hm : 7 ∈ ([] : List Nat) := by
          rw [← hr]
          exact mem_ready.2 ⟨rfl, _, rfl, by simp [Region.binds]⟩
        cases hm
    obtain rfl : b8 = true := by
      cases hb : b8 with
      | true => rfl
      | false =>
        subst hb
        have hm : 8 ∈ ([] : List Nat) := by
          rw [← hr]
          exact mem_ready.2 ⟨rfl, _, rfl, by simp [Region.binds]⟩
        cases hm
    obtain rfl : b9 = true := by
      cases hb : b9 with
      | true => rfl
      | false =>
        subst hb
        have hm : 9 ∈ ([] : List Nat) := by
          rw [← hr]
          exact mem_ready.2 ⟨rfl, _, rfl, by simp [Region.binds]⟩
        cases hm
    obtain rfl : b10 = true := by
      cases hb : b10 with
      | true => rfl
      | false =>
        subst hb
        have hm : 10 ∈ ([] : List Nat) := by
          rw [← hr]
          exact mem_ready.2 ⟨rfl, _, rfl, by simp [Region.binds]⟩
        cases hm
    obtain rfl : b11 = true := by
      cases hb : b11 with
      | true => rfl
      | false =>
        subst hb
        have hm : 11 ∈ ([] : List Nat) := by
          rw [← hr]
          exact mem_ready.2 ⟨rfl, _, rfl, by simp [Region.binds]⟩
        cases hm
    obtain rfl : b12 = true := by
      cases hb : b12 with
      | true => rfl
      | false =>
        subst hb
        have hm : 12 ∈ ([] : List Nat) := by
          rw [← hr]
          exact mem_ready.2 ⟨rfl, _, rfl, by simp [Region.binds]⟩
        cases hm
    obtain rfl : b13 = true := by
      cases hb : b13 with
      | true => rfl
      | false =>
        subst hb
        have hm : 13 ∈ ([] : List Nat) := by
          rw [← hr]
          exact mem_ready.2 ⟨rfl, _, rfl, by simp [Region.binds]⟩
        cases hm
    obtain rfl := h0.out rfl
    obtain rfl := h1.out rfl
    obtain rfl := h2.out rfl
    obtain rfl := h3.out rfl
    obtain rfl := h4.out rfl
    obtain rfl := h5.out rfl
    obtain rfl := h6.out rfl
    obtain ⟨A7, c7, rfl, hc7, hC7⟩ := h7.out rfl
    obtain ⟨rfl, hcA, hCA⟩ := h8.out rfl
    obtain ⟨rfl, _⟩ := h9.out rfl
    obtain ⟨rfl, _⟩ := h10.out rfl
    obtain ⟨rfl, _⟩ := h11.out rfl
    obtain ⟨rfl, _⟩ := h12.out rfl
    obtain ⟨rfl, _⟩ := h13.out rfl
    clear h0 h1 h2 h3 h4 h5 h6 h7 h8 h9 h10 h11 h12 h13 hr
    have hfl : (framel q d).length = 16 + n := by rw [framel_length, HDL.out]
    have htl : (l0.take (16 + n)).length = 16 + n := by rw [List.length_take]; omega
    obtain ⟨ad2, rfl⟩ : ∃ ad2, A = some ad2 := by
      obtain ⟨x, h1, _⟩ := hCA.2.2 (by omega)
      exact ⟨x, h1⟩
    have HFL := Aside0.mk hfl; clear hfl
    have HCA := Aside0.mk hCA; clear hCA hC7
    have S7 := ref_Same.n (some ad2) (16 + n) c (framel q d) (some ad) (16 + n) c0 (l0.take (16 + n)) w' HFL.out htl (by rw [HFL.out]; exact HCA.out) hcA (Kd.C_take (m := 16 + n) (Kd.C_below HR.out hB.out) (by omega)) (by omega) (by rw [HFL.out]; omega)
    have OF := open_frame l0 HO.out (by omega) (by rw [← HN.out]; exact g2)
    rw [← HN.out, ← HQ.out, ← HDD.out] at OF
    have HTL := Aside0.mk htl; clear htl
    have HOF := Aside0.mk OF; clear OF
    have HB := Aside0.mk hB.out; clear hB
    by_cases heq : framel q d = l0.take (16 + n)
    · have hopen : openl l0 = ((q : Int), d, true) := by
        unfold openl
        rw [if_neg hlen, ← HN.out, if_neg (by omega), ← HDD.out, if_neg (by rw [HOF.out.2 heq]; simp), ← HQ.out]
      rw [decide_eq_true heq] at S7
      have HS7 := Aside0.mk S7; clear S7
      have HOP := Aside0.mk hopen; clear hopen
      have HEQ := Aside0.mk heq; clear heq
      go_wp2_with fail
      refine HS7.out.mono ?_; rintro e w2 ⟨rfl, ⟨n3, rfl⟩⟩
      obtain ⟨w3, hw3⟩ : ∃ w3, w3 = w'.drewN n3 := ⟨_, rfl⟩
      rw [← hw3]
      have HB3 := Aside0.mk (show Below w.heap.size w w3 by rw [hw3]; exact Aid.bdrew HB.out _)
      have HC3 := Aside0.mk (show Kd.C (Kd.int .u8) w3 (some ad2) (16 + n) (framel q d) by rw [hw3]; exact Kd.C_drewN HCA.out _)
      clear HB HCA HS7 hw3
      have HG9 := Aside0.mk (fun W (hW : Below w3.heap.size w3 W) => ref_Get.n (some ad) 8 c0 (l0.take 8) W (by rw [List.length_take]; omega) (Kd.C_take (m := 8) (Kd.C_below HR.out (Aid.bthen HB3.out hW)) (by omega)) (by omega) (okb_take l0 8 HO.out))
      rw [← HQ.out] at HG9
      have k16n : (16 : Int) ≤ (c : Int) := by omega
      have k16m : (16 : Int) ≤ (16 : Int) + (n : Int) := by omega
      have k8 : (8 : Int) ≤ (c0 : Int) := by omega
      go_wp2_with fail
      refine Aid.wp_region_below_lit (by kernel_rfl) (by kernel_rfl) ?_
      repeat (refine wpQuiet_step (fun K hK => ?_); go_simp; first | (refine hK _ ?_; clear hK K) | (apply Exists.intro; refine ⟨fun w_ hw_ => ?_, hK _ ?_⟩; (first | (go_at_call 18; exact Aid.bquiet0 hw_ (HG9.out _ hw_))); clear hK K))
      refine wpQuiet_nil ?_
      intro w4 hb4
      have HB4 := Aside0.mk hb4; clear hb4
      go_wp2_with fail
      · rename_i hc16
        have h0 : n = 0 := by omega
        have hd0 : d = [] := List.length_eq_zero_iff.1 (by rw [HDL.out, h0])
        go_ret3
        rw [HOP.out]
        refine ⟨some ad2, 0, ?_, ?_, ?_, Aid.bthen HB3.out HB4.out⟩
        · show _ = _
          rw [HDL.out]
          rfl
        · show d.length ≤ _
          rw [hd0]
          exact Nat.zero_le _
        · show Kd.C _ _ _ d.length d
          rw [hd0]
          exact Kd.C_of_reads (d := (0 : Int)) ⟨rfl, by decide, fun h => absurd h (by decide)⟩
      · rename_i hc16
        go_ret3
        rw [HOP.out]
        refine ⟨some (ad2.add 16), c - 16, ?_, ?_, ?_, Aid.bthen HB3.out HB4.out⟩
        · show _ = _
          rw [HDL.out]
          rfl
        · show d.length ≤ _
          rw [HDL.out]
          omega
        · show Kd.C _ _ _ d.length d
          have := C_cut 16 (16 + n) (Kd.C_below HC3.out HB4.out) (by omega) (by omega)
          have e : ((framel q d).take (16 + n)).drop 16 = d := by
            have := frame_d q d []
            rw [List.append_nil, List.append_nil] at this
            rw [List.take_of_length_le (by rw [HFL.out]; exact Nat.le_refl _), this]
          rw [e] at this
          exact this
    · have hopen : openl l0 = (0, [], false) := by
        unfold openl
        rw [if_neg hlen, ← HN.out, if_neg (by omega), ← HDD.out, if_pos (fun h => heq (HOF.out.1 h))]
      rw [decide_eq_false heq] at S7
      have HS7 := Aside0.mk S7; clear S7
      have HOP := Aside0.mk hopen; clear hopen
      have HEQ := Aside0.mk heq; clear heq
      go_wp2_with fail
      refine HS7.out.mono ?_; rintro e w2 ⟨rfl, ⟨n3, rfl⟩⟩
      go_wp2_with fail
      go_ret3
      rw [HOP.out]
      exact ⟨_, _, rfl, Nat.le_refl _, C_none _, Aid.bdrew HB.out _⟩
end Go.Proofs.Ytigaemjkdgpceaa
