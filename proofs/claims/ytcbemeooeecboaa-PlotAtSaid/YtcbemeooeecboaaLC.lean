/- The law PlotAt, walked. -/
import Derived.Test.YtcbemeooeecboaaLA
namespace Go.Proofs.Ytcbemeooeecboaa.Rng
open Go Go.RowKit Go.Proofs.Tree Go.Proofs.Flt Go.Proofs.YtcbemeooeecboaaW.PrintWords Go.Proofs.YtcbemeooeecboaaW.PrintLast Go.Proofs.YtcbemeooeecboaaW.PrintMore Go.Proofs.Ytcbemeooeecboaa.PK
set_option linter.unusedVariables false
set_option linter.unusedSimpArgs false
set_option maxHeartbeats 4000000
set_option maxRecDepth 100000
theorem atR_cases (l : List S44) (pa pb n : Nat) : (∃ k, k < n ∧ ceq (ptV l k) pa pb = true ∧ atR l pa pb n = ((k : Int), true)) ∨ atR l pa pb n = (0, false) := by
  unfold atR
  cases h : (List.range n).find? (fun k => ceq (ptV l k) pa pb) with
  | none => exact .inr rfl
  | some k =>
    rw [List.find?_range_eq_some] at h
    exact .inl ⟨k, List.mem_range.1 h.2.1, h.1, rfl⟩
theorem AtLaw (A : Option Addr) (c : Nat) (l : List S44) (z0 z1 : Int) (w : World) (hrow : Kd.C k44 w A l.length l) (hc : l.length ≤ c) :
    Calls Try.prog 5 #[.slice A l.length c, .agg #[.int .i64 z0, .int .i64 z1]] w fun e w' => e = .returned (.bool true) ∧ Below w.heap.size w w' := by
  have HF := Aside0.mk (fun W (h : Below w.heap.size w W) => Few A c l W (Kd.C_below hrow h) hc)
  have hb0 : Below w.heap.size w (w.alloc (.cells #[.int .i64 z0, .int .i64 z1] 33)) := below_alloc (Below.refl _ _) _
  have hx0 := heap_new w (.cells #[.int .i64 z0, .int .i64 z1] 33)
  obtain ⟨b, hb⟩ : ∃ b, b = w.heap.size := ⟨_, rfl⟩
  obtain ⟨W0, hW0⟩ : ∃ W0, W0 = w.alloc (.cells #[.int .i64 z0, .int .i64 z1] 33) := ⟨_, rfl⟩
  rw [← hW0] at hb0 hx0
  rw [← hb] at hx0
  have HB0 := Aside0.mk hb0
  have HX0 := Aside0.mk hx0
  have HW0 := Aside0.mk hW0
  have HBB := Aside0.mk hb
  clear hb0 hx0 hW0 hb
  by_cases hf : l.length ≤ 210
  · rw [decide_eq_true hf] at HF
    have hl : l.length < 4398046511104 := by omega
    obtain ⟨m, hm⟩ : ∃ m, m = max z0 z1 := ⟨_, rfl⟩
    have m1 : (if z1 > z0 then z1 else z0) = m := by rw [hm]; split <;> omega
    have m2 : (if z0 < z1 then z1 else z0) = m := by rw [hm]; split <;> omega
    have m3 : max z0 z1 = m := hm.symm
    obtain ⟨n, hn⟩ : ∃ n, n = min z0 z1 := ⟨_, rfl⟩
    have n1 : (if z1 < z0 then z1 else z0) = n := by rw [hn]; split <;> omega
    have n3 : min z0 z1 = n := hn.symm
    clear hm hn
    by_cases hm : m > 1099511627776
    · have d1 : decide (m > 1099511627776) = true := decide_eq_true hm
      have d2 : decide (1099511627776 < m) = true := decide_eq_true hm
      clear hrow hc hf hl hm
      go_enter Try.func5, Try.ntmps5
      go_upto_region 1 with fail
      rw [← HW0.out, ← HBB.out]
      have z0c := (blk_cell HX0.out 0).trans rfl
      have z1c := (blk_cell HX0.out 1).trans rfl
      go_wp2_with fail
      refine (HF.out _ HB0.out).mono ?_; rintro e w1 ⟨rfl, hd⟩
      have HB1 := Aside0.mk (HB0.out.trans (hd.below.mono HB0.out.size))
      have y0 := (blk_cell (blk_below HX0.out hd.below) 0).trans rfl
      have y1 := (blk_cell (blk_below HX0.out hd.below) 1).trans rfl
      clear hd z0c z1c
      go_wp2_with fail
      refine (alive _).mono ?_; rintro e w2 ⟨rfl, hb⟩
      have HB2 := Aside0.mk (HB1.out.trans (hb.mono HB1.out.size))
      clear hb
      go_wp2_with fail
      go_ret
      exact ⟨rfl, HB2.out⟩
    have d1 : decide (m > 1099511627776) = false := decide_eq_false hm
    have d2 : decide (1099511627776 < m) = false := decide_eq_false hm
    by_cases hn : n < -1099511627776
    · have d3 : decide (n < -1099511627776) = true := decide_eq_true hn
      clear hrow hc hf hl hm hn
      go_enter Try.func5, Try.ntmps5
      go_upto_region 1 with fail
      rw [← HW0.out, ← HBB.out]
      have z0c := (blk_cell HX0.out 0).trans rfl
      have z1c := (blk_cell HX0.out 1).trans rfl
      go_wp2_with fail
      refine (HF.out _ HB0.out).mono ?_; rintro e w1 ⟨rfl, hd⟩
      have HB1 := Aside0.mk (HB0.out.trans (hd.below.mono HB0.out.size))
      have y0 := (blk_cell (blk_below HX0.out hd.below) 0).trans rfl
      have y1 := (blk_cell (blk_below HX0.out hd.below) 1).trans rfl
      clear hd z0c z1c
      go_wp2_with fail
      refine (alive _).mono ?_; rintro e w2 ⟨rfl, hb⟩
      have HB2 := Aside0.mk (HB1.out.trans (hb.mono HB1.out.size))
      clear hb
      go_wp2_with fail
      go_ret
      exact ⟨rfl, HB2.out⟩
    have d3 : decide (n < -1099511627776) = false := decide_eq_false hn
    have HA := Aside0.mk (fun W (h : Below w.heap.size w W) => AtC A c l (floatOfInt .f64 z0) (floatOfInt .f64 z1) W (Kd.C_below hrow h) hc hl)
    have HRA := Aside0.mk (fun W (h : Below w.heap.size w W) => RefAt A c l (floatOfInt .f64 z0) (floatOfInt .f64 z1) W (Kd.C_below hrow h) hc hl)
    have HP := Aside0.mk (fun W (h : Below w.heap.size w W) => Pts A c l W (Kd.C_below hrow h) hc hl)
    obtain ⟨N, hN⟩ : ∃ N, N = many l := ⟨_, rfl⟩
    rw [← hN] at HA HRA HP
    have hcs := atR_cases l (floatOfInt .f64 z0) (floatOfInt .f64 z1) N
    clear hrow hc hf hl hm hn hN
    obtain ⟨rk, hrk⟩ : ∃ rk, rk = (atR l (floatOfInt .f64 z0) (floatOfInt .f64 z1) N).1 := ⟨_, rfl⟩
    obtain ⟨rb, hrb⟩ : ∃ rb, rb = (atR l (floatOfInt .f64 z0) (floatOfInt .f64 z1) N).2 := ⟨_, rfl⟩
    rw [← hrk, ← hrb] at HA HRA
    have HCS : Aside0 ((∃ k : Nat, k < N ∧ ceq (ptV l k) (floatOfInt .f64 z0) (floatOfInt .f64 z1) = true ∧ rk = (k : Int) ∧ rb = true) ∨ (rk = 0 ∧ rb = false)) := ⟨by
      rcases hcs with ⟨k, h1, h2, h3⟩ | h3
      · exact .inl ⟨k, h1, h2, by rw [hrk, h3], by rw [hrb, h3]⟩
      · exact .inr ⟨by rw [hrk, h3], by rw [hrb, h3]⟩⟩
    clear hcs hrk hrb
    obtain ⟨pa, hpa⟩ : ∃ pa, pa = floatOfInt .f64 z0 := ⟨_, rfl⟩
    obtain ⟨pb, hpb⟩ : ∃ pb, pb = floatOfInt .f64 z1 := ⟨_, rfl⟩
    have hpa' := hpa.symm
    have hpb' := hpb.symm
    rw [hpa', hpb'] at HA HRA HCS
    clear hpa hpb
    go_enter Try.func5, Try.ntmps5
    go_upto_region 1 with fail
    rw [← HW0.out, ← HBB.out]
    have z0c := (blk_cell HX0.out 0).trans rfl
    have z1c := (blk_cell HX0.out 1).trans rfl
    go_wp2_with fail
    refine (HF.out _ HB0.out).mono ?_; rintro e w1 ⟨rfl, hd⟩
    have HB1 := Aside0.mk (HB0.out.trans (hd.below.mono HB0.out.size))
    have y0 := (blk_cell (blk_below HX0.out hd.below) 0).trans rfl
    have y1 := (blk_cell (blk_below HX0.out hd.below) 1).trans rfl
    clear hd z0c z1c
    go_wp2_with fail
    refine (HA.out _ HB1.out).mono ?_; rintro e w2 ⟨rfl, hb⟩
    have HB2 := Aside0.mk (HB1.out.trans (hb.mono HB1.out.size))
    clear hb y0 y1 m1 m2 m3 n1 n3 d1 d2 d3
    go_wp2_with fail
    refine (HRA.out _ HB2.out).mono ?_; rintro e w3 ⟨rfl, hb⟩
    have HB3 := Aside0.mk (HB2.out.trans (hb.mono HB2.out.size))
    clear hb
    go_wp2_with fail
    refine (HP.out _ HB3.out).mono ?_; rintro e w4 ⟨V, cv, rfl, hop, hb⟩
    have HB4 := Aside0.mk (HB3.out.trans (hb.mono HB3.out.size))
    have HO4 := Aside0.mk hop
    clear hb hop
    go_wp2_with fail
    refine (alive _).mono ?_; rintro e w5 ⟨rfl, hb⟩
    have HB5 := Aside0.mk (HB4.out.trans (hb.mono HB4.out.size))
    have HO5 := Aside0.mk (pw_own_below HO4.out hb)
    clear hb
    rcases HCS.out with ⟨k, hk, hce, rfl, rfl⟩ | ⟨rfl, rfl⟩
    · obtain ⟨ad, hV, x0⟩ := own_cell1 HO5.out k (ptV l k) (by rw [List.getElem?_map, List.getElem?_range hk]; rfl)
      subst hV
      obtain ⟨pv, hpv⟩ : ∃ pv, pv = ptV l k := ⟨_, rfl⟩
      rw [← hpv] at x0 hce
      have hpv1 : ∃ a b, pv = .complex .f64 a b := ⟨_, _, hpv⟩
      obtain ⟨qa, qb, rfl⟩ := hpv1
      have he : (FloatKind.f64.format.order qa pa == some .eq) = true ∧ (FloatKind.f64.format.order qb pb == some .eq) = true := by
        have : ((FloatKind.f64.format.order qa pa == some .eq) && (FloatKind.f64.format.order qb pb == some .eq)) = true := hce
        simpa using this
      obtain ⟨he1, he2⟩ := he
      have c1 : decide ((k : Int) < (N : Int)) = true := decide_eq_true (by omega)
      have c2 : decide (k < N) = true := decide_eq_true hk
      have q1 : ((0 : Int) ≤ (k : Int)) = True := eq_true (by omega)
      have q2 : ((k : Int) < (N : Int)) = True := eq_true (by omega)
      have q3 : (k < N) = True := eq_true hk
      clear hk hce hpv HCS
      go_wp2_with fail
      go_ret
      exact ⟨rfl, HB5.out⟩
    · clear HCS
      go_wp2_with fail
      go_ret
      exact ⟨rfl, HB5.out⟩
  · rw [decide_eq_false hf] at HF
    clear hrow hc hf
    go_enter Try.func5, Try.ntmps5
    go_upto_region 1 with fail
    rw [← HW0.out, ← HBB.out]
    have z0c := (blk_cell HX0.out 0).trans rfl
    have z1c := (blk_cell HX0.out 1).trans rfl
    go_wp2_with fail
    refine (HF.out _ HB0.out).mono ?_; rintro e w1 ⟨rfl, hd⟩
    have HB1 := Aside0.mk (HB0.out.trans (hd.below.mono HB0.out.size))
    clear hd z0c z1c
    go_wp2_with fail
    refine (alive _).mono ?_; rintro e w2 ⟨rfl, hb⟩
    have HB2 := Aside0.mk (HB1.out.trans (hb.mono HB1.out.size))
    clear hb
    go_wp2_with fail
    go_ret
    exact ⟨rfl, HB2.out⟩
end Go.Proofs.Ytcbemeooeecboaa.Rng
