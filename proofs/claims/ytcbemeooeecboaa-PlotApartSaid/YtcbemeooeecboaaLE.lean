/- The law PlotApart, walked. -/
import Derived.Test.YtcbemeooeecboaaLA
namespace Go.Proofs.Ytcbemeooeecboaa.Rng
open Go Go.RowKit Go.Proofs.Tree Go.Proofs.Flt Go.Proofs.YtcbemeooeecboaaW.PrintWords Go.Proofs.YtcbemeooeecboaaW.PrintLast Go.Proofs.YtcbemeooeecboaaW.PrintMore Go.Proofs.Ytcbemeooeecboaa.PK
set_option linter.unusedVariables false
set_option linter.unusedSimpArgs false
set_option maxHeartbeats 4000000
set_option maxRecDepth 100000
/-- Behind node j the points lie elsewhere: more leaves, or deeper. -/
theorem st_mono {l : List S44} {t : Tr S44} (h : One' l t) {i j : Nat} (hij : i < j) (hj : j < l.length) : (st (kinds l) i).2 < (st (kinds l) j).2 ∨ ((st (kinds l) i).2 = (st (kinds l) j).2 ∧ (st (kinds l) i).1.length < (st (kinds l) j).1.length) := by
  induction j with
  | zero => omega
  | succ j ih =>
    have hstep : (st (kinds l) j).2 < (st (kinds l) (j + 1)).2 ∨ ((st (kinds l) j).2 = (st (kinds l) (j + 1)).2 ∧ (st (kinds l) j).1.length < (st (kinds l) (j + 1)).1.length) := by
      show (st (kinds l) j).2 < stepX _ _ ∨ ((st (kinds l) j).2 = stepX _ _ ∧ _ < (stepS j _ _).length)
      unfold stepX stepS
      by_cases h0 : 0 < ar ((kinds l).getD j 0)
      · rw [if_pos h0, if_pos h0]
        exact .inr ⟨rfl, by rw [List.length_cons, dec_len]; omega⟩
      · rw [if_neg h0]; exact .inl (by omega)
    rcases Nat.lt_or_ge i j with h1 | h1
    · have := ih h1 (by omega)
      omega
    · have e : i = j := by omega
      subst e
      exact hstep
theorem apart {l : List S44} {i j : Nat} (hij : i < j) (hj : j < many l) : ((FloatKind.f64.format.order (flt ((st (kinds l) j).2 : Int)) (flt ((st (kinds l) i).2 : Int)) == some .eq) && (FloatKind.f64.format.order (flt ((st (kinds l) j).1.length : Int)) (flt ((st (kinds l) i).1.length : Int)) == some .eq)) = false ∨ 4398046511104 ≤ j := by
  by_cases hb : 4398046511104 ≤ j
  · exact .inr hb
  have ho : oneB l = true := by
    cases h : oneB l with
    | true => rfl
    | false => unfold many at hj; rw [h] at hj; simp at hj
  obtain ⟨t, ht⟩ := one_of ho
  rw [ht.many] at hj
  have h1 := st_mono ht hij hj
  have s1 := st_leaves (kinds l) i
  have s2 := st_leaves (kinds l) j
  have s3 := st_len (kinds l) i
  have s4 := st_len (kinds l) j
  have f1 : (FloatKind.f64.format.order (flt ((st (kinds l) j).2 : Int)) (flt ((st (kinds l) i).2 : Int)) == some .eq) = decide (((st (kinds l) j).2 : Int) = ((st (kinds l) i).2 : Int)) := fe_flt _ _ (by omega) (by omega)
  have f2 : (FloatKind.f64.format.order (flt ((st (kinds l) j).1.length : Int)) (flt ((st (kinds l) i).1.length : Int)) == some .eq) = decide (((st (kinds l) j).1.length : Int) = ((st (kinds l) i).1.length : Int)) := fe_flt _ _ (by omega) (by omega)
  refine .inl ?_
  rw [f1, f2]
  rcases h1 with h1 | ⟨h1, h2⟩
  · rw [decide_eq_false (by omega)]; rfl
  · rw [decide_eq_false (show ¬ ((st (kinds l) j).1.length : Int) = ((st (kinds l) i).1.length : Int) by omega), Bool.and_false]
theorem own_le' {w : World} {base n m c size : Nat} {e : TypeId} {A : Option Addr} {xs : List Value} (h : w.ownsRow base e size (.slice A m c) n xs) : m ≤ c := by
  rcases h.2 with ⟨he, _⟩ | ⟨g, cap, cur, he, _, _, hnc, _⟩
  · injection he with _ h2 h3
    omega
  · injection he with _ h2 h3
    omega
theorem order_ge (a b : Int) (ha : a.natAbs < 2 ^ 53) (hb : b.natAbs < 2 ^ 53) (h : b ≤ a) : (FloatKind.f64.format.order (flt a) (flt b) == some .lt) = false := by
  have e : FloatKind.f64.format.order (flt a) (flt b) = some (compare a b) := order_flt a b ha hb
  rw [e]
  show (some (compareOfLessAndEq a b) == some Ordering.lt) = false
  unfold compareOfLessAndEq
  rw [if_neg (by omega)]
  split <;> rfl
theorem order_lt (a b : Int) (ha : a.natAbs < 2 ^ 53) (hb : b.natAbs < 2 ^ 53) (h : a < b) : FloatKind.f64.format.order (flt a) (flt b) = some .lt := by
  have e : FloatKind.f64.format.order (flt a) (flt b) = some (compare a b) := order_flt a b ha hb
  rw [e]
  show some (compareOfLessAndEq a b) = some Ordering.lt
  unfold compareOfLessAndEq
  rw [if_pos h]
theorem ApartLaw (A : Option Addr) (c : Nat) (l : List S44) (w : World) (hrow : Kd.C k44 w A l.length l) (hc : l.length ≤ c) :
    Calls Try.prog 7 #[.slice A l.length c] w fun e w' => e = .returned (.bool true) ∧ Below w.heap.size w w' := by
  have HF := Aside0.mk (Few A c l w hrow hc)
  by_cases hf : l.length ≤ 210
  · rw [decide_eq_true hf] at HF
    have hl : l.length < 4398046511104 := by omega
    have HP := Aside0.mk (fun W (h : Below w.heap.size w W) => Pts A c l W (Kd.C_below hrow h) hc hl)
    have HX := Aside0.mk (fun W (h : Below w.heap.size w W) => Box A c l W (Kd.C_below hrow h) hc hl)
    have HSZ := Aside0.mk (fun W (h : Below w.heap.size w W) => SizeC A c l W (Kd.C_below hrow h) hc (by omega))
    obtain ⟨N, hN⟩ : ∃ N, N = many l := ⟨_, rfl⟩
    rw [← hN] at HP HX
    have hNl : N ≤ 210 := by have := many_le l; omega
    have HN := Aside0.mk (And.intro hNl hN)
    have HE : Aside0 (decide (0 < N) = (decide (size S44.f0 l = l.length) && decide (0 < l.length))) := ⟨by
      rw [hN]
      by_cases h0 : l.length = 0
      · rw [many_zero (fun h => h.1 h0), decide_eq_false (show ¬ 0 < 0 by omega), decide_eq_false (show ¬ 0 < l.length by omega), Bool.and_false]
      · by_cases h1 : size S44.f0 l = l.length
        · rw [many_one h0 h1, decide_eq_true h1, decide_eq_true (show 0 < l.length by omega)]; rfl
        · rw [many_zero (fun h => h1 h.2), decide_eq_false h1]; rfl⟩
    clear hrow hc hf hl hNl hN
    go_enter Try.func7, Try.ntmps7
    go_wp2_with fail
    refine HF.out.mono ?_; rintro e w1 ⟨rfl, hd⟩
    have HB1 := Aside0.mk hd.below
    clear hd
    go_wp2_with fail
    refine (HP.out _ HB1.out).mono ?_; rintro e w2 ⟨VP, cp, rfl, hop, hb⟩
    have HB2 := Aside0.mk (HB1.out.trans (hb.mono HB1.out.size))
    have HO2 := Aside0.mk hop
    clear hb hop
    go_wp2_with fail
    refine (HX.out _ HB2.out).mono ?_; rintro e w3 ⟨rfl, hb⟩
    have HB3 := Aside0.mk (HB2.out.trans (hb.mono HB2.out.size))
    have HO3 := Aside0.mk (pw_own_below HO2.out hb)
    clear hb HO2
    obtain ⟨bx, hbx⟩ : ∃ bx, bx = flt (boxX (kinds l) N : Int) := ⟨_, rfl⟩
    obtain ⟨bY, hbY⟩ : ∃ bY, bY = flt (boxY (kinds l) N : Int) := ⟨_, rfl⟩
    rw [← hbx, ← hbY]
    have HBX := Aside0.mk (And.intro hbx hbY)
    clear hbx hbY
    go_wp2_with fail
    go_loopg [20] (N + 1) (fun kq v20 W' => ∃ j : Nat, v20 = .int .i64 (j : Int) ∧ Aside0 (kq + j = N + 1 ∧ j ≤ N) ∧ Aside0 (Below w3.heap.size w3 W'))
    case atStart => exact ⟨0, rfl, ⟨by omega, Nat.zero_le _⟩, ⟨Below.refl _ _⟩⟩
    case round =>
      obtain ⟨j, rfl, HJ, HB⟩ := hrel
      cases gk with
      | zero => exact absurd HJ.out.1 (by have := HJ.out.2; omega)
      | succ k1 =>
        by_cases hj : j < N
        · obtain ⟨ad, hV, x0⟩ := own_cell1 (pw_own_below HO3.out HB.out) j (ptV l j) (by rw [List.getElem?_map, List.getElem?_range hj]; rfl)
          subst hV
          obtain ⟨X, hX⟩ : ∃ X, X = (st (kinds l) j).2 := ⟨_, rfl⟩
          obtain ⟨Y, hY⟩ : ∃ Y, Y = (st (kinds l) j).1.length := ⟨_, rfl⟩
          obtain ⟨BX, hBX⟩ : ∃ BX, BX = boxX (kinds l) N := ⟨_, rfl⟩
          obtain ⟨BY, hBY⟩ : ∃ BY, BY = boxY (kinds l) N := ⟨_, rfl⟩
          have g1 := boxX_ge (kinds l) N j hj
          have g2 := boxY_ge (kinds l) N j hj
          have g3 := boxX_le (kinds l) N
          have g4 := boxY_le (kinds l) N
          have g5 := HN.out.1
          rw [← hX, ← hBX] at g1
          rw [← hY, ← hBY] at g2
          rw [← hBX] at g3
          rw [← hBY] at g4
          rw [pt_flt, ← hX, ← hY] at x0
          have ebx : bx = flt (BX : Int) := by rw [HBX.out.1, hBX]
          have ebY : bY = flt (BY : Int) := by rw [HBX.out.2, hBY]
          have HNE : Aside0 (∀ i, i < j → ((FloatKind.f64.format.order (flt (X : Int)) (flt ((st (kinds l) i).2 : Int)) == some .eq) && (FloatKind.f64.format.order (flt (Y : Int)) (flt ((st (kinds l) i).1.length : Int)) == some .eq)) = false) := ⟨fun i hi => by
            rcases apart (l := l) hi (by rw [← HN.out.2]; exact hj) with h | h
            · rw [hX, hY]; exact h
            · omega⟩
          have T1 := fun W => Turn (X : Int) (Y : Int) (BX : Int) (BY : Int) (by omega) (by omega) W
          have T2 := fun W => Turn ((BX : Int) - 1 - (X : Int)) (Y : Int) (BX : Int) (BY : Int) (by omega) (by omega) W
          have T3 := fun W => RefTurn (X : Int) (Y : Int) (BX : Int) (BY : Int) (by omega) (by omega) W
          rw [show (BX : Int) - 1 - ((BX : Int) - 1 - (X : Int)) = (X : Int) by omega] at T2
          have a1 := fe_self X (by omega)
          have a2 := fe_self Y (by omega)
          have a3 : (FloatKind.f64.format.order (flt ((BX : Int) - 1 - (X : Int))) (flt ((BX : Int) - 1 - (X : Int))) == some .eq) = true := by
            have := fe_flt ((BX : Int) - 1 - (X : Int)) ((BX : Int) - 1 - (X : Int)) (by omega) (by omega)
            rw [decide_eq_true rfl] at this; exact this
          have b1 := order_ge (X : Int) 0 (by omega) (by omega) (by omega)
          have b2 := order_ge ((BX : Int) - 1 - (X : Int)) 0 (by omega) (by omega) (by omega)
          have b3 := order_ge (Y : Int) 0 (by omega) (by omega) (by omega)
          rw [flt0] at b1 b2 b3
          have e1 := order_lt (X : Int) (BX : Int) (by omega) (by omega) (by omega)
          have e2 := order_lt (Y : Int) (BY : Int) (by omega) (by omega) (by omega)
          have c1 : decide ((j : Int) < (N : Int)) = true := decide_eq_true (by omega)
          have c2 : decide (j < N) = true := decide_eq_true hj
          have q1 : ((0 : Int) ≤ (j : Int)) = True := eq_true (by omega)
          have q2 : ((j : Int) < (N : Int)) = True := eq_true (by omega)
          have q3 : (j < N) = True := eq_true hj
          have HJ2 := Aside0.mk hj
          have HW2 : Aside0 (wrap64 ((j : Int) + 1) = ((j + 1 : Nat) : Int)) := ⟨wadd1 j (by omega)⟩
          rw [← ebx, ← ebY] at T1 T2 T3
          rw [← ebx] at e1
          rw [← ebY] at e2
          obtain ⟨px, hpx⟩ : ∃ px, px = flt (X : Int) := ⟨_, rfl⟩
          obtain ⟨py, hpy⟩ : ∃ py, py = flt (Y : Int) := ⟨_, rfl⟩
          obtain ⟨tx, htx⟩ : ∃ tx, tx = flt ((BX : Int) - 1 - (X : Int)) := ⟨_, rfl⟩
          rw [← hpx] at x0 T1 T2 T3 a1 b1 e1 HNE
          rw [← hpy] at x0 T1 T2 T3 a2 b3 e2 HNE
          rw [← htx] at T1 T2 T3 a3 b2
          have HT1 := Aside0.mk T1
          have HT2 := Aside0.mk T2
          have HT3 := Aside0.mk T3
          have hcut := cut_to (P := Try.prog) 25 27 .i64 Try.underlying25 info27'.choose_spec (some ad) N cp (j : Int) (by omega) (by omega) (own_le' HO3.out)
          rw [Int.toNat_natCast] at hcut
          clear hj hX hY hBX hBY g1 g2 g3 g4 g5 ebx ebY hpx hpy htx T1 T2 T3
          go_wp2_with fail
          refine (HT1.out _).mono ?_; rintro e w4 ⟨rfl, hb⟩
          have HB4 := Aside0.mk (HB.out.trans (hb.mono HB.out.size))
          clear hb x0
          go_wp2_with fail
          refine (HT2.out _).mono ?_; rintro e w5 ⟨rfl, hb⟩
          have HB5 := Aside0.mk (HB4.out.trans (hb.mono HB4.out.size))
          clear hb
          go_wp2_with fail
          refine (HT3.out _).mono ?_; rintro e w6 ⟨rfl, hb⟩
          have HB6 := Aside0.mk (HB5.out.trans (hb.mono HB5.out.size))
          clear hb
          go_wp2_with fail
          clear hcut a1 a2 a3 b1 b2 b3 e1 e2 c1 c2 q1 q2 q3
          go_loopg [73] (j + 1) (fun kq v73 W' => ∃ i : Nat, v73 = .int .i64 (i : Int) ∧ Aside0 (kq + i = j + 1 ∧ i ≤ j) ∧ Aside0 (Below w3.heap.size w3 W'))
          case atStart => exact ⟨0, rfl, ⟨by omega, Nat.zero_le _⟩, HB6⟩
          case round =>
            clear HB HB4 HB5 HB6
            obtain ⟨i, rfl, HI, HB⟩ := hrel
            cases gk with
            | zero => exact absurd HI.out.1 (by have := HI.out.2; omega)
            | succ k2 =>
              by_cases hi : i < j
              · obtain ⟨ad2, hV2, x0⟩ := own_cell1 (pw_own_below HO3.out HB.out) i (ptV l i) (by rw [List.getElem?_map, List.getElem?_range (by have := HJ2.out; omega)]; rfl)
                obtain rfl := Option.some.inj hV2
                have hne := HNE.out i hi
                rw [pt_flt] at x0
                have hr := fun w t => (run_eql_complex (P := Try.prog) w t .f64 px py (flt ((st (kinds l) i).2 : Int)) (flt ((st (kinds l) i).1.length : Int)))
                rw [hne] at hr
                have c1 : decide ((i : Int) < (j : Int)) = true := decide_eq_true (by omega)
                have c2 : decide (i < j) = true := decide_eq_true hi
                have q1 : ((0 : Int) ≤ (i : Int)) = True := eq_true (by omega)
                have q2 : ((i : Int) < (j : Int)) = True := eq_true (by omega)
                have q3 : (i < j) = True := eq_true hi
                have HI2 := Aside0.mk hi
                have HW3 : Aside0 (wrap64 ((i : Int) + 1) = ((i + 1 : Nat) : Int)) := ⟨wadd1 i (by have := HN.out.1; have := HJ2.out; omega)⟩
                clear hi hne hV2
                generalize flt ((st (kinds l) i).2 : Int) = ix at *
                generalize flt ((st (kinds l) i).1.length : Int) = iy at *
                go_wp2_with fail
                go_roundg k2
                · exact ⟨i + 1, congrArg (Value.int .i64) HW3.out, ⟨by have := HI.out; omega, HI2.out⟩, HB⟩
                · exact Nat.lt_succ_self _
              · have c1 : decide ((i : Int) < (j : Int)) = false := decide_eq_false (by omega)
                have c2 : decide (i < j) = false := decide_eq_false hi
                clear hi
                go_wp2_with fail
                go_roundg k1
                · exact ⟨j + 1, congrArg (Value.int .i64) HW2.out, ⟨by have := HJ.out; omega, HJ2.out⟩, HB⟩
                · exact Nat.lt_succ_self _
        · have c1 : decide ((j : Int) < (N : Int)) = false := decide_eq_false (by omega)
          have c2 : decide (j < N) = false := decide_eq_false hj
          clear hj
          have HBX2 := Aside0.mk (HB3.out.trans (HB.out.mono HB3.out.size))
          go_wp2_with fail
          refine (alive _).mono ?_; rintro e w4 ⟨rfl, hb⟩
          have HB4 := Aside0.mk (HBX2.out.trans (hb.mono HBX2.out.size))
          clear hb
          go_wp2_with fail
          refine (HSZ.out _ HB4.out).mono ?_; rintro e w5 ⟨rfl, hb⟩
          have HB5 := Aside0.mk (HB4.out.trans (hb.mono HB4.out.size))
          clear hb
          obtain ⟨bs, hbs⟩ : ∃ bs, bs = decide (size S44.f0 l = l.length) := ⟨_, rfl⟩
          obtain ⟨b0, hb0⟩ : ∃ b0, b0 = decide (0 < l.length) := ⟨_, rfl⟩
          have hE := HE.out
          rw [← hbs, ← hb0] at hE
          have t1 : (((size S44.f0 l : Nat) : Int) == (l.length : Int)) = bs := by rw [hbs]; by_cases h : size S44.f0 l = l.length <;> simp [h]; omega
          have t2 : (size S44.f0 l == l.length) = bs := by rw [hbs]; by_cases h : size S44.f0 l = l.length <;> simp [h]
          have t3 : decide ((l.length : Int) > 0) = b0 := by rw [hb0, decide_eq_decide]; omega
          have t4 : decide ((0 : Int) < (l.length : Int)) = b0 := by rw [hb0, decide_eq_decide]; omega
          have t5 : decide (0 < l.length) = b0 := hb0.symm
          have t6 : decide ((N : Int) > 0) = (bs && b0) := by rw [← hE, decide_eq_decide]; omega
          have t7 : decide ((0 : Int) < (N : Int)) = (bs && b0) := by rw [← hE, decide_eq_decide]; omega
          obtain ⟨sz, hsz⟩ : ∃ sz, sz = size S44.f0 l := ⟨_, rfl⟩
          rw [← hsz] at t1 t2 ⊢
          clear hbs hb0 HE hsz
          cases bs with
          | true =>
            cases b0 with
            | true =>
              go_wp2_with fail
              go_ret
              exact ⟨rfl, HB5.out⟩
            | false =>
              go_wp2_with fail
              go_ret
              exact ⟨rfl, HB5.out⟩
          | false =>
            cases b0 with
            | true =>
              go_wp2_with fail
              go_ret
              exact ⟨rfl, HB5.out⟩
            | false =>
              go_wp2_with fail
              go_ret
              exact ⟨rfl, HB5.out⟩
  · rw [decide_eq_false hf] at HF
    clear hrow hc hf
    go_enter Try.func7, Try.ntmps7
    go_wp2_with fail
    refine HF.out.mono ?_; rintro e w1 ⟨rfl, hd⟩
    have HB1 := Aside0.mk hd.below
    clear hd
    go_wp2_with fail
    refine (alive _).mono ?_; rintro e w2 ⟨rfl, hb⟩
    have HB2 := Aside0.mk (HB1.out.trans (hb.mono HB1.out.size))
    clear hb
    go_wp2_with fail
    go_ret
    exact ⟨rfl, HB2.out⟩
end Go.Proofs.Ytcbemeooeecboaa.Rng
