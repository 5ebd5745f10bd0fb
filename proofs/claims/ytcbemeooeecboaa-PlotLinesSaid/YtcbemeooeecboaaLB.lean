/- The law PlotLines, walked. -/
import Derived.Test.YtcbemeooeecboaaLA
namespace Go.Proofs.Ytcbemeooeecboaa.Rng
open Go Go.RowKit Go.Proofs.Tree Go.Proofs.Flt Go.Proofs.YtcbemeooeecboaaW.PrintWords Go.Proofs.YtcbemeooeecboaaW.PrintLast Go.Proofs.YtcbemeooeecboaaW.PrintMore Go.Proofs.Ytcbemeooeecboaa.PK
set_option linter.unusedVariables false
set_option linter.unusedSimpArgs false
set_option maxHeartbeats 4000000
set_option maxRecDepth 100000
theorem flat2_get {α β : Type} (f g : α → β) : ∀ (l : List α) (k : Nat) (x : α), l[k]? = some x → (l.flatMap fun x => [f x, g x])[k * 2]? = some (f x) ∧ (l.flatMap fun x => [f x, g x])[k * 2 + 1]? = some (g x)
  | [], k, x, h => by cases k <;> simp at h
  | y :: r, 0, x, h => by injection h with h; subst h; exact ⟨rfl, rfl⟩
  | y :: r, k + 1, x, h => by
    have ih := flat2_get f g r k x h
    have e1 : (k + 1) * 2 = k * 2 + 2 := by omega
    rw [e1, List.flatMap_cons]
    exact ⟨ih.1, ih.2⟩
theorem order_ge (a b : Int) (ha : a.natAbs < 2 ^ 53) (hb : b.natAbs < 2 ^ 53) (h : b ≤ a) : (FloatKind.f64.format.order (flt a) (flt b) == some .lt) = false := by
  have e : FloatKind.f64.format.order (flt a) (flt b) = some (compare a b) := order_flt a b ha hb
  rw [e]
  show (some (compareOfLessAndEq a b) == some Ordering.lt) = false
  unfold compareOfLessAndEq
  rw [if_neg (by omega)]
  split <;> rfl
theorem order_lt (a b : Int) (ha : a.natAbs < 2 ^ 53) (hb : b.natAbs < 2 ^ 53) (h : a < b) : FloatKind.f64.format.order (flt a) (flt b) = some .lt := by
  have e : FloatKind.f64.format.order (flt a) (flt b) = some (compare a b) := order_flt a b ha hb
  rw [e]
  show some (compareOfLessAndEq a b) = some Ordering.lt
  unfold compareOfLessAndEq
  rw [if_pos h]
theorem lin_get {l : List S44} {N k : Nat} (hN : N = many l) (hk : k < (lin l N).length) : ∃ j p : Nat, (lin l N)[k]? = some j ∧ j < N ∧ topOf (st (kinds l) j).1 = (p : Int) ∧ p < j ∧ (st (kinds l) j).1.length = (st (kinds l) p).1.length + 1 ∧ (st (kinds l) p).2 ≤ (st (kinds l) j).2 := by
  obtain ⟨j, hj⟩ : ∃ j, (lin l N)[k]? = some j := ⟨_, List.getElem?_eq_getElem hk⟩
  have hm := List.mem_of_getElem? hj
  unfold lin at hm
  rw [List.mem_filter, List.mem_range] at hm
  obtain ⟨h1, h2⟩ := hm
  have h2 := of_decide_eq_true h2
  have ho : oneB l = true := by
    cases h : oneB l with
    | true => rfl
    | false => rw [hN] at h1; unfold many at h1; rw [h] at h1; simp at h1
  obtain ⟨t, ht⟩ := one_of ho
  have hjl : j < l.length := by rw [hN, ht.many] at h1; exact h1
  rcases ht.top j hjl with ⟨_, _, e⟩ | ⟨q, p, e, e2, hp, e3⟩
  · omega
  · refine ⟨j, p, hj, h1, e2, hp, ?_, ?_⟩
    · rw [ht.deep j hjl, ht.deep p (by omega), e, e3, List.length_append]; rfl
    · rw [← ht.leaf j (by omega), ← ht.leaf p (by omega)]
      exact leafN_mono _ (by omega)
theorem Lns (A : Option Addr) (c : Nat) (l : List S44) (w : World) (hrow : Kd.C k44 w A l.length l) (hc : l.length ≤ c) (hl : l.length < 4398046511104) :
    Calls Try.prog 15 #[.slice A l.length c] w fun e w' => ∃ V cv, e = .returned (.slice V (lin l (many l)).length cv) ∧ w'.ownsRow w.heap.size 31 2 (.slice V (lin l (many l)).length cv) (lin l (many l)).length (linC l (many l)) ∧ Below w.heap.size w w' := by
  refine (Lines A c l w hrow hc hl).mono ?_
  rintro e w' ⟨v, rfl, h1, h2⟩
  obtain ⟨V, cv, rfl⟩ := own_slice h1
  exact ⟨V, cv, rfl, h1, h2⟩
theorem RefLns (A : Option Addr) (c : Nat) (l : List S44) (w : World) (hrow : Kd.C k44 w A l.length l) (hc : l.length ≤ c) (hl : l.length < 4398046511104) :
    Calls Try.prog 16 #[.slice A l.length c] w fun e w' => ∃ V cv, e = .returned (.slice V (lin l (many l)).length cv) ∧ w'.ownsRow w.heap.size 31 2 (.slice V (lin l (many l)).length cv) (lin l (many l)).length (linC l (many l)) ∧ Below w.heap.size w w' := by
  refine (RefLines A c l w hrow hc hl).mono ?_
  rintro e w' ⟨v, rfl, h1, h2⟩
  obtain ⟨V, cv, rfl⟩ := own_slice h1
  exact ⟨V, cv, rfl, h1, h2⟩
theorem LinesLaw (A : Option Addr) (c : Nat) (l : List S44) (w : World) (hrow : Kd.C k44 w A l.length l) (hc : l.length ≤ c) :
    Calls Try.prog 4 #[.slice A l.length c] w fun e w' => e = .returned (.bool true) ∧ Below w.heap.size w w' := by
  have HF := Aside0.mk (Few A c l w hrow hc)
  by_cases hf : l.length ≤ 210
  · rw [decide_eq_true hf] at HF
    have hl : l.length < 4398046511104 := by omega
    have HP := Aside0.mk (fun W (h : Below w.heap.size w W) => Lns A c l W (Kd.C_below hrow h) hc hl)
    have HR := Aside0.mk (fun W (h : Below w.heap.size w W) => RefLns A c l W (Kd.C_below hrow h) hc hl)
    obtain ⟨N, hN⟩ : ∃ N, N = many l := ⟨_, rfl⟩
    rw [← hN] at HP HR
    have hNl : N ≤ 210 := by have := many_le l; omega
    have HN := Aside0.mk (And.intro hNl hN)
    obtain ⟨M, hM⟩ : ∃ M, M = (lin l N).length := ⟨_, rfl⟩
    have HM := Aside0.mk hM
    have hMl : M ≤ N := by rw [hM]; unfold lin; have := List.length_filter_le (fun j => decide (0 ≤ topOf (st (kinds l) j).1)) (List.range N); rw [List.length_range] at this; exact this
    have HML := Aside0.mk hMl
    rw [← hM] at HP HR
    clear hrow hc hf hl hNl hN hM hMl
    go_enter Try.func4, Try.ntmps4
    go_wp2_with fail
    refine HF.out.mono ?_; rintro e w1 ⟨rfl, hd⟩
    have HB1 := Aside0.mk hd.below
    clear hd
    go_wp2_with fail
    refine (HP.out _ HB1.out).mono ?_; rintro e w2 ⟨VP, cp, rfl, hop, hb⟩
    have HB2 := Aside0.mk (HB1.out.trans (hb.mono HB1.out.size))
    have HO2 := Aside0.mk hop
    clear hb hop
    go_wp2_with fail
    refine (HR.out _ HB2.out).mono ?_; rintro e w3 ⟨VR, cr, rfl, hor, hb⟩
    have HB3 := Aside0.mk (HB2.out.trans (hb.mono HB2.out.size))
    have HO3 := Aside0.mk (And.intro (pw_own_below HO2.out hb) hor)
    clear hb hor HO2
    go_wp2_with fail
    go_loopg [21] (M + 1) (fun kq v21 W' => ∃ j : Nat, v21 = .int .i64 (j : Int) ∧ Aside0 (kq + j = M + 1 ∧ j ≤ M) ∧ Aside0 (Below w3.heap.size w3 W'))
    case atStart => exact ⟨0, rfl, ⟨by omega, Nat.zero_le _⟩, ⟨Below.refl _ _⟩⟩
    case round =>
      obtain ⟨j, rfl, HJ, HB⟩ := hrel
      cases gk with
      | zero => exact absurd HJ.out.1 (by have := HJ.out.2; omega)
      | succ k1 =>
        by_cases hj : j < M
        · obtain ⟨i, p, hi, hiN, htop, hpi, hdeep, hx⟩ := lin_get HN.out.2 (show j < (lin l N).length by rw [← HM.out]; exact hj)
          obtain ⟨g1, _, e1, cc1⟩ := own_at0 (pw_own_below HO3.out.1 HB.out) (by omega)
          obtain ⟨g2, _, e2, cc2⟩ := own_at0 (pw_own_below HO3.out.2 HB.out) (by omega)
          injection e1 with e1 _ e1'
          injection e2 with e2 _ e2'
          subst e1
          subst e2
          have hcells : (linC l N)[j * 2]? = some (ptV l p) ∧ (linC l N)[j * 2 + 1]? = some (ptV l i) := by
            have := flat2_get (fun j => ptV l (topOf (st (kinds l) j).1).toNat) (fun j => ptV l j) (lin l N) j i hi
            rw [htop, Int.toNat_natCast] at this
            exact this
          have x0 := cc1 _ _ hcells.1
          have x1 := cc1 _ _ hcells.2
          have z0 := cc2 _ _ hcells.1
          have z1 := cc2 _ _ hcells.2
          have hnl := HN.out.1
          have s1 := st_leaves (kinds l) p
          have s2 := st_leaves (kinds l) i
          have s3 := st_len (kinds l) p
          have s4 := st_len (kinds l) i
          have c1 : decide ((j : Int) < (M : Int)) = true := decide_eq_true (by omega)
          have c2 : decide (j < M) = true := decide_eq_true hj
          have q1 : ((0 : Int) ≤ (j : Int)) = True := eq_true (by omega)
          have q2 : ((j : Int) < (M : Int)) = True := eq_true (by omega)
          have q3 : (j < M) = True := eq_true hj
          have f1 : floatBits .add .f64 (flt ((st (kinds l) p).1.length : Int)) 4607182418800017408 = some (flt ((st (kinds l) i).1.length : Int)) := by
            rw [← flt1, hdeep]; exact add_flt _ 1 (by omega) (by decide) (by omega)
          have r1 := fun w t => run_float_arith (P := Try.prog) w .add t _ _ _ _ f1
          have y1 : (FloatKind.f64.format.order (flt ((st (kinds l) i).1.length : Int)) (flt ((st (kinds l) i).1.length : Int)) != some .eq) = false := by
            have := fe_self (st (kinds l) i).1.length (by omega)
            simp [bne, this]
          have y2 := order_ge ((st (kinds l) i).2 : Int) ((st (kinds l) p).2 : Int) (by omega) (by omega) (by omega)
          have a1 := fe_self (st (kinds l) p).2 (by omega)
          have a2 := fe_self (st (kinds l) p).1.length (by omega)
          have a3 := fe_self (st (kinds l) i).2 (by omega)
          have a4 := fe_self (st (kinds l) i).1.length (by omega)
          have eqm : ∀ W : World, (Op.equalIn 10000 31 (.agg #[.complex .f64 (flt ((st (kinds l) p).2 : Int)) (flt ((st (kinds l) p).1.length : Int)), .complex .f64 (flt ((st (kinds l) i).2 : Int)) (flt ((st (kinds l) i).1.length : Int))]) (.agg #[.complex .f64 (flt ((st (kinds l) p).2 : Int)) (flt ((st (kinds l) p).1.length : Int)), .complex .f64 (flt ((st (kinds l) i).2 : Int)) (flt ((st (kinds l) i).1.length : Int))])).run Try.prog W = .ok true W := fun W => by
            rw [eqi31]; unfold fe; rw [a1, a2, a3, a4]; rfl
          have nem : ∀ W : World, (binOp .neq 31 (.agg #[.complex .f64 (flt ((st (kinds l) p).2 : Int)) (flt ((st (kinds l) p).1.length : Int)), .complex .f64 (flt ((st (kinds l) i).2 : Int)) (flt ((st (kinds l) i).1.length : Int))]) (.agg #[.complex .f64 (flt ((st (kinds l) p).2 : Int)) (flt ((st (kinds l) p).1.length : Int)), .complex .f64 (flt ((st (kinds l) i).2 : Int)) (flt ((st (kinds l) i).1.length : Int))])).run Try.prog W = .ok (.bool false) W := fun W => by
            rw [run_ne31 W 31 rfl]; unfold fe; rw [a1, a2, a3, a4]; rfl
          rw [pt_flt] at x0 x1 z0 z1
          have HJ2 := Aside0.mk hj
          have HW2 : Aside0 (wrap64 ((j : Int) + 1) = ((j + 1 : Nat) : Int)) := ⟨wadd1 j (by have := HML.out; omega)⟩
          clear hj hnl hi hiN htop hpi hdeep hx cc1 cc2 e1' e2' hcells s1 s2 s3 s4 f1 a1 a2 a3 a4
          generalize flt ((st (kinds l) p).2 : Int) = px at *
          generalize flt ((st (kinds l) p).1.length : Int) = py at *
          generalize flt ((st (kinds l) i).2 : Int) = ix at *
          generalize flt ((st (kinds l) i).1.length : Int) = iy at *
          go_upto_region 9 with fail
          go_quiet (fail)
          have HB2 := Aside0.mk (pw_below_drewN HB.out nq)
          go_wp2_with fail
          go_roundg k1
          · exact ⟨j + 1, congrArg (Value.int .i64) HW2.out, ⟨by have := HJ.out; omega, HJ2.out⟩, HB2⟩
          · exact Nat.lt_succ_self _
        · have c1 : decide ((j : Int) < (M : Int)) = false := decide_eq_false (by omega)
          have c2 : decide (j < M) = false := decide_eq_false hj
          clear hj
          go_wp2_with fail
          refine (alive _).mono ?_; rintro e w6 ⟨rfl, hb⟩
          have HB6 := Aside0.mk (((HB3.out.trans (HB.out.mono HB3.out.size))).trans (hb.mono (HB3.out.trans (HB.out.mono HB3.out.size)).size))
          clear hb
          go_wp2_with fail
          go_ret
          exact ⟨rfl, HB6.out⟩
  · rw [decide_eq_false hf] at HF
    clear hrow hc hf
    go_enter Try.func4, Try.ntmps4
    go_wp2_with fail
    refine HF.out.mono ?_; rintro e w1 ⟨rfl, hd⟩
    have HB1 := Aside0.mk hd.below
    clear hd
    go_wp2_with fail
    refine (alive _).mono ?_; rintro e w2 ⟨rfl, hb⟩
    have HB2 := Aside0.mk (HB1.out.trans (hb.mono HB1.out.size))
    clear hb
    go_wp2_with fail
    go_ret
    exact ⟨rfl, HB2.out⟩
end Go.Proofs.Ytcbemeooeecboaa.Rng
