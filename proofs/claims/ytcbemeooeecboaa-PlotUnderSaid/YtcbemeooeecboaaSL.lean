/- The reference's At and Lines: their contracts. -/
import Derived.Test.YtcbemeooeecboaaSF
import Derived.Test.YtcbemeooeecboaaRL
namespace Go.Proofs.Ytcbemeooeecboaa.Rng
open Go Go.RowKit Go.Shelf Go.Proofs.Tree Go.Proofs.YtcbemeooeecboaaW.PrintWords Go.Proofs.YtcbemeooeecboaaW.PrintLast Go.Proofs.YtcbemeooeecboaaW.PrintMore Go.Proofs.Ytcbemeooeecboaa.PK
set_option linter.unusedVariables false
set_option linter.unusedSimpArgs false
set_option maxHeartbeats 4000000
set_option maxRecDepth 100000
theorem RefPts (A : Option Addr) (c : Nat) (l : List S44) (w : World) (hrow : Kd.C k44 w A l.length l) (hc : l.length ≤ c) (hl : l.length < 4398046511104) :
    Calls Try.prog 12 #[.slice A l.length c] w fun e w' => ∃ V cv, e = .returned (.slice V (many l) cv) ∧ w'.ownsRow w.heap.size 27 1 (.slice V (many l) cv) (many l) ((List.range (many l)).map (ptV l)) ∧ Below w.heap.size w w' := by
  refine (RefPoints A c l w hrow hc hl).mono ?_
  rintro e w' ⟨v, rfl, h1, h2⟩
  rw [rpts, List.length_map, List.length_range] at h1
  obtain ⟨V, cv, rfl⟩ := own_slice h1
  exact ⟨V, cv, rfl, h1, h2⟩
theorem RefAt (A : Option Addr) (c : Nat) (l : List S44) (pa pb : Nat) (w : World) (hrow : Kd.C k44 w A l.length l) (hc : l.length ≤ c) (hl : l.length < 4398046511104) :
    Calls Try.prog 18 #[.slice A l.length c, .complex .f64 pa pb] w fun e w' => e = .returned (.tuple #[.int .i64 (atR l pa pb (many l)).1, .bool (atR l pa pb (many l)).2]) ∧ Below w.heap.size w w' := by
  have HP := Aside0.mk (RefPts A c l w hrow hc hl)
  obtain ⟨N, hN⟩ : ∃ N, N = many l := ⟨_, rfl⟩
  rw [← hN] at HP
  have HN : Aside0 (N < 4398046511104) := ⟨by have := many_le l; omega⟩
  rw [← hN]
  clear hrow hc hl hN
  go_enter Try.func18, Try.ntmps18
  go_wp2_with fail
  refine HP.out.mono ?_; rintro e w1 ⟨V, cv, rfl, hown, hb⟩
  have HO := Aside0.mk hown
  have HB := Aside0.mk hb
  clear hown hb
  go_wp2_with fail
  go_loopg [7] (N + 1) (fun kq v7 W' => ∃ j : Nat, v7 = .int .i64 (j : Int) ∧ Aside0 (kq + j = N + 1 ∧ j ≤ N) ∧ Aside0 (W' = w1) ∧ Aside0 (∀ i, i < j → ceq (ptV l i) pa pb = false))
  case atStart => exact ⟨0, rfl, ⟨by omega, Nat.zero_le _⟩, ⟨rfl⟩, ⟨fun i h => absurd h (Nat.not_lt_zero i)⟩⟩
  case round =>
    obtain ⟨j, rfl, HJ, HW, HC⟩ := hrel
    have hw := HW.out
    subst hw
    cases gk with
    | zero => exact absurd HJ.out.1 (by have := HJ.out.2; omega)
    | succ k1 =>
      by_cases hj : j < N
      · obtain ⟨ad, hV, x0⟩ := own_cell1 HO.out j (ptV l j) (by rw [List.getElem?_map, List.getElem?_range hj]; rfl)
        subst hV
        have c1 : decide ((j : Int) < (N : Int)) = true := decide_eq_true (by omega)
        have c2 : decide (j < N) = true := decide_eq_true hj
        have q1 : ((0 : Int) ≤ (j : Int)) = True := eq_true (by omega)
        have q2 : ((j : Int) < (N : Int)) = True := eq_true (by omega)
        have q3 : (j < N) = True := eq_true hj
        have HJ2 := Aside0.mk hj
        have HW2 : Aside0 (wrap64 ((j : Int) + 1) = ((j + 1 : Nat) : Int)) := ⟨wadd1 j (Nat.lt_trans (Nat.lt_trans hj HN.out) (by decide))⟩
        obtain ⟨pv, hpv⟩ : ∃ pv, pv = ptV l j := ⟨_, rfl⟩
        rw [← hpv] at x0
        have hpv1 : ∃ a b, pv = .complex .f64 a b := ⟨_, _, hpv⟩
        obtain ⟨qa, qb, rfl⟩ := hpv1
        obtain ⟨bo, hbo⟩ : ∃ bo, bo = ((FloatKind.f64.format.order qa pa == some .eq) && (FloatKind.f64.format.order qb pb == some .eq)) := ⟨_, rfl⟩
        have hr := fun w t => (run_eql_complex (P := Try.prog) w t .f64 qa qb pa pb)
        rw [← hbo] at hr
        have hce : ceq (ptV l j) pa pb = bo := by rw [← hpv, hbo]; rfl
        have HCE := Aside0.mk hce
        clear hpv hbo hj hce
        cases bo with
        | true =>
          go_wp2_with fail
          (try rw [Exit.noGoto_ret])
          go_ret2
          exact ⟨by rw [atR_some HJ2.out HCE.out HC.out]; rfl, HB.out⟩
        | false =>
          go_wp2_with fail
          go_roundg k1
          · refine ⟨j + 1, congrArg (Value.int .i64) HW2.out, ⟨by have := HJ.out; omega, HJ2.out⟩, ⟨rfl⟩, ⟨fun i hi => ?_⟩⟩
            rcases Nat.lt_or_ge i j with h | h
            · exact HC.out i h
            · have : i = j := by omega
              rw [this]; exact HCE.out
          · exact Nat.lt_succ_self _
      · have c1 : decide ((j : Int) < (N : Int)) = false := decide_eq_false (by omega)
        have c2 : decide (j < N) = false := decide_eq_false hj
        have HF := Aside0.mk (show j = N by have := HJ.out; omega)
        clear hj
        go_wp2_with fail
        go_ret2
        exact ⟨by rw [atR_none (fun k hk => HC.out k (by rw [HF.out]; exact hk))]; rfl, HB.out⟩
/-- A region that draws its order: what holds in every world that it goes through is taken first. -/
theorem wp_held {P : Program} {ops : Array Oper} {Q : Exit → Act → World → Prop} {S : World → Prop} {id : Nat} {a : Act} {w : World} (m : Nat) (hsz : ops.size = m) (hm : P.follows .mixedOrders = true) (hS : S w.drew)
    (h : S w.drew → wpAnyH P .any ops Q S m (Array.replicate m false) a w.drew) : (Code.region id ops true).wp P Q a w := by
  subst hsz
  exact wp_region_held hm (h hS)
theorem linC_succ (l : List S44) (m p : Nat) (h : topOf (st (kinds l) m).1 = (p : Int)) : (lin l (m + 1)).length = (lin l m).length + 1 ∧ linC l (m + 1) = linC l m ++ [ptV l p, ptV l m] := by
  have e : lin l (m + 1) = lin l m ++ [m] := by rw [lin_succ, if_pos (by omega)]
  refine ⟨by rw [e, List.length_append]; rfl, ?_⟩
  unfold linC
  rw [e, List.flatMap_append]
  congr 1
  rw [List.flatMap_cons, List.flatMap_nil, List.append_nil, h, Int.toNat_natCast]
theorem lin_one (l : List S44) : lin l 1 = [] := by
  rw [show (1 : Nat) = 0 + 1 from rfl, lin_succ]
  show [] ++ (if 0 ≤ topOf [] then _ else _) = _
  rw [if_neg (by decide)]; rfl
theorem RefLines (A : Option Addr) (c : Nat) (l : List S44) (w : World) (hrow : Kd.C k44 w A l.length l) (hc : l.length ≤ c) (hl : l.length < 4398046511104) :
    Calls Try.prog 16 #[.slice A l.length c] w fun e w' => ∃ v, e = .returned v ∧ w'.ownsRow w.heap.size 31 2 v (lin l (many l)).length (linC l (many l)) ∧ Below w.heap.size w w' := by
  obtain ⟨i0, hi, hz0, hz1, hz2⟩ := info_parts info31
  have HHI := Aside0.mk (And.intro hi (And.intro hz0 (And.intro hz1 hz2)))
  have HP := Aside0.mk (RefPts A c l w hrow hc hl)
  have HOV := Aside0.mk (fun (k : Nat) w' (h : Below w.heap.size w w') => RefOver A c l (k : Int) w' (Kd.C_below hrow h) hc hl)
  obtain ⟨N, hN⟩ : ∃ N, N = many l := ⟨_, rfl⟩
  rw [← hN] at HP
  have HN : Aside0 (N < 4398046511104) := ⟨by have := many_le l; omega⟩
  have HNT : Aside0 (∀ k, 0 < k → k < N → ∃ (q : List Int) (p : Nat), refOver l (k : Int) = q ++ [(p : Int)] ∧ topOf (st (kinds l) k).1 = (p : Int) ∧ p < k) := ⟨fun k h0 hk => by
    have ho : oneB l = true := by
      cases h : oneB l with
      | true => rfl
      | false => rw [hN] at hk; unfold many at hk; rw [h] at hk; simp at hk
    obtain ⟨t, ht⟩ := one_of ho
    rw [hN, ht.many] at hk
    rcases ht.top k hk with ⟨_, e, _⟩ | ⟨q, p, e, e2, hp, _⟩
    · omega
    · exact ⟨q.map fun q : Nat => (q : Int), p, by rw [ht.refOver k hk, e, List.map_append]; rfl, e2, hp⟩⟩
  rw [← hN]
  clear hi hz0 hz1 hz2 hrow hc hl hN
  go_enter Try.func16, Try.ntmps16
  go_wp2_with fail
  refine HP.out.mono ?_; rintro e w1 ⟨V, cv, rfl, hown, hb⟩
  have HO := Aside0.mk hown
  have HB := Aside0.mk hb
  clear hown hb
  go_wp2_with fail
  go_loopg [4, 5] (N + 1) (fun kq v4 v5 W' => ∃ j : Nat, v5 = .int .i64 (j : Int) ∧ Aside0 (N + 1 < kq + j ∧ 1 ≤ j ∧ (j ≤ N ∨ j = 1)) ∧ Aside0 (W'.ownsRow w1.heap.size 31 2 v4 (lin l j).length (linC l j)) ∧ Aside0 (Below w1.heap.size w1 W'))
  case atStart => exact ⟨1, rfl, ⟨by omega, Nat.le_refl _, .inr rfl⟩, ⟨by unfold linC; rw [lin_one]; exact World.ownsRow_nil _ _ _ _⟩, ⟨Below.refl _ _⟩⟩
  case round =>
    obtain ⟨j, rfl, HJ, HO4, HB4⟩ := hrel
    cases gk with
    | zero =>
      exact absurd HJ.out.1 (by have := HJ.out.2; omega)
    | succ k1 =>
      by_cases hj : j < N
      · obtain ⟨q, p, hq, htop, hp⟩ := HNT.out j (by have := HJ.out; omega) hj
        obtain ⟨hsl, hsc⟩ := linC_succ l j p htop
        have hBw := HB.out.trans (HB4.out.mono HB.out.size)
        have HQ := Aside0.mk (HOV.out j wr hBw)
        rw [hq] at HQ
        have c1 : decide ((j : Int) < (N : Int)) = true := decide_eq_true (by omega)
        have c2 : decide (j < N) = true := decide_eq_true hj
        have HJ2 := Aside0.mk (And.intro hj hp)
        have HSU := Aside0.mk (And.intro hsl hsc)
        have HW2 : Aside0 (wrap64 ((j : Int) + 1) = ((j + 1 : Nat) : Int)) := ⟨wadd1 j (Nat.lt_trans (Nat.lt_trans hj HN.out) (by decide))⟩
        have HQL : Aside0 (q.length < 4398046511104) := ⟨by
          have h1 := congrArg List.length hq
          rw [List.length_append] at h1
          have h2 : (refOver l (j : Int)).length ≤ j := by
            unfold refOver
            split
            · have := ovl_len l (j : Int).toNat (j : Int).toNat; rw [Int.toNat_natCast] at this ⊢; exact this
            · exact Nat.zero_le _
          have := HN.out
          simp only [List.length_cons, List.length_nil] at h1
          omega⟩
        clear hq htop hp hsl hsc hBw hj
        go_wp2_with fail
        refine HQ.out.mono ?_; rintro e w6 ⟨vo, rfl, hown6, hb6⟩
        obtain ⟨VO, co, evo⟩ := own_slice hown6
        subst evo
        have hown4 := pw_own_below HO4.out hb6
        have hownP := pw_own_below HO.out (HB4.out.trans (hb6.mono HB4.out.size))
        obtain ⟨ado, hVO, x0⟩ := own_cell1 hown6 q.length (.int .i64 (p : Int)) (by rw [nums_append, List.getElem?_append_right (by rw [nums_length]; exact Nat.le_refl _), nums_length, Nat.sub_self]; rfl)
        subst hVO
        obtain ⟨ad, hV, x1⟩ := own_cell1 hownP p (ptV l p) (by rw [List.getElem?_map, List.getElem?_range (by have := HJ2.out; omega)]; rfl)
        subst hV
        obtain ⟨ad2, hV2, x2⟩ := own_cell1 hownP j (ptV l j) (by rw [List.getElem?_map, List.getElem?_range (by have := HJ2.out; omega)]; rfl)
        obtain rfl := Option.some.inj hV2
        obtain ⟨pv, hpv⟩ : ∃ pv, pv = ptV l p := ⟨_, rfl⟩
        obtain ⟨jv, hjv⟩ : ∃ jv, jv = ptV l j := ⟨_, rfl⟩
        rw [← hpv] at x1
        rw [← hjv] at x2
        have hpv1 : ∃ a b, pv = .complex .f64 a b := ⟨_, _, hpv⟩
        obtain ⟨qa, qb, rfl⟩ := hpv1
        have hjv1 : ∃ a b, jv = .complex .f64 a b := ⟨_, _, hjv⟩
        obtain ⟨pa, pb, rfl⟩ := hjv1
        have HPJ := Aside0.mk (And.intro hpv hjv)
        have HB6 := Aside0.mk (And.intro hb6 (HB4.out.trans (hb6.mono HB4.out.size)))
        have HO6 := Aside0.mk (And.intro hown4 (And.intro hownP hown6))
        have hv4 : ∀ k, u4.ownBlock = some k → w1.heap.size ≤ k ∧ k < wr.heap.size := fun k hk => HO4.out.lt k hk
        have HSk : Aside0 (∀ Y : World, (∀ k, k < w6.heap.size → u4.ownBlock ≠ some k → Y.heap[k]? = w6.heap[k]?) → (Y.cell? (ado.add q.length) = some (.int .i64 (p : Int)) ∧ Y.cell? (ad.add p) = some (.complex .f64 qa qb) ∧ Y.cell? (ad.add j) = some (.complex .f64 pa pb))) := ⟨by
          intro Y hY
          have e1 := own_at hown6 (W' := Y) (fun k hk => hY k (hown6.lt k hk).2 (fun e => by have := hv4 k e; have := (hown6.lt k hk).1; omega))
          have e2 := own_at hownP (W' := Y) (fun k hk => hY k (hownP.lt k hk).2 (fun e => by have := hv4 k e; have := (HO.out.lt k hk).2; omega))
          obtain ⟨a1, h1, y0⟩ := own_cell1 e1 q.length (.int .i64 (p : Int)) (by rw [nums_append, List.getElem?_append_right (by rw [nums_length]; exact Nat.le_refl _), nums_length, Nat.sub_self]; rfl)
          obtain rfl := Option.some.inj h1
          obtain ⟨a2, h2, y1⟩ := own_cell1 e2 p (ptV l p) (by rw [List.getElem?_map, List.getElem?_range (by have := HJ2.out; omega)]; rfl)
          obtain rfl := Option.some.inj h2
          obtain ⟨a3, h3, y2⟩ := own_cell1 e2 j (ptV l j) (by rw [List.getElem?_map, List.getElem?_range (by have := HJ2.out; omega)]; rfl)
          obtain rfl := Option.some.inj h3
          exact ⟨y0, by rw [hpv]; exact y1, by rw [hjv]; exact y2⟩⟩
        obtain ⟨n0, hn0⟩ : ∃ n0 : Nat, n0 = (q ++ [(p : Int)]).length := ⟨_, rfl⟩
        have hn1 : n0 = q.length + 1 := by rw [hn0, List.length_append]; rfl
        rw [← hn0]
        obtain ⟨m0, hm0⟩ : ∃ m0, m0 = q.length := ⟨_, rfl⟩
        rw [← hm0] at hn1 HSk x0
        have hql := HQL.out
        have r1 : wrap64 ((n0 : Int) - 1) = (m0 : Int) := by rw [hn1, show ((m0 + 1 : Nat) : Int) - 1 = (m0 : Int) by omega]; exact w64 _ (by omega) (by omega)
        have r2 : IntKind.i64.wrap ((n0 : Int) - 1) = (m0 : Int) := (i64_w _).trans r1
        have s1 : ((0 : Int) ≤ (m0 : Int)) = True := eq_true (by omega)
        have s2 : ((m0 : Int) < (n0 : Int)) = True := eq_true (by omega)
        have s3 : (m0 < n0) = True := eq_true (by omega)
        have s4 : ((p : Int) < (N : Int)) = True := eq_true (by have := HJ2.out; omega)
        have s5 : (p < N) = True := eq_true (by have := HJ2.out; omega)
        have s6 : ((j : Int) < (N : Int)) = True := eq_true (by have := HJ2.out; omega)
        have s7 : (j < N) = True := eq_true HJ2.out.1
        have s8 : ((0 : Int) ≤ (p : Int)) = True := eq_true (by omega)
        have s9 : ((0 : Int) ≤ (j : Int)) = True := eq_true (by omega)
        have HNN : Aside0 ((lin l j).length < 4398046511104) := ⟨by
          have h9 : (lin l j).length ≤ j := by unfold lin; have := List.length_filter_le (fun j => decide (0 ≤ topOf (st (kinds l) j).1)) (List.range j); rw [List.length_range] at this; exact this
          exact Nat.lt_of_le_of_lt h9 (Nat.lt_trans HJ2.out.1 HN.out)⟩
        obtain ⟨Y, hY⟩ : ∃ Y, Y = w6.drew := ⟨_, rfl⟩
        obtain ⟨Z, hZ⟩ : ∃ Z, Z = Y.alloc (.cells #[.complex .f64 qa qb, .complex .f64 pa pb] 31) := ⟨_, rfl⟩
        have hys : Y.heap.size = w6.heap.size := by rw [hY]; rfl
        have HYX : Aside0 (∀ k : Nat, Y.heap[k]? = w6.heap[k]?) := ⟨fun k => by rw [hY]; rfl⟩
        have HX2 : Aside0 (∀ k, k < w6.heap.size → Z.heap[k]? = w6.heap[k]?) := ⟨fun k hk => by rw [hZ]; exact (Below.heap_alloc _ _ _ (by omega)).trans (HYX.out k)⟩
        have HSZ2 : Aside0 (Z.heap.size = w6.heap.size + 1) := ⟨by rw [hZ, World.size_alloc, hys]⟩
        have HNEW : Aside0 (Z.heap[w6.heap.size]? = some (.cells #[.complex .f64 qa qb, .complex .f64 pa pb] 31 (0, 0))) := ⟨by rw [hZ, ← hys]; exact heap_new Y _⟩
        have HOWN2 : Aside0 (Z.ownsRow w1.heap.size 31 2 u4 (lin l j).length (linC l j)) := ⟨own_at hown4 (fun k hk => HX2.out k (hown4.lt k hk).2)⟩
        have HZB : Aside0 (Below w1.heap.size w1 Z) := ⟨by
          have h1 : Below w6.heap.size w6 Z := ⟨by rw [hZ, hY]; rfl, by rw [hZ, hY]; rfl, by rw [hZ, hY]; rfl, by rw [HSZ2.out]; omega, fun k hk => HX2.out k hk⟩
          exact HB6.out.2.trans (h1.mono HB6.out.2.size)⟩
        have HYY := Aside0.mk hY
        have HZZ := Aside0.mk hZ
        have HYS := Aside0.mk hys
        have HN0 := Aside0.mk hn1
        clear hown6 hb6 hown4 hownP hpv hjv hn0 hn1 hm0 hql hY hZ hys hv4
        go_wp2_with fail
        refine wp_held 18 (by rfl) (S := fun W' => W'.cell? (ado.add m0) = some (.int .i64 (p : Int)) ∧ W'.cell? (ad.add p) = some (.complex .f64 qa qb) ∧ W'.cell? (ad.add j) = some (.complex .f64 pa pb)) (by kernel_rfl) ⟨x0, x1, x2⟩ ?_
        rw [← HYY.out]
        intro hHeld
        refine take_first 0 18 ?_ rfl rfl (by kernel_rfl) (by kernel_rfl) (by kernel_rfl) (fun _ _ _ h => h) (by rfl) hHeld ?_ ?_
        rotate_left
        · intro w hSw
          obtain ⟨y0, y1, y2⟩ := hSw
          go_simp
          with_reducible rfl
        simp only [List.setIfInBounds_toArray, List.set_cons_zero, List.set_cons_succ]
        refine take_first 1 19 ?_ rfl rfl (by kernel_rfl) (by kernel_rfl) (by kernel_rfl) (fun _ _ _ h => h) (by rfl) hHeld ?_ ?_
        rotate_left
        · intro w hSw
          obtain ⟨y0, y1, y2⟩ := hSw
          go_simp
          with_reducible rfl
        simp only [List.setIfInBounds_toArray, List.set_cons_zero, List.set_cons_succ]
        refine take_first 2 20 ?_ rfl rfl (by kernel_rfl) (by kernel_rfl) (by kernel_rfl) (fun _ _ _ h => h) (by rfl) hHeld ?_ ?_
        rotate_left
        · intro w hSw
          obtain ⟨y0, y1, y2⟩ := hSw
          go_simp
          with_reducible rfl
        simp only [List.setIfInBounds_toArray, List.set_cons_zero, List.set_cons_succ]
        refine take_first 3 21 ?_ rfl rfl (by kernel_rfl) (by kernel_rfl) (by kernel_rfl) (fun _ _ _ h => h) (by rfl) hHeld ?_ ?_
        rotate_left
        · intro w hSw
          obtain ⟨y0, y1, y2⟩ := hSw
          go_simp
          with_reducible rfl
        simp only [List.setIfInBounds_toArray, List.set_cons_zero, List.set_cons_succ]
        refine take_first 4 22 ?_ rfl rfl (by kernel_rfl) (by kernel_rfl) (by kernel_rfl) (fun _ _ _ h => h) (by rfl) hHeld ?_ ?_
        rotate_left
        · intro w hSw
          obtain ⟨y0, y1, y2⟩ := hSw
          go_simp
          with_reducible rfl
        simp only [List.setIfInBounds_toArray, List.set_cons_zero, List.set_cons_succ]
        refine take_first 5 23 ?_ rfl rfl (by kernel_rfl) (by kernel_rfl) (by kernel_rfl) (fun _ _ _ h => h) (by rfl) hHeld ?_ ?_
        rotate_left
        · intro w hSw
          obtain ⟨y0, y1, y2⟩ := hSw
          go_simp
          with_reducible rfl
        simp only [List.setIfInBounds_toArray, List.set_cons_zero, List.set_cons_succ]
        refine take_first 6 24 ?_ rfl rfl (by kernel_rfl) (by kernel_rfl) (by kernel_rfl) (fun _ _ _ h => h) (by rfl) hHeld ?_ ?_
        rotate_left
        · intro w hSw
          obtain ⟨y0, y1, y2⟩ := hSw
          go_simp
          with_reducible rfl
        simp only [List.setIfInBounds_toArray, List.set_cons_zero, List.set_cons_succ]
        refine take_first 7 25 ?_ rfl rfl (by kernel_rfl) (by kernel_rfl) (by kernel_rfl) (fun _ _ _ h => h) (by rfl) hHeld ?_ ?_
        rotate_left
        · intro w hSw
          obtain ⟨y0, y1, y2⟩ := hSw
          go_simp
          with_reducible rfl
        simp only [List.setIfInBounds_toArray, List.set_cons_zero, List.set_cons_succ]
        refine take_first 8 26 ?_ rfl rfl (by kernel_rfl) (by kernel_rfl) (by kernel_rfl) (fun _ _ _ h => h) (by rfl) hHeld ?_ ?_
        rotate_left
        · intro w hSw
          obtain ⟨y0, y1, y2⟩ := hSw
          go_simp
          with_reducible rfl
        simp only [List.setIfInBounds_toArray, List.set_cons_zero, List.set_cons_succ]
        refine take_first 9 27 ?_ rfl rfl (by kernel_rfl) (by kernel_rfl) (by kernel_rfl) (fun _ _ _ h => h) (by rfl) hHeld ?_ ?_
        rotate_left
        · intro w hSw
          obtain ⟨y0, y1, y2⟩ := hSw
          go_simp
          with_reducible rfl
        simp only [List.setIfInBounds_toArray, List.set_cons_zero, List.set_cons_succ]
        refine take_first 10 28 ?_ rfl rfl (by kernel_rfl) (by kernel_rfl) (by kernel_rfl) (fun _ _ _ h => h) (by rfl) hHeld ?_ ?_
        rotate_left
        · intro w hSw
          obtain ⟨y0, y1, y2⟩ := hSw
          go_simp
          with_reducible rfl
        simp only [List.setIfInBounds_toArray, List.set_cons_zero, List.set_cons_succ]
        refine take_first 11 29 ?_ rfl rfl (by kernel_rfl) (by kernel_rfl) (by kernel_rfl) (fun _ _ _ h => h) (by rfl) hHeld ?_ ?_
        rotate_left
        · intro w hSw
          obtain ⟨y0, y1, y2⟩ := hSw
          go_simp
          with_reducible rfl
        simp only [List.setIfInBounds_toArray, List.set_cons_zero, List.set_cons_succ]
        refine take_first 12 30 ?_ rfl rfl (by kernel_rfl) (by kernel_rfl) (by kernel_rfl) (fun _ _ _ h => h) (by rfl) hHeld ?_ ?_
        rotate_left
        · intro w hSw
          obtain ⟨y0, y1, y2⟩ := hSw
          go_simp
          with_reducible rfl
        simp only [List.setIfInBounds_toArray, List.set_cons_zero, List.set_cons_succ]
        refine take_first 13 31 ?_ rfl rfl (by kernel_rfl) (by kernel_rfl) (by kernel_rfl) (fun _ _ _ h => h) (by rfl) hHeld ?_ ?_
        rotate_left
        · intro w hSw
          obtain ⟨y0, y1, y2⟩ := hSw
          go_simp
          with_reducible rfl
        simp only [List.setIfInBounds_toArray, List.set_cons_zero, List.set_cons_succ]
        refine take_first 14 32 ?_ rfl rfl (by kernel_rfl) (by kernel_rfl) (by kernel_rfl) (fun _ _ _ h => h) (by rfl) hHeld ?_ ?_
        rotate_left
        · intro w hSw
          obtain ⟨y0, y1, y2⟩ := hSw
          go_simp
          with_reducible rfl
        simp only [List.setIfInBounds_toArray, List.set_cons_zero, List.set_cons_succ]
        refine wpAnyH_all (rs := [15]) (by kernel_rfl) (by simp) ?_
        intro i hi
        obtain rfl : i = 15 := by simpa using hi
        refine op_value 15 33 (.slice (some ⟨w6.heap.size, 0, none⟩) 1 1) Z rfl rfl (by rfl) (by rw [HZZ.out, ← HYS.out]; go_simp) ⟨HSk.out _ (fun k h1 h2 => HX2.out k h1), ?_⟩
        simp only [List.setIfInBounds_toArray, List.set_cons_zero, List.set_cons_succ]
        refine wpAnyH_all (rs := [16]) (by kernel_rfl) (by simp) ?_
        intro i hi
        obtain rfl : i = 16 := by simpa using hi
        refine op_append _ 16 34 rfl rfl (by rfl) (.tmp 18) (.tmp 33) 29 rfl w1.heap.size 31 i0 _ 2 32 Try.underlying29 HHI.out.1 HHI.out.2.1 HHI.out.2.2.1 HHI.out.2.2.2 (by rfl) (by decide) u4 (lin l j).length (linC l j) (by rfl) HOWN2.out ⟨w6.heap.size, 0, none⟩ 1 1 [.complex .f64 qa qb, .complex .f64 pa pb] (by rfl) (by rfl) (World.news_of_block HNEW.out) (by simp [Value.oneCell']) (by decide) (by have := HNN.out; unfold maxLen; omega) (by have := HNN.out; omega) HZB.out.size (w6.heap.size + 1) HSZ2.out ?_
        intro g cap w7 hown7 hgrow hat hlt7
        simp only [List.setIfInBounds_toArray, List.set_cons_zero, List.set_cons_succ]
        have hHeld := HSk.out w7 (fun k h1 h2 => (hgrow.block k (by have := HSZ2.out; omega) (fun e => h2 e.symm)).trans (HX2.out k h1))
        refine ⟨hHeld, ?_⟩
        have HW7 := Aside0.mk (And.intro hown7 (HZB.out.grown hgrow HZB.out.size (fun k hk => (HOWN2.out.lt k hk).1)))
        clear hown7 hgrow hat hlt7
        refine take_first 17 4 ?_ rfl rfl (by kernel_rfl) (by kernel_rfl) (by kernel_rfl) (fun _ _ _ h => h) (by rfl) hHeld ?_ ?_
        rotate_left
        · intro w hSw
          obtain ⟨y0, y1, y2⟩ := hSw
          go_simp
          with_reducible rfl
        simp only [List.setIfInBounds_toArray, List.set_cons_zero, List.set_cons_succ]
        refine wpAnyH_done (by kernel_rfl) ?_ _
        go_wp2_with fail
        go_roundg k1
        · exact ⟨j + 1, congrArg (Value.int .i64) HW2.out, ⟨by have := HJ.out; omega, by omega, .inl (by have := HJ2.out.1; omega)⟩, ⟨by rw [HSU.out.1, HSU.out.2, ← HPJ.out.1, ← HPJ.out.2]; exact HW7.out.1⟩, ⟨HW7.out.2⟩⟩
        · exact Nat.lt_succ_self _
      · have c1 : decide ((j : Int) < (N : Int)) = false := decide_eq_false (by omega)
        have c2 : decide (j < N) = false := decide_eq_false hj
        have HF : Aside0 (linC l j = linC l N ∧ (lin l j).length = (lin l N).length) := ⟨by
          by_cases h : j = N
          · rw [h]; exact ⟨rfl, rfl⟩
          · have h1 : j = 1 := by have := HJ.out; omega
            have h2 : N = 0 := by omega
            subst h1; rw [h2]
            unfold linC
            rw [lin_one]; exact ⟨rfl, rfl⟩⟩
        clear hj
        go_wp2_with fail
        go_ret
        exact ⟨_, rfl, by rw [← HF.out.1, ← HF.out.2]; exact own_le HO4.out HB.out.size, HB.out.trans (HB4.out.mono HB.out.size)⟩
end Go.Proofs.Ytcbemeooeecboaa.Rng
