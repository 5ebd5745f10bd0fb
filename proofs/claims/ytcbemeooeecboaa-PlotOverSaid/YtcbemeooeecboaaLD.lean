/- The law PlotOver, walked. -/
import Derived.Test.YtcbemeooeecboaaLA
namespace Go.Proofs.Ytcbemeooeecboaa.Rng
open Go Go.RowKit Go.Proofs.Tree Go.Proofs.Flt Go.Proofs.YtcbemeooeecboaaW.PrintWords Go.Proofs.YtcbemeooeecboaaW.PrintLast Go.Proofs.YtcbemeooeecboaaW.PrintMore Go.Proofs.Ytcbemeooeecboaa.PK
set_option linter.unusedVariables false
set_option linter.unusedSimpArgs false
set_option maxHeartbeats 4000000
set_option maxRecDepth 100000
theorem Ovr (A : Option Addr) (c : Nat) (l : List S44) (kv : Int) (w : World) (hrow : Kd.C k44 w A l.length l) (hc : l.length ≤ c) (hl : l.length < 4398046511104) (hkv : (Lit.int .i64 kv).wf = true) :
    Calls Try.prog 19 #[.slice A l.length c, .int .i64 kv] w fun e w' => ∃ V cv, e = .returned (.slice V (refOver l kv).length cv) ∧ w'.ownsRow w.heap.size 3 1 (.slice V (refOver l kv).length cv) (refOver l kv).length (nums .i64 (refOver l kv)) ∧ Below w.heap.size w w' := by
  refine (OverC A c l kv w hrow hc hl hkv).mono ?_
  rintro e w' ⟨v, rfl, h1, h2⟩
  rw [overs] at h1
  obtain ⟨V, cv, rfl⟩ := own_slice h1
  exact ⟨V, cv, rfl, h1, h2⟩
theorem ROvr (A : Option Addr) (c : Nat) (l : List S44) (kv : Int) (w : World) (hrow : Kd.C k44 w A l.length l) (hc : l.length ≤ c) (hl : l.length < 4398046511104) :
    Calls Try.prog 20 #[.slice A l.length c, .int .i64 kv] w fun e w' => ∃ V cv, e = .returned (.slice V (refOver l kv).length cv) ∧ w'.ownsRow w.heap.size 3 1 (.slice V (refOver l kv).length cv) (refOver l kv).length (nums .i64 (refOver l kv)) ∧ Below w.heap.size w w' := by
  refine (RefOver A c l kv w hrow hc hl).mono ?_
  rintro e w' ⟨v, rfl, h1, h2⟩
  obtain ⟨V, cv, rfl⟩ := own_slice h1
  exact ⟨V, cv, rfl, h1, h2⟩
/-- What stands in the row of those above: a place ahead of k, whose tree reaches beyond k. -/
theorem over_get {l : List S44} {kv : Int} {j : Nat} (hj : j < (refOver l kv).length) : ∃ a : Nat, (nums .i64 (refOver l kv))[j]? = some (.int .i64 (a : Int)) ∧ (a : Int) < kv ∧ kv < (l.length : Int) ∧ kv < ((a + size S44.f0 (l.drop a) : Nat) : Int) := by
  unfold refOver at hj ⊢
  split at hj
  · rename_i h
    rw [if_pos h]
    obtain ⟨_, h1, h2⟩ := h
    obtain ⟨k, rfl⟩ : ∃ k : Nat, kv = (k : Int) := ⟨kv.toNat, by omega⟩
    rw [Int.toNat_natCast] at hj ⊢
    obtain ⟨x, hx⟩ : ∃ x, (ovl l k k)[j]? = some x := ⟨_, List.getElem?_eq_getElem hj⟩
    have hm := List.mem_of_getElem? hx
    unfold ovl at hm
    rw [List.mem_map] at hm
    obtain ⟨a, ha, rfl⟩ := hm
    rw [List.mem_filter, List.mem_range] at ha
    have := of_decide_eq_true ha.2
    exact ⟨a, by unfold nums; rw [List.getElem?_map, hx]; rfl, by omega, h2, by omega⟩
  · simp at hj
theorem refOver_neg {l : List S44} {kv : Int} (h : kv < 0 ∨ (many l : Int) ≤ kv) : refOver l kv = [] := by
  unfold refOver
  by_cases h0 : oneB l = true ∧ 0 ≤ kv ∧ kv < (l.length : Int)
  · have hm : many l = l.length := by unfold many; rw [h0.1]; rfl
    omega
  · rw [if_neg h0]
theorem deep_over {l : List S44} {k : Nat} (hk : k < many l) : (st (kinds l) k).1.length = (refOver l (k : Int)).length := by
  have ho : oneB l = true := by
    cases h : oneB l with
    | true => rfl
    | false => unfold many at hk; rw [h] at hk; simp at hk
  obtain ⟨t, ht⟩ := one_of ho
  rw [ht.many] at hk
  rw [ht.deep k hk, ht.refOver k hk, List.length_map]
theorem cut_sum {a n s d : Nat} (h1 : a < n) (h2 : s ≤ d) (h3 : n - a = d) (h4 : n ≤ 210) : a + s < 4611686018427387904 := by omega
theorem drawn_more {w w' : World} {n : Nat} (hd : Drawn0 (w.drewN n) w') : ∃ m, w' = w.drewN m := by
  obtain ⟨m, rfl⟩ := hd.out
  exact ⟨n + m, World.drewN_drewN ..⟩
theorem OverLaw (A : Option Addr) (c : Nat) (l : List S44) (kv : Int) (w : World) (hrow : Kd.C k44 w A l.length l) (hc : l.length ≤ c) (hk0 : -9223372036854775808 ≤ kv) (hk1 : kv ≤ 9223372036854775807) :
    Calls Try.prog 6 #[.slice A l.length c, .int .i64 kv] w fun e w' => e = .returned (.bool true) ∧ Below w.heap.size w w' := by
  have HF := Aside0.mk (Few A c l w hrow hc)
  by_cases hf : l.length ≤ 210
  · rw [decide_eq_true hf] at HF
    have hl : l.length < 4398046511104 := by omega
    have HV := Aside0.mk (fun W (h : Below w.heap.size w W) => Ovr A c l kv W (Kd.C_below hrow h) hc hl (wf64 kv hk0 hk1))
    have HRV := Aside0.mk (fun W (h : Below w.heap.size w W) => ROvr A c l kv W (Kd.C_below hrow h) hc hl)
    have HP := Aside0.mk (fun W (h : Below w.heap.size w W) => Pts A c l W (Kd.C_below hrow h) hc hl)
    have HROW := Aside0.mk (And.intro hrow (And.intro hc hf))
    obtain ⟨N, hN⟩ : ∃ N, N = many l := ⟨_, rfl⟩
    rw [← hN] at HP
    have HN := Aside0.mk hN
    obtain ⟨M, hM⟩ : ∃ M, M = (refOver l kv).length := ⟨_, rfl⟩
    rw [← hM] at HV HRV
    have HM := Aside0.mk hM
    have hMl : M ≤ 210 := by
      rw [hM]; unfold refOver
      split
      · have := ovl_len l kv.toNat kv.toNat; omega
      · exact Nat.zero_le _
    have HML := Aside0.mk hMl
    clear hrow hc hf hl hk0 hk1 hN hM hMl
    go_enter Try.func6, Try.ntmps6
    go_wp2_with fail
    refine HF.out.mono ?_; rintro e w1 ⟨rfl, hd⟩
    have HB1 := Aside0.mk hd.below
    clear hd
    go_wp2_with fail
    refine (HV.out _ HB1.out).mono ?_; rintro e w2 ⟨VP, cp, rfl, hop, hb⟩
    have HB2 := Aside0.mk (HB1.out.trans (hb.mono HB1.out.size))
    have HO2 := Aside0.mk hop
    clear hb hop
    go_wp2_with fail
    refine (HRV.out _ HB2.out).mono ?_; rintro e w3 ⟨VR, cr, rfl, hor, hb⟩
    have HB3 := Aside0.mk (HB2.out.trans (hb.mono HB2.out.size))
    have HO3 := Aside0.mk (And.intro (pw_own_below HO2.out hb) hor)
    clear hb hor HO2
    go_wp2_with fail
    go_loopg [26] (M + 1) (fun kq v26 W' => ∃ j : Nat, v26 = .int .i64 (j : Int) ∧ Aside0 (kq + j = M + 1 ∧ j ≤ M) ∧ Aside0 (Below w3.heap.size w3 W'))
    case atStart => exact ⟨0, rfl, ⟨by omega, Nat.zero_le _⟩, ⟨Below.refl _ _⟩⟩
    case round =>
      obtain ⟨j, rfl, HJ, HB⟩ := hrel
      cases gk with
      | zero => exact absurd HJ.out.1 (by have := HJ.out.2; omega)
      | succ k1 =>
        by_cases hj : j < M
        · obtain ⟨a, ha, hak, hkl, hsz⟩ := over_get (l := l) (kv := kv) (j := j) (by rw [← HM.out]; exact hj)
          obtain ⟨i0, hi, hz0, hz1, hz2⟩ := info_parts info44
          have hlr := HROW.out
          have hal : a < l.length := by omega
          have hcut := cut_from (P := Try.prog) 22 44 .i64 Try.underlying22 hi 3 hz1 A l.length c (a : Int) (by omega) (by omega)
          rw [Int.toNat_natCast] at hcut
          have hdrop := Kd.C_drop (Kd.C_below HROW.out.1 (HB3.out.trans (HB.out.mono HB3.out.size))) (m := a) (by omega) HROW.out.2.1
          obtain ⟨dl, hdl⟩ : ∃ dl, dl = l.drop a := ⟨_, rfl⟩
          rw [← hdl] at hdrop hsz
          have hdlen : l.length - a = dl.length := by rw [hdl, List.length_drop]
          obtain ⟨A', hA'⟩ : ∃ A', A' = (if c = a then A else A.map (·.add (a * 3))) := ⟨_, rfl⟩
          obtain ⟨c', hc'⟩ : ∃ c', c' = c - a := ⟨_, rfl⟩
          have hcc : dl.length ≤ c' := by rw [← hdlen, hc']; omega
          rw [show (if c = a then A else A.map (·.add (a * k44.sz))) = A' from hA'.symm] at hdrop
          rw [← hA', hdlen, ← hc'] at hcut
          obtain ⟨sz, hsz'⟩ : ∃ sz, sz = size S44.f0 dl := ⟨_, rfl⟩
          have HRS := Aside0.mk (fun n => hsz' ▸ RefSize A' c' dl (wr.drewN n) (Kd.C_below hdrop (pw_below_drewN (Below.refl _ _) n)) hcc (by omega))
          rw [← hsz'] at hsz
          have hszl : sz ≤ dl.length := by rw [hsz']; exact size_le _ _
          obtain ⟨g1, hg1, x0⟩ := own_cell1 (pw_own_below HO3.out.1 HB.out) j _ ha
          obtain ⟨g2, hg2, x1⟩ := own_cell1 (pw_own_below HO3.out.2 HB.out) j _ ha
          subst hg1
          subst hg2
          have c1 : decide ((j : Int) < (M : Int)) = true := decide_eq_true (by omega)
          have c2 : decide (j < M) = true := decide_eq_true hj
          have q1 : ((0 : Int) ≤ (j : Int)) = True := eq_true (by omega)
          have q2 : ((j : Int) < (M : Int)) = True := eq_true (by omega)
          have q3 : (j < M) = True := eq_true hj
          have d1 : decide ((a : Int) < 0) = false := decide_eq_false (by omega)
          have d2 : decide ((a : Int) ≥ kv) = false := decide_eq_false (Int.not_le.2 hak)
          have d3 : decide (kv ≤ (a : Int)) = false := decide_eq_false (Int.not_le.2 hak)
          have hw1 : wrap64 ((a : Int) + (sz : Int)) = ((a + sz : Nat) : Int) := waddn a sz (cut_sum hal hszl hdlen hlr.2.2)
          obtain ⟨sm, hsm⟩ : ∃ sm : Nat, sm = a + sz := ⟨_, rfl⟩
          rw [← hsm] at hw1 hsz
          have d4 : decide ((sm : Int) ≤ kv) = false := decide_eq_false (Int.not_le.2 hsz)
          have HJ2 := Aside0.mk hj
          have HW2 : Aside0 (wrap64 ((j : Int) + 1) = ((j + 1 : Nat) : Int)) := ⟨wadd1 j (by have := HML.out; omega)⟩
          clear hj ha hak hkl hsz hi hz0 hz1 hz2 hlr hal hdrop hdl hdlen hA' hc' hcc hsz' hszl hsm
          go_upto_region 9 with fail
          go_quiet ((go_at_call 21; refine (HRS.out _).mono ?_; rintro e w' ⟨rfl, hd⟩; exact ⟨rfl, drawn_more hd⟩))
          have HB2 := Aside0.mk (pw_below_drewN HB.out nq)
          go_wp2_with fail
          go_roundg k1
          · exact ⟨j + 1, congrArg (Value.int .i64) HW2.out, ⟨by have := HJ.out; omega, HJ2.out⟩, HB2⟩
          · exact Nat.lt_succ_self _
        · have c1 : decide ((j : Int) < (M : Int)) = false := decide_eq_false (by omega)
          have c2 : decide (j < M) = false := decide_eq_false hj
          clear hj
          have HBX := Aside0.mk (HB3.out.trans (HB.out.mono HB3.out.size))
          go_wp2_with fail
          refine (HP.out _ HBX.out).mono ?_; rintro e w4 ⟨V, cv, rfl, hop, hb⟩
          have HB4 := Aside0.mk (HBX.out.trans (hb.mono HBX.out.size))
          have HO4 := Aside0.mk hop
          clear hb hop
          go_wp2_with fail
          refine (alive _).mono ?_; rintro e w5 ⟨rfl, hb⟩
          have HB5 := Aside0.mk (HB4.out.trans (hb.mono HB4.out.size))
          have HO5 := Aside0.mk (pw_own_below HO4.out hb)
          clear hb
          by_cases hn : kv < 0
          · have d1 : decide (kv < 0) = true := decide_eq_true hn
            clear hn
            go_wp2_with fail
            go_ret
            exact ⟨rfl, HB5.out⟩
          have d1 : decide (kv < 0) = false := decide_eq_false hn
          by_cases hge : (N : Int) ≤ kv
          · have d2 : decide (kv ≥ (N : Int)) = true := decide_eq_true hge
            have d3 : decide ((N : Int) ≤ kv) = true := decide_eq_true hge
            clear hn hge
            go_wp2_with fail
            go_ret
            exact ⟨rfl, HB5.out⟩
          have d2 : decide (kv ≥ (N : Int)) = false := decide_eq_false hge
          have d3 : decide ((N : Int) ≤ kv) = false := decide_eq_false hge
          obtain ⟨k, rfl⟩ : ∃ k : Nat, kv = (k : Int) := ⟨kv.toNat, by omega⟩
          have d4 : decide (N ≤ k) = false := decide_eq_false (by omega)
          have hkN : k < N := by omega
          obtain ⟨ad, hV, x0⟩ := own_cell1 HO5.out k (ptV l k) (by rw [List.getElem?_map, List.getElem?_range hkN]; rfl)
          subst hV
          have q1 : ((0 : Int) ≤ (k : Int)) = True := eq_true (by omega)
          have q2 : ((k : Int) < (N : Int)) = True := eq_true (by omega)
          have q3 : (k < N) = True := eq_true hkN
          rw [pt_flt, deep_over (by rw [← HN.out]; exact hkN), ← HM.out] at x0
          have y1 := fe_self M (by have := HML.out; omega)
          obtain ⟨fm, hfm⟩ : ∃ fm, fm = flt (M : Int) := ⟨_, rfl⟩
          have hfm' : floatOfInt .f64 (M : Int) = fm := hfm.symm
          rw [← hfm] at x0 y1
          generalize flt ((st (kinds l) k).2 : Int) = px at *
          clear hn hge hkN hfm
          go_wp2_with fail
          go_ret
          exact ⟨rfl, HB5.out⟩
  · rw [decide_eq_false hf] at HF
    clear hrow hc hf
    go_enter Try.func6, Try.ntmps6
    go_wp2_with fail
    refine HF.out.mono ?_; rintro e w1 ⟨rfl, hd⟩
    have HB1 := Aside0.mk hd.below
    clear hd
    go_wp2_with fail
    refine (alive _).mono ?_; rintro e w2 ⟨rfl, hb⟩
    have HB2 := Aside0.mk (HB1.out.trans (hb.mono HB1.out.size))
    clear hb
    go_wp2_with fail
    go_ret
    exact ⟨rfl, HB2.out⟩
end Go.Proofs.Ytcbemeooeecboaa.Rng
