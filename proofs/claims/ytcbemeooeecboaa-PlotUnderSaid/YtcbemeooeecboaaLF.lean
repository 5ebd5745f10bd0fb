/- The law PlotUnder, walked. -/
import Derived.Test.YtcbemeooeecboaaLA
import Derived.Test.YtcbemeooeecboaaSN
import Derived.Lib.QuietBelow
import Derived.Laws.ComplexArith
namespace Go.Proofs.Ytcbemeooeecboaa.Rng
open Go Go.RowKit Go.Sort Go.Proofs.Tree Go.Proofs.Flt Go.Proofs.YtcbemeooeecboaaW.PrintWords Go.Proofs.YtcbemeooeecboaaW.PrintLast Go.Proofs.YtcbemeooeecboaaW.PrintMore Go.Proofs.Ytcbemeooeecboaa.PK
set_option linter.unusedVariables false
set_option linter.unusedSimpArgs false
set_option maxHeartbeats 4000000
set_option maxRecDepth 100000
theorem kid1 {W : World} {A : Option Addr} {a : List S44} {c : Nat} (h : Kd.C k44 W A a.length a) (hc : a.length ≤ c) :
    Kd.C (Kd.slice 44 k44) (W.alloc (.cells #[.slice A a.length c] 22)) (some ⟨W.heap.size, 0, none⟩) 1 [a] := by
  have hC := Kd.C_below h (below_alloc (Below.refl W.heap.size W) (.cells #[.slice A a.length c] 22))
  refine ⟨rfl, by decide, fun _ => ⟨_, rfl, fun j p hj => ?_⟩⟩
  match j, hj with
  | 0, hj => injection hj with hj; subst hj; exact ⟨[.slice A a.length c], rfl, ⟨A, c, rfl, hc, hC⟩, fun i u hu => by
      match i, hu with
      | 0, hu => injection hu with hu; subst hu; show (W.alloc _).cell? (Addr.add ⟨W.heap.size, 0, none⟩ 0) = _; rw [add_plain, cell_of_row _ _ _ _ _ _ (heap_new W _)]; rfl⟩
theorem kid2 {W : World} {A B : Option Addr} {a b : List S44} {c d : Nat} (h : Kd.C k44 W A a.length a) (hc : a.length ≤ c) (k : Kd.C k44 W B b.length b) (hd : b.length ≤ d) :
    Kd.C (Kd.slice 44 k44) (W.alloc (.cells #[.slice A a.length c, .slice B b.length d] 22)) (some ⟨W.heap.size, 0, none⟩) 2 [a, b] := by
  have hC := Kd.C_below h (below_alloc (Below.refl W.heap.size W) (.cells #[.slice A a.length c, .slice B b.length d] 22))
  have kC := Kd.C_below k (below_alloc (Below.refl W.heap.size W) (.cells #[.slice A a.length c, .slice B b.length d] 22))
  refine ⟨rfl, by decide, fun _ => ⟨_, rfl, fun j p hj => ?_⟩⟩
  match j, hj with
  | 0, hj => injection hj with hj; subst hj; exact ⟨[.slice A a.length c], rfl, ⟨A, c, rfl, hc, hC⟩, fun i u hu => by
      match i, hu with
      | 0, hu => injection hu with hu; subst hu; show (W.alloc _).cell? (Addr.add ⟨W.heap.size, 0, none⟩ 0) = _; rw [add_plain, cell_of_row _ _ _ _ _ _ (heap_new W _)]; rfl⟩
  | 1, hj => injection hj with hj; subst hj; exact ⟨[.slice B b.length d], rfl, ⟨B, d, rfl, hd, kC⟩, fun i u hu => by
      match i, hu with
      | 0, hu => injection hu with hu; subst hu; show (W.alloc _).cell? (Addr.add ⟨W.heap.size, 0, none⟩ 1) = _; rw [add_plain, cell_of_row _ _ _ _ _ _ (heap_new W _)]; rfl⟩
theorem make1 (W : World) (A : Option Addr) (a : List S44) (c : Nat) (h : Kd.C k44 W A a.length a) (hc : a.length ≤ c) (hl : a.length ≤ 200) :
    Calls Try.prog 25 #[.agg #[.int .i64 9, .string ⟨#[]⟩, .int .i64 0], .slice (some ⟨W.heap.size, 0, none⟩) 1 1] (W.alloc (.cells #[.slice A a.length c] 22)) fun e W' => ∃ A5 c5, e = .returned (.slice A5 (n9 :: a).length c5) ∧ (n9 :: a).length ≤ c5 ∧ Kd.C k44 W' A5 (n9 :: a).length (n9 :: a) ∧ Below W.heap.size W W' := by
  refine (Make n9 _ 1 [a] _ (kid1 h hc) (Nat.le_refl _) (by unfold tot; simp; omega)).mono ?_
  rintro e W' ⟨v, rfl, hR, hB⟩
  have e2 : [a].flatten = a := by simp
  rw [e2] at hR
  obtain ⟨A5, c5, rfl⟩ := Kd.R_slice hR
  have hr := Kd.R_reads' hR
  exact ⟨A5, c5, rfl, hr.2.1, hr.2.2, (below_alloc (Below.refl _ _) _).trans (hB.mono (by simp))⟩
theorem make2 (W : World) (A B : Option Addr) (a b : List S44) (c d : Nat) (h : Kd.C k44 W A a.length a) (hc : a.length ≤ c) (k : Kd.C k44 W B b.length b) (hd : b.length ≤ d) (hl : a.length + b.length ≤ 200) :
    Calls Try.prog 25 #[.agg #[.int .i64 7, .string ⟨#[]⟩, .int .i64 0], .slice (some ⟨W.heap.size, 0, none⟩) 2 2] (W.alloc (.cells #[.slice A a.length c, .slice B b.length d] 22)) fun e W' => ∃ A5 c5, e = .returned (.slice A5 (n7 :: (a ++ b)).length c5) ∧ (n7 :: (a ++ b)).length ≤ c5 ∧ Kd.C k44 W' A5 (n7 :: (a ++ b)).length (n7 :: (a ++ b)) ∧ Below W.heap.size W W' := by
  refine (Make n7 _ 2 [a, b] _ (kid2 h hc k hd) (Nat.le_refl _) (by unfold tot; simp; omega)).mono ?_
  rintro e W' ⟨v, rfl, hR, hB⟩
  have e2 : [a, b].flatten = a ++ b := by simp
  rw [e2] at hR
  obtain ⟨A5, c5, rfl⟩ := Kd.R_slice hR
  have hr := Kd.R_reads' hR
  exact ⟨A5, c5, rfl, hr.2.1, hr.2.2, (below_alloc (Below.refl _ _) _).trans (hB.mono (by simp))⟩
theorem csum (X D Y E : Int) (hX : X.natAbs < 2 ^ 53) (hD : D.natAbs < 2 ^ 53) (hXD : (X + D).natAbs < 2 ^ 53) (hY : Y.natAbs < 2 ^ 53) (hE : E.natAbs < 2 ^ 53) (hYE : (Y + E).natAbs < 2 ^ 53) (t : TypeId) (W : World) :
    (binOp .add t (.complex .f64 (flt X) (flt Y)) (.complex .f64 (flt D) (flt E))).run Try.prog W = .ok (.complex .f64 (flt (X + D)) (flt (Y + E))) W := by
  refine run_complex_sum W .add (.inl rfl) t .f64 _ _ _ _ _ _ ?_
  have h1 : floatBits .add .f64 (flt X) (flt D) = some (flt (X + D)) := add_flt _ _ hX hD hXD
  have h2 : floatBits .add .f64 (flt Y) (flt E) = some (flt (Y + E)) := add_flt _ _ hY hE hYE
  unfold cSumBits
  rw [h1, h2]; rfl
theorem tree_many {l : List S44} (h : many l ≠ 0) : ∃ t, One' l t := by
  cases ho : oneB l with
  | false => exact absurd (by unfold many; rw [ho]; rfl) h
  | true => exact one_of ho
theorem UnderLaw (A : Option Addr) (c : Nat) (a : List S44) (B : Option Addr) (d : Nat) (b : List S44) (w : World) (hra : Kd.C k44 w A a.length a) (hca : a.length ≤ c) (hla : a.length < 4398046511104) (hrb : Kd.C k44 w B b.length b) (hcb : b.length ≤ d) (hlb : b.length < 4398046511104) :
    Calls Try.prog 8 #[.slice A a.length c, .slice B b.length d] w fun e w' => e = .returned (.bool true) ∧ Below w.heap.size w w' := by
  have HP := Aside0.mk (Pts A c a w hra hca hla)
  have HQ := Aside0.mk (fun W (h : Below w.heap.size w W) => Pts B d b W (Kd.C_below hrb h) hcb hlb)
  have hw1 : wrap64 ((a.length : Int) + (b.length : Int)) = ((a.length + b.length : Nat) : Int) := waddn _ _ (by omega)
  by_cases hs : a.length + b.length > 200
  · have d1 : decide (((a.length + b.length : Nat) : Int) > 200) = true := decide_eq_true (by omega)
    obtain ⟨sm, hsm⟩ : ∃ sm : Nat, sm = a.length + b.length := ⟨_, rfl⟩
    rw [← hsm] at d1 hw1
    have d2 : decide ((200 : Int) < (sm : Int)) = true := d1
    have d3 : decide (200 < sm) = true := decide_eq_true (by omega)
    clear hra hca hla hrb hcb hlb hs hsm
    go_enter Try.func8, Try.ntmps8
    go_wp2_with fail
    refine HP.out.mono ?_; rintro e w1 ⟨V1, c1, rfl, _, hb⟩
    have HB1 := Aside0.mk hb
    clear hb
    go_wp2_with fail
    refine (HQ.out _ HB1.out).mono ?_; rintro e w2 ⟨V2, c2, rfl, _, hb⟩
    have HB2 := Aside0.mk (HB1.out.trans (hb.mono HB1.out.size))
    clear hb
    go_wp2_with fail
    refine (alive _).mono ?_; rintro e w3 ⟨rfl, hb⟩
    have HB3 := Aside0.mk (HB2.out.trans (hb.mono HB2.out.size))
    clear hb
    go_wp2_with fail
    go_ret
    exact ⟨rfl, HB3.out⟩
  obtain ⟨M, hM⟩ : ∃ M, M = many a := ⟨_, rfl⟩
  obtain ⟨K, hK⟩ : ∃ K, K = many b := ⟨_, rfl⟩
  rw [← hM] at HP
  rw [← hK] at HQ
  have d1 : decide (((a.length + b.length : Nat) : Int) > 200) = false := decide_eq_false (by omega)
  obtain ⟨sm, hsm⟩ : ∃ sm : Nat, sm = a.length + b.length := ⟨_, rfl⟩
  rw [← hsm] at d1 hw1
  have d2 : decide ((200 : Int) < (sm : Int)) = false := d1
  have d3 : decide (200 < sm) = false := decide_eq_false (by omega)
  by_cases hM0 : M = 0
  · have t1 : ((M : Int) == 0) = true := by rw [hM0]; rfl
    have t2 : (M == 0) = true := by rw [hM0]; rfl
    clear hra hca hla hrb hcb hlb hs hsm hM hK hM0
    go_enter Try.func8, Try.ntmps8
    go_wp2_with fail
    refine HP.out.mono ?_; rintro e w1 ⟨V1, c1, rfl, _, hb⟩
    have HB1 := Aside0.mk hb
    clear hb
    go_wp2_with fail
    refine (HQ.out _ HB1.out).mono ?_; rintro e w2 ⟨V2, c2, rfl, _, hb⟩
    have HB2 := Aside0.mk (HB1.out.trans (hb.mono HB1.out.size))
    clear hb
    go_wp2_with fail
    refine (alive _).mono ?_; rintro e w3 ⟨rfl, hb⟩
    have HB3 := Aside0.mk (HB2.out.trans (hb.mono HB2.out.size))
    clear hb
    go_wp2_with fail
    go_ret
    exact ⟨rfl, HB3.out⟩
  have t1 : ((M : Int) == 0) = false := beq_eq_false_iff_ne.2 (by omega)
  have t2 : (M == 0) = false := beq_eq_false_iff_ne.2 hM0
  by_cases hK0 : K = 0
  · have t3 : ((K : Int) == 0) = true := by rw [hK0]; rfl
    have t4 : (K == 0) = true := by rw [hK0]; rfl
    clear hra hca hla hrb hcb hlb hs hsm hM hK hM0 hK0
    go_enter Try.func8, Try.ntmps8
    go_wp2_with fail
    refine HP.out.mono ?_; rintro e w1 ⟨V1, c1, rfl, _, hb⟩
    have HB1 := Aside0.mk hb
    clear hb
    go_wp2_with fail
    refine (HQ.out _ HB1.out).mono ?_; rintro e w2 ⟨V2, c2, rfl, _, hb⟩
    have HB2 := Aside0.mk (HB1.out.trans (hb.mono HB1.out.size))
    clear hb
    go_wp2_with fail
    refine (alive _).mono ?_; rintro e w3 ⟨rfl, hb⟩
    have HB3 := Aside0.mk (HB2.out.trans (hb.mono HB2.out.size))
    clear hb
    go_wp2_with fail
    go_ret
    exact ⟨rfl, HB3.out⟩
  have t3 : ((K : Int) == 0) = false := beq_eq_false_iff_ne.2 (by omega)
  have t4 : (K == 0) = false := beq_eq_false_iff_ne.2 hK0
  obtain ⟨ta, ha⟩ := tree_many (l := a) (by rw [← hM]; exact hM0)
  obtain ⟨tb, hb⟩ := tree_many (l := b) (by rw [← hK]; exact hK0)
  have hMa : M = a.length := by rw [hM, ha.many]
  have hKb : K = b.length := by rw [hK, hb.many]
  have hl : a.length + b.length ≤ 200 := by omega
  have HTR := Aside0.mk (And.intro ha (And.intro hb (And.intro hMa (And.intro hKb hl))))
  have HM1 := Aside0.mk (fun W (h : Below w.heap.size w W) => make1 W A a c (Kd.C_below hra h) hca (by omega))
  have HM2 := Aside0.mk (fun W (h : Below w.heap.size w W) => make2 W A B a b c d (Kd.C_below hra h) hca (Kd.C_below hrb h) hcb hl)
  have HX := Aside0.mk (fun W (h : Below w.heap.size w W) => Box A c a W (Kd.C_below hra h) hca hla)
  rw [← hM] at HX
  have hmu : many (n9 :: a) = M + 1 := by rw [(one_below ha).many, hMa]; rfl
  have hmv : many (n7 :: (a ++ b)) = M + K + 1 := by rw [(one_beside ha hb).many, hMa, hKb]; simp
  have hmk : M + K ≤ 200 := by rw [hMa, hKb]; exact hl
  have u1 : wrap64 ((M : Int) + 1) = ((M + 1 : Nat) : Int) := wadd1 M (Nat.lt_of_le_of_lt (Nat.le_trans (Nat.le_add_right _ _) hmk) (by decide))
  have u2 : wrap64 ((M : Int) + (K : Int)) = ((M + K : Nat) : Int) := waddn M K (Nat.lt_of_le_of_lt hmk (by decide))
  have u3 : wrap64 (((M + K : Nat) : Int) + 1) = ((M + K + 1 : Nat) : Int) := wadd1 (M + K) (Nat.lt_of_le_of_lt hmk (by decide))
  obtain ⟨M1, hM1⟩ : ∃ M1 : Nat, M1 = M + 1 := ⟨_, rfl⟩
  obtain ⟨MK, hMK⟩ : ∃ MK : Nat, MK = M + K := ⟨_, rfl⟩
  obtain ⟨MK1, hMK1⟩ : ∃ MK1 : Nat, MK1 = MK + 1 := ⟨_, rfl⟩
  rw [← hM1] at u1
  rw [← hMK] at u2 u3
  rw [← hMK1] at u3
  have HNM := Aside0.mk (And.intro hM1 (And.intro hMK hMK1))
  obtain ⟨ra, hra'⟩ : ∃ ra, ra = n9 :: a := ⟨_, rfl⟩
  obtain ⟨rb, hrb'⟩ : ∃ rb, rb = n7 :: (a ++ b) := ⟨_, rfl⟩
  have hrl : ra.length ≤ 1000 ∧ rb.length ≤ 1000 := by rw [hra', hrb']; simp; omega
  rw [← hra'] at HM1 hmu
  rw [← hrb'] at HM2 hmv
  have HRR := Aside0.mk (And.intro hra' hrb')
  have hmu' : M1 = many ra := by rw [hmu, hM1]
  have hmv' : MK1 = many rb := by rw [hmv, hMK1, hMK]
  have HPU : Aside0 (∀ W A5 c5, Kd.C k44 W A5 ra.length ra → ra.length ≤ c5 → Calls Try.prog 11 #[.slice A5 ra.length c5] W fun e w' => ∃ V cv, e = .returned (.slice V M1 cv) ∧ w'.ownsRow W.heap.size 27 1 (.slice V M1 cv) M1 ((List.range M1).map (ptV ra)) ∧ Below W.heap.size W w') := ⟨fun W A5 c5 h hc => by
    rw [hmu']; exact Pts A5 c5 ra W h hc (by omega)⟩
  have HPV : Aside0 (∀ W A5 c5, Kd.C k44 W A5 rb.length rb → rb.length ≤ c5 → Calls Try.prog 11 #[.slice A5 rb.length c5] W fun e w' => ∃ V cv, e = .returned (.slice V MK1 cv) ∧ w'.ownsRow W.heap.size 27 1 (.slice V MK1 cv) MK1 ((List.range MK1).map (ptV rb)) ∧ Below W.heap.size W w') := ⟨fun W A5 c5 h hc => by
    rw [hmv']; exact Pts A5 c5 rb W h hc (by omega)⟩
  clear hra hca hla hrb hcb hlb hs hsm hM hK hM0 hK0 ha hb hMa hKb hl hmu hmv hM1 hMK hMK1 hmk hmu' hmv' hra' hrb' hrl
  go_enter Try.func8, Try.ntmps8
  go_wp2_with fail
  refine HP.out.mono ?_; rintro e w1 ⟨V1, c1, rfl, hop, hb⟩
  have HB1 := Aside0.mk hb
  have HX1 := Aside0.mk hop
  clear hb hop
  go_wp2_with fail
  refine (HQ.out _ HB1.out).mono ?_; rintro e w2 ⟨V2, c2, rfl, hop, hb⟩
  have HB2 := Aside0.mk (HB1.out.trans (hb.mono HB1.out.size))
  have HX2 := Aside0.mk (pw_own_below HX1.out hb)
  have HY2 := Aside0.mk hop
  clear hb hop HX1
  go_wp2_with fail
  refine (HM1.out _ HB2.out).mono ?_; rintro e w3 ⟨A5, c5, rfl, hc5, hC5, hb⟩
  have HB3 := Aside0.mk (HB2.out.trans (hb.mono HB2.out.size))
  have HX3 := Aside0.mk (pw_own_below HX2.out hb)
  have HY3 := Aside0.mk (pw_own_below HY2.out hb)
  have HU := Aside0.mk (HPU.out w3 A5 c5 hC5 hc5)
  clear hb hc5 hC5 HX2 HY2
  go_wp2_with fail
  refine HU.out.mono ?_; rintro e w4 ⟨VU, cu, rfl, hop, hb⟩
  have HB4 := Aside0.mk (HB3.out.trans (hb.mono HB3.out.size))
  have HX4 := Aside0.mk (pw_own_below HX3.out hb)
  have HY4 := Aside0.mk (pw_own_below HY3.out hb)
  have HU4 := Aside0.mk hop
  clear hb hop HX3 HY3 HU
  go_wp2_with fail
  refine (HM2.out _ HB4.out).mono ?_; rintro e w5 ⟨A6, c6, rfl, hc6, hC6, hb⟩
  have HB5 := Aside0.mk (HB4.out.trans (hb.mono HB4.out.size))
  have HX5 := Aside0.mk (pw_own_below HX4.out hb)
  have HY5 := Aside0.mk (pw_own_below HY4.out hb)
  have HU5 := Aside0.mk (pw_own_below HU4.out hb)
  have HV := Aside0.mk (HPV.out w5 A6 c6 hC6 hc6)
  clear hb hc6 hC6 HX4 HY4 HU4
  go_wp2_with fail
  refine HV.out.mono ?_; rintro e w6 ⟨VV, cvv, rfl, hop, hb⟩
  have HB6 := Aside0.mk (HB5.out.trans (hb.mono HB5.out.size))
  have HX6 := Aside0.mk (pw_own_below HX5.out hb)
  have HY6 := Aside0.mk (pw_own_below HY5.out hb)
  have HU6 := Aside0.mk (pw_own_below HU5.out hb)
  have HV6 := Aside0.mk hop
  clear hb hop HX5 HY5 HU5 HV
  go_wp2_with fail
  clear d1 d2 d3 t1 t2 t3 t4 u1 hw1
  have HU2 := Aside0.mk (And.intro u2 u3)
  clear u2 u3
  go_loopg [62] (M + 1) (fun kq v62 W' => ∃ k : Nat, v62 = .int .i64 (k : Int) ∧ Aside0 (kq + k = M + 1 ∧ k ≤ M) ∧ Aside0 (Below w6.heap.size w6 W'))
  case atStart => exact ⟨0, rfl, ⟨by omega, Nat.zero_le _⟩, ⟨Below.refl _ _⟩⟩
  case round =>
    obtain ⟨k, rfl, HJ, HB⟩ := hrel
    cases gk with
    | zero => exact absurd HJ.out.1 (by have := HJ.out.2; omega)
    | succ k1 =>
      by_cases hk : k < M
      · have htr := HTR.out
        have hbp := below_pt htr.1 k (by rw [← htr.2.2.1]; exact hk)
        have hbl := beside_left htr.1 htr.2.1 k (by rw [← htr.2.2.1]; exact hk)
        rw [← HRR.out.1] at hbp
        rw [← HRR.out.2] at hbl
        obtain ⟨kk, hkk⟩ : ∃ kk, kk = k + 1 := ⟨_, rfl⟩
        rw [← hkk] at hbp hbl
        have hmk : M + K ≤ 200 := by rw [htr.2.2.1, htr.2.2.2.1]; exact htr.2.2.2.2
        have hk1 : kk < M1 := by have := HNM.out.1; omega
        have hk2 : kk < MK1 := by have := HNM.out; omega
        obtain ⟨ad, hV, x0⟩ := own_cell1 (pw_own_below HX6.out HB.out) k (ptV a k) (by rw [List.getElem?_map, List.getElem?_range hk]; rfl)
        subst hV
        obtain ⟨adu, hVU, x1⟩ := own_cell1 (pw_own_below HU6.out HB.out) kk (ptV ra kk) (by rw [List.getElem?_map, List.getElem?_range hk1]; rfl)
        subst hVU
        obtain ⟨adv, hVV, x2⟩ := own_cell1 (pw_own_below HV6.out HB.out) kk (ptV rb kk) (by rw [List.getElem?_map, List.getElem?_range hk2]; rfl)
        subst hVV
        obtain ⟨X, hX⟩ : ∃ X, X = (st (kinds a) k).2 := ⟨_, rfl⟩
        obtain ⟨Y, hY⟩ : ∃ Y, Y = (st (kinds a) k).1.length := ⟨_, rfl⟩
        have hXl : X ≤ k := by rw [hX]; exact st_leaves _ _
        have hYl : Y ≤ k := by rw [hY]; exact st_len _ _
        rw [pt_flt, ← hX, ← hY] at x0
        rw [pt_flt, hbp.1, hbp.2, ← hX, ← hY] at x1
        rw [pt_flt, hbl.1, hbl.2, ← hX, ← hY] at x2
        have hkb : k ≤ 200 := by omega
        have cs := csum (X : Int) 0 (Y : Int) 1 (by omega) (by decide) (by omega) (by omega) (by decide) (by omega)
        rw [flt0, flt1, Int.add_zero, show (Y : Int) + 1 = ((Y + 1 : Nat) : Int) by omega] at cs
        have a1 := fe_self X (by omega)
        have a2 := fe_self (Y + 1) (by omega)
        have c1 : decide ((k : Int) < (M : Int)) = true := decide_eq_true (by omega)
        have c2 : decide (k < M) = true := decide_eq_true hk
        have q1 : ((0 : Int) ≤ (k : Int)) = True := eq_true (by omega)
        have q2 : ((k : Int) < (M : Int)) = True := eq_true (by omega)
        have q3 : (k < M) = True := eq_true hk
        have q4 : ((0 : Int) ≤ (kk : Int)) = True := eq_true (by omega)
        have q5 : ((kk : Int) < (M1 : Int)) = True := eq_true (by omega)
        have q6 : (kk < M1) = True := eq_true hk1
        have q7 : ((kk : Int) < (MK1 : Int)) = True := eq_true (by omega)
        have q8 : (kk < MK1) = True := eq_true hk2
        have hw2 : wrap64 ((k : Int) + 1) = (kk : Int) := by rw [hkk]; exact wadd1 k (Nat.lt_of_le_of_lt hkb (by decide))
        have HJ2 := Aside0.mk (And.intro hk hkk)
        generalize flt (X : Int) = px at *
        generalize flt (Y : Int) = py at *
        generalize flt ((Y + 1 : Nat) : Int) = py1 at *
        clear hk htr hbp hbl hkk hmk hk1 hk2 hX hY hXl hYl hkb
        go_upto_region 11 with fail
        go_quiet (fail)
        have HB2 := Aside0.mk (pw_below_drewN HB.out nq)
        go_wp2_with fail
        go_roundg k1
        · exact ⟨kk, by first | rfl | simp [*], ⟨by have := HJ.out; have := HJ2.out; omega, by have := HJ2.out; omega⟩, HB2⟩
        · exact Nat.lt_succ_self _
      · have c1 : decide ((k : Int) < (M : Int)) = false := decide_eq_false (by omega)
        have c2 : decide (k < M) = false := decide_eq_false hk
        have HB7 := Aside0.mk HB.out
        clear hk
        go_wp2_with fail
        clear c1 c2
        go_loopg [92] (K + 1) (fun kq v92 W' => ∃ k : Nat, v92 = .int .i64 (k : Int) ∧ Aside0 (kq + k = K + 1 ∧ k ≤ K) ∧ Aside0 (Below w6.heap.size w6 W'))
        case atStart => exact ⟨0, rfl, ⟨by omega, Nat.zero_le _⟩, HB7⟩
        case round =>
          clear HB HB7 HJ
          obtain ⟨k, rfl, HJ, HB⟩ := hrel
          cases gk with
          | zero => exact absurd HJ.out.1 (by have := HJ.out.2; omega)
          | succ k1 =>
            by_cases hk : k < K
            · have htr := HTR.out
              have hbr := beside_right htr.1 htr.2.1 k (by rw [← htr.2.2.2.1]; exact hk)
              rw [← HRR.out.2, ← htr.2.2.1] at hbr
              have hmk : M + K ≤ 200 := by rw [htr.2.2.1, htr.2.2.2.1]; exact htr.2.2.2.2
              obtain ⟨m0, hm0⟩ : ∃ m0, m0 = M + k := ⟨_, rfl⟩
              obtain ⟨kk, hkk⟩ : ∃ kk, kk = m0 + 1 := ⟨_, rfl⟩
              rw [← hm0, ← hkk] at hbr
              have hk2 : kk < MK1 := by have := HNM.out; omega
              obtain ⟨ady, hVY, x0⟩ := own_cell1 (pw_own_below HY6.out HB.out) k (ptV b k) (by rw [List.getElem?_map, List.getElem?_range hk]; rfl)
              subst hVY
              obtain ⟨adv, hVV, x2⟩ := own_cell1 (pw_own_below HV6.out HB.out) kk (ptV rb kk) (by rw [List.getElem?_map, List.getElem?_range hk2]; rfl)
              subst hVV
              obtain ⟨X, hX⟩ : ∃ X, X = (st (kinds b) k).2 := ⟨_, rfl⟩
              obtain ⟨Y, hY⟩ : ∃ Y, Y = (st (kinds b) k).1.length := ⟨_, rfl⟩
              obtain ⟨BX, hBX⟩ : ∃ BX, BX = boxX (kinds a) M := ⟨_, rfl⟩
              have hXl : X ≤ k := by rw [hX]; exact st_leaves _ _
              have hYl : Y ≤ k := by rw [hY]; exact st_len _ _
              have hBl : BX ≤ M := by rw [hBX]; exact boxX_le _ _
              rw [pt_flt, ← hX, ← hY] at x0
              rw [pt_flt, hbr.1, hbr.2, ← hX, ← hY, ← hBX] at x2
              have hkb : k ≤ 200 := by omega
              have hmb : M ≤ 200 := by omega
              have cs := csum (X : Int) 0 (Y : Int) 1 (by omega) (by decide) (by omega) (by omega) (by decide) (by omega)
              rw [flt0, flt1, Int.add_zero, show (Y : Int) + 1 = ((Y + 1 : Nat) : Int) by omega] at cs
              have cs2 := csum (X : Int) (BX : Int) ((Y + 1 : Nat) : Int) 0 (by omega) (by omega) (by omega) (by omega) (by decide) (by omega)
              rw [flt0, Int.add_zero, show (X : Int) + (BX : Int) = ((BX + X : Nat) : Int) by omega] at cs2
              have a1 := fe_self (BX + X) (by omega)
              have a2 := fe_self (Y + 1) (by omega)
              have c1 : decide ((k : Int) < (K : Int)) = true := decide_eq_true (by omega)
              have c2 : decide (k < K) = true := decide_eq_true hk
              have q1 : ((0 : Int) ≤ (k : Int)) = True := eq_true (by omega)
              have q2 : ((k : Int) < (K : Int)) = True := eq_true (by omega)
              have q3 : (k < K) = True := eq_true hk
              have q4 : ((0 : Int) ≤ (kk : Int)) = True := eq_true (by omega)
              have q7 : ((kk : Int) < (MK1 : Int)) = True := eq_true (by omega)
              have q8 : (kk < MK1) = True := eq_true hk2
              have hw2 : wrap64 ((M : Int) + (k : Int)) = (m0 : Int) := by rw [hm0]; exact waddn M k (Nat.lt_of_le_of_lt (Nat.add_le_add hmb hkb) (by decide))
              have hw3 : wrap64 ((m0 : Int) + 1) = (kk : Int) := by rw [hkk]; exact wadd1 m0 (by rw [hm0]; exact Nat.lt_of_le_of_lt (Nat.add_le_add hmb hkb) (by decide))
              have hw2' : IntKind.i64.wrap ((M : Int) + (k : Int)) = (m0 : Int) := (i64_w _).trans hw2
              have hw3' : IntKind.i64.wrap ((m0 : Int) + 1) = (kk : Int) := (i64_w _).trans hw3
              have HW4 : Aside0 (wrap64 ((k : Int) + 1) = ((k + 1 : Nat) : Int)) := ⟨wadd1 k (Nat.lt_of_le_of_lt hkb (by decide))⟩
              have HJ2 := Aside0.mk hk
              have hBox : ∀ W, Below w.heap.size w W → Calls Try.prog 13 #[.slice A a.length c] W fun e w' => e = .returned (.complex .f64 (flt (BX : Int)) (flt (boxY (kinds a) M : Int))) ∧ Below W.heap.size W w' := fun W h => by rw [hBX]; exact HX.out W h
              have hwr := HB6.out.trans (HB.out.mono HB6.out.size)
              generalize flt (X : Int) = px at *
              generalize flt (Y : Int) = py at *
              generalize flt ((Y + 1 : Nat) : Int) = py1 at *
              generalize flt ((BX + X : Nat) : Int) = px1 at *
              generalize flt (BX : Int) = bx at *
              generalize flt (boxY (kinds a) M : Int) = bY at *
              have cB : ∀ d os, Calls Try.prog 13 #[.slice A a.length c] (grow (redrawn wr d) os) fun e w'' => e = .returned (.complex .f64 bx bY) ∧ ∃ p : Regrown, w'' = grow (redrawn wr p.d) p.os := fun d os => Calls.regrown_of (hBox _ (hwr.trans ((below_regrown wr d os).mono hwr.size)))
              have k0 := cell_regrown x0
              have k2 := cell_regrown x2
              clear hk htr hbr hmk hm0 hkk hk2 hX hY hBX hXl hYl hBl hkb hmb hBox hwr
              go_upto_region 17 with fail
              refine wp_region_quiet_below (by kernel_rfl) (by kernel_rfl) ?_
              repeat (quiet_step (exact cB _ _))
              refine wpQuiet_nil ?_
              intro _ hw'
              obtain ⟨⟨dq, osq⟩, hw''⟩ := hw'
              subst hw''
              have HB2 := Aside0.mk (HB.out.trans ((below_regrown wr dq osq).mono HB.out.size))
              go_wp2_with fail
              go_roundg k1
              · exact ⟨k + 1, congrArg (Value.int .i64) HW4.out, ⟨by have := HJ.out; have := HJ2.out; omega, HJ2.out⟩, HB2⟩
              · exact Nat.lt_succ_self _
            · have c1 : decide ((k : Int) < (K : Int)) = false := decide_eq_false (by omega)
              have c2 : decide (k < K) = false := decide_eq_false hk
              clear hk
              have HB8 := Aside0.mk (HB6.out.trans (HB.out.mono HB6.out.size))
              go_wp2_with fail
              refine (alive _).mono ?_; rintro e w9 ⟨rfl, hb⟩
              have HB9 := Aside0.mk (HB8.out.trans (hb.mono HB8.out.size))
              clear hb
              go_wp2_with fail
              go_ret
              exact ⟨rfl, HB9.out⟩
end Go.Proofs.Ytcbemeooeecboaa.Rng
