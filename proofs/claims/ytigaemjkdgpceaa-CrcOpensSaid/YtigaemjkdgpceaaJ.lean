/- The law CrcOpens: its walk. What is opened is written into; nothing of the bytes given is. -/
import Derived.Test.YtigaemjkdgpceaaI
namespace Go.Proofs.Ytigaemjkdgpceaa
open Go.RowKit Go.Proofs.YtigaemjkdgpceaaW.PrintWords Go.Proofs.YtigaemjkdgpceaaW.PrintLast Go.Proofs.YtigaemjkdgpceaaW.PrintMore Crc PK Ref
set_option linter.unusedVariables false
set_option linter.unusedSimpArgs false

def redresslaw16_CrcOpens.f (l0 : List Int) : Option Bool := if okb l0 = true then some true else none

set_option maxRecDepth 100000 in
set_option maxHeartbeats 2000000 in
theorem redresslaw16_CrcOpens.calls (A0 : Option Addr) (c0 : Nat) (l0 : List Int) (r : Bool) (w : World)
    (hr0 : Kd.C (Kd.int .u8) w A0 l0.length l0) (hc0 : l0.length ≤ c0) (h : redresslaw16_CrcOpens.f l0 = some r) :
    Calls Try.prog 6 #[.slice A0 l0.length c0] w fun e w' => e = .returned (.bool r) ∧ Below w.heap.size w w' := by
  have hm0 := Kd.C_max hr0
  unfold redresslaw16_CrcOpens.f at h
  split at h
  case isFalse => cases h
  rename_i hb0
  obtain rfl := Option.some.inj h
  clear h
  have HR1 := Aside0.mk hr0; clear hr0
  have HO := Aside0.mk hb0; clear hb0
  by_cases g0 : ¬ ((l0.length : Int) ≤ 2100)
  · have g0' : decide ((l0.length : Int) ≤ 2100) = false := by simpa using g0
    go_enter Try.func6, Try.ntmps6
    go_wp2_with fail
    refine (few.n _ _ _ l0 _ rfl HR1.out hc0).mono ?_; rw [g0']; rintro e w1 ⟨rfl, ⟨n1, rfl⟩⟩
    go_wp2_with fail
    refine (redresslaw16_alive.any _).mono ?_; rintro e w1 ⟨rfl, h1⟩
    go_wp2_with fail
    go_ret
    exact ⟨rfl, Aid.bthen (Aid.bdrew (Below.refl _ _) _) h1⟩
  have g0' : decide ((l0.length : Int) ≤ 2100) = true := by simpa using g0
  have g2 : l0.length ≤ 2100 := by omega
  clear g0
  obtain ⟨y116, hy116⟩ : ∃ y_ : List Int, y_ = (([] : List Int)) := ⟨_, rfl⟩
  have LMc5 := Aside0.mk (show y116.length + l0.length < 140737488355328 by rw [hy116, List.length_nil]; omega)
  obtain ⟨y119, hy119⟩ : ∃ y_ : List Int, y_ = (y116 ++ l0) := ⟨_, rfl⟩
  have HY := Aside0.mk (show y119 = l0 by rw [hy119, hy116, List.nil_append])
  have Ny116 := Aside0.mk hy116
  have Ny119 := Aside0.mk hy119
  clear hy116 hy119
  have HB := Aside0.mk (Below.refl w.heap.size w)
  go_enter Try.func6, Try.ntmps6
  go_wp2_with fail
  refine (few.n _ _ _ l0 _ rfl HR1.out hc0).mono ?_; rw [g0']; rintro e w1 ⟨rfl, ⟨n1, rfl⟩⟩
  go_wp2_with (first | ((with_reducible refine gate_dst (N := 15) rfl ?_); refine Kd.R_lit (Kd.int .u8) _ 5 ?hg (N := 15) ?hd (xs := ([] : List Int)) (inner := []) (ok := fun _ => True) (okp := fun _ => True) ?hr ?hp (fun _ hk => hk) trivial (Below.refl _ _) (Nat.le_refl _) (by simp) ?_; (case hd => rfl); (case hg => rfl); (case hr => first | (go_simp; done) | (go_simp; rfl)); (case hp => exact (Reps.none _ _)); intro v117 w8 ho9 hb hg_ hnew_; clear hg_ hnew_; (first | rw [← Ny116.out] at ho9 | (simp only [Int.reduceToNat] at ho9; rw [← Ny116.out] at ho9)); have n0_ := Aside0.mk (Kd.R_lower ho9 (below_size (by repeat (first | (with_reducible first | exact HB.out | apply below_alloc | apply pw_below_drewN | apply below_drew1) | exact HB.out)))); have n1_ := Aside0.mk (below_step (by repeat (first | (with_reducible first | exact HB.out | apply below_alloc | apply pw_below_drewN | apply below_drew1) | exact HB.out)) hb); clear HB; have HO118 := n0_; have HB := n1_; clear n0_ n1_; clear hb ho9) | ((with_reducible refine gate_builtin (b := .append) (xs := #[.tmp 15, .tmp 16]) rfl ?_); at_builtin; refine Kd.R_append_rows (Kd.int .u8) (w0 := w) w.heap.size rfl (.tmp 15) (.tmp 16) 23 5 (.int .u8 0) 1 rfl Try.underlying23 info5 rfl (by decide) (by omega) v117 y116 l0 _ _ _ (fun _ => True) (fun _ => False) rfl rfl ?aO ?aR (fun _ _ h => h) (fun _ h => h.elim) ?aF ?aB ?aS ?aL ?_; (case aR => repeat (first | exact (Kd.C_below HR1.out HB.out) | (with_reducible refine Kd.C_alloc ?_ _) | (with_reducible refine Kd.C_drewN ?_ _) | (with_reducible refine Kd.C_drew ?_))); (case aB => exact (by repeat (first | (with_reducible first | exact HB.out | apply below_alloc | apply pw_below_drewN | apply below_drew1) | exact HB.out))); (case aF => exact (fun _ _ => trivial)); (case aO => exact (by (with_reducible repeat (first | apply Kd.R_alloc | apply Kd.R_drewN | apply Kd.R_drew)); exact HO118.out)); (case aS => exact (below_size (by repeat (first | (with_reducible first | exact HB.out | apply below_alloc | apply pw_below_drewN | apply below_drew1) | exact HB.out)))); (case aL => have := LMc5.out; omega); intro v120 w10 ho hb hg hat; rw [← Ny119.out] at ho; have n0_ := Aside0.mk (hb); have n1_ := Aside0.mk (ho); clear HB; clear HO118; have HB := n0_; have HO121 := n1_; clear n0_ n1_; clear ho hb hg hat; obtain ⟨Ao11, co11, eo11⟩ := Kd.R_slice HO121.out; subst eo11))
  have hy := HY.out
  clear HY Ny116 Ny119 LMc5
  subst hy
  obtain ⟨⟨q, d, is⟩, hop⟩ : ∃ x, openl y119 = x := ⟨_, rfl⟩
  refine (crc_Open.calls Ao11 co11 y119 q d is _ (Kd.R_reads' HO121.out).2.2 (Kd.R_reads' HO121.out).2.1 (by unfold crc_Open.f; rw [if_pos HO.out, hop])).mono ?_
  rintro e w11 ⟨v1, rfl, hRd, hb11⟩
  have n0_ := Aside0.mk (Kd.R_elder' HO121.out (Kd.R_base hRd) hb11)
  have HD := Aside0.mk (Kd.R_lower (Kd.R_new' hRd (Kd.R_lt HO121.out)) HB.out.size)
  have n1_ := Aside0.mk (Aid.bthen HB.out hb11)
  clear HO121 HB hb11 hRd
  have HG := n0_; have HB := n1_; clear n0_ n1_
  obtain ⟨A2, c2, hv2⟩ := Kd.R_slice HD.out
  subst hv2
  have HOP := Aside0.mk hop; clear hop
  go_wp2_with fail
  have S22 := ref_Open.any A0 c0 y119 w11 (Kd.C_below HR1.out HB.out) hc0 HO.out g2
  rw [HOP.out] at S22
  refine S22.mono ?_
  clear S22
  rintro e w12 ⟨A3, c3, rfl, hc3, hC3, hb12⟩
  have HG2 := Aside0.mk (Kd.R_elder' (v := undef) HG.out (fun k hk => by cases hk) hb12)
  have HD2 := Aside0.mk (Kd.R_elder' (v := undef) HD.out (fun k hk => by cases hk) hb12)
  have HB2 := Aside0.mk (Aid.bthen HB.out hb12)
  have HC3 := Aside0.mk hC3
  clear HG HD HB hb12 hC3
  have HC2 := Aside0.mk (Kd.R_reads' HD2.out).2.2
  have kc2 := (Kd.R_reads' HD2.out).2.1
  have kdl : d.length ≤ 100000 := by
    have := congrArg (fun x : Int × List Int × Bool => x.2.1) HOP.out
    simp only [] at this
    rw [← this]
    unfold openl
    split
    · simp
    · split
      · simp
      · split
        · simp
        · simp; omega
  have S15 := ref_Same.n A2 d.length c2 d A3 d.length c3 d w12 rfl rfl HC2.out kc2 HC3.out hc3 kdl
  rw [decide_eq_true rfl] at S15
  have HS15 := Aside0.mk S15; clear S15
  have kqq : decide (q = q) = true := decide_eq_true rfl
  have kii : (is != is) = false := by simp
  go_wp2_with fail
  refine HS15.out.mono ?_; rintro e w13 ⟨rfl, ⟨n3, rfl⟩⟩
  go_wp2_with fail
  have HG3 := Aside0.mk (Kd.R_mono (Kd.R_drewN HG2.out n3) (fun k hk => hk.1.2) : Kd.R (Kd.int .u8) 5 (w12.drewN n3) w.heap.size (fun k_ => some k_ ≠ (Value.slice A2 d.length c2).ownBlock) (.slice Ao11 y119.length co11) y119)
  have HD3 := Aside0.mk (Kd.R_mono (Kd.R_drewN HD2.out n3) (fun k hk => hk.1.2) : Kd.R (Kd.int .u8) 5 (w12.drewN n3) w.heap.size (fun k_ => some k_ ≠ (Value.slice Ao11 y119.length co11).ownBlock) (.slice A2 d.length c2) d)
  have HB3 := Aside0.mk (Aid.bdrew HB2.out n3)
  clear HG2 HD2 HB2 HC2 HC3 HS15
  go_loopg [46] (d.length + 1) (fun kq v46 w' => ∃ (x5 : List Int) (j : Nat), v46 = .int .i64 (j : Int) ∧ Aside0 (kq + j = d.length + 1 ∧ j ≤ d.length) ∧ Aside0 (Kd.R (Kd.int .u8) 5 w' w.heap.size (fun k_ => some k_ ≠ (Value.slice Ao11 y119.length co11).ownBlock) (.slice A2 d.length c2) x5) ∧ Aside0 (Kd.R (Kd.int .u8) 5 w' w.heap.size (fun k_ => some k_ ≠ (Value.slice A2 d.length c2).ownBlock) (.slice Ao11 y119.length co11) y119) ∧ Aside0 (Below w.heap.size w w'))
  case atStart => exact ⟨d, 0, rfl, ⟨by omega, by omega⟩, HD3, HG3, HB3⟩
  case round =>
    clear HD3 HG3 HB3
    obtain ⟨x5, j, rfl, HK, HD, HG, HB⟩ := hrel
    have hl5 := (Kd.R_reads' HD.out).1
    cases gk with
    | zero => exact absurd HK.out (by omega)
    | succ k1 =>
      by_cases hj : j < d.length
      · have c14 : decide ((j : Int) < (d.length : Int)) = true := by simpa using hj
        have p0 : (0 : Int) ≤ (j : Int) := by omega
        have q0 : (j : Int) < (d.length : Int) := by omega
        have q1 : (j : Int) < (x5.length : Int) := by omega
        obtain ⟨ad130, e130, hx⟩ := Kd.at_int (Kd.R_reads' HD.out).2.2 (j : Int) p0 q1
        cases e130
        obtain ⟨go17, co17, eo17, gb17, gl17, cl17, HG17⟩ := Kd.R_form HD.out (by omega)
        (first | cases eo17 | (injection eo17 with ea_ en_ ec_; (first | subst ea_ | (injection ea_ with ea_; subst ea_)); subst ec_; clear en_))
        have GB17 := Aside0.mk gb17
        have GG17 := Aside0.mk HG17
        clear gb17 gl17 HG17
        (first | simp only [add_plain] at hx | skip)
        obtain ⟨hx17_0, hf17_0⟩ := Kd.R_celln 0 HD.out (j : Int) p0 q0
        simp only [Int.toNat_natCast] at hx hx17_0 hf17_0
        have HP18 := Kd.R_putg HD.out (j : Int) (((rd x5 (j : Int)) + 1) % 256)
        have e256 : IntKind.u8.wrap (rd x5 (j : Int) + 1) = (rd x5 (j : Int) + 1) % 256 := by simp [IntKind.wrap, IntKind.bits, IntKind.signed]
        have ej : IntKind.i64.wrap ((j : Int) + 1) = ((j + 1 : Nat) : Int) := by rw [IntKind.wrap_i64]; have := HK.out.2; omega
        simp only [Int.toNat_natCast] at HP18
        have HPa := Aside0.mk HP18.1
        have HPg := Aside0.mk (Kd.R_mono (Kd.R_after (v := (.slice (some ⟨go17, 0, none⟩) d.length c2)) (v1 := (.slice (some ⟨go17, 0, none⟩) d.length c2)) (ok := (fun _ => True)) (Kd.R_mono HG.out (fun _ hk => ⟨trivial, hk⟩)) HP18.2 (.inl rfl)) (fun _ hk => hk.2))
        have HPb := Aside0.mk (below_set (v := Value.int IntKind.u8 ((rd x5 (j : Int) + 1) % 256)) (j := j) (HB.out) GB17.out)
        clear HP18
        go_wp2_with fail
        go_roundg k1
        case measure => omega
        case rel => exact ⟨_, j + 1, by simp, ⟨by have := HK.out; omega, by have := HK.out; omega⟩, HPa, HPg, HPb⟩
      · have c14 : decide ((j : Int) < (d.length : Int)) = false := by simpa using hj
        go_wp2_with fail
        refine (redresslaw16_alive.any _).mono ?_; rintro e w1 ⟨rfl, hb1⟩
        have HGr := Aside0.mk (Kd.R_reads' HG.out)
        have HB1 := Aside0.mk hb1; clear hb1
        have HGS := Kd.R_elder' (v := undef) HG.out (fun k hk => by cases hk) HB1.out
        have S15 := ref_Same.n Ao11 y119.length co11 y119 A0 y119.length c0 y119 w1 rfl rfl (Kd.R_reads' HGS).2.2 HGr.out.2.1 (Kd.C_below HR1.out (Aid.bthen HB.out HB1.out)) hc0 (by omega)
        rw [decide_eq_true rfl] at S15
        have HS15 := Aside0.mk S15; clear S15 HGS
        go_wp2_with fail
        refine HS15.out.mono ?_; rintro e w2 ⟨rfl, ⟨n4, rfl⟩⟩
        go_wp2_with fail
        go_ret
        exact ⟨rfl, Aid.bdrew (Aid.bthen HB.out HB1.out) _⟩
end Go.Proofs.Ytigaemjkdgpceaa
