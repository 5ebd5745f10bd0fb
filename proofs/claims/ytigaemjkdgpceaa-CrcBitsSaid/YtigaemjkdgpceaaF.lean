/- The law CrcSums: its walk by hand (a cut with a capacity is appended to), and the reference's contracts with counted rows. -/
import Derived.Test.YtigaemjkdgpceaaE
namespace Go.Proofs.Ytigaemjkdgpceaa
open Go.RowKit Go.Proofs.YtigaemjkdgpceaaW.PrintWords Go.Proofs.YtigaemjkdgpceaaW.PrintLast Go.Proofs.YtigaemjkdgpceaaW.PrintMore Crc PK Ref
set_option linter.unusedVariables false
set_option linter.unusedSimpArgs false

theorem ref_More.n (s : Nat) (A1 : Option Addr) (n c1 : Nat) (l1 : List Int) (w : World) (hs : s < 4294967296) (hn : l1.length = n) (hr1 : Kd.C (Kd.int .u8) w A1 l1.length l1) (hc1 : n ≤ c1) (hb : okb l1 = true) (hm : l1.length ≤ 100000) :
    Calls Try.prog 12 #[.int .u32 (s : Int), .slice A1 n c1] w fun e w' => e = .returned (.int .u32 ((cmore s l1 : Nat) : Int)) ∧ Drawn0 w w' := by
  subst hn
  exact redressref16_More.calls (l1.length + 10) (s : Int) A1 c1 l1 _ w hr1 hc1 (more l1 s _ hb hm (by omega) hs)
theorem ref_Get.n (A0 : Option Addr) (n c0 : Nat) (l0 : List Int) (w : World) (hn : l0.length = n) (hr0 : Kd.C (Kd.int .u8) w A0 l0.length l0) (hc0 : n ≤ c0) (hb : okb l0 = true) :
    Calls Try.prog 18 #[.slice A0 n c0] w fun e w' => e = .returned (.int .u64 ((getn 8 l0 : Nat) : Int)) ∧ Drawn0 w w' := by
  subst hn
  exact redressref16_Get.calls 9 A0 c0 l0 _ w hr0 hc0 (get l0 9 hb (by decide))
theorem few.n (A0 : Option Addr) (n c0 : Nat) (l0 : List Int) (w : World) (hn : l0.length = n) (hr0 : Kd.C (Kd.int .u8) w A0 l0.length l0) (hc0 : n ≤ c0) :
    Calls Try.prog 9 #[.slice A0 n c0] w fun e w' => e = .returned (.bool (decide ((l0.length : Int) ≤ 2100))) ∧ Drawn0 w w' := by
  subst hn
  exact redresslaw16_few.calls A0 c0 l0 _ w hr0 hc0 rfl

def redresslaw16_CrcSums.f (s : Int) (l0 l1 : List Int) : Option Bool :=
  if 0 ≤ s ∧ s < 4294967296 ∧ okb l0 = true ∧ okb l1 = true then some true else none

theorem redresslaw16_CrcSums.calls (a0 : Int) (A0 : Option Addr) (c0 : Nat) (l0 : List Int) (A1 : Option Addr) (c1 : Nat) (l1 : List Int) (r : Bool) (w : World)
    (hr0 : Kd.C (Kd.int .u8) w A0 l0.length l0) (hc0 : l0.length ≤ c0) (hr1 : Kd.C (Kd.int .u8) w A1 l1.length l1) (hc1 : l1.length ≤ c1) (h : redresslaw16_CrcSums.f a0 l0 l1 = some r) :
    Calls Try.prog 3 #[.int .u32 a0, .slice A0 l0.length c0, .slice A1 l1.length c1] w fun e w' => e = .returned (.bool r) ∧ Below w.heap.size w w' := by
  have hm0 := Kd.C_max hr0
  have hm1 := Kd.C_max hr1
  unfold redresslaw16_CrcSums.f at h
  split at h
  case isFalse => cases h
  rename_i hg
  obtain ⟨hs0, hs1, hb0, hb1⟩ := hg
  obtain rfl := Option.some.inj h
  clear h
  obtain ⟨s, rfl⟩ : ∃ s : Nat, a0 = s := ⟨a0.toNat, by omega⟩
  have hs : s < 4294967296 := by omega
  have HS := Aside0.mk hs; clear hs hs0 hs1
  have HR0 := Aside0.mk hr0; clear hr0
  have HR1 := Aside0.mk hr1; clear hr1
  have HB0 := Aside0.mk hb0; clear hb0
  have HB1 := Aside0.mk hb1; clear hb1
  by_cases g0 : ¬ ((l0.length : Int) ≤ 2100)
  · have g0' : decide ((l0.length : Int) ≤ 2100) = false := by simpa using g0
    go_enter Try.func3, Try.ntmps3
    go_wp2_with fail
    refine (few.n _ _ _ l0 _ rfl HR0.out hc0).mono ?_; rw [g0']; rintro e w1 ⟨rfl, ⟨n1, rfl⟩⟩
    go_wp2_with fail
    refine (redresslaw16_alive.any _).mono ?_; rintro e w1 ⟨rfl, h1⟩
    go_wp2_with fail
    go_ret
    exact ⟨rfl, Aid.bthen (Aid.bdrew (Below.refl _ _) _) h1⟩
  have g0' : decide ((l0.length : Int) ≤ 2100) = true := by simpa using g0
  have G0 := Aside0.mk (show l0.length ≤ 2100 by omega)
  clear g0
  by_cases g1 : ¬ ((l1.length : Int) ≤ 2100)
  · have g1' : decide ((l1.length : Int) ≤ 2100) = false := by simpa using g1
    go_enter Try.func3, Try.ntmps3
    go_wp2_with fail
    refine (few.n _ _ _ l0 _ rfl HR0.out hc0).mono ?_; rw [g0']; rintro e w1 ⟨rfl, ⟨n1, rfl⟩⟩
    go_wp2_with fail
    refine (few.n _ _ _ l1 _ rfl (Kd.C_drewN HR1.out _) hc1).mono ?_; rw [g1']; rintro e w1 ⟨rfl, ⟨n2, rfl⟩⟩
    go_wp2_with fail
    refine (redresslaw16_alive.any _).mono ?_; rintro e w1 ⟨rfl, h1⟩
    go_wp2_with fail
    go_ret
    exact ⟨rfl, Aid.bthen (Aid.bdrew (Below.refl _ _) _) h1⟩
  have g1' : decide ((l1.length : Int) ≤ 2100) = true := by simpa using g1
  have G1 := Aside0.mk (show l1.length ≤ 2100 by omega)
  clear g1
  go_enter Try.func3, Try.ntmps3
  go_wp2_with fail
  refine (few.n _ _ _ l0 _ rfl HR0.out hc0).mono ?_; rw [g0']; rintro e w1 ⟨rfl, ⟨n1, rfl⟩⟩
  go_wp2_with fail
  refine (few.n _ _ _ l1 _ rfl (Kd.C_drewN HR1.out _) hc1).mono ?_; rw [g1']; rintro e w1 ⟨rfl, ⟨n2, rfl⟩⟩
  clear g0' g1'
  obtain ⟨A', c', w2, hr, hc', hC2, hb2⟩ := Aid.app_cut (P := Try.prog) (0 : Int) (w.drewN (n1 + n2)) 23 23 5 (.int .u8 0) 1 Try.underlying23 info5 rfl (by omega) A0 A1 c1 l0 l1 (Kd.C_drewN HR0.out _) (Kd.C_drewN HR1.out _) (by have := G0.out; have := G1.out; omega)
  have hr := Aside0.mk hr
  have H2 := Aside0.mk (show Below w.heap.size w w2 from Aid.bthen (Aid.bdrew (Below.refl _ _) _) hb2)
  have HD0 := Aside0.mk (Kd.C_below (Kd.C_drewN HR0.out (n1 + n2)) hb2)
  have HD1 := Aside0.mk (Kd.C_below (Kd.C_drewN HR1.out (n1 + n2)) hb2)
  have HC2 := Aside0.mk hC2
  clear hb2 hC2
  go_wp2_with (at_builtin; refine Aid.append_event (.tmp 22) (.tmp 23) 23 (by simp [Region.wanted, yielded]) rfl _ _ rfl rfl hr.out ?_)
  refine (redresslaw16_alive.any _).mono ?_; rintro e w3 ⟨rfl, h3⟩
  have H3 := Aside0.mk h3
  have HE0 := Aside0.mk (Kd.C_below HD0.out h3)
  have HE1 := Aside0.mk (Kd.C_below HD1.out h3)
  have HE2 := Aside0.mk (Kd.C_below HC2.out h3)
  clear h3
  go_wp2_with fail
  refine (crc_More.n s _ _ _ l0 _ HS.out rfl HE0.out hc0 HB0.out).mono ?_; rintro e w' ⟨rfl, ⟨m1, rfl⟩⟩
  go_wp2_with fail
  refine (ref_More.n s _ _ _ l0 _ HS.out rfl (Kd.C_drewN HE0.out _) hc0 HB0.out (by have := G0.out; omega)).mono ?_; rintro e w' ⟨rfl, ⟨m2, rfl⟩⟩
  go_wp2_with fail
  refine (crc_Sum.n _ _ _ l0 _ rfl (Kd.C_drewN HE0.out _) hc0 HB0.out).mono ?_; rintro e w' ⟨rfl, ⟨m3, rfl⟩⟩
  go_wp2_with fail
  refine (ref_More.n 0 _ _ _ l0 _ (by decide) rfl (Kd.C_drewN HE0.out _) hc0 HB0.out (by have := G0.out; omega)).mono ?_; rintro e w' ⟨rfl, ⟨m4, rfl⟩⟩
  go_wp2_with fail
  refine (crc_More.n s _ _ _ l0 _ HS.out rfl (Kd.C_drewN HE0.out _) hc0 HB0.out).mono ?_; rintro e w' ⟨rfl, ⟨m5, rfl⟩⟩
  go_wp2_with fail
  refine (crc_More.n (cmore s l0) _ _ _ l1 _ (cmore_lt s l0 HS.out HB0.out) rfl (Kd.C_drewN HE1.out _) hc1 HB1.out).mono ?_; rw [cmore_append]; rintro e w' ⟨rfl, ⟨m6, rfl⟩⟩
  go_wp2_with fail
  refine (crc_More.n s _ _ _ (l0 ++ l1) _ HS.out (by simp) (Kd.C_drewN HE2.out _) (by simpa using hc') (by rw [okb_append, HB0.out, HB1.out]; rfl)).mono ?_; rintro e w' ⟨rfl, ⟨m7, rfl⟩⟩
  go_wp2_with fail
  go_ret
  exact ⟨by simp, by repeat (first | exact Aid.bthen H2.out H3.out | apply Aid.bdrew)⟩
end Go.Proofs.Ytigaemjkdgpceaa
