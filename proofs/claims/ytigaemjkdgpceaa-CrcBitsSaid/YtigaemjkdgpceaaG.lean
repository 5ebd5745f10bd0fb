/- The law CrcBack: what a frame is opened as, and its walk by hand. -/
import Derived.Test.YtigaemjkdgpceaaF
namespace Go.Proofs.Ytigaemjkdgpceaa
open Go.RowKit Go.Proofs.YtigaemjkdgpceaaW.PrintWords Go.Proofs.YtigaemjkdgpceaaW.PrintLast Go.Proofs.YtigaemjkdgpceaaW.PrintMore Crc PK Ref
set_option linter.unusedVariables false
set_option linter.unusedSimpArgs false

theorem getn8_putl4 (n : Nat) (h : n < 256 ^ 4) : getn 8 (putl n 4) = n := by rw [getn_putl 4 n 8 (by decide), Nat.mod_eq_of_lt h]
theorem frame_head (n : Nat) (d b : List Int) : framel n d ++ b = putl n 8 ++ (putl d.length 4 ++ (putl (cmore (cmore 0 (headl n d)) d) 4 ++ (d ++ b))) := by
  unfold framel headl; simp [List.append_assoc]
theorem cut_at {α : Type} (a b : List α) (n : Nat) (h : a.length = n) : (a ++ b).take n = a := by subst h; simp
theorem drop_at {α : Type} (a b : List α) (n : Nat) (h : a.length = n) : (a ++ b).drop n = b := by subst h; simp
theorem frame_8 (n : Nat) (d b : List Int) : (framel n d ++ b).take 8 = putl n 8 := by rw [frame_head]; exact cut_at _ _ 8 (putl_length _ _)
theorem frame_12 (n : Nat) (d b : List Int) : (framel n d ++ b).take 12 = headl n d := by
  rw [frame_head, ← List.append_assoc]; exact cut_at _ _ 12 (headl_length n d)
theorem frame_16 (n : Nat) (d b : List Int) : (framel n d ++ b).take 16 = headl n d ++ putl (cmore (cmore 0 (headl n d)) d) 4 := by
  rw [frame_head, ← List.append_assoc, ← List.append_assoc]; exact cut_at _ _ 16 (by rw [List.length_append, putl_length]; have := headl_length n d; unfold headl at this; omega)
theorem frame_d (n : Nat) (d b : List Int) : (framel n d ++ b).drop 16 = d ++ b := by
  rw [frame_head, ← List.append_assoc, ← List.append_assoc]; exact drop_at _ _ 16 (by rw [List.length_append, putl_length]; have := headl_length n d; unfold headl at this; omega)
theorem head_8 (n : Nat) (d : List Int) : (headl n d).drop 8 = putl d.length 4 := drop_at _ _ 8 (putl_length _ _)
/-- A frame, with anything behind it, is opened as what it was. -/
theorem open_back (n : Nat) (d b : List Int) (hn : n < 18446744073709551616) (hd : okb d = true) (hl : d.length ≤ 2048) : openl (framel n d ++ b) = ((n : Int), d, true) := by
  have hs := cmore_lt (cmore 0 (headl n d)) d (cmore_lt 0 _ (by decide) (headl_okb n d)) hd
  have hlen : (framel n d ++ b).length = 16 + d.length + b.length := by rw [List.length_append, framel_length]
  unfold openl
  rw [if_neg (by omega), frame_12, head_8, getn8_putl4 _ (by omega), if_neg (by omega), frame_d, cut_at d b _ rfl, frame_16, drop_at _ _ 12 (headl_length n d), getn8_putl4 _ (by omega), if_neg (by simp), frame_8, getn_putl 8 n 8 (by decide), Nat.mod_eq_of_lt (by omega)]
/-- No part of a frame is opened. -/
theorem open_part (n : Nat) (d : List Int) (k : Nat) (hl : d.length ≤ 2048) (hk : k < (framel n d).length) : openl ((framel n d).take k) = (0, [], false) := by
  have hlen := framel_length n d
  unfold openl
  by_cases h16 : k < 16
  · rw [if_pos (by rw [List.length_take]; omega)]
  · have e : ((framel n d).take k).take 12 = headl n d := by
      have := frame_12 n d []
      rw [List.append_nil] at this
      rw [List.take_take, Nat.min_eq_left (by omega), this]
    rw [if_neg (by rw [List.length_take]; omega), e, head_8, getn8_putl4 _ (by omega), if_pos (by rw [List.length_take]; omega)]

def redresslaw16_CrcBack.f (s : Int) (l0 l1 : List Int) : Option Bool :=
  if 0 ≤ s ∧ s < 18446744073709551616 ∧ okb l0 = true ∧ okb l1 = true then some true else none

set_option maxHeartbeats 2000000 in
theorem redresslaw16_CrcBack.calls (a0 : Int) (A0 : Option Addr) (c0 : Nat) (l0 : List Int) (A1 : Option Addr) (c1 : Nat) (l1 : List Int) (r : Bool) (w : World)
    (hr0 : Kd.C (Kd.int .u8) w A0 l0.length l0) (hc0 : l0.length ≤ c0) (hr1 : Kd.C (Kd.int .u8) w A1 l1.length l1) (hc1 : l1.length ≤ c1) (h : redresslaw16_CrcBack.f a0 l0 l1 = some r) :
    Calls Try.prog 7 #[.int .u64 a0, .slice A0 l0.length c0, .slice A1 l1.length c1] w fun e w' => e = .returned (.bool r) ∧ Below w.heap.size w w' := by
  have hm0 := Kd.C_max hr0
  have hm1 := Kd.C_max hr1
  unfold redresslaw16_CrcBack.f at h
  split at h
  case isFalse => cases h
  rename_i hg
  obtain ⟨hs0, hs1, hb0, hb1⟩ := hg
  obtain rfl := Option.some.inj h
  clear h
  obtain ⟨s, rfl⟩ : ∃ s : Nat, a0 = s := ⟨a0.toNat, by omega⟩
  have hs : s < 18446744073709551616 := by omega
  have HS := Aside0.mk hs; clear hs hs0 hs1
  have HR0 := Aside0.mk hr0; clear hr0
  have HR1 := Aside0.mk hr1; clear hr1
  have HB0 := Aside0.mk hb0; clear hb0
  have HB1 := Aside0.mk hb1; clear hb1
  by_cases g0 : ¬ ((l0.length : Int) ≤ 2100)
  · have g0' : decide ((l0.length : Int) ≤ 2100) = false := by simpa using g0
    go_enter Try.func7, Try.ntmps7
    go_wp2_with fail
    refine (few.n _ _ _ l0 _ rfl HR0.out hc0).mono ?_; rw [g0']; rintro e w1 ⟨rfl, ⟨n1, rfl⟩⟩
    go_wp2_with fail
    refine (redresslaw16_alive.any _).mono ?_; rintro e w1 ⟨rfl, h1⟩
    go_wp2_with fail
    go_ret
    exact ⟨rfl, Aid.bthen (Aid.bdrew (Below.refl _ _) _) h1⟩
  have g0' : decide ((l0.length : Int) ≤ 2100) = true := by simpa using g0
  have G0 := Aside0.mk (show l0.length ≤ 2100 by omega)
  clear g0
  by_cases g1 : ¬ ((l1.length : Int) ≤ 2100)
  · have g1' : decide ((l1.length : Int) ≤ 2100) = false := by simpa using g1
    go_enter Try.func7, Try.ntmps7
    go_wp2_with fail
    refine (few.n _ _ _ l0 _ rfl HR0.out hc0).mono ?_; rw [g0']; rintro e w1 ⟨rfl, ⟨n1, rfl⟩⟩
    go_wp2_with fail
    refine (few.n _ _ _ l1 _ rfl (Kd.C_drewN HR1.out _) hc1).mono ?_; rw [g1']; rintro e w1 ⟨rfl, ⟨n2, rfl⟩⟩
    go_wp2_with fail
    refine (redresslaw16_alive.any _).mono ?_; rintro e w1 ⟨rfl, h1⟩
    go_wp2_with fail
    go_ret
    exact ⟨rfl, Aid.bthen (Aid.bdrew (Below.refl _ _) _) h1⟩
  have g1' : decide ((l1.length : Int) ≤ 2100) = true := by simpa using g1
  have G1 := Aside0.mk (show l1.length ≤ 2100 by omega)
  clear g1
  by_cases g2 : 2048 < l0.length
  · have F0 : crc_Frame.f (s : Int) l0 = some ([], false) := by unfold crc_Frame.f; rw [if_pos (by omega)]
    go_enter Try.func7, Try.ntmps7
    go_wp2_with fail
    refine (few.n _ _ _ l0 _ rfl HR0.out hc0).mono ?_; rw [g0']; rintro e w1 ⟨rfl, ⟨n1, rfl⟩⟩
    go_wp2_with fail
    refine (few.n _ _ _ l1 _ rfl (Kd.C_drewN HR1.out _) hc1).mono ?_; rw [g1']; rintro e w1 ⟨rfl, ⟨n2, rfl⟩⟩
    go_wp2_with fail
    refine (crc_Frame.calls s _ _ l0 [] false _ (Kd.C_drewN HR0.out _) hc0 F0).mono ?_
    rintro e w1 ⟨v, rfl, hR, hb1⟩
    have HB1 := Aside0.mk hb1; clear hb1 hR
    go_wp2_with fail
    refine (redresslaw16_alive.any _).mono ?_; rintro e w1 ⟨rfl, h1⟩
    go_wp2_with fail
    go_ret
    exact ⟨rfl, Aid.bthen (Aid.bthen (Aid.bdrew (Below.refl _ _) _) HB1.out) h1⟩
  have F0 : crc_Frame.f (s : Int) l0 = some (framel s l0, true) := crcFrame s l0 HS.out HB0.out (by omega)
  have G2 := Aside0.mk (show l0.length ≤ 2048 by omega)
  clear g2
  go_enter Try.func7, Try.ntmps7
  go_wp2_with fail
  refine (few.n _ _ _ l0 _ rfl HR0.out hc0).mono ?_; rw [g0']; rintro e w1 ⟨rfl, ⟨n1, rfl⟩⟩
  go_wp2_with fail
  refine (few.n _ _ _ l1 _ rfl (Kd.C_drewN HR1.out _) hc1).mono ?_; rw [g1']; rintro e w1 ⟨rfl, ⟨n2, rfl⟩⟩
  clear g0' g1'
  go_wp2_with fail
  refine (crc_Frame.calls s _ _ l0 (framel s l0) true _ (Kd.C_drewN HR0.out _) hc0 F0).mono ?_
  clear F0
  rintro e w1 ⟨v, rfl, hR, hb1⟩
  obtain ⟨A, c, hv, hc, hC⟩ := Kd.R_reads hR
  rw [hv]
  clear hR hv
  obtain ⟨L, hL⟩ : ∃ L, L = l0.length := ⟨_, rfl⟩
  have hfl : (framel s l0).length = 16 + L := by rw [framel_length, hL]
  rw [hfl] at hc hC ⊢
  obtain ⟨A', c', w2, hr, hc', hC2, hb2⟩ := Aid.app_cut (P := Try.prog) (0 : Int) w1 23 23 5 (.int .u8 0) 1 Try.underlying23 info5 rfl (by omega) A A1 c1 (framel s l0) l1 (by rw [hfl]; exact hC) (Kd.C_below (Kd.C_drewN HR1.out _) hb1) (by rw [hfl]; have := G0.out; have := G1.out; omega)
  have hal : (framel s l0 ++ l1).length = 16 + L + l1.length := by rw [List.length_append, hfl]
  rw [hfl, hal] at hr
  rw [hal] at hc'
  have HRUN := Aside0.mk hr
  have H2 := Aside0.mk (show Below w.heap.size w w2 from Aid.bthen (Aid.bthen (Aid.bdrew (Below.refl _ _) _) hb1) hb2)
  have HD0 := Aside0.mk (Kd.C_below (Kd.C_below (Kd.C_drewN HR0.out _) hb1) hb2)
  have HF := Aside0.mk (Kd.C_below hC hb2)
  have HC2 := Aside0.mk hC2
  have HFL := Aside0.mk hfl
  have HAL := Aside0.mk hal
  have HL := Aside0.mk hL
  clear hr hb2 hb1 hC2 hC hfl hal HR0 HR1 hL
  go_wp2_with (at_builtin; refine Aid.append_event (.tmp 41) (.tmp 42) 23 (by simp [Region.wanted, yielded]) rfl _ _ rfl rfl HRUN.out ?_)
  refine (crc_Open.n _ _ _ (framel s l0 ++ l1) _ HAL.out HC2.out hc' (by rw [okb_append, framel_okb s l0 HB0.out, HB1.out]; rfl)).mono ?_; rw [open_back s l0 l1 HS.out HB0.out G2.out]; rintro e w3 ⟨v3, rfl, hR3, hb3⟩
  obtain ⟨A3, c3, hv3, hc3, hC3⟩ := Kd.R_reads hR3
  rw [hv3]
  clear hR3 hv3
  have HC3 := Aside0.mk hC3
  have H3 := Aside0.mk (Aid.bthen H2.out hb3)
  have HE0 := Aside0.mk (Kd.C_below HD0.out hb3)
  have HF3 := Aside0.mk (Kd.C_below HF.out hb3)
  clear hb3 hC3 HC2 HD0 HF H2 HRUN hc'
  have hwr : wrap64 (16 + (L : Int) - 1) = 15 + (L : Int) := by have := G2.out; have := HL.out; unfold wrap64; omega
  go_wp2_with fail
  obtain ⟨b, hb⟩ : ∃ b, b = w3.heap.size := ⟨_, rfl⟩
  obtain ⟨x0, hx0⟩ : ∃ x, x = w3.alloc (.cells #[.int .i64 0, .int .i64 1, .int .i64 8, .int .i64 15, .int .i64 16, .int .i64 (15 + L)] 3) := ⟨_, rfl⟩
  have HQ : Aside0 (Kd.C (Kd.int .i64) x0 (some ⟨b, 0, none⟩) 6 [0, 1, 8, 15, 16, 15 + (L : Int)]) := ⟨by rw [hx0, hb]; exact Aid.C_new (enc := Value.int .i64) 0 _ [0, 1, 8, 15, 16, 15 + (L : Int)] _ 3 (0, 0) rfl (by simp)⟩
  have HF := Aside0.mk (show Kd.C (Kd.int .u8) x0 A (framel s l0).length (framel s l0) by rw [hx0, HFL.out]; exact Kd.C_alloc HF3.out _)
  have HC := Aside0.mk (show Kd.C (Kd.int .u8) x0 A3 l0.length l0 by rw [hx0]; exact Kd.C_alloc HC3.out _)
  have HE := Aside0.mk (show Kd.C (Kd.int .u8) x0 A0 l0.length l0 by rw [hx0]; exact Kd.C_alloc HE0.out _)
  have HB := Aside0.mk (show Below w.heap.size w x0 by rw [hx0]; exact Aid.balloc H3.out _)
  rw [← hx0, ← hb]
  clear HF3 HC3 HE0 H3 hwr hx0 hb
  have HOB := Aside0.mk (framel_okb s l0 HB0.out)
  have g2 := G2.out
  have hLle : L ≤ 2048 := by have := HL.out; omega
  have hfl := HFL.out
  refine wp_loop_rounds 7 ?_
  rw [rounds_succ]
  obtain ⟨ad, e0, hx⟩ := Kd.at_int HQ.out 0 (by decide) (by simp)
  cases e0
  rw [Aid.addr_add] at hx
  simp [rd] at hx
  go_wp2_with fail
  refine (crc_Open.n A 0 _ ((framel s l0).take 0) _ (by rw [List.length_take]; omega) (Kd.C_take (m := 0) HF.out (by omega)) (by omega) (okb_take _ _ HOB.out)).mono ?_; rw [open_part s l0 0 g2 (by omega)]; rintro e x1 ⟨v0, rfl, hR, hb⟩
  replace HQ := Aside0.mk (Kd.C_below HQ.out hb)
  replace HF := Aside0.mk (Kd.C_below HF.out hb)
  replace HC := Aside0.mk (Kd.C_below HC.out hb)
  replace HE := Aside0.mk (Kd.C_below HE.out hb)
  replace HB := Aside0.mk (Aid.bthen HB.out hb)
  clear hR hb hx
  go_wp2_with fail
  rw [rounds_succ]
  obtain ⟨ad, e0, hx⟩ := Kd.at_int HQ.out 1 (by decide) (by simp)
  cases e0
  rw [Aid.addr_add] at hx
  simp [rd] at hx
  go_wp2_with fail
  refine (crc_Open.n A 1 _ ((framel s l0).take 1) _ (by rw [List.length_take]; omega) (Kd.C_take (m := 1) HF.out (by omega)) (by omega) (okb_take _ _ HOB.out)).mono ?_; rw [open_part s l0 1 g2 (by omega)]; rintro e x2 ⟨v1, rfl, hR, hb⟩
  replace HQ := Aside0.mk (Kd.C_below HQ.out hb)
  replace HF := Aside0.mk (Kd.C_below HF.out hb)
  replace HC := Aside0.mk (Kd.C_below HC.out hb)
  replace HE := Aside0.mk (Kd.C_below HE.out hb)
  replace HB := Aside0.mk (Aid.bthen HB.out hb)
  clear hR hb hx
  go_wp2_with fail
  rw [rounds_succ]
  obtain ⟨ad, e0, hx⟩ := Kd.at_int HQ.out 2 (by decide) (by simp)
  cases e0
  rw [Aid.addr_add] at hx
  simp [rd] at hx
  go_wp2_with fail
  refine (crc_Open.n A 8 _ ((framel s l0).take 8) _ (by rw [List.length_take]; omega) (Kd.C_take (m := 8) HF.out (by omega)) (by omega) (okb_take _ _ HOB.out)).mono ?_; rw [open_part s l0 8 g2 (by omega)]; rintro e x3 ⟨v2, rfl, hR, hb⟩
  replace HQ := Aside0.mk (Kd.C_below HQ.out hb)
  replace HF := Aside0.mk (Kd.C_below HF.out hb)
  replace HC := Aside0.mk (Kd.C_below HC.out hb)
  replace HE := Aside0.mk (Kd.C_below HE.out hb)
  replace HB := Aside0.mk (Aid.bthen HB.out hb)
  clear hR hb hx
  go_wp2_with fail
  rw [rounds_succ]
  obtain ⟨ad, e0, hx⟩ := Kd.at_int HQ.out 3 (by decide) (by simp)
  cases e0
  rw [Aid.addr_add] at hx
  simp [rd] at hx
  go_wp2_with fail
  refine (crc_Open.n A 15 _ ((framel s l0).take 15) _ (by rw [List.length_take]; omega) (Kd.C_take (m := 15) HF.out (by omega)) (by omega) (okb_take _ _ HOB.out)).mono ?_; rw [open_part s l0 15 g2 (by omega)]; rintro e x4 ⟨v3, rfl, hR, hb⟩
  replace HQ := Aside0.mk (Kd.C_below HQ.out hb)
  replace HF := Aside0.mk (Kd.C_below HF.out hb)
  replace HC := Aside0.mk (Kd.C_below HC.out hb)
  replace HE := Aside0.mk (Kd.C_below HE.out hb)
  replace HB := Aside0.mk (Aid.bthen HB.out hb)
  clear hR hb hx
  go_wp2_with fail
  rcases Nat.eq_zero_or_pos L with hp | hp
  · have hp' : decide ((16 : Int) < 16 + (L : Int)) = false := by simp; omega
    have hp2 : ¬ ((16 : Int) < 16 + (L : Int)) := by omega
    have hp3 : ¬ (0 < L) := by omega
    clear hp
    rw [rounds_succ]
    obtain ⟨ad, e0, hx⟩ := Kd.at_int HQ.out 4 (by decide) (by simp)
    cases e0
    rw [Aid.addr_add] at hx
    simp [rd] at hx
    go_wp2_with fail
    clear hx
    have hq1 : decide (15 + (L : Int) < 16 + (L : Int)) = true := decide_eq_true (by omega)
    have hq2 : decide (0 ≤ 15 + (L : Int)) = true := decide_eq_true (by omega)
    have hq3 : 15 + (L : Int) < 16 + (L : Int) := by omega
    have hq4 : 0 ≤ 15 + (L : Int) := by omega
    have hq5 : (15 + (L : Int)).toNat = 15 + L := by omega
    have hq6 : 15 + (L : Int) ≤ (c : Int) := by omega
    rw [rounds_succ]
    obtain ⟨ad, e0, hx⟩ := Kd.at_int HQ.out 5 (by decide) (by simp)
    cases e0
    rw [Aid.addr_add] at hx
    simp [rd] at hx
    go_wp2_with fail
    refine (crc_Open.n A (15 + L) _ ((framel s l0).take (15 + L)) _ (by rw [List.length_take]; omega) (Kd.C_take (m := (15 + L)) HF.out (by omega)) (by omega) (okb_take _ _ HOB.out)).mono ?_; rw [open_part s l0 (15 + L) g2 (by omega)]; rintro e x5 ⟨v4, rfl, hR, hb⟩
    replace HQ := Aside0.mk (Kd.C_below HQ.out hb)
    replace HF := Aside0.mk (Kd.C_below HF.out hb)
    replace HC := Aside0.mk (Kd.C_below HC.out hb)
    replace HE := Aside0.mk (Kd.C_below HE.out hb)
    replace HB := Aside0.mk (Aid.bthen HB.out hb)
    clear hR hb hx
    go_wp2_with fail
    rw [rounds_succ]
    go_wp2_with fail
    refine (redresslaw16_alive.any _).mono ?_; rintro e y ⟨rfl, hb⟩
    replace HC := Aside0.mk (Kd.C_below HC.out hb)
    replace HE := Aside0.mk (Kd.C_below HE.out hb)
    replace HB := Aside0.mk (Aid.bthen HB.out hb)
    clear hb
    go_wp2_with fail
    refine (ref_Same.n _ _ _ l0 _ _ _ l0 _ rfl rfl HC.out hc3 HE.out hc0 (by have := G2.out; omega)).mono ?_; rintro e w' ⟨rfl, ⟨n3, rfl⟩⟩
    go_wp2_with fail
    go_ret
    exact ⟨by simp, Aid.bdrew HB.out _⟩
  · have hp' : decide ((16 : Int) < 16 + (L : Int)) = true := by simp; omega
    rw [rounds_succ]
    obtain ⟨ad, e0, hx⟩ := Kd.at_int HQ.out 4 (by decide) (by simp)
    cases e0
    rw [Aid.addr_add] at hx
    simp [rd] at hx
    go_wp2_with fail
    refine (crc_Open.n A 16 _ ((framel s l0).take 16) _ (by rw [List.length_take]; omega) (Kd.C_take (m := 16) HF.out (by omega)) (by omega) (okb_take _ _ HOB.out)).mono ?_; rw [open_part s l0 16 g2 (by omega)]; rintro e x5 ⟨v4, rfl, hR, hb⟩
    replace HQ := Aside0.mk (Kd.C_below HQ.out hb)
    replace HF := Aside0.mk (Kd.C_below HF.out hb)
    replace HC := Aside0.mk (Kd.C_below HC.out hb)
    replace HE := Aside0.mk (Kd.C_below HE.out hb)
    replace HB := Aside0.mk (Aid.bthen HB.out hb)
    clear hR hb hx
    go_wp2_with fail
    have hq1 : decide (15 + (L : Int) < 16 + (L : Int)) = true := decide_eq_true (by omega)
    have hq2 : decide (0 ≤ 15 + (L : Int)) = true := decide_eq_true (by omega)
    have hq3 : 15 + (L : Int) < 16 + (L : Int) := by omega
    have hq4 : 0 ≤ 15 + (L : Int) := by omega
    have hq5 : (15 + (L : Int)).toNat = 15 + L := by omega
    have hq6 : 15 + (L : Int) ≤ (c : Int) := by omega
    rw [rounds_succ]
    obtain ⟨ad, e0, hx⟩ := Kd.at_int HQ.out 5 (by decide) (by simp)
    cases e0
    rw [Aid.addr_add] at hx
    simp [rd] at hx
    go_wp2_with fail
    refine (crc_Open.n A (15 + L) _ ((framel s l0).take (15 + L)) _ (by rw [List.length_take]; omega) (Kd.C_take (m := (15 + L)) HF.out (by omega)) (by omega) (okb_take _ _ HOB.out)).mono ?_; rw [open_part s l0 (15 + L) g2 (by omega)]; rintro e x6 ⟨v5, rfl, hR, hb⟩
    replace HQ := Aside0.mk (Kd.C_below HQ.out hb)
    replace HF := Aside0.mk (Kd.C_below HF.out hb)
    replace HC := Aside0.mk (Kd.C_below HC.out hb)
    replace HE := Aside0.mk (Kd.C_below HE.out hb)
    replace HB := Aside0.mk (Aid.bthen HB.out hb)
    clear hR hb hx
    go_wp2_with fail
    rw [rounds_succ]
    go_wp2_with fail
    refine (redresslaw16_alive.any _).mono ?_; rintro e y ⟨rfl, hb⟩
    replace HC := Aside0.mk (Kd.C_below HC.out hb)
    replace HE := Aside0.mk (Kd.C_below HE.out hb)
    replace HB := Aside0.mk (Aid.bthen HB.out hb)
    clear hb
    go_wp2_with fail
    refine (ref_Same.n _ _ _ l0 _ _ _ l0 _ rfl rfl HC.out hc3 HE.out hc0 (by have := G2.out; omega)).mono ?_; rintro e w' ⟨rfl, ⟨n3, rfl⟩⟩
    go_wp2_with fail
    go_ret
    exact ⟨by simp, Aid.bdrew HB.out _⟩
end Go.Proofs.Ytigaemjkdgpceaa
