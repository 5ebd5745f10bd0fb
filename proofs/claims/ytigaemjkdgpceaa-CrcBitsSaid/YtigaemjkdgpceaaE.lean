/- The closed call 'alive' of the laws over the package crc: walked by hand. -/
import Derived.Test.YtigaemjkdgpceaaD
import Derived.Lib.SlBytesConst
namespace Go.Proofs.Ytigaemjkdgpceaa
open Go.RowKit Go.Proofs.YtigaemjkdgpceaaW.PrintWords Go.Proofs.YtigaemjkdgpceaaW.PrintLast Go.Proofs.YtigaemjkdgpceaaW.PrintMore Crc PK Ref
set_option linter.unusedVariables false
set_option linter.unusedSimpArgs false

theorem crc_Open.n (A0 : Option Addr) (n c0 : Nat) (l0 : List Int) (w : World) (hn : l0.length = n) (hr0 : Kd.C (Kd.int .u8) w A0 l0.length l0) (hc0 : n ≤ c0) (hb : okb l0 = true) :
    Calls Try.prog 21 #[.slice A0 n c0] w fun e w' => ∃ v1_ : Value, e = .returned (.tuple #[.int .u64 (openl l0).1, v1_, .bool (openl l0).2.2]) ∧ Kd.R (Kd.int .u8) 5 w' w.heap.size (fun _ => True) v1_ (openl l0).2.1 ∧ Below w.heap.size w w' := by
  subst hn
  exact crc_Open.calls A0 c0 l0 _ _ _ w hr0 hc0 (by unfold crc_Open.f; rw [if_pos hb])
theorem ref_Same.n (A0 : Option Addr) (n0 c0 : Nat) (l0 : List Int) (A1 : Option Addr) (n1 c1 : Nat) (l1 : List Int) (w : World) (h0 : l0.length = n0) (h1 : l1.length = n1) (hr0 : Kd.C (Kd.int .u8) w A0 l0.length l0) (hc0 : n0 ≤ c0) (hr1 : Kd.C (Kd.int .u8) w A1 l1.length l1) (hc1 : n1 ≤ c1) (hm : l0.length ≤ 100000) :
    Calls Try.prog 15 #[.slice A0 n0 c0, .slice A1 n1 c1] w fun e w' => e = .returned (.bool (decide (l0 = l1))) ∧ Drawn0 w w' := by
  subst h0; subst h1
  exact redressref16_Same.calls (l0.length + 1) A0 c0 l0 A1 c1 l1 _ w hr0 hc0 hr1 hc1 (same l0 l1 _ hm (by omega))

def redresslaw16_alive.f : Option Bool := some true
def F18 : List Int := framel 7 [1, 2]
theorem F18_len : F18.length = 18 := by decide +kernel
theorem F18_okb : okb F18 = true := by decide +kernel
theorem F18_open : openl (F18 ++ [9]) = (7, [1, 2], true) := by decide +kernel
theorem F18_half : openl (F18.take 9) = (0, [], false) := by decide +kernel

theorem C_newq {α : Type} {enc : α → Value} {h1 : ∀ x, (enc x).oneCell' = true} (d : α) {b : Nat} (W : World) (xs : List α) (cs : Array Value) (e : Nat) (hb : b = W.heap.size) (hcs : cs.toList = xs.map enc) (hm : xs.length ≤ 9223372036854775807) :
    (Kd.scalar enc h1).C (W.alloc (.cells cs e)) (some ⟨b, 0, none⟩) xs.length xs := by
  subst hb; exact Aid.C_new d W xs cs e (0, 0) hcs hm
theorem get21 : ((getn 8 [2, 1] : Nat) : Int) = 258 := by decide +kernel
theorem sum9 : cmore 0 [49, 50, 51, 52, 53, 54, 55, 56, 57] = 3421780262 := by decide +kernel

set_option maxRecDepth 100000 in
set_option maxHeartbeats 2000000 in
theorem redresslaw16_alive.any (w : World) : Calls Try.prog 10 #[] w fun e w' => e = .returned (.bool true) ∧ Below w.heap.size w w' := by
  have kc := fun (w : World) (C : Array Value) (n c : Nat) => Lib.run_convert_bytes_const (P := Try.prog) w 23 5 C n c Try.underlying23 Try.underlying5
  go_enter Try.func10, Try.ntmps10
  go_wp2_with fail
  refine (crc_Frame.calls 7 _ _ [1, 2] F18 true _ (Aid.C_new (enc := Value.int .u8) 0 _ [1, 2] _ 5 (0, 0) rfl (by decide)) (Nat.le_refl _) (crcFrame 7 [1, 2] (by decide) (by decide) (by decide))).mono ?_
  rintro e w1 ⟨v, rfl, hR, hb1⟩
  obtain ⟨A, c, hv, hc, hC⟩ := Kd.R_reads hR
  rw [F18_len] at hv hc
  rw [hv]
  rw [hv] at hR
  have HB0 := Aside0.mk hb1
  have HB1 := Aside0.mk (Aid.bthen (Aid.balloc (Below.refl w.heap.size w) _) hb1)
  have HR := Aside0.mk hR
  have HCC := Aside0.mk hC
  clear hb1 hR hC hv
  obtain ⟨A', c', w2, hr, hc', hC2, hC1, hb2⟩ := Aid.app_keep (P := Try.prog) (enc := Value.int .u8) (h1 := fun _ => rfl) (0 : Int) (w1.alloc (.cells #[.int .u8 9] 5)) (w.alloc (.cells #[.int .u8 1, .int .u8 2] 5)).heap.size 23 23 5 (.int .u8 0) 1 Try.underlying23 info5 rfl (by decide) A c F18 [9] (by rw [F18_len]; decide)
    (by rw [F18_len]; exact Kd.R_alloc HR.out _) ⟨w1.heap.size, 0, none⟩ 1 (Aid.C_new (enc := Value.int .u8) 0 _ [9] _ 5 (0, 0) rfl (by decide)) (by rw [F18_len]; decide) (by have := HB0.out.size; simp at this ⊢; omega)
  have l19 : (F18 ++ [9]).length = 19 := by rw [List.length_append, F18_len]; rfl
  rw [l19] at hr hc'
  rw [F18_len] at hr
  have HRUN := Aside0.mk hr
  have HC2 := Aside0.mk hC2
  have HC1 := Aside0.mk hC1
  have HB2 := Aside0.mk hb2
  clear hr hC2 hC1 hb2
  go_wp2_with (at_builtin; go_loud (refine Aid.append_event (.tmp 15) (.tmp 16) 23 (by simp [Region.wanted, yielded]) rfl _ _ rfl rfl HRUN.out ?_))
  refine (crc_Open.n _ _ _ (F18 ++ [9]) _ l19 HC2.out hc' (by rw [okb_append, F18_okb]; decide)).mono ?_; rw [F18_open]; rintro e w3 ⟨v3, rfl, hR3, hb3⟩
  obtain ⟨A3, c3, hv3, hc3, hC3⟩ := Kd.R_reads hR3
  rw [hv3]
  have HC3 := Aside0.mk hC3
  have HB3 := Aside0.mk hb3
  clear hR3 hv3 hC3 hb3
  go_wp2_with fail
  refine (crc_Open.n _ _ _ (F18.take 9) _ (by decide +kernel) (Kd.C_take (m := 9) (Kd.C_below HC1.out HB3.out) (by rw [F18_len]; decide)) (by omega) (by decide +kernel)).mono ?_; rw [F18_half]; rintro e w4 ⟨v4, rfl, hR4, hb4⟩
  have HB4 := Aside0.mk hb4
  clear hR4 hb4
  go_wp2_with fail
  refine (crc_Sum.n _ _ _ [49, 50, 51, 52, 53, 54, 55, 56, 57] _ rfl (Aid.C_new (enc := Value.int .u8) 0 _ [49, 50, 51, 52, 53, 54, 55, 56, 57] _ 5 (9, 10) rfl (by decide)) (Nat.le_refl _) (by decide)).mono ?_; rw [sum9]; rintro e w' ⟨rfl, ⟨n1, rfl⟩⟩
  go_wp2_with fail
  refine (crc_Put.calls 258 3 [2, 1, 0] _ (by decide +kernel)).mono ?_; rintro e w5 ⟨v5, rfl, hR5, hb5⟩
  obtain ⟨A5, c5, hv5, hc5, hC5⟩ := Kd.R_reads hR5
  rw [hv5]
  have HC5 := Aside0.mk hC5
  have HB5 := Aside0.mk hb5
  clear hR5 hv5 hC5 hb5
  go_wp2_with fail
  refine (ref_Same.n _ _ _ [2, 1, 0] _ _ _ [2, 1, 0] _ rfl rfl (Kd.C_alloc HC5.out _) hc5 (Aid.C_new (enc := Value.int .u8) 0 _ [2, 1, 0] _ 5 (0, 0) rfl (by decide)) (Nat.le_refl _) (by decide)).mono ?_; rintro e w' ⟨rfl, ⟨n2, rfl⟩⟩
  go_wp2_with fail
  have G := crc_Get.n (some ⟨w5.heap.size + 1, 0, none⟩) 2 2 [2, 1] _ rfl (C_newq (enc := Value.int .u8) (0 : Int) (((w5.alloc (.cells #[.int .u8 2, .int .u8 1, .int .u8 0] 5)).drewN n2)) [2, 1] #[.int .u8 2, .int .u8 1] 5 (by simp) rfl (by decide)) (Nat.le_refl _) (by decide)
  refine G.mono ?_; rw [get21]; rintro e w6 ⟨rfl, hb6⟩
  have HB6 := Aside0.mk hb6
  clear hb6 G
  have HB7 : Aside0 (Below w.heap.size w w6) := ⟨by
    have b1 := (Aid.balloc HB1.out _).trans (HB2.out.mono (by simp))
    have b2 := Aid.bthen (Aid.bthen b1 HB3.out) HB4.out
    have b3 := Aid.bthen (Aid.bdrew (Aid.balloc b2 _) _) HB5.out
    exact Aid.bthen (Aid.balloc (Aid.bdrew (Aid.balloc b3 _) _) _) HB6.out⟩
  have HC7 : Aside0 (Kd.C (Kd.int .u8) w6 A3 2 [1, 2]) := ⟨by
    have c1 := Kd.C_alloc (Kd.C_below HC3.out HB4.out) (.cells #[.int .u8 49, .int .u8 50, .int .u8 51, .int .u8 52, .int .u8 53, .int .u8 54, .int .u8 55, .int .u8 56, .int .u8 57] 5 (9, 10))
    have c2 := Kd.C_below (Kd.C_drewN c1 n1) HB5.out
    exact Kd.C_below (Kd.C_alloc (Kd.C_drewN (Kd.C_alloc c2 _) n2) _) HB6.out⟩
  clear HB0 HB1 HB2 HB3 HB4 HB5 HB6 HC1 HC2 HC3 HC5 HR HCC HRUN
  go_wp2_with fail
  refine (ref_Same.n _ _ _ [1, 2] _ _ _ [1, 2] _ rfl rfl (Kd.C_alloc HC7.out _) hc3 (Aid.C_new (enc := Value.int .u8) 0 _ [1, 2] _ 5 (0, 0) rfl (by decide)) (Nat.le_refl _) (by decide)).mono ?_; rintro e w' ⟨rfl, ⟨n3, rfl⟩⟩
  go_wp2_with fail
  go_ret
  exact ⟨rfl, Aid.bdrew (Aid.balloc HB7.out _) n3⟩
theorem redresslaw16_alive.calls (r : Bool) (w : World) (h : redresslaw16_alive.f = some r) : Calls Try.prog 10 #[] w fun e w' => e = .returned (.bool r) ∧ Below w.heap.size w w' := by
  obtain rfl : r = true := by have := Option.some.inj h; exact this.symm
  exact redresslaw16_alive.any w
end Go.Proofs.Ytigaemjkdgpceaa
