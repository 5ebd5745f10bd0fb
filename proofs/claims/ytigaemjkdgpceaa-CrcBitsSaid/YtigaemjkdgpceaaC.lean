/- Open of the package crc: its contract, walked by hand. -/
import Derived.Test.YtigaemjkdgpceaaPKx3
import Derived.Test.YtigaemjkdgpceaaPKx2
import Derived.Deep.RegionWith
namespace Go.Proofs.Ytigaemjkdgpceaa
open Go.RowKit Go.Proofs.YtigaemjkdgpceaaW.PrintWords Go.Proofs.YtigaemjkdgpceaaW.PrintLast Go.Proofs.YtigaemjkdgpceaaW.PrintMore Crc PK
set_option linter.unusedVariables false
set_option linter.unusedSimpArgs false
attribute [local go_sem] Aid.below_all max2_int min2_int max_two min_two max_three min_three max_four min_four

theorem C_cut {k : IntKind} {w : World} {ad : Addr} {n : Nat} {l : List Int} (lo hi : Nat) (h : Kd.C (Kd.int k) w (some ad) n l) (h1 : lo ≤ hi) (h2 : hi ≤ n) : Kd.C (Kd.int k) w (some (ad.add lo)) ((l.take hi).drop lo).length ((l.take hi).drop lo) := by
  have hr := Kd.reads_of_C (d := (0 : Int)) h
  have hn := hr.1
  refine Kd.C_of_reads (d := (0 : Int)) ⟨rfl, ?_, fun hp => ⟨_, rfl, fun j hj => ?_⟩⟩
  · have := hr.2.1; simp; omega
  · obtain ⟨ad', e, hc⟩ := hr.2.2 (by simp at hp; omega)
    cases e
    simp at hj
    have e2 : (ad.add lo).add j = ad.add (lo + j) := by
      simp only [Addr.add]
      by_cases h0 : lo = 0 <;> by_cases h3 : j = 0 <;> simp [h0, h3, Nat.add_assoc]
    rw [e2, hc _ (by omega)]
    simp [List.getD_eq_getElem?_getD, List.getElem?_drop, List.getElem?_take, show lo + j < hi by omega]

theorem lt_of_some {w : World} {b : Nat} {o : Obj} (h : w.heap[b]? = some o) : b < w.heap.size := by
  rcases Nat.lt_or_ge b w.heap.size with hb | hb
  · exact hb
  · rw [Array.getElem?_eq_none hb] at h; cases h

def openl (l : List Int) : Int × List Int × Bool :=
  if l.length < 16 then (0, [], false)
  else if getn 8 ((l.take 12).drop 8) > 2048 ∨ getn 8 ((l.take 12).drop 8) + 16 > l.length then (0, [], false)
  else if cmore (cmore 0 (l.take 12)) ((l.drop 16).take (getn 8 ((l.take 12).drop 8))) ≠ getn 8 ((l.take 16).drop 12) then (0, [], false)
  else ((getn 8 (l.take 8) : Nat), (l.drop 16).take (getn 8 ((l.take 12).drop 8)), true)
def crc_Open.f (l0 : List Int) : Option (Int × List Int × Bool) := if okb l0 = true then some (openl l0) else none

theorem crc_Get.n (A0 : Option Addr) (n c0 : Nat) (l0 : List Int) (w : World) (hn : l0.length = n) (hr0 : Kd.C (Kd.int .u8) w A0 l0.length l0) (hc0 : n ≤ c0) (hb : okb l0 = true) :
    Calls Try.prog 17 #[.slice A0 n c0] w fun e w' => e = .returned (.int .u64 ((getn 8 l0 : Nat) : Int)) ∧ Below w.heap.size w w' := by
  subst hn
  exact crc_Get.calls A0 c0 l0 _ w hr0 hc0 (by unfold crc_Get.f; rw [if_pos hb])
theorem crc_More.n (s : Nat) (A1 : Option Addr) (n c1 : Nat) (l1 : List Int) (w : World) (hs : s < 4294967296) (hn : l1.length = n) (hr1 : Kd.C (Kd.int .u8) w A1 l1.length l1) (hc1 : n ≤ c1) (hb : okb l1 = true) :
    Calls Try.prog 11 #[.int .u32 (s : Int), .slice A1 n c1] w fun e w' => e = .returned (.int .u32 ((cmore s l1 : Nat) : Int)) ∧ Drawn0 w w' := by
  subst hn
  exact crc_More.calls (s : Int) A1 c1 l1 _ w hr1 hc1 (by unfold crc_More.f; rw [if_pos ⟨by omega, by omega, hb⟩, Int.toNat_natCast])
theorem crc_Sum.n (A1 : Option Addr) (n c1 : Nat) (l1 : List Int) (w : World) (hn : l1.length = n) (hr1 : Kd.C (Kd.int .u8) w A1 l1.length l1) (hc1 : n ≤ c1) (hb : okb l1 = true) :
    Calls Try.prog 13 #[.slice A1 n c1] w fun e w' => e = .returned (.int .u32 ((cmore 0 l1 : Nat) : Int)) ∧ Drawn0 w w' := by
  subst hn
  exact crc_Sum.calls A1 c1 l1 _ w hr1 hc1 (by unfold crc_Sum.f crc_More.f; rw [if_pos ⟨by omega, by omega, hb⟩]; rfl)

set_option maxRecDepth 100000 in
set_option maxHeartbeats 2000000 in
theorem crc_Open.calls (A0 : Option Addr) (c0 : Nat) (l0 : List Int) (r1 : Int) (r2 : List Int) (r3 : Bool) (w : World) (hr0 : Kd.C (Kd.int .u8) w A0 l0.length l0) (hc0 : l0.length ≤ c0) (h : crc_Open.f l0 = some (r1, r2, r3)) :
    Calls Try.prog 21 #[.slice A0 l0.length c0] w fun e w' => ∃ v1_ : Value, e = .returned (.tuple #[.int .u64 r1, v1_, .bool r3]) ∧ Kd.R (Kd.int .u8) 5 w' w.heap.size (fun _ => True) v1_ r2 ∧ Below w.heap.size w w' := by
  unfold crc_Open.f at h
  split at h
  case isFalse => cases h
  rename_i hb
  have h := Option.some.inj h
  unfold openl at h
  have hm := Kd.C_max hr0
  by_cases hlen : l0.length < 16
  · rw [if_pos hlen] at h
    simp only [Prod.mk.injEq] at h
    obtain ⟨rfl, rfl, rfl⟩ := h
    go_enter Try.func21, Try.ntmps21
    go_wp2
    go_ret3
    exact ⟨_, rfl, Kd.R_nil _ _ _ _ _, Below.refl _ _⟩
  · rw [if_neg hlen] at h
    obtain ⟨ad, rfl⟩ : ∃ ad, A0 = some ad := by
      obtain ⟨ad, h1, _⟩ := hr0.2.2 (by omega)
      exact ⟨ad, h1⟩
    have c1 := C_cut 8 12 hr0 (by omega) (by omega)
    have k1 := okb_drop _ 8 (okb_take l0 12 hb)
    have l1 : ((l0.take 12).drop 8).length = 4 := by simp; omega
    obtain ⟨n, hn⟩ : ∃ n, n = getn 8 ((l0.take 12).drop 8) := ⟨_, rfl⟩
    rw [← hn] at h
    have G1 := fun W (hW : Kd.C (Kd.int .u8) W (some (ad.add 8)) ((l0.take 12).drop 8).length ((l0.take 12).drop 8)) => crc_Get.n (some (ad.add 8)) 4 (c0 - 8) _ W l1 hW (by omega) k1
    rw [← hn] at G1
    have HR := Aside0.mk hr0; clear hr0
    have C1 := Aside0.mk c1; clear c1
    have HG1 := Aside0.mk G1; clear G1
    have HO := Aside0.mk hb; clear hb k1 l1
    by_cases hbig : n > 2048 ∨ n + 16 > l0.length
    · rw [if_pos hbig] at h
      simp only [Prod.mk.injEq] at h
      obtain ⟨rfl, rfl, rfl⟩ := h
      by_cases g1 : n > 2048
      · have c2048 : decide ((2048 : Int) < (n : Int)) = true := by simp; omega
        clear hn hbig
        go_enter Try.func21, Try.ntmps21
        go_wp2_with fail
        refine (HG1.out _ C1.out).mono ?_; rintro e w1 ⟨rfl, hb1⟩
        go_wp2_with fail
        go_ret3
        exact ⟨_, rfl, Kd.R_nil _ _ _ _ _, hb1⟩
      · have g2 : l0.length < n + 16 := by omega
        clear hn hbig
        go_enter Try.func21, Try.ntmps21
        go_wp2_with fail
        refine (HG1.out _ C1.out).mono ?_; rintro e w1 ⟨rfl, hb1⟩
        go_wp2_with fail
        go_ret3
        exact ⟨_, rfl, Kd.R_nil _ _ _ _ _, hb1⟩
    · rw [if_neg hbig] at h
      clear hn
      have H := Aside0.mk h; clear h
      have g1 : n ≤ 2048 := by omega
      have g2 : n + 16 ≤ l0.length := by omega
      clear hbig
      go_enter Try.func21, Try.ntmps21
      go_wp2_with fail
      refine (HG1.out _ C1.out).mono ?_; rintro e w1 ⟨rfl, hb1⟩
      have hr1 := Kd.C_below HR.out hb1
      have HR1 := Aside0.mk hr1; clear hr1
      have HB1 := Aside0.mk hb1; clear hb1
      obtain ⟨d, hd⟩ : ∃ d, d = (l0.drop 16).take n := ⟨_, rfl⟩
      have hdl : d.length = n := by rw [hd]; simp; omega
      have hsrc : ∀ j v, (d.map (Value.int .u8))[j]? = some v → (w1.alloc (.cells (Array.replicate n (Value.int .u8 0)) 5)).cell? ((⟨ad.block, ad.off + 16, none⟩ : Addr).add j) = some v := by
        have hc := C_cut 16 l0.length HR1.out (by omega) (Nat.le_refl _)
        have hs := Aid.C_src (0 : Int) (Kd.C_alloc hc (.cells (Array.replicate n (Value.int .u8 0)) 5)) n
        rw [List.take_length] at hs
        rw [hd]
        exact hs
      have HD := Aside0.mk hd; clear hd
      have HDL := Aside0.mk hdl; clear hdl
      have HS := Aside0.mk hsrc; clear hsrc
      have hs0 : 0 < (d.map (Value.int .u8)).length → c0 ≠ 16 := by
        intro hp hc
        rw [List.length_map, HDL.out] at hp
        omega
      have HS0 := Aside0.mk hs0; clear hs0
      have k12 : (12 : Int) ≤ (c0 : Int) := by omega
      have k16 : (16 : Int) ≤ (c0 : Int) := by omega
      have n12 : ¬ c0 = 12 := by omega
      rcases Decidable.em (c0 = 16) with rfl | hc16
      all_goals
        go_wp2_with (first | (at_make; refine Aid.make_exact (enc := Value.int .u8) (0 : Int) _ 5 rfl 23 (.tmp 23) (.tmp 23) rfl .u64 n rfl rfl Try.underlying23 (.int .u8 0) 1 info5 rfl (by decide) (by omega) ?_) | ((with_reducible refine gate_builtin (b := .copy) (xs := #[.tmp 25, .tmp 27]) rfl ?_); go_loud (refine wpList_copy_splice rfl (.tmp 25) (.tmp 27) 23 23 rfl 5 Try.underlying23 (by kernel_rfl) (some ⟨w1.heap.size, 0, none⟩) _ n n _ _ rfl rfl w1.heap.size 0 (List.replicate n (Value.int .u8 0)) 5 (by simpa using heap_alloc_new w1 (.cells (Array.replicate n (Value.int .u8 0)) 5)) (d.map (Value.int .u8)) (by rw [List.length_map, HDL.out]; simp only [Nat.min_def]; split <;> omega) (by first | exact (fun _ => ⟨rfl, _, rfl, HS.out⟩) | exact (fun h_ => absurd hc16 (HS0.out h_)) | exact (fun h_ => absurd rfl (HS0.out h_))) (by simp [HDL.out]) (by intro u hu; obtain ⟨y, _, rfl⟩ := List.mem_map.1 hu; rfl) w1.heap.size w1 ((Below.refl _ _).alloc (Nat.le_refl _) _) (Nat.le_refl _) ?_); intro w2 hg2 hb2; have HG2 := Aside0.mk hg2; have HB2 := Aside0.mk hb2; clear hg2 hb2))
        have hg2 : w2.heap[w1.heap.size]? = some (.cells (d.map (Value.int .u8)).toArray 5 (0, 0)) := by
          have := HG2.out
          unfold Hid splice at this
          simp [HDL.out] at this
          simpa using this
        have HD2 := Aside0.mk (Aid.C_block (enc := Value.int .u8) (h1 := fun _ => rfl) (0 : Int) w2 w1.heap.size d _ _ _ hg2 (by simp [List.take_of_length_le]) (by have := HDL.out; omega))
        have HRw := Aside0.mk (Kd.C_below HR1.out HB2.out)
        have HG3 := Aside0.mk hg2
        clear HG2 hg2
        have HC12 := Aside0.mk (Kd.C_take (m := 12) HRw.out (by omega))
        have HC16 := Aside0.mk (C_cut 12 16 HRw.out (by omega) (by omega))
        obtain ⟨s1, hs1⟩ : ∃ s1, s1 = cmore 0 (l0.take 12) := ⟨_, rfl⟩
        have hs1l : s1 < 4294967296 := by rw [hs1]; exact cmore_lt 0 _ (by decide) (okb_take l0 12 HO.out)
        obtain ⟨s2, hs2⟩ : ∃ s2, s2 = cmore s1 d := ⟨_, rfl⟩
        obtain ⟨q, hq⟩ : ∃ q, q = getn 8 ((l0.take 16).drop 12) := ⟨_, rfl⟩
        have S12 := fun c W (hc : 12 ≤ c) (hW : Kd.C (Kd.int .u8) W (some ad) (l0.take 12).length (l0.take 12)) => crc_Sum.n (some ad) 12 c (l0.take 12) W (by simp; omega) hW hc (okb_take l0 12 HO.out)
        rw [← hs1] at S12
        have M2 := fun W (hW : Kd.C (Kd.int .u8) W (some ⟨w1.heap.size, 0, none⟩) d.length d) => crc_More.n s1 (some ⟨w1.heap.size, 0, none⟩) n n d W hs1l HDL.out hW (Nat.le_refl _) (by rw [HD.out]; exact okb_take _ _ (okb_drop _ _ HO.out))
        rw [← hs2] at M2
        have G3 := fun c W (hc : 4 ≤ c) (hW : Kd.C (Kd.int .u8) W (some (ad.add 12)) ((l0.take 16).drop 12).length ((l0.take 16).drop 12)) => crc_Get.n (some (ad.add 12)) 4 c _ W (by simp; omega) hW hc (okb_drop _ 12 (okb_take l0 16 HO.out))
        rw [← hq] at G3
        have HS12 := Aside0.mk S12; clear S12
        have HM2 := Aside0.mk M2; clear M2
        have HG4 := Aside0.mk G3; clear G3
        have E1 := Aside0.mk hs1; have E2 := Aside0.mk hs2; have EQ := Aside0.mk hq; have E3 := Aside0.mk hs1l
        clear hs1 hs2 hq hs1l
        have hws : IntKind.u64.wrap (s2 : Int) = (s2 : Int) := by
          have := cmore_lt s1 d E3.out (by rw [HD.out]; exact okb_take _ _ (okb_drop _ _ HO.out))
          rw [← E2.out] at this
          rw [IntKind.wrap_u64]; omega
        by_cases hsq : s2 = q
        · have hne : ((s2 : Int) != (q : Int)) = false := by simp [hsq]
          have HSQ := Aside0.mk hsq; clear hsq
          refine Aid.wp_region_below_lit (by kernel_rfl) (by kernel_rfl) ?_
          repeat (refine wpQuiet_step (fun K hK => ?_); go_simp; first | (refine hK _ ?_; clear hK K) | (apply Exists.intro; refine ⟨fun w_ hw_ => ?_, hK _ ?_⟩; (first | (go_at_call 13; exact Aid.bquiet0 hw_ (HS12.out _ _ (by omega) (Kd.C_below HC12.out hw_))) | (go_at_call 11; exact Aid.bquiet0 hw_ (HM2.out _ (Kd.C_below HD2.out hw_))) | (go_at_call 17; exact Aid.bquiet hw_ (HG4.out _ _ (by omega) (Kd.C_below HC16.out hw_)))); clear hK K))
          refine wpQuiet_nil ?_
          intro w3 hb3
          have HB3 := Aside0.mk hb3; clear hb3
          have hC8 := Kd.C_take (m := 8) (Kd.C_below HRw.out HB3.out) (by omega)
          go_wp2_with fail
          refine (crc_Get.n _ _ _ (l0.take 8) _ (by simp; omega) hC8 (by omega) (okb_take l0 8 HO.out)).mono ?_; rintro e w4 ⟨rfl, hb4⟩
          have HB4 := Aside0.mk hb4; clear hb4 hC8
          go_wp2_with fail
          have hfin := H.out
          rw [← HD.out, ← E1.out, ← E2.out, ← EQ.out, if_neg (by simpa using HSQ.out)] at hfin
          simp only [Prod.mk.injEq] at hfin
          obtain ⟨rfl, rfl, rfl⟩ := hfin
          go_ret3
          refine ⟨_, rfl, ?_, ?_⟩
          · have hb24 := Aid.bthen HB3.out HB4.out
            have hblk := (hb24.block w1.heap.size (lt_of_some HG3.out)).trans HG3.out
            have := Aid.R_block (enc := Value.int .u8) (h1 := fun _ => rfl) w4 w1.heap.size w.heap.size 5 d (fun _ => True) hblk HB1.out.size trivial (by have := HDL.out; unfold maxLen; omega)
            rw [HDL.out] at this
            exact this
          · exact Aid.bthen (Aid.bthen (HB1.out.trans (HB2.out.mono HB1.out.size)) HB3.out) HB4.out
        · have hne : ((s2 : Int) != (q : Int)) = true := by simp; omega
          have HSQ := Aside0.mk hsq; clear hsq
          refine Aid.wp_region_below_lit (by kernel_rfl) (by kernel_rfl) ?_
          repeat (refine wpQuiet_step (fun K hK => ?_); go_simp; first | (refine hK _ ?_; clear hK K) | (apply Exists.intro; refine ⟨fun w_ hw_ => ?_, hK _ ?_⟩; (first | (go_at_call 13; exact Aid.bquiet0 hw_ (HS12.out _ _ (by omega) (Kd.C_below HC12.out hw_))) | (go_at_call 11; exact Aid.bquiet0 hw_ (HM2.out _ (Kd.C_below HD2.out hw_))) | (go_at_call 17; exact Aid.bquiet hw_ (HG4.out _ _ (by omega) (Kd.C_below HC16.out hw_)))); clear hK K))
          refine wpQuiet_nil ?_
          intro w3 hb3
          have HB3 := Aside0.mk hb3; clear hb3
          go_wp2_with fail
          have hfin := H.out
          rw [← HD.out, ← E1.out, ← E2.out, ← EQ.out, if_pos HSQ.out] at hfin
          simp only [Prod.mk.injEq] at hfin
          obtain ⟨rfl, rfl, rfl⟩ := hfin
          go_ret3
          exact ⟨_, rfl, Kd.R_nil _ _ _ _ _, Aid.bthen (HB1.out.trans (HB2.out.mono HB1.out.size)) HB3.out⟩
end Go.Proofs.Ytigaemjkdgpceaa
