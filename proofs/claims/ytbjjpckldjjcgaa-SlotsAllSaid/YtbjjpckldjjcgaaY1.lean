/- Open of the package crc: its contract, walked by hand. -/
import Derived.Test.YtbjjpckldjjcgaaPKx0
import Derived.Test.YtbjjpckldjjcgaaPKx1
import Derived.Test.YtbjjpckldjjcgaaPKx2
import Derived.Test.YtbjjpckldjjcgaaPKx3
import Derived.Test.YtbjjpckldjjcgaaPKx4
import Derived.Test.YtbjjpckldjjcgaaPKx5
import Derived.Test.YtbjjpckldjjcgaaPKx6
import Derived.Test.YtbjjpckldjjcgaaPKx7
import Derived.Test.YtbjjpckldjjcgaaPKx8
import Derived.Deep.RegionWith
import Derived.Lib.SlBytesConst
namespace Go.Proofs.Ytbjjpckldjjcgaa
open Go.RowKit Go.Proofs.YtbjjpckldjjcgaaW.PrintWords Go.Proofs.YtbjjpckldjjcgaaW.PrintLast Go.Proofs.YtbjjpckldjjcgaaW.PrintMore Crc PK
set_option linter.unusedVariables false
set_option linter.unusedSimpArgs false
attribute [local go_sem] Aid.below_all max2_int min2_int max_two min_two max_three min_three max_four min_four

theorem C_cut {k : IntKind} {w : World} {ad : Addr} {n : Nat} {l : List Int} (lo hi : Nat) (h : Kd.C (Kd.int k) w (some ad) n l) (h1 : lo ≤ hi) (h2 : hi ≤ n) : Kd.C (Kd.int k) w (some (ad.add lo)) ((l.take hi).drop lo).length ((l.take hi).drop lo) := by
  have hr := Kd.reads_of_C (d := (0 : Int)) h
  have hn := hr.1
  refine Kd.C_of_reads (d := (0 : Int)) ⟨rfl, ?_, fun hp => ⟨_, rfl, fun j hj => ?_⟩⟩
  · have := hr.2.1; simp; omega
  · obtain ⟨ad', e, hc⟩ := hr.2.2 (by simp at hp; omega)
    cases e
    simp at hj
    have e2 : (ad.add lo).add j = ad.add (lo + j) := by
      simp only [Addr.add]
      by_cases h0 : lo = 0 <;> by_cases h3 : j = 0 <;> simp [h0, h3, Nat.add_assoc]
    rw [e2, hc _ (by omega)]
    simp [List.getD_eq_getElem?_getD, List.getElem?_drop, List.getElem?_take, show lo + j < hi by omega]

theorem lt_of_some {w : World} {b : Nat} {o : Obj} (h : w.heap[b]? = some o) : b < w.heap.size := by
  rcases Nat.lt_or_ge b w.heap.size with hb | hb
  · exact hb
  · rw [Array.getElem?_eq_none hb] at h; cases h

def openl (l : List Int) : Int × List Int × Bool :=
  if l.length < 16 then (0, [], false)
  else if getn 8 ((l.take 12).drop 8) > 2048 ∨ getn 8 ((l.take 12).drop 8) + 16 > l.length then (0, [], false)
  else if cmore (cmore 0 (l.take 12)) ((l.drop 16).take (getn 8 ((l.take 12).drop 8))) ≠ getn 8 ((l.take 16).drop 12) then (0, [], false)
  else ((getn 8 (l.take 8) : Nat), (l.drop 16).take (getn 8 ((l.take 12).drop 8)), true)
def crc_Open.f (l0 : List Int) : Option (Int × List Int × Bool) := if okb l0 = true then some (openl l0) else none

theorem crc_Get.n (A0 : Option Addr) (n c0 : Nat) (l0 : List Int) (w : World) (hn : l0.length = n) (hr0 : Kd.C (Kd.int .u8) w A0 l0.length l0) (hc0 : n ≤ c0) (hb : okb l0 = true) :
    Calls Try.prog 47 #[.slice A0 n c0] w fun e w' => e = .returned (.int .u64 ((getn 8 l0 : Nat) : Int)) ∧ Below w.heap.size w w' := by
  subst hn
  exact crc_Get.calls A0 c0 l0 _ w hr0 hc0 (by unfold crc_Get.f; rw [if_pos hb])
theorem crc_More.n (s : Nat) (A1 : Option Addr) (n c1 : Nat) (l1 : List Int) (w : World) (hs : s < 4294967296) (hn : l1.length = n) (hr1 : Kd.C (Kd.int .u8) w A1 l1.length l1) (hc1 : n ≤ c1) (hb : okb l1 = true) :
    Calls Try.prog 53 #[.int .u32 (s : Int), .slice A1 n c1] w fun e w' => e = .returned (.int .u32 ((cmore s l1 : Nat) : Int)) ∧ Drawn0 w w' := by
  subst hn
  exact crc_More.calls (s : Int) A1 c1 l1 _ w hr1 hc1 (by unfold crc_More.f; rw [if_pos ⟨by omega, by omega, hb⟩, Int.toNat_natCast])
theorem crc_Sum.n (A1 : Option Addr) (n c1 : Nat) (l1 : List Int) (w : World) (hn : l1.length = n) (hr1 : Kd.C (Kd.int .u8) w A1 l1.length l1) (hc1 : n ≤ c1) (hb : okb l1 = true) :
    Calls Try.prog 54 #[.slice A1 n c1] w fun e w' => e = .returned (.int .u32 ((cmore 0 l1 : Nat) : Int)) ∧ Drawn0 w w' := by
  subst hn
  exact crc_Sum.calls A1 c1 l1 _ w hr1 hc1 (by unfold crc_Sum.f crc_More.f; rw [if_pos ⟨by omega, by omega, hb⟩]; rfl)

set_option maxRecDepth 100000 in
set_option maxHeartbeats 2000000 in
theorem crc_Open.calls (A0 : Option Addr) (c0 : Nat) (l0 : List Int) (r1 : Int) (r2 : List Int) (r3 : Bool) (w : World) (hr0 : Kd.C (Kd.int .u8) w A0 l0.length l0) (hc0 : l0.length ≤ c0) (h : crc_Open.f l0 = some (r1, r2, r3)) :
    Calls Try.prog 46 #[.slice A0 l0.length c0] w fun e w' => ∃ v1_ : Value, e = .returned (.tuple #[.int .u64 r1, v1_, .bool r3]) ∧ Kd.R (Kd.int .u8) 5 w' w.heap.size (fun _ => True) v1_ r2 ∧ Below w.heap.size w w' := by
  unfold crc_Open.f at h
  split at h
  case isFalse => cases h
  rename_i hb
  have h := Option.some.inj h
  unfold openl at h
  have hm := Kd.C_max hr0
  by_cases hlen : l0.length < 16
  · rw [if_pos hlen] at h
    simp only [Prod.mk.injEq] at h
    obtain ⟨rfl, rfl, rfl⟩ := h
    go_enter Try.func46, Try.ntmps46
    go_wp2
    go_ret3
    exact ⟨_, rfl, Kd.R_nil _ _ _ _ _, Below.refl _ _⟩
  · rw [if_neg hlen] at h
    obtain ⟨ad, rfl⟩ : ∃ ad, A0 = some ad := by
      obtain ⟨ad, h1, _⟩ := hr0.2.2 (by omega)
      exact ⟨ad, h1⟩
    have c1 := C_cut 8 12 hr0 (by omega) (by omega)
    have k1 := okb_drop _ 8 (okb_take l0 12 hb)
    have l1 : ((l0.take 12).drop 8).length = 4 := by simp; omega
    obtain ⟨n, hn⟩ : ∃ n, n = getn 8 ((l0.take 12).drop 8) := ⟨_, rfl⟩
    rw [← hn] at h
    have G1 := fun W (hW : Kd.C (Kd.int .u8) W (some (ad.add 8)) ((l0.take 12).drop 8).length ((l0.take 12).drop 8)) => crc_Get.n (some (ad.add 8)) 4 (c0 - 8) _ W l1 hW (by omega) k1
    rw [← hn] at G1
    have HR := Aside0.mk hr0; clear hr0
    have C1 := Aside0.mk c1; clear c1
    have HG1 := Aside0.mk G1; clear G1
    have HO := Aside0.mk hb; clear hb k1 l1
    by_cases hbig : n > 2048 ∨ n + 16 > l0.length
    · rw [if_pos hbig] at h
      simp only [Prod.mk.injEq] at h
      obtain ⟨rfl, rfl, rfl⟩ := h
      by_cases g1 : n > 2048
      · have c2048 : decide ((2048 : Int) < (n : Int)) = true := by simp; omega
        clear hn hbig
        go_enter Try.func46, Try.ntmps46
        go_wp2_with fail
        refine (HG1.out _ C1.out).mono ?_; rintro e w1 ⟨rfl, hb1⟩
        go_wp2_with fail
        go_ret3
        exact ⟨_, rfl, Kd.R_nil _ _ _ _ _, hb1⟩
      · have g2 : l0.length < n + 16 := by omega
        clear hn hbig
        go_enter Try.func46, Try.ntmps46
        go_wp2_with fail
        refine (HG1.out _ C1.out).mono ?_; rintro e w1 ⟨rfl, hb1⟩
        go_wp2_with fail
        go_ret3
        exact ⟨_, rfl, Kd.R_nil _ _ _ _ _, hb1⟩
    · rw [if_neg hbig] at h
      clear hn
      have H := Aside0.mk h; clear h
      have g1 : n ≤ 2048 := by omega
      have g2 : n + 16 ≤ l0.length := by omega
      clear hbig
      go_enter Try.func46, Try.ntmps46
      go_wp2_with fail
      refine (HG1.out _ C1.out).mono ?_; rintro e w1 ⟨rfl, hb1⟩
      have hr1 := Kd.C_below HR.out hb1
      have HR1 := Aside0.mk hr1; clear hr1
      have HB1 := Aside0.mk hb1; clear hb1
      obtain ⟨d, hd⟩ : ∃ d, d = (l0.drop 16).take n := ⟨_, rfl⟩
      have hdl : d.length = n := by rw [hd]; simp; omega
      have hsrc : ∀ j v, (d.map (Value.int .u8))[j]? = some v → (w1.alloc (.cells (Array.replicate n (Value.int .u8 0)) 5)).cell? ((⟨ad.block, ad.off + 16, none⟩ : Addr).add j) = some v := by
        have hc := C_cut 16 l0.length HR1.out (by omega) (Nat.le_refl _)
        have hs := Aid.C_src (0 : Int) (Kd.C_alloc hc (.cells (Array.replicate n (Value.int .u8 0)) 5)) n
        rw [List.take_length] at hs
        rw [hd]
        exact hs
      have HD := Aside0.mk hd; clear hd
      have HDL := Aside0.mk hdl; clear hdl
      have HS := Aside0.mk hsrc; clear hsrc
      have hs0 : 0 < (d.map (Value.int .u8)).length → c0 ≠ 16 := by
        intro hp hc
        rw [List.length_map, HDL.out] at hp
        omega
      have HS0 := Aside0.mk hs0; clear hs0
      have k12 : (12 : Int) ≤ (c0 : Int) := by omega
      have k16 : (16 : Int) ≤ (c0 : Int) := by omega
      have n12 : ¬ c0 = 12 := by omega
      rcases Decidable.em (c0 = 16) with rfl | hc16
      all_goals
        go_wp2_with (first | (at_make; refine Aid.make_exact (enc := Value.int .u8) (0 : Int) _ 5 rfl 32 (.tmp 23) (.tmp 23) rfl .u64 n rfl rfl Try.underlying32 (.int .u8 0) 1 info5 rfl (by decide) (by omega) ?_) | ((with_reducible refine gate_builtin (b := .copy) (xs := #[.tmp 25, .tmp 27]) rfl ?_); go_loud (refine wpList_copy_splice rfl (.tmp 25) (.tmp 27) 32 32 rfl 5 Try.underlying32 (by kernel_rfl) (some ⟨w1.heap.size, 0, none⟩) _ n n _ _ rfl rfl w1.heap.size 0 (List.replicate n (Value.int .u8 0)) 5 (by simpa using heap_alloc_new w1 (.cells (Array.replicate n (Value.int .u8 0)) 5)) (d.map (Value.int .u8)) (by rw [List.length_map, HDL.out]; simp only [Nat.min_def]; split <;> omega) (by first | exact (fun _ => ⟨rfl, _, rfl, HS.out⟩) | exact (fun h_ => absurd hc16 (HS0.out h_)) | exact (fun h_ => absurd rfl (HS0.out h_))) (by simp [HDL.out]) (by intro u hu; obtain ⟨y, _, rfl⟩ := List.mem_map.1 hu; rfl) w1.heap.size w1 ((Below.refl _ _).alloc (Nat.le_refl _) _) (Nat.le_refl _) ?_); intro w2 hg2 hb2; have HG2 := Aside0.mk hg2; have HB2 := Aside0.mk hb2; clear hg2 hb2))
        have hg2 : w2.heap[w1.heap.size]? = some (.cells (d.map (Value.int .u8)).toArray 5 (0, 0)) := by
          have := HG2.out
          unfold Hid splice at this
          simp [HDL.out] at this
          simpa using this
        have HD2 := Aside0.mk (Aid.C_block (enc := Value.int .u8) (h1 := fun _ => rfl) (0 : Int) w2 w1.heap.size d _ _ _ hg2 (by simp [List.take_of_length_le]) (by have := HDL.out; omega))
        have HRw := Aside0.mk (Kd.C_below HR1.out HB2.out)
        have HG3 := Aside0.mk hg2
        clear HG2 hg2
        have HC12 := Aside0.mk (Kd.C_take (m := 12) HRw.out (by omega))
        have HC16 := Aside0.mk (C_cut 12 16 HRw.out (by omega) (by omega))
        obtain ⟨s1, hs1⟩ : ∃ s1, s1 = cmore 0 (l0.take 12) := ⟨_, rfl⟩
        have hs1l : s1 < 4294967296 := by rw [hs1]; exact cmore_lt 0 _ (by decide) (okb_take l0 12 HO.out)
        obtain ⟨s2, hs2⟩ : ∃ s2, s2 = cmore s1 d := ⟨_, rfl⟩
        obtain ⟨q, hq⟩ : ∃ q, q = getn 8 ((l0.take 16).drop 12) := ⟨_, rfl⟩
        have S12 := fun c W (hc : 12 ≤ c) (hW : Kd.C (Kd.int .u8) W (some ad) (l0.take 12).length (l0.take 12)) => crc_Sum.n (some ad) 12 c (l0.take 12) W (by simp; omega) hW hc (okb_take l0 12 HO.out)
        rw [← hs1] at S12
        have M2 := fun W (hW : Kd.C (Kd.int .u8) W (some ⟨w1.heap.size, 0, none⟩) d.length d) => crc_More.n s1 (some ⟨w1.heap.size, 0, none⟩) n n d W hs1l HDL.out hW (Nat.le_refl _) (by rw [HD.out]; exact okb_take _ _ (okb_drop _ _ HO.out))
        rw [← hs2] at M2
        have G3 := fun c W (hc : 4 ≤ c) (hW : Kd.C (Kd.int .u8) W (some (ad.add 12)) ((l0.take 16).drop 12).length ((l0.take 16).drop 12)) => crc_Get.n (some (ad.add 12)) 4 c _ W (by simp; omega) hW hc (okb_drop _ 12 (okb_take l0 16 HO.out))
        rw [← hq] at G3
        have HS12 := Aside0.mk S12; clear S12
        have HM2 := Aside0.mk M2; clear M2
        have HG4 := Aside0.mk G3; clear G3
        have E1 := Aside0.mk hs1; have E2 := Aside0.mk hs2; have EQ := Aside0.mk hq; have E3 := Aside0.mk hs1l
        clear hs1 hs2 hq hs1l
        have hws : IntKind.u64.wrap (s2 : Int) = (s2 : Int) := by
          have := cmore_lt s1 d E3.out (by rw [HD.out]; exact okb_take _ _ (okb_drop _ _ HO.out))
          rw [← E2.out] at this
          rw [IntKind.wrap_u64]; omega
        by_cases hsq : s2 = q
        · have hne : ((s2 : Int) != (q : Int)) = false := by simp [hsq]
          have HSQ := Aside0.mk hsq; clear hsq
          refine Aid.wp_region_below_lit (by kernel_rfl) (by kernel_rfl) ?_
          repeat (refine wpQuiet_step (fun K hK => ?_); go_simp; first | (refine hK _ ?_; clear hK K) | (apply Exists.intro; refine ⟨fun w_ hw_ => ?_, hK _ ?_⟩; (first | (go_at_call 54; exact Aid.bquiet0 hw_ (HS12.out _ _ (by omega) (Kd.C_below HC12.out hw_))) | (go_at_call 53; exact Aid.bquiet0 hw_ (HM2.out _ (Kd.C_below HD2.out hw_))) | (go_at_call 47; exact Aid.bquiet hw_ (HG4.out _ _ (by omega) (Kd.C_below HC16.out hw_)))); clear hK K))
          refine wpQuiet_nil ?_
          intro w3 hb3
          have HB3 := Aside0.mk hb3; clear hb3
          have hC8 := Kd.C_take (m := 8) (Kd.C_below HRw.out HB3.out) (by omega)
          go_wp2_with fail
          refine (crc_Get.n _ _ _ (l0.take 8) _ (by simp; omega) hC8 (by omega) (okb_take l0 8 HO.out)).mono ?_; rintro e w4 ⟨rfl, hb4⟩
          have HB4 := Aside0.mk hb4; clear hb4 hC8
          go_wp2_with fail
          have hfin := H.out
          rw [← HD.out, ← E1.out, ← E2.out, ← EQ.out, if_neg (by simpa using HSQ.out)] at hfin
          simp only [Prod.mk.injEq] at hfin
          obtain ⟨rfl, rfl, rfl⟩ := hfin
          go_ret3
          refine ⟨_, rfl, ?_, ?_⟩
          · have hb24 := Aid.bthen HB3.out HB4.out
            have hblk := (hb24.block w1.heap.size (lt_of_some HG3.out)).trans HG3.out
            have := Aid.R_block (enc := Value.int .u8) (h1 := fun _ => rfl) w4 w1.heap.size w.heap.size 5 d (fun _ => True) hblk HB1.out.size trivial (by have := HDL.out; unfold maxLen; omega)
            rw [HDL.out] at this
            exact this
          · exact Aid.bthen (Aid.bthen (HB1.out.trans (HB2.out.mono HB1.out.size)) HB3.out) HB4.out
        · have hne : ((s2 : Int) != (q : Int)) = true := by simp; omega
          have HSQ := Aside0.mk hsq; clear hsq
          refine Aid.wp_region_below_lit (by kernel_rfl) (by kernel_rfl) ?_
          repeat (refine wpQuiet_step (fun K hK => ?_); go_simp; first | (refine hK _ ?_; clear hK K) | (apply Exists.intro; refine ⟨fun w_ hw_ => ?_, hK _ ?_⟩; (first | (go_at_call 54; exact Aid.bquiet0 hw_ (HS12.out _ _ (by omega) (Kd.C_below HC12.out hw_))) | (go_at_call 53; exact Aid.bquiet0 hw_ (HM2.out _ (Kd.C_below HD2.out hw_))) | (go_at_call 47; exact Aid.bquiet hw_ (HG4.out _ _ (by omega) (Kd.C_below HC16.out hw_)))); clear hK K))
          refine wpQuiet_nil ?_
          intro w3 hb3
          have HB3 := Aside0.mk hb3; clear hb3
          go_wp2_with fail
          have hfin := H.out
          rw [← HD.out, ← E1.out, ← E2.out, ← EQ.out, if_pos HSQ.out] at hfin
          simp only [Prod.mk.injEq] at hfin
          obtain ⟨rfl, rfl, rfl⟩ := hfin
          go_ret3
          exact ⟨_, rfl, Kd.R_nil _ _ _ _ _, Aid.bthen (HB1.out.trans (HB2.out.mono HB1.out.size)) HB3.out⟩
end Go.Proofs.Ytbjjpckldjjcgaa
/- What the references of the package crc compute, as printed, in the words of the plain arithmetic. -/
namespace Go.Proofs.Ytbjjpckldjjcgaa.Ref
open Go.RowKit Go.Proofs.Ytbjjpckldjjcgaa Go.Proofs.YtbjjpckldjjcgaaW.PrintWords Go.Proofs.YtbjjpckldjjcgaaW.PrintLast Go.Proofs.YtbjjpckldjjcgaaW.PrintMore Crc PK

theorem w64 (i : Nat) (h : i ≤ 1000000) : wrap64 ((i : Int) + 1) = ((i + 1 : Nat) : Int) := by unfold wrap64; omega
theorem rd_at (l : List Int) (k : Nat) (h : k < l.length) : rd l (k : Int) = l[k] := by
  simp [rd, List.getElem?_eq_getElem h]

/-! Same -/
theorem same_l (a b : List Int) (hl : a.length = b.length) (hm : a.length ≤ 100000) (d : Nat) : ∀ (k i : Nat), i + d = a.length → d < k → a.take i = b.take i → redressref16_Same.l0 k a b i = some (decide (a = b)) := by
  induction d with
  | zero =>
    intro k i hi hk he
    obtain ⟨k, rfl⟩ : ∃ m, k = m + 1 := ⟨k - 1, by omega⟩
    simp only [redressref16_Same.l0]
    rw [if_neg (by omega)]
    rw [List.take_of_length_le (by omega), List.take_of_length_le (by omega)] at he
    simp [he]
  | succ d ih =>
    intro k i hi hk he
    obtain ⟨k, rfl⟩ : ∃ m, k = m + 1 := ⟨k - 1, by omega⟩
    simp only [redressref16_Same.l0]
    rw [if_pos (by omega), if_pos (by omega), if_pos (by omega), rd_at a i (by omega), rd_at b i (by omega)]
    by_cases hx : a[i]'(by omega) = b[i]'(by omega)
    · rw [if_pos hx, w64 i (by omega)]
      exact ih k (i + 1) (by omega) (by omega) (by rw [List.take_succ_eq_append_getElem (by omega), List.take_succ_eq_append_getElem (by omega), he, hx])
    · rw [if_neg hx]
      have : a ≠ b := fun h => hx (by subst h; rfl)
      simp [this]
theorem same (a b : List Int) (k : Nat) (hm : a.length ≤ 100000) (hk : a.length < k) : redressref16_Same.f k a b = some (decide (a = b)) := by
  unfold redressref16_Same.f
  by_cases hl : a.length = b.length
  · rw [if_pos (by omega)]
    exact same_l a b hl hm a.length k 0 (by omega) hk rfl
  · rw [if_neg (by omega)]
    have : a ≠ b := fun h => hl (by rw [h])
    simp [this]

/-! the sums -/
theorem bits_step (s : Nat) (hs : s < 4294967296) (K : Int → Option Int) :
    (if Int.tmod (s : Int) 2 = 1 then K (Go.bits .xor .u32 ((Int.tdiv (s : Int) 2) % 4294967296) 3988292384) else K ((Int.tdiv (s : Int) 2) % 4294967296)) = K ((cstep s : Nat) : Int) := by
  have h1 : Int.tmod (s : Int) 2 = (s : Int) % 2 := Int.tmod_eq_emod_of_nonneg (by omega)
  have h2 : Int.tdiv (s : Int) 2 = (s : Int) / 2 := Int.tdiv_eq_ediv_of_nonneg (by omega)
  rw [h1, h2, show ((s : Int) / 2 % 4294967296) = ((s / 2 : Nat) : Int) from by omega]
  unfold cstep
  by_cases ho : s % 2 = 1
  · rw [if_pos (by omega), if_pos ho]
    congr 1
    exact bits_u32_nat _ _ (by omega) (by decide)
  · rw [if_neg (by omega), if_neg ho]
theorem bits_l (d : Nat) : ∀ (k i s : Nat), i + d = 8 → d < k → s < 4294967296 → redressref16_bits.l0 k s i = some ((citer d s : Nat) : Int) := by
  induction d with
  | zero =>
    intro k i s hi hk hs
    obtain ⟨k, rfl⟩ : ∃ m, k = m + 1 := ⟨k - 1, by omega⟩
    simp only [redressref16_bits.l0]
    rw [if_neg (by omega)]
    rfl
  | succ d ih =>
    intro k i s hi hk hs
    obtain ⟨k, rfl⟩ : ∃ m, k = m + 1 := ⟨k - 1, by omega⟩
    simp only [redressref16_bits.l0]
    rw [if_pos (by omega), w64 i (by omega), bits_step s hs (fun x => redressref16_bits.l0 k x ((i + 1 : Nat) : Int)), ih k (i + 1) _ (by omega) (by omega) (cstep_lt hs)]
    congr 2
    clear ih hk hi
    induction d with
    | zero => rfl
    | succ d ih => simp only [citer] at ih ⊢; rw [ih]
theorem citer8 (s : Nat) : citer 8 s = cstep8 s := rfl
theorem more_l (l : List Int) (hb : okb l = true) (hm : l.length ≤ 100000) (d : Nat) : ∀ (k i s : Nat), i + d = l.length → d + 9 < k → s < 4294967296 →
    redressref16_More.l0 k s l i = some ((inv32 (ccore s (l.drop i)) : Nat) : Int) := by
  induction d with
  | zero =>
    intro k i s hi hk hs
    obtain ⟨k, rfl⟩ : ∃ m, k = m + 1 := ⟨k - 1, by omega⟩
    simp only [redressref16_More.l0]
    rw [if_neg (by omega), List.drop_of_length_le (by omega)]
    congr 1
    exact bits_u32_nat _ _ hs (by decide)
  | succ d ih =>
    intro k i s hi hk hs
    obtain ⟨k, rfl⟩ : ∃ m, k = m + 1 := ⟨k - 1, by omega⟩
    have hx := ((okb_iff l).1 hb) (l[i]'(by omega)) (List.getElem_mem (by omega))
    simp only [redressref16_More.l0]
    rw [if_pos (by omega), if_pos (by omega), rd_at l i (by omega), u32_byte s _ hs hx.1 hx.2]
    have hlt : s ^^^ (l[i]'(by omega)).toNat < 4294967296 := xor_lt32 hs (by omega)
    have hB : redressref16_bits.f k ((s ^^^ (l[i]'(by omega)).toNat : Nat) : Int) = some ((cbyte s (l[i]'(by omega)) : Nat) : Int) := bits_l 8 k 0 _ (by omega) (by omega) hlt
    rw [hB]
    simp only [Option.bind_some]
    rw [w64 i (by omega), ih k (i + 1) _ (by omega) (by omega) (cbyte_lt hs _ hx.2)]
    rw [show l.drop i = l[i]'(by omega) :: l.drop (i + 1) from (List.getElem_cons_drop (by omega)).symm]
    rfl
theorem more (l : List Int) (s k : Nat) (hb : okb l = true) (hm : l.length ≤ 100000) (hk : l.length + 9 < k) (hs : s < 4294967296) : redressref16_More.f k s l = some ((cmore s l : Nat) : Int) := by
  unfold redressref16_More.f
  have := bits_u32_nat s 4294967295 hs (by decide)
  rw [show (4294967295 : Int) = ((4294967295 : Nat) : Int) from rfl, this, show (0 : Int) = ((0 : Nat) : Int) from rfl, more_l l hb hm l.length k 0 _ (by omega) (by omega) (xor_lt32 hs (by decide))]
  rfl

/-! the bytes of numbers -/
theorem put_l (m : Nat) (b : Int) (d : Nat) : ∀ (k i n : Nat) (acc : List Int), m ≤ 8 → i + d = m → ((m : Int) = b ∨ (m = 8 ∧ 8 < b) ∨ (m = 0 ∧ b < 0)) → d < k → n < 18446744073709551616 → acc.length = i →
    redressref16_Put.l0 k n b acc i = some (acc ++ putl n d) := by
  induction d with
  | zero =>
    intro k i n acc h8 hi hb hk hn ha
    obtain ⟨k, rfl⟩ : ∃ m, k = m + 1 := ⟨k - 1, by omega⟩
    simp only [redressref16_Put.l0, putl, List.append_nil]
    by_cases h1 : (i : Int) < b
    · rw [if_pos h1, if_neg (by omega)]
    · rw [if_neg h1]
  | succ d ih =>
    intro k i n acc h8 hi hb hk hn ha
    obtain ⟨k, rfl⟩ : ∃ m, k = m + 1 := ⟨k - 1, by omega⟩
    simp only [redressref16_Put.l0]
    have e1 : Int.tmod (n : Int) 256 = (n : Int) % 256 := Int.tmod_eq_emod_of_nonneg (by omega)
    have e2 : Int.tdiv (n : Int) 256 = (n : Int) / 256 := Int.tdiv_eq_ediv_of_nonneg (by omega)
    have e3 : IntKind.u64.wrap ((n : Int) / 256) = ((n / 256 : Nat) : Int) := by rw [IntKind.wrap_u64]; omega
    rw [if_pos (by omega), if_pos (by omega), if_pos (by omega), e1, e2, e3, w64 i (by omega), ih k (i + 1) (n / 256) _ h8 (by omega) hb (by omega) (by omega) (by simp [ha])]
    simp only [putl, List.append_assoc, List.singleton_append]
    congr 3
    omega
theorem put (n k : Nat) (b : Int) (hn : n < 18446744073709551616) (hk : 8 < k) : redressref16_Put.f k n b = some (putl n (clamp8 b)) := by
  obtain ⟨m, h0, h8, hm, he⟩ := clamp8_eq b
  obtain ⟨m, rfl⟩ := Int.eq_ofNat_of_zero_le h0
  rw [he, Int.toNat_natCast]
  unfold redressref16_Put.f
  have := put_l m b m k 0 n [] (by omega) (by omega) (by omega) (by omega) hn rfl
  simpa using this
theorem get_l (l : List Int) (hb : okb l = true) (d : Nat) : ∀ (k acc : Nat), d ≤ 8 → d < k → acc < 256 ^ (8 - d) →
    redressref16_Get.l0 k l acc ((d : Int) - 1) = some ((getn d l + 256 ^ d * acc : Nat) : Int) := by
  induction d with
  | zero =>
    intro k acc h8 hk ha
    obtain ⟨k, rfl⟩ : ∃ m, k = m + 1 := ⟨k - 1, by omega⟩
    simp only [redressref16_Get.l0]
    rw [if_neg (by omega)]
    simp [getn]
  | succ d ih =>
    intro k acc h8 hk ha
    obtain ⟨k, rfl⟩ : ∃ m, k = m + 1 := ⟨k - 1, by omega⟩
    have hpow : 256 ^ (8 - d) = 256 * 256 ^ (8 - (d + 1)) := by rw [show 8 - d = (8 - (d + 1)) + 1 from by omega, Nat.pow_succ, Nat.mul_comm]
    have hle : 256 ^ (8 - d) ≤ 256 ^ 8 := Nat.pow_le_pow_right (by decide) (by omega)
    have h88 : 256 ^ 8 = 18446744073709551616 := by decide
    simp only [redressref16_Get.l0]
    rw [if_pos (by omega)]
    have e1 : IntKind.u64.wrap (256 * (acc : Int)) = ((256 * acc : Nat) : Int) := by rw [IntKind.wrap_u64]; omega
    have e4 : wrap64 (((d + 1 : Nat) : Int) - 1 - 1) = (d : Int) - 1 := by unfold wrap64; omega
    have hgs : ∀ x : Nat, getn (d + 1) l + 256 ^ (d + 1) * acc = getn d l + 256 ^ d * x → True := fun _ _ => trivial
    have hg := getn_succ l d
    by_cases hlt : (((d + 1 : Nat) : Int) - 1) < (l.length : Int)
    · have hx := ((okb_iff l).1 hb) (l[d]'(by omega)) (List.getElem_mem (by omega))
      rw [if_pos hlt, if_pos (by omega), show (((d + 1 : Nat) : Int) - 1) = (d : Int) from by omega, rd_at l d (by omega), e1]
      have e2 : IntKind.u64.wrap (l[d]'(by omega)) = (((l[d]'(by omega)).toNat : Nat) : Int) := by rw [IntKind.wrap_u64]; omega
      have e3 : IntKind.u64.wrap (((256 * acc : Nat) : Int) + (((l[d]'(by omega)).toNat : Nat) : Int)) = ((256 * acc + (l[d]'(by omega)).toNat : Nat) : Int) := by rw [IntKind.wrap_u64]; omega
      rw [e2, e3, show wrap64 ((d : Int) - 1) = (d : Int) - 1 from by unfold wrap64; omega, ih k _ (by omega) (by omega) (by omega)]
      congr 2
      rw [hg]
      simp only [List.getD_eq_getElem?_getD, List.getElem?_eq_getElem (show d < l.length by omega), Option.getD_some, Nat.pow_succ, Nat.mul_add]
      rw [Nat.mul_assoc]
      omega
    · rw [if_neg hlt, e1, show wrap64 (((d + 1 : Nat) : Int) - 1 - 1) = (d : Int) - 1 from e4, ih k _ (by omega) (by omega) (by omega)]
      congr 2
      rw [hg]
      simp only [List.getD_eq_getElem?_getD, List.getElem?_eq_none (show l.length ≤ d by omega), Option.getD_none, Nat.pow_succ, Int.toNat_zero, Nat.mul_zero, Nat.add_zero, Nat.mul_assoc]
theorem get (l : List Int) (k : Nat) (hb : okb l = true) (hk : 8 < k) : redressref16_Get.f k l = some ((getn 8 l : Nat) : Int) := by
  unfold redressref16_Get.f
  have := get_l l hb 8 k 0 (by omega) hk (by decide)
  simpa using this
end Go.Proofs.Ytbjjpckldjjcgaa.Ref
/- Frames: what the program's and the reference's Frame compute, in one form. -/
namespace Go.Proofs.Ytbjjpckldjjcgaa.Ref
open Go.RowKit Go.Proofs.Ytbjjpckldjjcgaa Go.Proofs.YtbjjpckldjjcgaaW.PrintWords Go.Proofs.YtbjjpckldjjcgaaW.PrintLast Go.Proofs.YtbjjpckldjjcgaaW.PrintMore Crc PK

def headl (n : Nat) (d : List Int) : List Int := putl n 8 ++ putl d.length 4
def framel (n : Nat) (d : List Int) : List Int := headl n d ++ putl (cmore (cmore 0 (headl n d)) d) 4 ++ d

theorem headl_length (n : Nat) (d : List Int) : (headl n d).length = 12 := by simp [headl, putl_length]
theorem headl_okb (n : Nat) (d : List Int) : okb (headl n d) = true := by unfold headl; rw [okb_append, putl_okb, putl_okb]; rfl
theorem framel_length (n : Nat) (d : List Int) : (framel n d).length = 16 + d.length := by simp [framel, headl_length, putl_length]; omega
theorem framel_okb (n : Nat) (d : List Int) (hd : okb d = true) : okb (framel n d) = true := by
  unfold framel; rw [okb_append, okb_append, headl_okb, putl_okb, hd]; rfl
theorem wrap_u64 (n : Nat) (h : n < 18446744073709551616) : IntKind.u64.wrap (n : Int) = (n : Int) := by rw [IntKind.wrap_u64]; omega
theorem c8 : clamp8 8 = 8 := by decide
theorem c4 : clamp8 4 = 4 := by decide

theorem crcPut (n : Nat) (b : Int) (h : n < 18446744073709551616) : crc_Put.f (n : Int) b = some (putl n (clamp8 b)) := by
  unfold crc_Put.f; rw [if_pos ⟨by omega, by omega⟩, Int.toNat_natCast]
theorem crcMore (s : Nat) (l : List Int) (hs : s < 4294967296) (hl : okb l = true) : crc_More.f (s : Int) l = some ((cmore s l : Nat) : Int) := by
  unfold crc_More.f; rw [if_pos ⟨by omega, by omega, hl⟩, Int.toNat_natCast]
theorem crcSum (l : List Int) (hl : okb l = true) : crc_Sum.f l = some ((cmore 0 l : Nat) : Int) := by
  unfold crc_Sum.f
  have := crcMore 0 l (by decide) hl
  rw [Int.natCast_zero] at this
  rw [this, Option.bind_some]
theorem crcFrame (n : Nat) (d : List Int) (hn : n < 18446744073709551616) (hd : okb d = true) (hl : d.length ≤ 2048) : crc_Frame.f (n : Int) d = some (framel n d, true) := by
  have hh := headl_okb n d
  have hs := cmore_lt 0 _ (by decide) hh
  have hs2 := cmore_lt _ d hs hd
  have e1 := crcPut n 8 hn
  have e2 := crcPut d.length 4 (by omega)
  have e3 := crcPut (cmore (cmore 0 (headl n d)) d) 4 (by omega)
  have e4 := crcSum _ hh
  have e5 := crcMore _ d hs hd
  rw [c8] at e1
  rw [c4] at e2 e3
  have w1 := wrap_u64 d.length (by omega)
  have w2 := wrap_u64 _ (show cmore (cmore 0 (headl n d)) d < 18446744073709551616 by omega)
  have h1 : (putl n 8).length + (putl d.length 4).length < 140737488355328 := by rw [putl_length, putl_length]; decide
  have h2 : (headl n d).length + (putl (cmore (cmore 0 (headl n d)) d) 4).length < 140737488355328 := by rw [putl_length, headl_length]; decide
  have h3 : (headl n d ++ putl (cmore (cmore 0 (headl n d)) d) 4).length + d.length < 140737488355328 := by rw [List.length_append, putl_length, headl_length]; omega
  have hd2 : putl n 8 ++ putl d.length 4 = headl n d := rfl
  unfold crc_Frame.f framel
  rw [if_neg (by omega), e1, w1, e2, Option.bind_some, Option.bind_some, if_pos h1, hd2, Option.bind_some, e4, Option.bind_some, e5, Option.bind_some, w2, e3, Option.bind_some, if_pos h2, Option.bind_some, if_pos h3]
theorem refFrame (n k : Nat) (d : List Int) (hn : n < 18446744073709551616) (hd : okb d = true) (hl : d.length ≤ 2048) (hk : 2100 < k) : redressref16_Frame.f k (n : Int) d = some (framel n d, true) := by
  have hh := headl_okb n d
  have hs := cmore_lt 0 _ (by decide) hh
  have hs2 := cmore_lt _ d hs hd
  unfold redressref16_Frame.f
  rw [if_neg (by omega), put n k 8 hn (by omega), wrap_u64 d.length (by omega), put d.length k 4 (by omega) (by omega), c8, c4]
  simp only [Option.bind_some]
  rw [if_pos (by simp [putl_length])]
  have hm := more (headl n d) 0 k hh (by rw [headl_length]; decide) (by rw [headl_length]; omega) (by decide)
  rw [Int.natCast_zero] at hm
  rw [show putl n 8 ++ putl d.length 4 = headl n d from rfl, hm]
  simp only [Option.bind_some]
  rw [more d _ k hd (by omega) (by omega) hs]
  simp only [Option.bind_some]
  rw [wrap_u64 _ (by omega), put _ k 4 (by omega) (by omega), c4]
  simp only [Option.bind_some]
  rw [if_pos (by simp [headl_length, putl_length]), if_pos (by simp [headl_length, putl_length]; omega)]
  rfl

/-- What a row of bytes is opened as, told by frames. -/
theorem open_frame (l : List Int) (hb : okb l = true) (h16 : 16 ≤ l.length) (hn : getn 8 ((l.take 12).drop 8) + 16 ≤ l.length) :
    (cmore (cmore 0 (l.take 12)) ((l.drop 16).take (getn 8 ((l.take 12).drop 8))) = getn 8 ((l.take 16).drop 12)) ↔
      framel (getn 8 (l.take 8)) ((l.drop 16).take (getn 8 ((l.take 12).drop 8))) = l.take (16 + getn 8 ((l.take 12).drop 8)) := by
  obtain ⟨n, hnn⟩ : ∃ n, n = getn 8 ((l.take 12).drop 8) := ⟨_, rfl⟩
  rw [← hnn] at hn ⊢
  obtain ⟨d, hd⟩ : ∃ d, d = (l.drop 16).take n := ⟨_, rfl⟩
  have hdl : d.length = n := by rw [hd]; simp; omega
  rw [← hd]
  have e8 : putl (getn 8 (l.take 8)) 8 = l.take 8 := putl_getn 8 _ (by simp; omega) (okb_take l 8 hb)
  have l4 : ((l.take 12).drop 8).length = 4 := by simp; omega
  have m4 : ((l.take 16).drop 12).length = 4 := by simp; omega
  have o4 := okb_drop _ 8 (okb_take l 12 hb)
  have p4 := okb_drop _ 12 (okb_take l 16 hb)
  have g48 : ∀ x : List Int, x.length = 4 → okb x = true → getn 8 x = getn 4 x := by
    intro x hx hox
    have h1 := getn_putl 4 (getn 4 x) 8 (by decide)
    have h2 := getn_putl 4 (getn 4 x) 4 (by decide)
    rw [putl_getn 4 x hx hox] at h1 h2
    omega
  have eh : headl (getn 8 (l.take 8)) d = l.take 12 := by
    unfold headl
    rw [e8, hdl, hnn, g48 _ l4 o4, putl_getn 4 _ l4 o4]
    have : l.take 8 = (l.take 12).take 8 := by rw [List.take_take]; rfl
    rw [this, List.take_append_drop]
  have hsl : cmore (cmore 0 (l.take 12)) d < 256 ^ 4 := by
    have hod : okb d = true := by rw [hd]; exact okb_take _ _ (okb_drop _ _ hb)
    have := cmore_lt _ d (cmore_lt 0 _ (by decide) (okb_take l 12 hb)) hod
    omega
  have et : l.take (16 + n) = l.take 12 ++ (l.take 16).drop 12 ++ d := by
    rw [hd]
    have h1 : l.take 12 = (l.take 16).take 12 := by rw [List.take_take]; rfl
    rw [h1, List.take_append_drop, ← List.take_add]
  unfold framel
  rw [eh, et]
  constructor
  · intro h
    rw [h, g48 _ m4 p4, putl_getn 4 _ m4 p4]
  · intro h
    have h1 := List.append_cancel_right h
    have h2 := List.append_cancel_left h1
    have h3 := congrArg (getn 4) h2
    rw [getn_putl 4 _ 4 (by decide), Nat.mod_eq_of_lt hsl] at h3
    rw [h3, g48 _ m4 p4]
end Go.Proofs.Ytbjjpckldjjcgaa.Ref
/- The crc: contracts with counted rows; what a frame is opened as. -/
namespace Go.Proofs.Ytbjjpckldjjcgaa
open Go.RowKit Go.Proofs.YtbjjpckldjjcgaaW.PrintWords Go.Proofs.YtbjjpckldjjcgaaW.PrintLast Go.Proofs.YtbjjpckldjjcgaaW.PrintMore Crc PK Ref
set_option linter.unusedVariables false
set_option linter.unusedSimpArgs false

theorem crc_Open.n (A0 : Option Addr) (n c0 : Nat) (l0 : List Int) (w : World) (hn : l0.length = n) (hr0 : Kd.C (Kd.int .u8) w A0 l0.length l0) (hc0 : n ≤ c0) (hb : okb l0 = true) :
    Calls Try.prog 46 #[.slice A0 n c0] w fun e w' => ∃ v1_ : Value, e = .returned (.tuple #[.int .u64 (openl l0).1, v1_, .bool (openl l0).2.2]) ∧ Kd.R (Kd.int .u8) 5 w' w.heap.size (fun _ => True) v1_ (openl l0).2.1 ∧ Below w.heap.size w w' := by
  subst hn
  exact crc_Open.calls A0 c0 l0 _ _ _ w hr0 hc0 (by unfold crc_Open.f; rw [if_pos hb])
theorem ref_Same.n (A0 : Option Addr) (n0 c0 : Nat) (l0 : List Int) (A1 : Option Addr) (n1 c1 : Nat) (l1 : List Int) (w : World) (h0 : l0.length = n0) (h1 : l1.length = n1) (hr0 : Kd.C (Kd.int .u8) w A0 l0.length l0) (hc0 : n0 ≤ c0) (hr1 : Kd.C (Kd.int .u8) w A1 l1.length l1) (hc1 : n1 ≤ c1) (hm : l0.length ≤ 100000) :
    Calls Try.prog 18 #[.slice A0 n0 c0, .slice A1 n1 c1] w fun e w' => e = .returned (.bool (decide (l0 = l1))) ∧ Drawn0 w w' := by
  subst h0; subst h1
  exact redressref16_Same.calls (l0.length + 1) A0 c0 l0 A1 c1 l1 _ w hr0 hc0 hr1 hc1 (same l0 l1 _ hm (by omega))

theorem C_newq {α : Type} {enc : α → Value} {h1 : ∀ x, (enc x).oneCell' = true} (d : α) {b : Nat} (W : World) (xs : List α) (cs : Array Value) (e : Nat) (hb : b = W.heap.size) (hcs : cs.toList = xs.map enc) (hm : xs.length ≤ 9223372036854775807) :
    (Kd.scalar enc h1).C (W.alloc (.cells cs e)) (some ⟨b, 0, none⟩) xs.length xs := by
  subst hb; exact Aid.C_new d W xs cs e (0, 0) hcs hm
theorem ref_More.n (s : Nat) (A1 : Option Addr) (n c1 : Nat) (l1 : List Int) (w : World) (hs : s < 4294967296) (hn : l1.length = n) (hr1 : Kd.C (Kd.int .u8) w A1 l1.length l1) (hc1 : n ≤ c1) (hb : okb l1 = true) (hm : l1.length ≤ 100000) :
    Calls Try.prog 57 #[.int .u32 (s : Int), .slice A1 n c1] w fun e w' => e = .returned (.int .u32 ((cmore s l1 : Nat) : Int)) ∧ Drawn0 w w' := by
  subst hn
  exact redressref16_More.calls (l1.length + 10) (s : Int) A1 c1 l1 _ w hr1 hc1 (more l1 s _ hb hm (by omega) hs)
theorem ref_Get.n (A0 : Option Addr) (n c0 : Nat) (l0 : List Int) (w : World) (hn : l0.length = n) (hr0 : Kd.C (Kd.int .u8) w A0 l0.length l0) (hc0 : n ≤ c0) (hb : okb l0 = true) :
    Calls Try.prog 28 #[.slice A0 n c0] w fun e w' => e = .returned (.int .u64 ((getn 8 l0 : Nat) : Int)) ∧ Drawn0 w w' := by
  subst hn
  exact redressref16_Get.calls 9 A0 c0 l0 _ w hr0 hc0 (get l0 9 hb (by decide))
theorem getn8_putl4 (n : Nat) (h : n < 256 ^ 4) : getn 8 (putl n 4) = n := by rw [getn_putl 4 n 8 (by decide), Nat.mod_eq_of_lt h]
theorem frame_head (n : Nat) (d b : List Int) : framel n d ++ b = putl n 8 ++ (putl d.length 4 ++ (putl (cmore (cmore 0 (headl n d)) d) 4 ++ (d ++ b))) := by
  unfold framel headl; simp [List.append_assoc]
theorem cut_at {α : Type} (a b : List α) (n : Nat) (h : a.length = n) : (a ++ b).take n = a := by subst h; simp
theorem drop_at {α : Type} (a b : List α) (n : Nat) (h : a.length = n) : (a ++ b).drop n = b := by subst h; simp
theorem frame_8 (n : Nat) (d b : List Int) : (framel n d ++ b).take 8 = putl n 8 := by rw [frame_head]; exact cut_at _ _ 8 (putl_length _ _)
theorem frame_12 (n : Nat) (d b : List Int) : (framel n d ++ b).take 12 = headl n d := by
  rw [frame_head, ← List.append_assoc]; exact cut_at _ _ 12 (headl_length n d)
theorem frame_16 (n : Nat) (d b : List Int) : (framel n d ++ b).take 16 = headl n d ++ putl (cmore (cmore 0 (headl n d)) d) 4 := by
  rw [frame_head, ← List.append_assoc, ← List.append_assoc]; exact cut_at _ _ 16 (by rw [List.length_append, putl_length]; have := headl_length n d; unfold headl at this; omega)
theorem frame_d (n : Nat) (d b : List Int) : (framel n d ++ b).drop 16 = d ++ b := by
  rw [frame_head, ← List.append_assoc, ← List.append_assoc]; exact drop_at _ _ 16 (by rw [List.length_append, putl_length]; have := headl_length n d; unfold headl at this; omega)
theorem head_8 (n : Nat) (d : List Int) : (headl n d).drop 8 = putl d.length 4 := drop_at _ _ 8 (putl_length _ _)
/-- A frame, with anything behind it, is opened as what it was. -/
theorem open_back (n : Nat) (d b : List Int) (hn : n < 18446744073709551616) (hd : okb d = true) (hl : d.length ≤ 2048) : openl (framel n d ++ b) = ((n : Int), d, true) := by
  have hs := cmore_lt (cmore 0 (headl n d)) d (cmore_lt 0 _ (by decide) (headl_okb n d)) hd
  have hlen : (framel n d ++ b).length = 16 + d.length + b.length := by rw [List.length_append, framel_length]
  unfold openl
  rw [if_neg (by omega), frame_12, head_8, getn8_putl4 _ (by omega), if_neg (by omega), frame_d, cut_at d b _ rfl, frame_16, drop_at _ _ 12 (headl_length n d), getn8_putl4 _ (by omega), if_neg (by simp), frame_8, getn_putl 8 n 8 (by decide), Nat.mod_eq_of_lt (by omega)]
/-- No part of a frame is opened. -/
theorem open_part (n : Nat) (d : List Int) (k : Nat) (hl : d.length ≤ 2048) (hk : k < (framel n d).length) : openl ((framel n d).take k) = (0, [], false) := by
  have hlen := framel_length n d
  unfold openl
  by_cases h16 : k < 16
  · rw [if_pos (by rw [List.length_take]; omega)]
  · have e : ((framel n d).take k).take 12 = headl n d := by
      have := frame_12 n d []
      rw [List.append_nil] at this
      rw [List.take_take, Nat.min_eq_left (by omega), this]
    rw [if_neg (by rw [List.length_take]; omega), e, head_8, getn8_putl4 _ (by omega), if_pos (by rw [List.length_take]; omega)]

end Go.Proofs.Ytbjjpckldjjcgaa
/- A region that draws its order, by an invariant over what has been listed. -/
namespace Go.Proofs.Ytbjjpckldjjcgaa
open Go
set_option linter.unusedVariables false

theorem wp_region_inv {P : Program} {id : Nat} {ops : Array Oper} {Q : Exit → Act → World → Prop} {a : Act} {w : World} (hm : P.follows .mixedOrders = true) (Inv : Array Bool → Act → World → Prop)
    (h0 : Inv (Array.replicate ops.size false) a w.drew)
    (hstep : ∀ listed a w, Inv listed a w → ∀ i ∈ Region.ready .any ops listed, wpOp P ops Q i (Inv (listed.setIfInBounds i true)) a w)
    (hend : ∀ listed a w, Inv listed a w → Region.ready .any ops listed = [] → Q .normal a w) : (Code.region id ops true).wp P Q a w := by
  have key : ∀ fuel (listed : Array Bool) a w, listed.toList.count false ≤ fuel → Inv listed a w → wpAny P .any ops Q fuel listed a w := by
    intro fuel
    induction fuel with
    | zero =>
      intro listed a w hc hI
      have hr : Region.ready .any ops listed = [] := by
        rw [List.eq_nil_iff_forall_not_mem]
        intro j hj
        have h1 := (mem_ready.1 hj).1
        have hlt : j < listed.size := by
          rcases Nat.lt_or_ge j listed.size with h | h
          · exact h
          · rw [Array.getD_eq_getD_getElem?, Array.getElem?_eq_none h] at h1; cases h1
        have h2 : listed[j] = false := by rw [Array.getD_eq_getD_getElem?, Array.getElem?_eq_getElem hlt] at h1; exact h1
        have h3 : false ∈ listed.toList := by rw [← h2]; exact Array.getElem_mem_toList hlt
        have := List.count_pos_iff.2 h3
        omega
      exact ⟨hr, hend _ _ _ hI hr⟩
    | succ n ih =>
      intro listed a w hc hI
      refine ⟨fun hr => hend _ _ _ hI hr, fun i hi => ?_⟩
      have h1 := (mem_ready.1 hi).1
      have hlt : i < listed.size := by
        rcases Nat.lt_or_ge i listed.size with h | h
        · exact h
        · rw [Array.getD_eq_getD_getElem?, Array.getElem?_eq_none h] at h1; cases h1
      have h2 : listed[i] = false := by rw [Array.getD_eq_getD_getElem?, Array.getElem?_eq_getElem hlt] at h1; exact h1
      have hc' : (listed.setIfInBounds i true).toList.count false ≤ n := by
        rw [Array.toList_setIfInBounds, List.count_set (by simpa using hlt)]
        have h3 : false ∈ listed.toList := by rw [← h2]; exact Array.getElem_mem_toList hlt
        have := List.count_pos_iff.2 h3
        have h4 : (listed.toList[i]'(by simpa using hlt) == false) = true := by simp [h2]
        rw [if_pos h4, if_neg (by decide)]
        omega
      exact wpOp_mono (fun a' w' hI' => ih _ a' w' hc' hI') (hstep _ _ _ hI i hi)
  exact wp_region_any hm (key _ _ _ _ (by
    simp) h0)
theorem wpOp_list {P : Program} {ops : Array Oper} {Q : Exit → Act → World → Prop} {i : Nat} {K : Act → World → Prop} {a : Act} {w : World} {o : Oper} (ho : ops[i]? = some o) (h : wpList P ops (Exit.then K Q) [o] a w) : wpOp P ops Q i K a w := by
  unfold wpOp
  rw [ho]
  unfold wpList at h
  by_cases hw : Region.wanted o (yielded ops a.tmps) = true
  · rw [if_pos hw] at h
    simp only [hw, if_true]
    rcases h with h | ⟨h1, h2⟩
    · refine .inl ?_
      unfold Oper.wp at *
      generalize (execOp a.eval o).run P w = r at *
      cases r with
      | ok n w' =>
        cases n <;> exact h
      | halt x w' => cases x <;> exact h
    · exact .inr ⟨h1, h2⟩
  · rw [if_neg hw] at h
    simp only [hw]
    exact h
theorem wpOp_step {P : Program} {ops : Array Oper} {Q : Exit → Act → World → Prop} {i : Nat} {K0 : Act → World → Prop} {a : Act} {w : World} {o : Oper} (ho : ops[i]? = some o) (h : ∀ K : Act → World → Prop, (∀ a w, K0 a w → K a w) → wpList P ops (Exit.then K Q) [o] a w) : wpOp P ops Q i K0 a w := wpOp_list ho (h K0 fun _ _ h => h)
end Go.Proofs.Ytbjjpckldjjcgaa
/- The reference's Open (function 22): its walk; the region that draws its order and makes by an invariant (I0). -/
namespace Go.Proofs.Ytbjjpckldjjcgaa
open Go.RowKit Go.Proofs.YtbjjpckldjjcgaaW.PrintWords Go.Proofs.YtbjjpckldjjcgaaW.PrintLast Go.Proofs.YtbjjpckldjjcgaaW.PrintMore Crc PK Ref
set_option linter.unusedVariables false
set_option linter.unusedSimpArgs false
attribute [local go_sem] Aid.below_all

theorem split14 (i : Nat) (h : i < 14) : i = 0 ∨ i = 1 ∨ i = 2 ∨ i = 3 ∨ i = 4 ∨ i = 5 ∨ i = 6 ∨ i = 7 ∨ i = 8 ∨ i = 9 ∨ i = 10 ∨ i = 11 ∨ i = 12 ∨ i = 13 := by omega
theorem run5 (n : Nat) (h : n ≤ 2048) (w : World) : (convert 31 3 (.int .u64 n)).run Try.prog w = .ok (.int .i64 n) w := by
  go_simp
  rw [IntKind.wrap_i64]; omega
theorem run1 (ad : Addr) (m c0 : Nat) (h : 8 ≤ c0) (w : World) : (Instr.sliceAt 32 (.slice (some ad) m c0) none (some (.int .i64 8)) none).run Try.prog w = .ok (.slice (some ad) 8 c0) w := by
  go_simp
  intro hc; omega
theorem run7 (ad : Addr) (m c0 n : Nat) (h : 16 + n ≤ c0) (hn : n ≤ 2048) (w : World) : (Instr.sliceAt 32 (.slice (some ad) m c0) (some (.int .i64 16)) (some (.int .i64 (16 + (n : Int)))) none).run Try.prog w = .ok (.slice (if c0 = 16 then some ad else some (ad.add 16)) n (c0 - 16)) w := by
  have e1 : (16 + (n : Int)).toNat = 16 + n := by omega
  have e2 : ¬ ((c0 : Int) < 16 + n) := by omega
  have e3 : ¬ (16 + (n : Int) < 16) := by omega
  go_simp
  rw [if_pos ⟨by omega, by omega⟩, if_pos (by omega)]
theorem C_none (w : World) : Kd.C (Kd.int .u8) w none 0 ([] : List Int) := Kd.C_of_reads (d := (0 : Int)) ⟨rfl, by decide, fun h => absurd h (by decide)⟩

set_option maxRecDepth 100000 in
set_option maxHeartbeats 2000000 in
theorem ref_Open.any (A0 : Option Addr) (c0 : Nat) (l0 : List Int) (w : World) (hr0 : Kd.C (Kd.int .u8) w A0 l0.length l0) (hc0 : l0.length ≤ c0) (hb : okb l0 = true) (hm2 : l0.length ≤ 100000) :
    Calls Try.prog 56 #[.slice A0 l0.length c0] w fun e w' => ∃ (A : Option Addr) (c : Nat), e = .returned (.tuple #[.int .u64 (openl l0).1, .slice A (openl l0).2.1.length c, .bool (openl l0).2.2]) ∧ (openl l0).2.1.length ≤ c ∧ Kd.C (Kd.int .u8) w' A (openl l0).2.1.length (openl l0).2.1 ∧ Below w.heap.size w w' := by
  by_cases hlen : l0.length < 16
  · have h : openl l0 = (0, [], false) := by unfold openl; rw [if_pos hlen]
    rw [h]
    go_enter Try.func56, Try.ntmps56
    go_wp2
    go_ret3
    exact ⟨_, _, rfl, Nat.le_refl _, C_none _, Below.refl _ _⟩
  obtain ⟨ad, rfl⟩ : ∃ ad, A0 = some ad := by
    obtain ⟨ad, h1, _⟩ := hr0.2.2 (by omega)
    exact ⟨ad, h1⟩
  have c1 := C_cut 8 12 hr0 (by omega) (by omega)
  have k1 := okb_drop _ 8 (okb_take l0 12 hb)
  have l1 : ((l0.take 12).drop 8).length = 4 := by simp; omega
  obtain ⟨n, hn⟩ : ∃ n, n = getn 8 ((l0.take 12).drop 8) := ⟨_, rfl⟩
  have G1 := fun W (hW : Kd.C (Kd.int .u8) W (some (ad.add 8)) ((l0.take 12).drop 8).length ((l0.take 12).drop 8)) => ref_Get.n (some (ad.add 8)) 4 (c0 - 8) _ W l1 hW (by omega) k1
  rw [← hn] at G1
  have HR := Aside0.mk hr0; clear hr0
  have C1 := Aside0.mk c1; clear c1
  have HG1 := Aside0.mk G1; clear G1
  have HO := Aside0.mk hb; clear hb k1 l1
  by_cases hbig : n > 2048 ∨ n + 16 > l0.length
  · have h : openl l0 = (0, [], false) := by unfold openl; rw [if_neg hlen, ← hn, if_pos hbig]
    rw [h]
    by_cases g1 : n > 2048
    · have c2048 : decide ((2048 : Int) < (n : Int)) = true := by simp; omega
      clear hn hbig h
      go_enter Try.func56, Try.ntmps56
      go_wp2_with fail
      refine (HG1.out _ C1.out).mono ?_; rintro e w1 ⟨rfl, ⟨n1, rfl⟩⟩
      go_wp2_with fail
      go_ret3
      exact ⟨_, _, rfl, Nat.le_refl _, C_none _, by repeat (first | exact Below.refl _ _ | apply Aid.bdrew)⟩
    · have g2 : l0.length < n + 16 := by omega
      clear hn hbig h
      go_enter Try.func56, Try.ntmps56
      go_wp2_with fail
      refine (HG1.out _ C1.out).mono ?_; rintro e w1 ⟨rfl, ⟨n1, rfl⟩⟩
      go_wp2_with fail
      go_ret3
      exact ⟨_, _, rfl, Nat.le_refl _, C_none _, by repeat (first | exact Below.refl _ _ | apply Aid.bdrew)⟩
  have g1 : n ≤ 2048 := by omega
  have g2 : n + 16 ≤ l0.length := by omega
  have HN := Aside0.mk hn
  clear hbig hn
  have k12 : (12 : Int) ≤ (c0 : Int) := by omega
  go_enter Try.func56, Try.ntmps56
  go_wp2_with fail
  refine (HG1.out _ C1.out).mono ?_; rintro e w1 ⟨rfl, ⟨n1, rfl⟩⟩
  go_wp2_with fail
  obtain ⟨d, hd⟩ : ∃ d, d = (l0.drop 16).take n := ⟨_, rfl⟩
  obtain ⟨q, hq⟩ : ∃ q, q = getn 8 (l0.take 8) := ⟨_, rfl⟩
  have HQ := Aside0.mk hq
  have HQ2 := Aside0.mk (show q < 18446744073709551616 by rw [hq]; exact getn_lt 8 _ (okb_take l0 8 HO.out))
  have HDD := Aside0.mk hd
  have HDL := Aside0.mk (show d.length = n by rw [hd]; simp; omega)
  have HD2 := Aside0.mk (show okb d = true by rw [hd]; exact okb_take _ _ (okb_drop _ _ HO.out))
  clear hq hd
  have k16 : (16 : Int) ≤ (c0 : Int) := by omega
  have hC16 : ∀ W, Below w.heap.size w W → Kd.C (Kd.int .u8) W (if c0 = 16 then some ad else some (ad.add 16)) n d := by
    intro W hW
    by_cases hc : c0 = 16
    · have h0 : n = 0 := by omega
      have hd0 : d = [] := List.length_eq_zero_iff.1 (by rw [HDL.out, h0])
      rw [h0, hd0]
      exact Kd.C_of_reads (d := (0 : Int)) ⟨rfl, by decide, fun h => absurd h (by decide)⟩
    · rw [if_neg hc]
      have := C_cut 16 (16 + n) (Kd.C_below HR.out hW) (by omega) (by omega)
      have e : (l0.take (16 + n)).drop 16 = d := by rw [HDD.out, List.drop_take]; congr 1; omega
      rw [e, HDL.out] at this
      exact this
  have HC16 := Aside0.mk hC16; clear hC16
  --INV
  refine wp_region_inv (by kernel_rfl) (fun listed a w' => ∃ (b0 b1 b2 b3 b4 b5 b6 b7 b8 b9 b10 b11 b12 b13 : Bool) (x25 x26 x27 x28 x29 x30 x31 x32 x33 x24 x34 x35 x6 x7 : Value) (A : Option Addr) (c : Nat), listed = #[b0, b1, b2, b3, b4, b5, b6, b7, b8, b9, b10, b11, b12, b13] ∧ a = { tmps := #[Value.slice (some ad) l0.length c0, undef, Value.int IntKind.u64 0, Value.slice none 0 0, Value.bool false, Value.int IntKind.u64 n, x6, x7, Value.slice (some ad) l0.length c0, Value.int IntKind.i64 l0.length, Value.bool (decide ((l0.length : Int) < 16)), Value.slice (some ad) l0.length c0, Value.slice (some { block := ad.block, off := ad.off + 8 }) 4 (c0 - 8), Value.int IntKind.u64 n, Value.int IntKind.u64 n, Value.bool (decide (2048 < (n : Int))), Value.bool (decide (2048 < (n : Int))), Value.int IntKind.u64 n, Value.int IntKind.i64 n, Value.int IntKind.i64 ((n : Int) + 16), Value.slice (some ad) l0.length c0, Value.int IntKind.i64 l0.length, Value.bool (decide ((l0.length : Int) < n + 16)), Value.bool (decide (2048 < (n : Int)) || decide ((l0.length : Int) < n + 16)), x24, x25, x26, x27, x28, x29, x30, x31, x32, x33, x34, x35, undef, undef, undef, undef, undef, undef, undef, undef, undef, undef, undef, undef, undef], defers := [] } ∧ Aside0 (b0 = true → x25 = Value.slice (some ad) l0.length c0) ∧ Aside0 (b1 = true → x26 = Value.slice (some ad) 8 c0) ∧ Aside0 (b2 = true → x27 = Value.int .u64 (q : Int)) ∧ Aside0 (b3 = true → x28 = Value.slice (some ad) l0.length c0) ∧ Aside0 (b4 = true → x29 = Value.int .u64 n) ∧ Aside0 (b5 = true → x30 = Value.int .i64 n) ∧ Aside0 (b6 = true → x31 = Value.int .i64 (16 + (n : Int))) ∧ Aside0 (b7 = true → ∃ A7 c7, x32 = Value.slice A7 n c7 ∧ n ≤ c7 ∧ ∀ W, Below w.heap.size w W → Kd.C (Kd.int .u8) W A7 n d) ∧ Aside0 (b8 = true → x33 = Value.tuple #[.slice A (16 + n) c, .bool true] ∧ 16 + n ≤ c ∧ Kd.C (Kd.int .u8) w' A (16 + n) (framel q d)) ∧ Aside0 (b9 = true → x24 = Value.tuple #[.slice A (16 + n) c, .bool true] ∧ b8 = true) ∧ Aside0 (b10 = true → x34 = Value.slice A (16 + n) c ∧ b8 = true) ∧ Aside0 (b11 = true → x35 = Value.bool true ∧ b8 = true) ∧ Aside0 (b12 = true → x6 = Value.slice A (16 + n) c ∧ b8 = true) ∧ Aside0 (b13 = true → x7 = Value.bool true ∧ b8 = true) ∧ Aside0 (Below w.heap.size w w')) ?start ?step ?fin
  case start =>
    exact ⟨false, false, false, false, false, false, false, false, false, false, false, false, false, false, undef, undef, undef, undef, undef, undef, undef, undef, undef, undef, undef, undef, undef, undef, none, 0, rfl, rfl, ⟨fun h => by cases h⟩, ⟨fun h => by cases h⟩, ⟨fun h => by cases h⟩, ⟨fun h => by cases h⟩, ⟨fun h => by cases h⟩, ⟨fun h => by cases h⟩, ⟨fun h => by cases h⟩, ⟨fun h => by cases h⟩, ⟨fun h => by cases h⟩, ⟨fun h => by cases h⟩, ⟨fun h => by cases h⟩, ⟨fun h => by cases h⟩, ⟨fun h => by cases h⟩, ⟨fun h => by cases h⟩, ⟨by repeat (first | exact Below.refl _ _ | apply Aid.bdrew | exact (Below.refl _ _).drew | exact (Aid.bdrew (Below.refl _ _) _).drew)⟩⟩
  case step =>
    intro listed a w' hI i hi
    obtain ⟨b0, b1, b2, b3, b4, b5, b6, b7, b8, b9, b10, b11, b12, b13, x25, x26, x27, x28, x29, x30, x31, x32, x33, x24, x34, x35, x6, x7, A, c, rfl, rfl, h0, h1, h2, h3, h4, h5, h6, h7, h8, h9, h10, h11, h12, h13, hB⟩ := hI
    obtain ⟨hl, o, ho, hd⟩ := mem_ready.1 hi
    have hi14 : i < 14 := by
      rcases Nat.lt_or_ge i 14 with h | h
      · exact h
      · rw [Array.getElem?_eq_none (by simpa using h)] at ho; cases ho
    obtain rfl | rfl | rfl | rfl | rfl | rfl | rfl | rfl | rfl | rfl | rfl | rfl | rfl | rfl := split14 i hi14
    · have hl' : b0 = false := by simpa using hl
      clear hl hi hi14
      obtain rfl := Option.some.inj ho
      clear ho
      clear hd
      refine wpOp_step rfl (fun K hK => ?_)
      refine Aid.event_run_w (v := Value.slice (some ad) l0.length c0) (w1 := w') rfl (by first | rfl | (simp [execOp, Act.eval]; done)) ?_
      show K _ _
      refine hK _ _ ?_
      exact ⟨true, b1, b2, b3, b4, b5, b6, b7, b8, b9, b10, b11, b12, b13, _, _, _, _, _, _, _, _, _, _, _, _, _, _, A, c, rfl, rfl, ⟨fun _ => rfl⟩, h1, h2, h3, h4, h5, h6, h7, h8, h9, h10, h11, h12, h13, hB⟩
    · have hl' : b1 = false := by simpa using hl
      clear hl hi hi14
      obtain rfl := Option.some.inj ho
      clear ho
      have d0 : b0 = true := by simpa using hd ⟨0, .data⟩ (by simp) rfl
      clear hd
      obtain rfl := h0.out d0
      refine wpOp_step rfl (fun K hK => ?_)
      refine Aid.event_run_w (v := Value.slice (some ad) 8 c0) (w1 := w') rfl (by simp [execOp, Act.eval]; rw [run1 ad l0.length c0 (by omega)]; rfl) ?_
      show K _ _
      refine hK _ _ ?_
      exact ⟨b0, true, b2, b3, b4, b5, b6, b7, b8, b9, b10, b11, b12, b13, _, _, _, _, _, _, _, _, _, _, _, _, _, _, A, c, rfl, rfl, h0, ⟨fun _ => rfl⟩, h2, h3, h4, h5, h6, h7, h8, h9, h10, h11, h12, h13, hB⟩
    · have hl' : b2 = false := by simpa using hl
      clear hl hi hi14
      obtain rfl := Option.some.inj ho
      clear ho
      have d1 : b1 = true := by simpa using hd ⟨1, .data⟩ (by simp) rfl
      clear hd
      obtain rfl := h1.out d1
      refine wpOp_step rfl (fun K hK => ?_)
      go_wp2_with fail
      refine (ref_Get.n (some ad) 8 c0 (l0.take 8) w' (by simp; omega) (Kd.C_take (m := 8) (Kd.C_below HR.out hB.out) (by omega)) (by omega) (okb_take l0 8 HO.out)).mono ?_; rw [← HQ.out]; rintro e w2 ⟨rfl, ⟨n2, rfl⟩⟩
      rename_i K2 hK2
      refine hK2 _ _ ?_
      show K _ _
      refine hK _ _ ?_
      exact ⟨b0, b1, true, b3, b4, b5, b6, b7, b8, b9, b10, b11, b12, b13, _, _, _, _, _, _, _, _, _, _, _, _, _, _, A, c, rfl, rfl, h0, ⟨fun _ => rfl⟩, ⟨fun _ => rfl⟩, h3, h4, h5, h6, h7, ⟨fun h => ⟨(h8.out h).1, (h8.out h).2.1, Kd.C_drewN (h8.out h).2.2 _⟩⟩, h9, h10, h11, h12, h13, ⟨Aid.bdrew hB.out _⟩⟩
    · have hl' : b3 = false := by simpa using hl
      clear hl hi hi14
      obtain rfl := Option.some.inj ho
      clear ho
      clear hd
      refine wpOp_step rfl (fun K hK => ?_)
      refine Aid.event_run_w (v := Value.slice (some ad) l0.length c0) (w1 := w') rfl (by first | rfl | (simp [execOp, Act.eval]; done)) ?_
      show K _ _
      refine hK _ _ ?_
      exact ⟨b0, b1, b2, true, b4, b5, b6, b7, b8, b9, b10, b11, b12, b13, _, _, _, _, _, _, _, _, _, _, _, _, _, _, A, c, rfl, rfl, h0, h1, h2, ⟨fun _ => rfl⟩, h4, h5, h6, h7, h8, h9, h10, h11, h12, h13, hB⟩
    · have hl' : b4 = false := by simpa using hl
      clear hl hi hi14
      obtain rfl := Option.some.inj ho
      clear ho
      clear hd
      refine wpOp_step rfl (fun K hK => ?_)
      refine Aid.event_run_w (v := Value.int .u64 n) (w1 := w') rfl (by first | rfl | (simp [execOp, Act.eval]; done)) ?_
      show K _ _
      refine hK _ _ ?_
      exact ⟨b0, b1, b2, b3, true, b5, b6, b7, b8, b9, b10, b11, b12, b13, _, _, _, _, _, _, _, _, _, _, _, _, _, _, A, c, rfl, rfl, h0, h1, h2, h3, ⟨fun _ => rfl⟩, h5, h6, h7, h8, h9, h10, h11, h12, h13, hB⟩
    · have hl' : b5 = false := by simpa using hl
      clear hl hi hi14
      obtain rfl := Option.some.inj ho
      clear ho
      have d4 : b4 = true := by simpa using hd ⟨4, .data⟩ (by simp) rfl
      clear hd
      obtain rfl := h4.out d4
      refine wpOp_step rfl (fun K hK => ?_)
      refine Aid.event_run_w (v := Value.int .i64 n) (w1 := w') rfl (by simp [execOp, Act.eval]; rw [run5 n g1]; rfl) ?_
      show K _ _
      refine hK _ _ ?_
      exact ⟨b0, b1, b2, b3, b4, true, b6, b7, b8, b9, b10, b11, b12, b13, _, _, _, _, _, _, _, _, _, _, _, _, _, _, A, c, rfl, rfl, h0, h1, h2, h3, h4, ⟨fun _ => rfl⟩, h6, h7, h8, h9, h10, h11, h12, h13, hB⟩
    · have hl' : b6 = false := by simpa using hl
      clear hl hi hi14
      obtain rfl := Option.some.inj ho
      clear ho
      have d5 : b5 = true := by simpa using hd ⟨5, .data⟩ (by simp) rfl
      clear hd
      obtain rfl := h5.out d5
      refine wpOp_step rfl (fun K hK => ?_)
      have e6 : IntKind.i64.wrap (16 + (n : Int)) = 16 + (n : Int) := by rw [IntKind.wrap_i64]; omega
      refine Aid.event_run_w (v := Value.int .i64 (16 + (n : Int))) (w1 := w') rfl (by go_simp) ?_
      show K _ _
      refine hK _ _ ?_
      exact ⟨b0, b1, b2, b3, b4, b5, true, b7, b8, b9, b10, b11, b12, b13, _, _, _, _, _, _, _, _, _, _, _, _, _, _, A, c, rfl, rfl, h0, h1, h2, h3, h4, h5, ⟨fun _ => rfl⟩, h7, h8, h9, h10, h11, h12, h13, hB⟩
    · have hl' : b7 = false := by simpa using hl
      clear hl hi hi14
      obtain rfl := Option.some.inj ho
      clear ho
      have d3 : b3 = true := by simpa using hd ⟨3, .data⟩ (by simp) rfl
      have d6 : b6 = true := by simpa using hd ⟨6, .data⟩ (by simp) rfl
      clear hd
      obtain rfl := h3.out d3
      obtain rfl := h6.out d6
      refine wpOp_step rfl (fun K hK => ?_)
      refine Aid.event_run_w (v := Value.slice (if c0 = 16 then some ad else some (ad.add 16)) n (c0 - 16)) (w1 := w') rfl (by simp [execOp, Act.eval]; rw [run7 ad l0.length c0 n (by omega) g1]; rfl) ?_
      show K _ _
      refine hK _ _ ?_
      exact ⟨b0, b1, b2, b3, b4, b5, b6, true, b8, b9, b10, b11, b12, b13, _, _, _, _, _, _, _, _, _, _, _, _, _, _, A, c, rfl, rfl, h0, h1, h2, h3, h4, h5, h6, ⟨fun _ => ⟨_, _, rfl, by omega, HC16.out⟩⟩, h8, h9, h10, h11, h12, h13, hB⟩
    · have hl' : b8 = false := by simpa using hl
      clear hl hi hi14
      obtain rfl := Option.some.inj ho
      clear ho
      have d2 : b2 = true := by simpa using hd ⟨2, .data⟩ (by simp) rfl
      have d7 : b7 = true := by simpa using hd ⟨7, .data⟩ (by simp) rfl
      clear hd
      obtain rfl := h2.out d2
      obtain ⟨A7, c7, rfl, hc7, hC7⟩ := h7.out d7
      refine wpOp_step rfl (fun K hK => ?_)
      have F8 := redressref16_Frame.calls 3000 (q : Int) A7 c7 d (framel q d) true w' (by rw [HDL.out]; exact hC7 _ hB.out) (by rw [HDL.out]; exact hc7) (refFrame q 3000 d HQ2.out HD2.out (by rw [HDL.out]; exact g1) (by decide))
      rw [HDL.out] at F8
      have HF8 := Aside0.mk F8; clear F8
      go_wp2_with fail
      refine HF8.out.mono ?_
      rintro e w2 ⟨v, rfl, hR, hb2⟩
      obtain ⟨A8, c8, hv, hc8, hC8⟩ := Kd.R_reads hR
      have hfl : (framel q d).length = 16 + n := by rw [framel_length, HDL.out]
      rw [hfl] at hv hc8 hC8
      rw [hv]
      rename_i K2 hK2
      refine hK2 _ _ ?_
      show K _ _
      refine hK _ _ ?_
      exact ⟨b0, b1, b2, b3, b4, b5, b6, b7, true, b9, b10, b11, b12, b13, _, _, _, _, _, _, _, _, _, _, _, _, _, _, A8, c8, rfl, rfl, h0, h1, ⟨fun _ => rfl⟩, h3, h4, h5, h6, ⟨fun _ => ⟨_, _, rfl, hc7, hC7⟩⟩, ⟨fun _ => ⟨rfl, hc8, hC8⟩⟩, ⟨fun h => absurd (h9.out h).2 (by rw [hl']; decide)⟩, ⟨fun h => absurd (h10.out h).2 (by rw [hl']; decide)⟩, ⟨fun h => absurd (h11.out h).2 (by rw [hl']; decide)⟩, ⟨fun h => absurd (h12.out h).2 (by rw [hl']; decide)⟩, ⟨fun h => absurd (h13.out h).2 (by rw [hl']; decide)⟩, ⟨Aid.bthen hB.out hb2⟩⟩
    · have hl' : b9 = false := by simpa using hl
      clear hl hi hi14
      obtain rfl := Option.some.inj ho
      clear ho
      have d8 : b8 = true := by simpa using hd ⟨8, .data⟩ (by simp) rfl
      clear hd
      obtain ⟨rfl, hcA, hCA⟩ := h8.out d8
      refine wpOp_step rfl (fun K hK => ?_)
      refine Aid.event_run_w (v := Value.tuple #[.slice A (16 + n) c, .bool true]) (w1 := w') rfl (by first | rfl | (simp [execOp, Act.eval]; done)) ?_
      show K _ _
      refine hK _ _ ?_
      exact ⟨b0, b1, b2, b3, b4, b5, b6, b7, b8, true, b10, b11, b12, b13, _, _, _, _, _, _, _, _, _, _, _, _, _, _, A, c, rfl, rfl, h0, h1, h2, h3, h4, h5, h6, h7, h8, ⟨fun _ => ⟨rfl, d8⟩⟩, h10, h11, h12, h13, hB⟩
    · have hl' : b10 = false := by simpa using hl
      clear hl hi hi14
      obtain rfl := Option.some.inj ho
      clear ho
      have d9 : b9 = true := by simpa using hd ⟨9, .data⟩ (by simp) rfl
      clear hd
      obtain ⟨rfl, d8⟩ := h9.out d9
      refine wpOp_step rfl (fun K hK => ?_)
      refine Aid.event_run_w (v := Value.slice A (16 + n) c) (w1 := w') rfl (by first | rfl | (simp [execOp, Act.eval]; done)) ?_
      show K _ _
      refine hK _ _ ?_
      exact ⟨b0, b1, b2, b3, b4, b5, b6, b7, b8, b9, true, b11, b12, b13, _, _, _, _, _, _, _, _, _, _, _, _, _, _, A, c, rfl, rfl, h0, h1, h2, h3, h4, h5, h6, h7, h8, h9, ⟨fun _ => ⟨rfl, d8⟩⟩, h11, h12, h13, hB⟩
    · have hl' : b11 = false := by simpa using hl
      clear hl hi hi14
      obtain rfl := Option.some.inj ho
      clear ho
      have d9 : b9 = true := by simpa using hd ⟨9, .data⟩ (by simp) rfl
      clear hd
      obtain ⟨rfl, d8⟩ := h9.out d9
      refine wpOp_step rfl (fun K hK => ?_)
      refine Aid.event_run_w (v := Value.bool true) (w1 := w') rfl (by first | rfl | (simp [execOp, Act.eval]; done)) ?_
      show K _ _
      refine hK _ _ ?_
      exact ⟨b0, b1, b2, b3, b4, b5, b6, b7, b8, b9, b10, true, b12, b13, _, _, _, _, _, _, _, _, _, _, _, _, _, _, A, c, rfl, rfl, h0, h1, h2, h3, h4, h5, h6, h7, h8, h9, h10, ⟨fun _ => ⟨rfl, d8⟩⟩, h12, h13, hB⟩
    · have hl' : b12 = false := by simpa using hl
      clear hl hi hi14
      obtain rfl := Option.some.inj ho
      clear ho
      have d10 : b10 = true := by simpa using hd ⟨10, .data⟩ (by simp) rfl
      clear hd
      obtain ⟨rfl, d8⟩ := h10.out d10
      refine wpOp_step rfl (fun K hK => ?_)
      refine Aid.event_run_w (v := Value.slice A (16 + n) c) (w1 := w') rfl (by first | rfl | (simp [execOp, Act.eval]; done)) ?_
      show K _ _
      refine hK _ _ ?_
      exact ⟨b0, b1, b2, b3, b4, b5, b6, b7, b8, b9, b10, b11, true, b13, _, _, _, _, _, _, _, _, _, _, _, _, _, _, A, c, rfl, rfl, h0, h1, h2, h3, h4, h5, h6, h7, h8, h9, h10, h11, ⟨fun _ => ⟨rfl, d8⟩⟩, h13, hB⟩
    · have hl' : b13 = false := by simpa using hl
      clear hl hi hi14
      obtain rfl := Option.some.inj ho
      clear ho
      have d11 : b11 = true := by simpa using hd ⟨11, .data⟩ (by simp) rfl
      clear hd
      obtain ⟨rfl, d8⟩ := h11.out d11
      refine wpOp_step rfl (fun K hK => ?_)
      refine Aid.event_run_w (v := Value.bool true) (w1 := w') rfl (by first | rfl | (simp [execOp, Act.eval]; done)) ?_
      show K _ _
      refine hK _ _ ?_
      exact ⟨b0, b1, b2, b3, b4, b5, b6, b7, b8, b9, b10, b11, b12, true, _, _, _, _, _, _, _, _, _, _, _, _, _, _, A, c, rfl, rfl, h0, h1, h2, h3, h4, h5, h6, h7, h8, h9, h10, h11, h12, ⟨fun _ => ⟨rfl, d8⟩⟩, hB⟩
  case fin =>
    intro listed a w' hI hr
    obtain ⟨b0, b1, b2, b3, b4, b5, b6, b7, b8, b9, b10, b11, b12, b13, x25, x26, x27, x28, x29, x30, x31, x32, x33, x24, x34, x35, x6, x7, A, c, rfl, rfl, h0, h1, h2, h3, h4, h5, h6, h7, h8, h9, h10, h11, h12, h13, hB⟩ := hI
    obtain rfl : b0 = true := by
      cases hb : b0 with
      | true => rfl
      | false =>
        subst hb
        have hm : 0 ∈ ([] : List Nat) := by
          rw [← hr]
          exact mem_ready.2 ⟨rfl, _, rfl, by simp [Region.binds]⟩
        cases hm
    obtain rfl : b1 = true := by
      cases hb : b1 with
      | true => rfl
      | false =>
        subst hb
        have hm : 1 ∈ ([] : List Nat) := by
          rw [← hr]
          exact mem_ready.2 ⟨rfl, _, rfl, by simp [Region.binds]⟩
        cases hm
    obtain rfl : b2 = true := by
      cases hb : b2 with
      | true => rfl
      | false =>
        subst hb
        have hm : 2 ∈ ([] : List Nat) := by
          rw [← hr]
          exact mem_ready.2 ⟨rfl, _, rfl, by simp [Region.binds]⟩
        cases hm
    obtain rfl : b3 = true := by
      cases hb : b3 with
      | true => rfl
      | false =>
        subst hb
        have hm : 3 ∈ ([] : List Nat) := by
          rw [← hr]
          exact mem_ready.2 ⟨rfl, _, rfl, by simp [Region.binds]⟩
        cases hm
    obtain rfl : b4 = true := by
      cases hb : b4 with
      | true => rfl
      | false =>
        subst hb
        have hm : 4 ∈ ([] : List Nat) := by
          rw [← hr]
          exact mem_ready.2 ⟨rfl, _, rfl, by simp [Region.binds]⟩
        cases hm
    obtain rfl : b5 = true := by
      cases hb : b5 with
      | true => rfl
      | false =>
        subst hb
        have hm : 5 ∈ ([] : List Nat) := by
          rw [← hr]
          exact mem_ready.2 ⟨rfl, _, rfl, by simp [Region.binds]⟩
        cases hm
    obtain rfl : b6 = true := by
      cases hb : b6 with
      | true => rfl
      | false =>
        subst hb
        have hm : 6 ∈ ([] : List Nat) := by
          rw [← hr]
          exact mem_ready.2 ⟨rfl, _, rfl, by simp [Region.binds]⟩
        cases hm
    obtain rfl : b7 = true := by
      cases hb : b7 with
      | true => rfl
      | false =>
        subst hb
        have hm : 7 ∈ ([] : List Nat) := by
          rw [← hr]
          exact mem_ready.2 ⟨rfl, _, rfl, by simp [Region.binds]⟩
        cases hm
    obtain rfl : b8 = true := by
      cases hb : b8 with
      | true => rfl
      | false =>
        subst hb
        have hm : 8 ∈ ([] : List Nat) := by
          rw [← hr]
          exact mem_ready.2 ⟨rfl, _, rfl, by simp [Region.binds]⟩
        cases hm
    obtain rfl : b9 = true := by
      cases hb : b9 with
      | true => rfl
      | false =>
        subst hb
        have hm : 9 ∈ ([] : List Nat) := by
          rw [← hr]
          exact mem_ready.2 ⟨rfl, _, rfl, by simp [Region.binds]⟩
        cases hm
    obtain rfl : b10 = true := by
      cases hb : b10 with
      | true => rfl
      | false =>
        subst hb
        have hm : 10 ∈ ([] : List Nat) := by
          rw [← hr]
          exact mem_ready.2 ⟨rfl, _, rfl, by simp [Region.binds]⟩
        cases hm
    obtain rfl : b11 = true := by
      cases hb : b11 with
      | true => rfl
      | false =>
        subst hb
        have hm : 11 ∈ ([] : List Nat) := by
          rw [← hr]
          exact mem_ready.2 ⟨rfl, _, rfl, by simp [Region.binds]⟩
        cases hm
    obtain rfl : b12 = true := by
      cases hb : b12 with
      | true => rfl
      | false =>
        subst hb
        have hm : 12 ∈ ([] : List Nat) := by
          rw [← hr]
          exact mem_ready.2 ⟨rfl, _, rfl, by simp [Region.binds]⟩
        cases hm
    obtain rfl : b13 = true := by
      cases hb : b13 with
      | true => rfl
      | false =>
        subst hb
        have hm : 13 ∈ ([] : List Nat) := by
          rw [← hr]
          exact mem_ready.2 ⟨rfl, _, rfl, by simp [Region.binds]⟩
        cases hm
    obtain rfl := h0.out rfl
    obtain rfl := h1.out rfl
    obtain rfl := h2.out rfl
    obtain rfl := h3.out rfl
    obtain rfl := h4.out rfl
    obtain rfl := h5.out rfl
    obtain rfl := h6.out rfl
    obtain ⟨A7, c7, rfl, hc7, hC7⟩ := h7.out rfl
    obtain ⟨rfl, hcA, hCA⟩ := h8.out rfl
    obtain ⟨rfl, _⟩ := h9.out rfl
    obtain ⟨rfl, _⟩ := h10.out rfl
    obtain ⟨rfl, _⟩ := h11.out rfl
    obtain ⟨rfl, _⟩ := h12.out rfl
    obtain ⟨rfl, _⟩ := h13.out rfl
    clear h0 h1 h2 h3 h4 h5 h6 h7 h8 h9 h10 h11 h12 h13 hr
    have hfl : (framel q d).length = 16 + n := by rw [framel_length, HDL.out]
    have htl : (l0.take (16 + n)).length = 16 + n := by rw [List.length_take]; omega
    obtain ⟨ad2, rfl⟩ : ∃ ad2, A = some ad2 := by
      obtain ⟨x, h1, _⟩ := hCA.2.2 (by omega)
      exact ⟨x, h1⟩
    have HFL := Aside0.mk hfl; clear hfl
    have HCA := Aside0.mk hCA; clear hCA hC7
    have S7 := ref_Same.n (some ad2) (16 + n) c (framel q d) (some ad) (16 + n) c0 (l0.take (16 + n)) w' HFL.out htl (by rw [HFL.out]; exact HCA.out) hcA (Kd.C_take (m := 16 + n) (Kd.C_below HR.out hB.out) (by omega)) (by omega) (by rw [HFL.out]; omega)
    have OF := open_frame l0 HO.out (by omega) (by rw [← HN.out]; exact g2)
    rw [← HN.out, ← HQ.out, ← HDD.out] at OF
    have HTL := Aside0.mk htl; clear htl
    have HOF := Aside0.mk OF; clear OF
    have HB := Aside0.mk hB.out; clear hB
    by_cases heq : framel q d = l0.take (16 + n)
    · have hopen : openl l0 = ((q : Int), d, true) := by
        unfold openl
        rw [if_neg hlen, ← HN.out, if_neg (by omega), ← HDD.out, if_neg (by rw [HOF.out.2 heq]; simp), ← HQ.out]
      rw [decide_eq_true heq] at S7
      have HS7 := Aside0.mk S7; clear S7
      have HOP := Aside0.mk hopen; clear hopen
      have HEQ := Aside0.mk heq; clear heq
      go_wp2_with fail
      refine HS7.out.mono ?_; rintro e w2 ⟨rfl, ⟨n3, rfl⟩⟩
      obtain ⟨w3, hw3⟩ : ∃ w3, w3 = w'.drewN n3 := ⟨_, rfl⟩
      rw [← hw3]
      have HB3 := Aside0.mk (show Below w.heap.size w w3 by rw [hw3]; exact Aid.bdrew HB.out _)
      have HC3 := Aside0.mk (show Kd.C (Kd.int .u8) w3 (some ad2) (16 + n) (framel q d) by rw [hw3]; exact Kd.C_drewN HCA.out _)
      clear HB HCA HS7 hw3
      have HG9 := Aside0.mk (fun W (hW : Below w3.heap.size w3 W) => ref_Get.n (some ad) 8 c0 (l0.take 8) W (by rw [List.length_take]; omega) (Kd.C_take (m := 8) (Kd.C_below HR.out (Aid.bthen HB3.out hW)) (by omega)) (by omega) (okb_take l0 8 HO.out))
      rw [← HQ.out] at HG9
      have k16n : (16 : Int) ≤ (c : Int) := by omega
      have k16m : (16 : Int) ≤ (16 : Int) + (n : Int) := by omega
      have k8 : (8 : Int) ≤ (c0 : Int) := by omega
      go_wp2_with fail
      refine Aid.wp_region_below_lit (by kernel_rfl) (by kernel_rfl) ?_
      repeat (refine wpQuiet_step (fun K hK => ?_); go_simp; first | (refine hK _ ?_; clear hK K) | (apply Exists.intro; refine ⟨fun w_ hw_ => ?_, hK _ ?_⟩; (first | (go_at_call 28; exact Aid.bquiet0 hw_ (HG9.out _ hw_))); clear hK K))
      refine wpQuiet_nil ?_
      intro w4 hb4
      have HB4 := Aside0.mk hb4; clear hb4
      go_wp2_with fail
      · rename_i hc16
        have h0 : n = 0 := by omega
        have hd0 : d = [] := List.length_eq_zero_iff.1 (by rw [HDL.out, h0])
        go_ret3
        rw [HOP.out]
        refine ⟨some ad2, 0, ?_, ?_, ?_, Aid.bthen HB3.out HB4.out⟩
        · show _ = _
          rw [HDL.out]
          rfl
        · show d.length ≤ _
          rw [hd0]
          exact Nat.zero_le _
        · show Kd.C _ _ _ d.length d
          rw [hd0]
          exact Kd.C_of_reads (d := (0 : Int)) ⟨rfl, by decide, fun h => absurd h (by decide)⟩
      · rename_i hc16
        go_ret3
        rw [HOP.out]
        refine ⟨some (ad2.add 16), c - 16, ?_, ?_, ?_, Aid.bthen HB3.out HB4.out⟩
        · show _ = _
          rw [HDL.out]
          rfl
        · show d.length ≤ _
          rw [HDL.out]
          omega
        · show Kd.C _ _ _ d.length d
          have := C_cut 16 (16 + n) (Kd.C_below HC3.out HB4.out) (by omega) (by omega)
          have e : ((framel q d).take (16 + n)).drop 16 = d := by
            have := frame_d q d []
            rw [List.append_nil, List.append_nil] at this
            rw [List.take_of_length_le (by rw [HFL.out]; exact Nat.le_refl _), this]
          rw [e] at this
          exact this
    · have hopen : openl l0 = (0, [], false) := by
        unfold openl
        rw [if_neg hlen, ← HN.out, if_neg (by omega), ← HDD.out, if_pos (fun h => heq (HOF.out.1 h))]
      rw [decide_eq_false heq] at S7
      have HS7 := Aside0.mk S7; clear S7
      have HOP := Aside0.mk hopen; clear hopen
      have HEQ := Aside0.mk heq; clear heq
      go_wp2_with fail
      refine HS7.out.mono ?_; rintro e w2 ⟨rfl, ⟨n3, rfl⟩⟩
      go_wp2_with fail
      go_ret3
      rw [HOP.out]
      exact ⟨_, _, rfl, Nat.le_refl _, C_none _, Aid.bdrew HB.out _⟩
end Go.Proofs.Ytbjjpckldjjcgaa
