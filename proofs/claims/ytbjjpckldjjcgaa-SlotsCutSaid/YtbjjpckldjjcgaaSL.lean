/- The law SlotsCut: its walk. -/
import Derived.Test.YtbjjpckldjjcgaaSJ
namespace Go.Proofs.Ytbjjpckldjjcgaa
open Go.RowKit Go.Proofs.YtbjjpckldjjcgaaW.PrintWords Go.Proofs.YtbjjpckldjjcgaaW.PrintLast Go.Proofs.YtbjjpckldjjcgaaW.PrintMore Go.Proofs.Ytbjjpckldjjcgaa.PK
set_option linter.unusedVariables false
set_option linter.unusedSimpArgs false
set_option maxHeartbeats 4000000
set_option maxRecDepth 100000
namespace Disk
namespace Slots
theorem w64 (x : Int) (h1 : -9223372036854775808 ≤ x) (h2 : x ≤ 9223372036854775807) : wrap64 x = x := by unfold wrap64; omega
theorem cutq {L n h lo hi : Nat} (h1 : L = 16 * n) (hn : n ≤ 1024) (h3 : 3 ≤ n / 2) (hh : h = n / 2) (hlo : lo = 32 * h - 16) (hhi : hi = 32 * h - 8) :
    Int.tdiv (L : Int) 32 = (h : Int) ∧ (L : Int) / 32 = (h : Int) ∧ wrap64 (h : Int) = (h : Int) ∧ wrap64 (32 * (h : Int)) = 32 * (h : Int) ∧ wrap64 (32 * (h : Int) - 16) = (lo : Int) ∧ wrap64 (32 * (h : Int) - 8) = (hi : Int) := by
  have a1 : h ≤ 512 := by omega
  have a2 : 3 ≤ h := by omega
  have a3 : L / 32 = h := by omega
  clear h1 hn h3 hh
  have e : (L : Int) / 32 = (h : Int) := by omega
  refine ⟨by rw [Int.tdiv_eq_ediv_of_nonneg (by omega)]; exact e, e, w64 _ (by omega) (by omega), w64 _ (by omega) (by omega), (w64 _ (by omega) (by omega)).trans (by omega), (w64 _ (by omega) (by omega)).trans (by omega)⟩
theorem SlotsCut.no (A : Option Addr) (c : Nat) (l : List Int) (A1 : Option Addr) (c1 : Nat) (x : List Int) (a : Int) (w : World) (hr : Kd.C (Kd.int .u8) w A l.length l) (hc : l.length ≤ c) (h : ¬ good l) :
    Calls Try.prog 6 #[.slice A l.length c, .slice A1 x.length c1, .int .i64 a] w fun e w' => e = .returned (.bool true) ∧ Below w.heap.size w w' := by
  have HM := Aside0.mk (Made.none A c l w hr hc h)
  clear h hr hc
  go_enter Try.func6, Try.ntmps6
  go_wp2_with fail
  refine HM.out.mono ?_; rintro e w1 ⟨rfl, hB1⟩
  have HB1 := Aside0.mk hB1
  clear HM hB1
  go_wp2_with fail
  refine (alive _).mono ?_; rintro e w2 ⟨rfl, hB2⟩
  have HB2 := Aside0.mk (Aid.bthen HB1.out hB2)
  clear hB2 HB1
  go_wp2_with fail
  go_ret
  exact ⟨rfl, HB2.out⟩
theorem SlotsCut.many (A : Option Addr) (c : Nat) (l : List Int) (A1 : Option Addr) (c1 : Nat) (x : List Int) (a : Int) (w : World) (hr : Kd.C (Kd.int .u8) w A l.length l) (hc : l.length ≤ c) (h : good l) (ho : Crc.okb l = true)
    (hr1 : Kd.C (Kd.int .u8) w A1 x.length x) (hc1 : x.length ≤ c1)
    (hq : ¬ (x.length ≤ room (l.length / 16) ∧ l.length ≤ 5000 ∧ 1 ≤ a ∧ a < ((2 + (x.length + 15) / 16 : Nat) : Int))) :
    Calls Try.prog 6 #[.slice A l.length c, .slice A1 x.length c1, .int .i64 a] w fun e w' => e = .returned (.bool true) ∧ Below w.heap.size w w' := by
  have HM := Aside0.mk (Made.some A c l w hr hc h ho)
  have HC := Aside0.mk hr; have HC1 := Aside0.mk hr1
  have HF := Aside0.mk (fun W h bb hbb => FewNil A c l W h hc bb hbb)
  have HW := Aside0.mk (fun W h hm => RefWrites A1 c1 x W h hc1 hm)
  have h5 : ¬ l.length ≤ 5000 → false = decide (l.length ≤ 5000) := fun h => (decide_eq_false h).symm
  have h5t : l.length ≤ 5000 → true = decide (l.length ≤ 5000) := fun h => (decide_eq_true h).symm
  obtain ⟨n, hn⟩ : ∃ n, n = l.length / 16 := ⟨_, rfl⟩
  obtain ⟨mw, hmw⟩ : ∃ mw, mw = 2 + (x.length + 15) / 16 := ⟨_, rfl⟩
  have h2048 : room n ≤ 2048 := by unfold room; omega
  rw [← hn] at HM hq
  rw [← hmw] at HW hq
  clear h hr hc ho hn hmw hr1 hc1
  go_enter Try.func6, Try.ntmps6
  go_wp2_with fail
  refine HM.out.mono ?_; rintro e w1 ⟨s, g, b, rfl, hS, h1, h2, h3, hB1⟩
  have HB1 := Aside0.mk hB1; have HS1 := Aside0.mk hS
  clear HM hB1 hS h1 h2 h3
  by_cases hx : x.length ≤ room n
  · have hx' : decide (room n < x.length) = false := decide_eq_false (by omega)
    by_cases h6 : l.length ≤ 5000
    · have h7 := Aside0.mk (h5t h6)
      have HX := Aside0.mk (show x.length ≤ 100000 by omega)
      by_cases ha : 1 ≤ a
      · have hb := Aside0.mk (show ¬ a < (mw : Int) from fun hb => hq ⟨hx, h6, ha, hb⟩)
        have ha' : ¬ a < 1 := by omega
        clear hq hx h6 h5 h5t ha h2048
        go_wp2_with fail
        refine (Room HS1.out).mono ?_; rintro e w2 ⟨rfl, hd2⟩; have hB2 := hd2.below; clear hd2
        have HB2 := Aside0.mk (Aid.bthen HB1.out hB2)
        clear HS1 HB1 hB2
        go_wp2_with fail
        refine (HF.out _ (Kd.C_below HC.out HB2.out) true h7.out).mono ?_; rintro e w4 ⟨rfl, hB4⟩
        have HB4 := Aside0.mk (Aid.bthen HB2.out hB4)
        clear HB2 hB4
        go_wp2_with fail
        refine (HW.out _ (Kd.C_below HC1.out HB4.out) HX.out).mono ?_; rintro e w5 ⟨rfl, hd5⟩; have hB5 := hd5.below; clear hd5
        have HB5 := Aside0.mk (Aid.bthen HB4.out hB5)
        clear HB4 hB5
        have hb' : (mw : Int) ≤ a := by have := hb.out; omega
        go_wp2_with fail
        refine (alive _).mono ?_; rintro e w6 ⟨rfl, hB6⟩
        have HB6 := Aside0.mk (Aid.bthen HB5.out hB6)
        clear hB6 HB5
        go_wp2_with fail
        go_ret
        exact ⟨rfl, HB6.out⟩
      · have ha' : a < 1 := by omega
        clear hq hx h6 h5 h5t ha h2048
        go_wp2_with fail
        refine (Room HS1.out).mono ?_; rintro e w2 ⟨rfl, hd2⟩; have hB2 := hd2.below; clear hd2
        have HB2 := Aside0.mk (Aid.bthen HB1.out hB2)
        clear HS1 HB1 hB2
        go_wp2_with fail
        refine (HF.out _ (Kd.C_below HC.out HB2.out) true h7.out).mono ?_; rintro e w4 ⟨rfl, hB4⟩
        have HB4 := Aside0.mk (Aid.bthen HB2.out hB4)
        clear HB2 hB4
        go_wp2_with fail
        refine (alive _).mono ?_; rintro e w6 ⟨rfl, hB6⟩
        have HB6 := Aside0.mk (Aid.bthen HB4.out hB6)
        clear hB6 HB4
        go_wp2_with fail
        go_ret
        exact ⟨rfl, HB6.out⟩
    · have h7 := Aside0.mk (h5 h6)
      clear hq hx h6 h5 h5t h2048
      go_wp2_with fail
      refine (Room HS1.out).mono ?_; rintro e w2 ⟨rfl, hd2⟩; have hB2 := hd2.below; clear hd2
      have HB2 := Aside0.mk (Aid.bthen HB1.out hB2)
      clear HS1 HB1 hB2
      go_wp2_with fail
      refine (HF.out _ (Kd.C_below HC.out HB2.out) false h7.out).mono ?_; rintro e w4 ⟨rfl, hB4⟩
      have HB4 := Aside0.mk (Aid.bthen HB2.out hB4)
      clear HB2 hB4
      go_wp2_with fail
      refine (alive _).mono ?_; rintro e w6 ⟨rfl, hB6⟩
      have HB6 := Aside0.mk (Aid.bthen HB4.out hB6)
      clear hB6 HB4
      go_wp2_with fail
      go_ret
      exact ⟨rfl, HB6.out⟩
  · have hx' : decide (room n < x.length) = true := decide_eq_true (by omega)
    clear hq hx h5 h5t h2048
    go_wp2_with fail
    refine (Room HS1.out).mono ?_; rintro e w2 ⟨rfl, hd2⟩; have hB2 := hd2.below; clear hd2
    have HB2 := Aside0.mk (Aid.bthen HB1.out hB2)
    clear HS1 HB1 hB2
    go_wp2_with fail
    refine (alive _).mono ?_; rintro e w5 ⟨rfl, hB5⟩
    have HB5 := Aside0.mk (Aid.bthen HB2.out hB5)
    clear hB5 HB2
    go_wp2_with fail
    go_ret
    exact ⟨rfl, HB5.out⟩
theorem SlotsCut.yes (A : Option Addr) (c : Nat) (l : List Int) (A1 : Option Addr) (c1 : Nat) (x : List Int) (a : Int) (w : World) (hr : Kd.C (Kd.int .u8) w A l.length l) (hc : l.length ≤ c) (h : good l) (ho : Crc.okb l = true)
    (hr1 : Kd.C (Kd.int .u8) w A1 x.length x) (hc1 : x.length ≤ c1) (hox : Crc.okb x = true)
    (hx : x.length ≤ room (l.length / 16)) (h5 : l.length ≤ 5000) (ha1 : 1 ≤ a) (ha2 : a < ((2 + (x.length + 15) / 16 : Nat) : Int)) :
    Calls Try.prog 6 #[.slice A l.length c, .slice A1 x.length c1, .int .i64 a] w fun e w' => e = .returned (.bool true) ∧ Below w.heap.size w w' := by
  have HM := Aside0.mk (Made.some A c l w hr hc h ho)
  obtain ⟨n, hn1, hn2, hn3, hn4⟩ := good_n h
  obtain ⟨ad, rfl⟩ := c_some hr (by omega)
  have HC := Aside0.mk hr; have HC1 := Aside0.mk hr1
  have HF := Aside0.mk (fun W h => FewNil (some ad) c l W h hc true (decide_eq_true h5).symm)
  have HW := Aside0.mk (fun W h hm => RefWrites A1 c1 x W h hc1 hm)
  rw [hn4] at HM hx
  have h2048 : room n ≤ 2048 := by unfold room; omega
  obtain ⟨k, rfl⟩ : ∃ k : Nat, a = (k : Int) := ⟨a.toNat, by omega⟩
  obtain ⟨mw, hmw⟩ : ∃ mw, mw = 2 + (x.length + 15) / 16 := ⟨_, rfl⟩
  obtain ⟨h, hh⟩ : ∃ h, h = n / 2 := ⟨_, rfl⟩
  obtain ⟨tl, htl⟩ : ∃ tl, tl = (part l (from_ n 9 + n / 2 - 1)).take 8 := ⟨_, rfl⟩
  have htl2 : tl = (l.take (32 * h - 8)).drop (32 * h - 16) := by
    rw [htl]; unfold part
    have e : from_ n 9 = n / 2 := by unfold from_; omega
    rw [e, show (n / 2 + n / 2 - 1) * 16 = 32 * h - 16 by omega, List.take_take, List.drop_take, show 32 * h - 8 - (32 * h - 16) = min 8 16 by omega]
  have C8 : ∀ W, Kd.C (Kd.int .u8) W (some ad) l.length l → Kd.C (Kd.int .u8) W (some (ad.add (32 * h - 16))) tl.length tl := fun W hW => by
    rw [htl2]; exact C_cut _ _ hW (by omega) (by omega)
  have L8 : tl.length = 8 := by rw [htl2, List.length_drop, List.length_take]; omega
  have O8 : Crc.okb tl = true := by rw [htl2]; exact Crc.okb_drop _ _ (Crc.okb_take _ _ ho)
  obtain ⟨T, hT⟩ : ∃ T, T = (save n (St.cutAt ⟨l, 0, false, 0⟩ (k : Int)) 9 x).2 := ⟨_, rfl⟩
  have hS := save_cut (s := St.cutAt ⟨l, 0, false, 0⟩ (k : Int)) (a := k) (n := n) (num := 9) (data := x) (by decide) hn3 hx rfl (by show max 0 (k : Int) = _; omega) (by omega)
  have hE : (save n (St.cutAt ⟨l, 0, false, 0⟩ (k : Int)) 9 x).1 = 170 := by rw [hS]
  have hTs : Crc.getn 8 tl ≠ 9 → slotOf n T.db 1 = (0, [], false) := fun hg => by
    rw [hT, hS]
    exact slot_torn (num := 9) (db := l) hn1 hn3 (by omega) (by rw [many_frame]; omega) hx (by decide) (by rw [← htl]; exact hg)
  have hok : (St.cutAt ⟨l, 0, false, 0⟩ (k : Int)).ok 900000 := by unfold St.cutAt St.ok; refine ⟨by show _ ≤ (0 : Int); omega, by show (0 : Int) ≤ _; omega, by show _ ≤ max 0 (k : Int); omega, by show max 0 (k : Int) ≤ _; omega⟩
  obtain ⟨gv, hgv⟩ : ∃ gv : Int, gv = ((Crc.getn 8 tl : Nat) : Int) := ⟨_, rfl⟩
  have HGT : Aside0 (∀ W, Kd.C (Kd.int .u8) W (some ad) l.length l → Calls Try.prog 28 #[.slice (some (ad.add (32 * h - 16))) 8 (c - (32 * h - 16))] W fun e w' => e = .returned (.int .u64 gv) ∧ Drawn0 W w') :=
    ⟨fun W hW => by rw [hgv]; exact ref_Get.n _ 8 _ tl W L8 (C8 W hW) (by omega) O8⟩
  have hTg : gv ≠ 9 → slotOf n T.db 1 = (0, [], false) := fun hg => hTs (fun e => hg (by rw [hgv, e]; rfl))
  have HTg := Aside0.mk hTg; have HE := Aside0.mk hE; have HT := Aside0.mk hT; have HOK := Aside0.mk hok
  obtain ⟨lo, hlo⟩ : ∃ lo : Nat, lo = 32 * h - 16 := ⟨_, rfl⟩
  obtain ⟨hi, hhi⟩ : ∃ hi : Nat, hi = 32 * h - 8 := ⟨_, rfl⟩
  have RS := fun W => cut_any ad l.length c lo hi (lo : Int) (hi : Int) rfl rfl (by omega) (by omega) W
  rw [show hi - lo = 8 by omega] at RS
  rw [← hlo] at HGT
  obtain ⟨q1, q1', q2, q3, q4, q5⟩ := cutq hn1 hn2 hn3 hh hlo hhi
  have hx' : decide (room n < x.length) = false := decide_eq_false (by omega)
  have HX := Aside0.mk (show x.length ≤ 100000 by omega)
  have ha' : ¬ (k : Int) < 1 := by omega
  have hb' : ¬ (mw : Int) ≤ (k : Int) := by omega
  rw [← hmw] at HW
  have HG := Aside0.mk (show x.length ≤ c1 ∧ Crc.okb x = true from ⟨hc1, hox⟩)
  clear hr hc ho hr1 hc1 hox hx h5 ha1 ha2 hn1 hn2 hn3 hn4 h2048 hmw hh htl htl2 C8 L8 O8 hT hS hE hTs hok hgv hTg hlo hhi
  go_enter Try.func6, Try.ntmps6
  go_wp2_with fail
  refine HM.out.mono ?_; rintro e w1 ⟨s, g, b, rfl, hS, h1, h2, h3, hB1⟩
  have HB1 := Aside0.mk hB1; have HS1 := Aside0.mk hS; have HGB := Aside0.mk (show w.heap.size ≤ g ∧ w.heap.size ≤ b from ⟨h2, h3⟩)
  clear HM hB1 hS h1 h2 h3
  go_wp2_with fail
  refine (Room HS1.out).mono ?_; rintro e w2 ⟨rfl, hd2⟩; have hB2 := hd2.below; clear hd2
  have HB2 := Aside0.mk (Aid.bthen HB1.out hB2); have HS2 := Aside0.mk (HS1.out.below hB2)
  clear HS1 HB1 hB2
  go_wp2_with fail
  refine (HF.out _ (Kd.C_below HC.out HB2.out)).mono ?_; rintro e w4 ⟨rfl, hB4⟩
  have HB4 := Aside0.mk (Aid.bthen HB2.out hB4); have HS4 := Aside0.mk (HS2.out.below hB4)
  clear HB2 hB4 HS2
  go_wp2_with fail
  refine (HW.out _ (Kd.C_below HC1.out HB4.out) HX.out).mono ?_; rintro e w5 ⟨rfl, hd5⟩; have hB5 := hd5.below; clear hd5
  have HB5 := Aside0.mk (Aid.bthen HB4.out hB5); have HS5 := Aside0.mk (HS4.out.below hB5)
  clear HB4 HS4 hB5
  go_wp2_with fail
  refine (HGT.out _ (Kd.C_below HC.out HB5.out)).mono ?_; rintro e w6 ⟨rfl, hd6⟩; have hB6 := hd6.below; clear hd6
  have HB6 := Aside0.mk (Aid.bthen HB5.out hB6); have HS6 := Aside0.mk (HS5.out.below hB6)
  clear HB5 HS5 HGT HF HW RS hB6
  by_cases h9 : gv = 9
  · have h9' : (gv == 9) = true := by simp [h9]
    clear h9 HTg
    go_wp2_with fail
    refine (alive _).mono ?_; rintro e w7 ⟨rfl, hB7⟩
    have HB7 := Aside0.mk (Aid.bthen HB6.out hB7)
    clear hB7 HB6
    go_wp2_with fail
    go_ret
    exact ⟨rfl, HB7.out⟩
  · have h9' : (gv == 9) = false := by simp [h9]
    have HTT := Aside0.mk (HTg.out h9)
    clear h9 HTg
    go_wp2_with fail
    refine (Cut HS6.out.at_ (k : Int)).mono ?_; rintro e w7 ⟨rfl, hA7, hO7⟩
    have HS7 : Aside0 (StAt w7 s g b n (St.cutAt ⟨l, 0, false, 0⟩ (k : Int))) := ⟨HS6.out.only hO7 hA7 HS6.out.ob⟩
    have HB7 := Aside0.mk (HB6.out.trans (hO7.low _ HGB.out.1 HGB.out.2 HB6.out.size))
    clear hA7 hO7 HS6 HB6
    go_wp2_with fail
    refine (SaveL 9 9 rfl _ c1 x rfl A1 HS7.out (by decide) (Kd.C_below HC1.out HB7.out) HG.out.1 HG.out.2 HOK.out).mono ?_; rintro e w8 ⟨rfl, hS8, hO8⟩
    rw [← HT.out] at hS8
    rw [HE.out]
    have HS8 := Aside0.mk hS8
    have HB8 := Aside0.mk (HB7.out.trans (hO8.low _ HGB.out.1 HGB.out.2 HB7.out.size))
    clear hS8 hO8 HB7 HS7 HT HE
    go_wp2_with fail
    refine (Slot HS8.out 1).mono ?_; intro e w9 h9
    rw [HTT.out] at h9
    obtain ⟨A9, c9, rfl, hc9, hC9, hB9⟩ := told_r h9
    have HB9 := Aside0.mk (Aid.bthen HB8.out hB9)
    clear h9 hC9 hB9 HS8 HB8
    go_wp2_with fail
    refine (alive _).mono ?_; rintro e w10 ⟨rfl, hB10⟩
    have HB10 := Aside0.mk (Aid.bthen HB9.out hB10)
    clear hB10 HB9
    go_wp2_with fail
    go_ret
    exact ⟨rfl, HB10.out⟩
theorem SlotsCut (A : Option Addr) (c : Nat) (l : List Int) (A1 : Option Addr) (c1 : Nat) (x : List Int) (a : Int) (w : World) (hr : Kd.C (Kd.int .u8) w A l.length l) (hc : l.length ≤ c) (ho : Crc.okb l = true)
    (hr1 : Kd.C (Kd.int .u8) w A1 x.length x) (hc1 : x.length ≤ c1) (hox : Crc.okb x = true) :
    Calls Try.prog 6 #[.slice A l.length c, .slice A1 x.length c1, .int .i64 a] w fun e w' => e = .returned (.bool true) ∧ Below w.heap.size w w' := by
  by_cases h : good l
  · by_cases hq : x.length ≤ room (l.length / 16) ∧ l.length ≤ 5000 ∧ 1 ≤ a ∧ a < ((2 + (x.length + 15) / 16 : Nat) : Int)
    · exact SlotsCut.yes A c l A1 c1 x a w hr hc h ho hr1 hc1 hox hq.1 hq.2.1 hq.2.2.1 hq.2.2.2
    · exact SlotsCut.many A c l A1 c1 x a w hr hc h ho hr1 hc1 hq
  · exact SlotsCut.no A c l A1 c1 x a w hr hc h
end Slots
end Disk
end Go.Proofs.Ytbjjpckldjjcgaa
