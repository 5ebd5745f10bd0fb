/- The slots: the reference's Slot and Last. -/
import Derived.Test.YtbjjpckldjjcgaaS1
import Derived.Lib.SlBytesConst
namespace Go.Proofs.Ytbjjpckldjjcgaa
open Go.RowKit Go.Proofs.YtbjjpckldjjcgaaW.PrintWords Go.Proofs.YtbjjpckldjjcgaaW.PrintLast Go.Proofs.YtbjjpckldjjcgaaW.PrintMore Go.Proofs.Ytbjjpckldjjcgaa.PK
set_option linter.unusedVariables false
set_option linter.unusedSimpArgs false
set_option maxHeartbeats 4000000
set_option maxRecDepth 100000
attribute [local go_sem] max2_int min2_int max_two min_two
namespace Disk
namespace Slots
/-- What the reference's Slot tells: a row that reads so. -/
def RTold (w : World) (r : Int × List Int × Bool) (e : Ending) (w' : World) : Prop :=
  ∃ (A : Option Addr) (c : Nat), e = .returned (.tuple #[.int .u64 r.1, .slice A r.2.1.length c, .bool r.2.2]) ∧ r.2.1.length ≤ c ∧ Kd.C (Kd.int .u8) w' A r.2.1.length r.2.1 ∧ Below w.heap.size w w'
theorem RefHalf (A : Option Addr) (c n : Nat) (l : List Int) (x y : Int) (w : World) (hr : Kd.C (Kd.int .u8) w A l.length l) (hc : l.length ≤ c) (hl : l.length = 16 * n) (hn : n ≤ 1024) :
    Calls Try.prog 42 #[.agg #[.slice A l.length c, .int .i64 x, .int .i64 y]] w fun e w' => e = .returned (.int .i64 ((n / 2 : Nat) : Int)) ∧ Below w.heap.size w w' := by
  refine redressref18_half.calls A c l x y _ w hr hc ?_
  unfold redressref18_half.f
  have e1 : wrap64 ((l.length : Int) / 16) = (n : Int) := by unfold wrap64; omega
  rw [e1, Int.tdiv_eq_ediv_of_nonneg (by omega)]
  congr 1
  unfold wrap64
  omega
theorem RefSlot.no (A : Option Addr) (c n : Nat) (l : List Int) (x y : Int) (w : World) (k : Int) (hk : ¬ (0 ≤ k ∧ k < 2)) :
    Calls Try.prog 43 #[.agg #[.slice A l.length c, .int .i64 x, .int .i64 y], .int .i64 k] w (RTold w (slotOf n l k)) := by
  have e : slotOf n l k = (0, [], false) := by unfold slotOf; rw [if_neg hk]
  rw [e]
  clear e
  by_cases h0 : k < 0
  · go_enter Try.func43, Try.ntmps43
    go_wp2_with fail
    go_ret3
    exact ⟨none, 0, rfl, Nat.le_refl _, Kd.C_nil _ _, (Below.refl _ _).alloc (Nat.le_refl _) _⟩
  · have h2 : (1 : Int) < k := by omega
    have c0 : decide (k < 0) = false := decide_eq_false h0
    have h3 : 0 ≤ k := by omega
    clear hk
    go_enter Try.func43, Try.ntmps43
    go_wp2_with fail
    all_goals first
      | (go_ret3; exact ⟨none, 0, rfl, Nat.le_refl _, Kd.C_nil _ _, (Below.refl _ _).alloc (Nat.le_refl _) _⟩)
      | (exfalso; omega)
theorem cut_head (ad : Addr) (m c hi : Nat) (U : Int) (hU : U = (hi : Int)) (h2 : hi ≤ c) (W : World) :
    (Instr.sliceAt 32 (.slice (some ad) m c) none (some (.int .i64 U)) none).run Try.prog W = .ok (.slice (some ad) hi c) W := by
  subst hU
  have e2 : ¬ ((c : Int) < (hi : Int)) := by omega
  have e5 : (0 : Int) ≤ (hi : Int) := by omega
  go_simp
  all_goals first | done | (intro h; omega)
theorem cut_run (l : List Int) (a m h lo up : Nat) (hh : h = 16 * m) (hm : 1 ≤ m) (hlo : lo = a * 16) (hup : up = lo + h) : ((l.take up).drop lo).take (h - 16) = run l a (m - 1) := by
  unfold run
  rw [List.drop_take, List.take_take, ← hlo]
  congr 1; omega
theorem cut_tail (l : List Int) (a m h lo up : Nat) (hh : h = 16 * m) (hm : 1 ≤ m) (hlo : lo = a * 16) (hup : up = lo + h) : (((l.take up).drop lo).take (h - 8)).drop (h - 16) = (part l (a + m - 1)).take 8 := by
  unfold part
  simp only [List.drop_take, List.take_take, List.drop_drop]
  congr 1
  · omega
  · congr 1; omega
theorem RefSlot.yes (ad : Addr) (c n : Nat) (l : List Int) (x y : Int) (w : World) (hr : Kd.C (Kd.int .u8) w (some ad) l.length l) (hc : l.length ≤ c) (hl : l.length = 16 * n) (hn : n ≤ 1024) (h3 : 3 ≤ n / 2) (ob : Crc.okb l = true) (k : Nat) (hk : k < 2) :
    Calls Try.prog 43 #[.agg #[.slice (some ad) l.length c, .int .i64 x, .int .i64 y], .int .i64 (k : Int)] w (RTold w (slotOf n l (k : Int))) := by
  obtain ⟨m, hm⟩ : ∃ m, m = n / 2 := ⟨_, rfl⟩
  have hm3 : 3 ≤ m := by omega
  have hm4 : m ≤ 512 := by omega
  have HC := Aside0.mk hr
  have HH : Aside0 (∀ W, Below w.heap.size w W → Calls Try.prog 42 #[.agg #[.slice (some ad) l.length c, .int .i64 x, .int .i64 y]] W fun e w' => e = .returned (.int .i64 (m : Int)) ∧ Below W.heap.size W w') := ⟨fun W hW => by rw [hm]; exact RefHalf (some ad) c n l x y W (Kd.C_below hr hW) hc hl hn⟩
  have p0 : ¬ ((k : Int) < 0) := by omega
  have p1 : ¬ ((1 : Int) < (k : Int)) := by omega
  have HM := Aside0.mk (show m = n / 2 ∧ 3 ≤ m ∧ m ≤ 512 ∧ n ≤ 1024 ∧ l.length = 16 * n by omega)
  clear hr hm hl h3 hm3 hn
  go_enter Try.func43, Try.ntmps43
  go_wp2_with fail
  refine (HH.out _ ((Below.refl _ _).alloc (Nat.le_refl _) _)).mono ?_; rintro e w1 ⟨rfl, hB1⟩
  have hx : w1.heap[w.heap.size]? = some (.cells #[.slice (some ad) l.length c, .int .i64 x, .int .i64 y] 44 (0, 0)) := (hB1.block _ (blk_lt (heap_alloc_last w _))).trans (heap_alloc_last w _)
  have hc0 : w1.cell? ⟨w.heap.size, 0, none⟩ = some (.slice (some ad) l.length c) := by rw [cell_of_row _ _ _ _ _ _ hx]; rfl
  have HB1 : Aside0 (Below w.heap.size w w1) := ⟨Aid.bthen ((Below.refl w.heap.size w).alloc (Nat.le_refl _) _) hB1⟩
  clear hB1
  obtain ⟨a, ha⟩ : ∃ a, a = k * m := ⟨_, rfl⟩
  obtain ⟨h, hh⟩ : ∃ h, h = 16 * m := ⟨_, rfl⟩
  obtain ⟨lo, hlo⟩ : ∃ lo, lo = a * 16 := ⟨_, rfl⟩
  obtain ⟨up, hup⟩ : ∃ up, up = lo + h := ⟨_, rfl⟩
  have ham : a + m ≤ n := by
    have := HM.out
    have : k = 0 ∨ k = 1 := by omega
    rcases this with rfl | rfl <;> omega
  have e1 : (16 : Int) * (m : Int) = (h : Int) := by omega
  have e2 : wrap64 ((k : Int) * (h : Int)) = (lo : Int) := by
    have := HM.out
    rw [hlo, ha, hh]
    have : k = 0 ∨ k = 1 := by omega
    rcases this with rfl | rfl <;> unfold wrap64 <;> omega
  have e3 : wrap64 ((lo : Int) + (h : Int)) = (up : Int) := by have := HM.out; unfold wrap64; omega
  have HN := Aside0.mk (show a = k * m ∧ h = 16 * m ∧ lo = a * 16 ∧ up = lo + h ∧ a + m ≤ n from ⟨ha, hh, hlo, hup, ham⟩)
  have RS1 := fun W => cut_any ad l.length c lo up (lo : Int) (up : Int) rfl rfl (by have := HM.out; omega) (by have := HM.out; omega) W
  have eh : up - lo = h := by omega
  rw [eh] at RS1
  have RS2 := fun W => cut_head (ad.add lo) h (c - lo) (h - 16) ((h : Int) - 16) (by have := HM.out; omega) (by have := HM.out; omega) W
  clear ha hh hlo hup ham eh hx
  go_wp2_with fail
  have HL0 := HM.out
  obtain ⟨hn1, hn2, hn3, hn4, hn5⟩ := HN.out
  have CB : Kd.C (Kd.int .u8) w1 (some (ad.add lo)) ((l.take up).drop lo).length ((l.take up).drop lo) := C_cut lo up (Kd.C_below HC.out HB1.out) (by omega) (by omega)
  have LB : ((l.take up).drop lo).length = h := by rw [List.length_drop, List.length_take]; omega
  have OB : Crc.okb ((l.take up).drop lo) = true := Crc.okb_drop _ _ (Crc.okb_take _ _ ob)
  have HCB := Aside0.mk CB
  have C1 := Kd.C_take (m := h - 16) CB (by omega)
  rw [cut_run l a m h lo up hn2 (by omega) hn3 hn4] at C1
  have LX : (run l a (m - 1)).length = h - 16 := by rw [run_len (n := n) (by omega) (by omega)]; omega
  have OX : Crc.okb (run l a (m - 1)) = true := run_okb ob _ _
  obtain ⟨xs, hxs⟩ : ∃ xs, xs = run l a (m - 1) := ⟨_, rfl⟩
  rw [← hxs] at C1 LX OX
  have C2 : Kd.C (Kd.int .u8) w1 (some (ad.add lo)) xs.length xs := by
    first | (rw [LX]; rw [show min (h - 16) ((l.take up).drop lo).length = h - 16 by omega] at C1; exact C1) | (rw [LX]; exact C1) | exact C1
  have O1 := ref_Open.any (some (ad.add lo)) (c - lo) xs w1 C2 (by omega) OX (by omega)
  rw [LX] at O1
  have HO1 := Aside0.mk O1
  have CT := C_cut (h - 16) (h - 8) CB (by omega) (by omega)
  rw [cut_tail l a m h lo up hn2 (by omega) hn3 hn4] at CT
  have LT : (part l (a + m - 1)).length = 16 := part_len HL0.2.2.2.2 (by omega)
  have OT : Crc.okb ((part l (a + m - 1)).take 8) = true := by unfold part; exact Crc.okb_take _ _ (Crc.okb_take _ _ (Crc.okb_drop _ _ ob))
  obtain ⟨tl, htl⟩ : ∃ tl, tl = (part l (a + m - 1)).take 8 := ⟨_, rfl⟩
  have L8 : tl.length = 8 := by rw [htl, List.length_take, LT]; rfl
  rw [← htl] at CT OT
  have HCT := Aside0.mk CT
  have HOT := Aside0.mk OT
  have HL8 := Aside0.mk L8
  obtain ⟨r1, hr1⟩ : ∃ r1, r1 = (openl xs).1 := ⟨_, rfl⟩
  obtain ⟨r2, hr2⟩ : ∃ r2, r2 = (openl xs).2.1 := ⟨_, rfl⟩
  obtain ⟨r3, hr3⟩ : ∃ r3, r3 = (openl xs).2.2 := ⟨_, rfl⟩
  have ES : Aside0 (slotOf n l (k : Int) = if r3 = true ∧ r1 ≠ 0 ∧ ((Crc.getn 8 tl : Nat) : Int) = r1 then (r1, r2, r3) else (0, [], false)) := ⟨by
    unfold slotOf
    rw [if_pos (by omega), Int.toNat_natCast, ← HL0.1, ← hn1, ← hxs, ← htl, hr1, hr2, hr3]
    try rfl⟩
  rw [← hr1, ← hr2, ← hr3] at HO1
  have HHb := Aside0.mk (show 48 ≤ h ∧ h ≤ c - lo by omega)
  have RS3 := fun W => cut_any (ad.add lo) h (c - lo) (h - 16) (h - 8) ((h : Int) - 16) ((h : Int) - 8) (by omega) (by omega) (by omega) (by omega) W
  rw [show h - 8 - (h - 16) = 8 by omega] at RS3
  clear CT OT L8 hr1 hr2 hr3 htl LT O1 C2 C1 OX LX hxs OB LB CB hn1 hn2 hn3 hn4 hn5 HL0
  refine HO1.out.mono ?_; rintro e w2 ⟨A2, c2, rfl, hc2, hC2, hB2⟩
  have HC2 := Aside0.mk hC2
  have HB2 := Aside0.mk (Aid.bthen HB1.out hB2)
  have HCT2 := Aside0.mk (Kd.C_below HCT.out hB2)
  have HGT : Aside0 (Calls Try.prog 28 #[.slice (some ((ad.add lo).add (h - 16))) 8 (c - lo - (h - 16))] w2 fun e w' => e = .returned (.int .u64 ((Crc.getn 8 tl : Nat) : Int)) ∧ Drawn0 w2 w') :=
    ⟨ref_Get.n _ 8 _ tl w2 HL8.out HCT2.out (by have := HHb.out; omega) HOT.out⟩
  clear hC2 hB2 HCT HCT2 HO1
  by_cases c3 : r3 = true
  · by_cases c1 : r1 = 0
    · have E0 := ES.out
      rw [if_neg (fun h => h.2.1 c1)] at E0
      have E1 := Aside0.mk E0
      clear ES HGT E0
      subst c3; subst c1
      go_wp2_with fail
      go_ret3
      refine (show RTold w (slotOf n l (k : Int)) _ _ from ?_)
      rw [E1.out]
      exact ⟨none, 0, rfl, Nat.le_refl _, Kd.C_nil _ _, HB2.out⟩
    · obtain ⟨gv, hgv⟩ : ∃ gv : Int, gv = ((Crc.getn 8 tl : Nat) : Int) := ⟨_, rfl⟩
      rw [← hgv] at ES HGT
      clear hgv
      by_cases cg : gv = r1
      · have E0 := ES.out
        rw [if_pos ⟨c3, c1, cg⟩] at E0
        have E1 := Aside0.mk E0
        clear ES E0
        subst c3; subst cg
        go_wp2_with fail
        refine HGT.out.mono ?_; rintro e w6 ⟨rfl, ⟨q6, rfl⟩⟩
        go_wp2_with fail
        go_ret3
        refine (show RTold w (slotOf n l (k : Int)) _ _ from ?_)
        rw [E1.out]
        exact ⟨A2, c2, rfl, hc2, Kd.C_drewN HC2.out _, Aid.bdrew HB2.out _⟩
      · have E0 := ES.out
        rw [if_neg (fun h => cg h.2.2)] at E0
        have E1 := Aside0.mk E0
        clear ES E0
        subst c3
        go_wp2_with fail
        refine HGT.out.mono ?_; rintro e w6 ⟨rfl, ⟨q6, rfl⟩⟩
        go_wp2_with fail
        all_goals first
          | (go_ret3; refine (show RTold w (slotOf n l (k : Int)) _ _ from ?_); rw [E1.out]; exact ⟨none, 0, rfl, Nat.le_refl _, Kd.C_nil _ _, Aid.bdrew HB2.out _⟩)
          | (exfalso; omega)
          | (exfalso; simp_all; done)
  · have c3 : r3 = false := by simpa using c3
    have E0 := ES.out
    rw [if_neg (fun h => by rw [c3] at h; exact absurd h.1 (by decide))] at E0
    have E1 := Aside0.mk E0
    clear ES HGT E0
    subst c3
    go_wp2_with fail
    go_ret3
    refine (show RTold w (slotOf n l (k : Int)) _ _ from ?_)
    rw [E1.out]
    exact ⟨none, 0, rfl, Nat.le_refl _, Kd.C_nil _ _, HB2.out⟩
theorem RefSlot (ad : Addr) (c n : Nat) (l : List Int) (x y : Int) (w : World) (hr : Kd.C (Kd.int .u8) w (some ad) l.length l) (hc : l.length ≤ c) (hl : l.length = 16 * n) (hn : n ≤ 1024) (h3 : 3 ≤ n / 2) (ob : Crc.okb l = true) (k : Int) :
    Calls Try.prog 43 #[.agg #[.slice (some ad) l.length c, .int .i64 x, .int .i64 y], .int .i64 k] w (RTold w (slotOf n l k)) := by
  by_cases hk : 0 ≤ k ∧ k < 2
  · obtain ⟨q, rfl⟩ : ∃ q : Nat, k = (q : Int) := ⟨k.toNat, by omega⟩
    exact RefSlot.yes ad c n l x y w hr hc hl hn h3 ob q (by omega)
  · exact RefSlot.no (some ad) c n l x y w k hk
theorem slot_pos {n : Nat} {db : List Int} {k : Int} (h : (slotOf n db k).2.2 = true) : 0 < (slotOf n db k).1 := by
  unfold slotOf at *
  split at h
  · split at h
    · rename_i h1 h2
      rw [if_pos h1, if_pos h2]
      have h4 := (openl_head _ h2.1).1
      have h5 := h2.2.1
      omega
    · cases h
  · cases h
theorem lastOf_ref (n : Nat) (db : List Int) : lastOf n db = if (slotOf n db 1).2.2 = true ∧ ((slotOf n db 0).2.2 = false ∨ (slotOf n db 0).1 < (slotOf n db 1).1) then ((slotOf n db 1).1, (slotOf n db 1).2.1, 0) else if (slotOf n db 0).2.2 = true then ((slotOf n db 0).1, (slotOf n db 0).2.1, 0) else (0, [], 180) := by
  have p0 := @slot_pos n db 0
  have p1 := @slot_pos n db 1
  have e : best n db 2 = later (later (0, []) (slotOf n db 0)) (slotOf n db 1) := rfl
  unfold lastOf
  rw [e]
  clear e
  generalize slotOf n db 0 = s0 at *
  generalize slotOf n db 1 = s1 at *
  obtain ⟨a0, b0, c0⟩ := s0
  obtain ⟨a1, b1, c1⟩ := s1
  unfold later
  cases c0 <;> cases c1 <;> simp at p0 p1 ⊢
  · rw [if_pos p1, if_neg (by show ¬ a1 = 0; omega)]
  · rw [if_pos p0, if_neg (by show ¬ a0 = 0; omega)]
  · rw [if_pos p0]
    by_cases h : a0 < a1
    · simp [h]; omega
    · simp [h]; omega
def RToldLast (w : World) (r : Int × List Int × Int) (e : Ending) (w' : World) : Prop :=
  ∃ (A : Option Addr) (c : Nat), e = .returned (.tuple #[.int .u64 r.1, .slice A r.2.1.length c, .int .i64 r.2.2]) ∧ r.2.1.length ≤ c ∧ Kd.C (Kd.int .u8) w' A r.2.1.length r.2.1 ∧ Below w.heap.size w w'
theorem RefLast (ad : Addr) (c n : Nat) (l : List Int) (x y : Int) (w : World) (hr : Kd.C (Kd.int .u8) w (some ad) l.length l) (hc : l.length ≤ c) (hl : l.length = 16 * n) (hn : n ≤ 1024) (h3 : 3 ≤ n / 2) (ob : Crc.okb l = true) :
    Calls Try.prog 44 #[.agg #[.slice (some ad) l.length c, .int .i64 x, .int .i64 y]] w (RToldLast w (lastOf n l)) := by
  have HS : Aside0 (∀ (W : World) (k : Int), Below w.heap.size w W → Calls Try.prog 43 #[.agg #[.slice (some ad) l.length c, .int .i64 x, .int .i64 y], .int .i64 k] W (RTold W (slotOf n l k))) := ⟨fun W k hW => RefSlot ad c n l x y W (Kd.C_below hr hW) hc hl hn h3 ob k⟩
  have EL := Aside0.mk (lastOf_ref n l)
  obtain ⟨s0, hs0⟩ : ∃ s0, s0 = slotOf n l 0 := ⟨_, rfl⟩
  obtain ⟨s1, hs1⟩ : ∃ s1, s1 = slotOf n l 1 := ⟨_, rfl⟩
  have H0 : Aside0 (∀ (W : World), Below w.heap.size w W → Calls Try.prog 43 #[.agg #[.slice (some ad) l.length c, .int .i64 x, .int .i64 y], .int .i64 0] W (RTold W s0)) := ⟨fun W hW => by rw [hs0]; exact HS.out W 0 hW⟩
  have H1 : Aside0 (∀ (W : World), Below w.heap.size w W → Calls Try.prog 43 #[.agg #[.slice (some ad) l.length c, .int .i64 x, .int .i64 y], .int .i64 1] W (RTold W s1)) := ⟨fun W hW => by rw [hs1]; exact HS.out W 1 hW⟩
  rw [← hs0, ← hs1] at EL
  obtain ⟨L, hL⟩ : ∃ L, L = lastOf n l := ⟨_, rfl⟩
  rw [← hL] at EL ⊢
  clear hs0 hs1 HS hr hc hl hn h3 ob hL
  obtain ⟨a0, b0, c0⟩ := s0
  obtain ⟨a1, b1, c1⟩ := s1
  go_enter Try.func44, Try.ntmps44
  go_wp2_with fail
  refine (H0.out _ ((Below.refl _ _).alloc (Nat.le_refl _) _)).mono ?_; rintro e w1 ⟨A1, d1, rfl, hd1, hC1, hB1⟩
  have hx : w1.heap[w.heap.size]? = some (.cells #[.slice (some ad) l.length c, .int .i64 x, .int .i64 y] 44 (0, 0)) := (hB1.block _ (blk_lt (heap_alloc_last w _))).trans (heap_alloc_last w _)
  have hc0 : w1.cell? ⟨w.heap.size, 0, none⟩ = some (.slice (some ad) l.length c) := by rw [cell_of_row _ _ _ _ _ _ hx]; rfl
  have hc1 : w1.cell? ⟨w.heap.size, 1, none⟩ = some (.int .i64 x) := by rw [cell_of_row _ _ _ _ _ _ hx]; rfl
  have hc2 : w1.cell? ⟨w.heap.size, 2, none⟩ = some (.int .i64 y) := by rw [cell_of_row _ _ _ _ _ _ hx]; rfl
  have HB1 : Aside0 (Below w.heap.size w w1) := ⟨Aid.bthen ((Below.refl w.heap.size w).alloc (Nat.le_refl _) _) hB1⟩
  have HC1 := Aside0.mk hC1
  clear hB1 hC1 hx
  go_wp2_with fail
  refine (H1.out _ HB1.out).mono ?_; rintro e w2 ⟨A2, d2, rfl, hd2, hC2, hB2⟩
  have HB2 := Aside0.mk (Aid.bthen HB1.out hB2)
  have HC1b := Aside0.mk (Kd.C_below HC1.out hB2)
  have HC2 := Aside0.mk hC2
  clear hC2 hB2 HC1 hc0 hc1 hc2
  have hd1 := Aside0.mk hd1
  have hd2 := Aside0.mk hd2
  by_cases q1 : c1 = true
  · by_cases q0 : c0 = true
    · by_cases ql : a0 < a1
      · have E0 := EL.out
        rw [if_pos ⟨q1, .inr ql⟩] at E0
        have E1 := Aside0.mk E0
        clear EL E0
        subst q1; subst q0
        go_wp2_with fail
        all_goals first
          | (go_ret3; refine (show RToldLast w L _ _ from ?_); rw [E1.out]; exact ⟨A2, d2, rfl, hd2.out, HC2.out, HB2.out⟩)
          | (exfalso; omega)
      · have E0 := EL.out
        rw [if_neg (fun h => h.2.elim (fun h => by rw [q0] at h; cases h) ql), if_pos q0] at E0
        have E1 := Aside0.mk E0
        clear EL E0
        subst q1; subst q0
        go_wp2_with fail
        all_goals first
          | (go_ret3; refine (show RToldLast w L _ _ from ?_); rw [E1.out]; exact ⟨A1, d1, rfl, hd1.out, HC1b.out, HB2.out⟩)
          | (exfalso; omega)
    · have q0 : c0 = false := by simpa using q0
      have E0 := EL.out
      rw [if_pos ⟨q1, .inl q0⟩] at E0
      have E1 := Aside0.mk E0
      clear EL E0
      subst q1; subst q0
      go_wp2_with fail
      all_goals first
        | (go_ret3; refine (show RToldLast w L _ _ from ?_); rw [E1.out]; exact ⟨A2, d2, rfl, hd2.out, HC2.out, HB2.out⟩)
        | (exfalso; omega)
  · have q1 : c1 = false := by simpa using q1
    by_cases q0 : c0 = true
    · have E0 := EL.out
      rw [if_neg (fun h => by rw [q1] at h; exact absurd h.1 (by decide)), if_pos q0] at E0
      have E1 := Aside0.mk E0
      clear EL E0
      subst q1; subst q0
      go_wp2_with fail
      go_ret3; refine (show RToldLast w L _ _ from ?_); rw [E1.out]; exact ⟨A1, d1, rfl, hd1.out, HC1b.out, HB2.out⟩
    · have E0 := EL.out
      rw [if_neg (fun h => by rw [q1] at h; exact absurd h.1 (by decide)), if_neg q0] at E0
      have q0 : c0 = false := by simpa using q0
      have E1 := Aside0.mk E0
      clear EL E0
      subst q1; subst q0
      go_wp2_with fail
      go_ret3; refine (show RToldLast w L _ _ from ?_); rw [E1.out]; exact ⟨none, 0, rfl, Nat.le_refl _, Kd.C_nil _ _, HB2.out⟩
end Slots
end Disk
end Go.Proofs.Ytbjjpckldjjcgaa
/- The slots: told. -/
namespace Go.Proofs.Ytbjjpckldjjcgaa
open Go.RowKit Go.Proofs.YtbjjpckldjjcgaaW.PrintWords Go.Proofs.YtbjjpckldjjcgaaW.PrintLast Go.Proofs.YtbjjpckldjjcgaaW.PrintMore Go.Proofs.Ytbjjpckldjjcgaa.PK
set_option linter.unusedVariables false
set_option linter.unusedSimpArgs false
set_option maxHeartbeats 4000000
set_option maxRecDepth 100000
namespace Disk
namespace Slots
theorem slot_len {n : Nat} {l : List Int} (hl : l.length = 16 * n) (hn : n ≤ 1024) (k : Int) : (slotOf n l k).2.1.length ≤ 100000 := by
  unfold slotOf
  split
  · split
    · unfold openl
      split
      · exact Nat.zero_le _
      · split
        · exact Nat.zero_le _
        · split
          · exact Nat.zero_le _
          · simp only [List.length_take, List.length_drop]
            have : (run l (k.toNat * (n / 2)) (n / 2 - 1)).length ≤ l.length := by unfold run; rw [List.length_take, List.length_drop]; omega
            omega
    · exact Nat.zero_le _
  · exact Nat.zero_le _
theorem last_len {n : Nat} {l : List Int} (hl : l.length = 16 * n) (hn : n ≤ 1024) : (lastOf n l).2.1.length ≤ 100000 := by
  rw [lastOf_ref]
  split
  · exact slot_len hl hn 1
  · split
    · exact slot_len hl hn 0
    · exact Nat.zero_le _
theorem LawTold {w : World} {s g b n : Nat} {t : St} (h : StAt w s g b n t) (ad : Addr) (c : Nat) (x y : Int) (hr : Kd.C (Kd.int .u8) w (some ad) t.db.length t.db) (hc : t.db.length ≤ c) :
    Calls Try.prog 24 #[.pointer (some ⟨s, 0, none⟩), .agg #[.slice (some ad) t.db.length c, .int .i64 x, .int .i64 y]] w fun e w' => e = .returned (.bool true) ∧ Below w.heap.size w w' := by
  have HP : Aside0 (∀ (W : World) (k : Int), Below w.heap.size w W → Calls Try.prog 27 #[.pointer (some ⟨s, 0, none⟩), .int .i64 k] W (Told W (slotOf n t.db k))) := ⟨fun W k hW => Slot (h.below hW) k⟩
  have HQ : Aside0 (∀ (W : World) (k : Int), Below w.heap.size w W → Calls Try.prog 43 #[.agg #[.slice (some ad) t.db.length c, .int .i64 x, .int .i64 y], .int .i64 k] W (RTold W (slotOf n t.db k))) := ⟨fun W k hW => RefSlot ad c n t.db x y W (Kd.C_below hr hW) hc h.len h.n2 h.h3 h.ob k⟩
  have HPL : Aside0 (∀ (W : World), Below w.heap.size w W → Calls Try.prog 17 #[.pointer (some ⟨s, 0, none⟩)] W (ToldLast W (lastOf n t.db))) := ⟨fun W hW => Last (h.below hW)⟩
  have HQL : Aside0 (∀ (W : World), Below w.heap.size w W → Calls Try.prog 44 #[.agg #[.slice (some ad) t.db.length c, .int .i64 x, .int .i64 y]] W (RToldLast W (lastOf n t.db))) := ⟨fun W hW => RefLast ad c n t.db x y W (Kd.C_below hr hW) hc h.len h.n2 h.h3 h.ob⟩
  have LS : Aside0 (∀ k, (slotOf n t.db k).2.1.length ≤ 100000) := ⟨fun k => slot_len h.len h.n2 k⟩
  have LL : Aside0 ((lastOf n t.db).2.1.length ≤ 100000) := ⟨last_len h.len h.n2⟩
  obtain ⟨S, hS⟩ : ∃ S : Int → Int × List Int × Bool, S = slotOf n t.db := ⟨_, rfl⟩
  obtain ⟨L, hL⟩ : ∃ L, L = lastOf n t.db := ⟨_, rfl⟩
  rw [← hS] at HP HQ LS
  rw [← hL] at HPL HQL LL
  clear hS hL hr hc h
  go_enter Try.func24, Try.ntmps24
  go_wp2_with fail
  have HX0 : Aside0 ((w.alloc (.cells #[.slice (some ad) t.db.length c, .int .i64 x, .int .i64 y] 44)).heap[w.heap.size]? = some (.cells #[.slice (some ad) t.db.length c, .int .i64 x, .int .i64 y] 44 (0, 0))) := ⟨heap_alloc_last w _⟩
  go_loopg [5] 6 (fun kq v5 w' => ∃ (j : Nat), v5 = .int .i64 ((j : Int) - 1) ∧ Aside0 (kq + j = 6 ∧ j ≤ 4) ∧ Aside0 (w'.heap[w.heap.size]? = some (.cells #[.slice (some ad) t.db.length c, .int .i64 x, .int .i64 y] 44 (0, 0))) ∧ Aside0 (Below w.heap.size w w'))
  case atStart => exact ⟨0, rfl, ⟨by omega, by omega⟩, HX0, ⟨(Below.refl _ _).alloc (Nat.le_refl _) _⟩⟩
  case round =>
    obtain ⟨j, rfl, HK, HX, HB⟩ := hrel
    cases gk with
    | zero => exact absurd HK.out (by omega)
    | succ k1 =>
      by_cases hj : j < 4
      · have cj : decide ((j : Int) - 1 < 3) = true := decide_eq_true (by omega)
        go_wp2_with fail
        refine (HP.out _ _ HB.out).mono ?_; rintro e w1 ⟨v1, rfl, hv1, hB1⟩
        obtain ⟨sv, hsv⟩ : ∃ sv, sv = S ((j : Int) - 1) := ⟨_, rfl⟩
        have HQ1 : Aside0 (∀ (W : World), Below w.heap.size w W → Calls Try.prog 43 #[.agg #[.slice (some ad) t.db.length c, .int .i64 x, .int .i64 y], .int .i64 ((j : Int) - 1)] W (RTold W sv)) := ⟨fun W hW => by rw [hsv]; exact HQ.out W _ hW⟩
        have LS1 : Aside0 (sv.2.1.length ≤ 100000) := ⟨by rw [hsv]; exact LS.out _⟩
        rw [← hsv] at hv1 ⊢
        clear hsv
        obtain ⟨a0, b0, c0⟩ := sv
        obtain ⟨A1, d1, rfl, hd1, hC1⟩ := Kd.R_reads hv1
        have hx1 := (hB1.block _ (blk_lt HX.out)).trans HX.out
        have HX1 := Aside0.mk hx1
        have hq0 : w1.cell? ⟨w.heap.size, 0, none⟩ = some (.slice (some ad) t.db.length c) := by rw [cell_of_row _ _ _ _ _ _ hx1]; rfl
        have hq1 : w1.cell? ⟨w.heap.size, 1, none⟩ = some (.int .i64 x) := by rw [cell_of_row _ _ _ _ _ _ hx1]; rfl
        have hq2 : w1.cell? ⟨w.heap.size, 2, none⟩ = some (.int .i64 y) := by rw [cell_of_row _ _ _ _ _ _ hx1]; rfl
        have HB1 := Aside0.mk (Aid.bthen HB.out hB1)
        have HC1 := Aside0.mk hC1
        have HD1 := Aside0.mk hd1
        clear hv1 hx1 hB1 hC1 hd1 HB HX
        go_wp2_with fail
        refine (HQ1.out _ HB1.out).mono ?_; rintro e w2 ⟨A2, d2, rfl, hd2, hC2, hB2⟩
        have HX2 := Aside0.mk ((hB2.block _ (blk_lt HX1.out)).trans HX1.out)
        have HB2 := Aside0.mk (Aid.bthen HB1.out hB2)
        have HS2 := Aside0.mk (SameRows A1 b0.length d1 A2 b0.length d2 b0 w2 rfl rfl (Kd.C_below HC1.out hB2) HD1.out hC2 hd2 LS1.out)
        clear hd2 hC2 hB2 HC1 HD1 HB1 HX1 hq0 hq1 hq2 HQ1
        have ej : wrap64 ((j : Int) - 1 + 1) = (j : Int) := by unfold wrap64; omega
        go_wp2_with fail
        refine HS2.out.mono ?_; rintro e w3 ⟨rfl, ⟨q3, rfl⟩⟩
        go_wp2_with fail
        go_roundg k1
        case measure => omega
        case rel => exact ⟨j + 1, by first | (simp; done) | (simp; omega) | (congr 1; omega), ⟨by have := HK.out; omega, by omega⟩, ⟨HX2.out⟩, ⟨Aid.bdrew HB2.out _⟩⟩
      · have cj : decide ((j : Int) - 1 < 3) = false := decide_eq_false (by omega)
        go_wp2_with fail
        refine (HPL.out _ HB.out).mono ?_; rintro e w1 ⟨v1, rfl, hv1, hB1⟩
        obtain ⟨a0, b0, c0⟩ := L
        obtain ⟨A1, d1, rfl, hd1, hC1⟩ := Kd.R_reads hv1
        have hx1 := (hB1.block _ (blk_lt HX.out)).trans HX.out
        have hq0 : w1.cell? ⟨w.heap.size, 0, none⟩ = some (.slice (some ad) t.db.length c) := by rw [cell_of_row _ _ _ _ _ _ hx1]; rfl
        have hq1 : w1.cell? ⟨w.heap.size, 1, none⟩ = some (.int .i64 x) := by rw [cell_of_row _ _ _ _ _ _ hx1]; rfl
        have hq2 : w1.cell? ⟨w.heap.size, 2, none⟩ = some (.int .i64 y) := by rw [cell_of_row _ _ _ _ _ _ hx1]; rfl
        have HB1 := Aside0.mk (Aid.bthen HB.out hB1)
        have HC1 := Aside0.mk hC1
        have HD1 := Aside0.mk hd1
        clear hv1 hx1 hB1 hC1 hd1 HB HX
        go_wp2_with fail
        refine (HQL.out _ HB1.out).mono ?_; rintro e w2 ⟨A2, d2, rfl, hd2, hC2, hB2⟩
        have HB2 := Aside0.mk (Aid.bthen HB1.out hB2)
        have HS2 := Aside0.mk (SameRows A1 b0.length d1 A2 b0.length d2 b0 w2 rfl rfl (Kd.C_below HC1.out hB2) HD1.out hC2 hd2 LL.out)
        clear hd2 hC2 hB2 HC1 HD1 HB1 hq0 hq1 hq2
        go_wp2_with fail
        refine HS2.out.mono ?_; rintro e w3 ⟨rfl, ⟨q3, rfl⟩⟩
        go_wp2_with fail
        go_ret
        exact ⟨rfl, Aid.bdrew HB2.out _⟩
end Slots
end Disk
end Go.Proofs.Ytbjjpckldjjcgaa
/- The slots: closed facts for alive. -/
namespace Go.Proofs.Ytbjjpckldjjcgaa
namespace Disk
namespace Slots
def z0 : St := ⟨List.replicate 128 0, 0, false, 0⟩
def z1 : St := (save 8 z0 1 [97, 98]).2
def z2 : St := (save 8 z1 2 [99]).2
def z3 : St := z2.cutAt 2
def z4 : St := (save 8 z3 3 [100, 100]).2
theorem z_last0 : lastOf 8 z0.db = (0, [], 180) := by decide +kernel
theorem z_s1 : (save 8 z0 1 [97, 98]).1 = 0 := by decide +kernel
theorem z_s2 : (save 8 z1 2 [99]).1 = 0 := by decide +kernel
theorem z_last2 : lastOf 8 z2.db = (2, [99], 0) := by decide +kernel
theorem z_s4 : (save 8 z3 3 [100, 100]).1 = 170 := by decide +kernel
theorem z_last4 : lastOf 8 z4.db = (2, [99], 0) := by decide +kernel
theorem z_slot4 : (slotOf 8 z4.db 1).2.2 = false := by decide +kernel
theorem z_ok1 : z1.many = 3 ∧ z1.cut = false ∧ z1.left = -3 := by decide +kernel
theorem z_ok2 : z2.many = 6 ∧ z2.cut = false ∧ z2.left = -6 := by decide +kernel
theorem z_ok4 : z4.many = 8 ∧ z4.cut = true ∧ z4.left = 0 := by decide +kernel
end Slots
end Disk
end Go.Proofs.Ytbjjpckldjjcgaa
/- The slots: alive. -/
namespace Go.Proofs.Ytbjjpckldjjcgaa
open Go.RowKit Go.Proofs.YtbjjpckldjjcgaaW.PrintWords Go.Proofs.YtbjjpckldjjcgaaW.PrintLast Go.Proofs.YtbjjpckldjjcgaaW.PrintMore Go.Proofs.Ytbjjpckldjjcgaa.PK
set_option linter.unusedVariables false
set_option linter.unusedSimpArgs false
set_option maxHeartbeats 4000000
set_option maxRecDepth 100000
namespace Disk
namespace Slots
theorem SaveL {w : World} {s g b n : Nat} {t : St} (x : Int) (num : Nat) (hx : x = (num : Int)) (m c : Nat) (data : List Int) (hm : m = data.length) (A : Option Addr) (h : StAt w s g b n t) (hnum : num < 18446744073709551616) (hr : Kd.C (Kd.int .u8) w A data.length data) (hc : m ≤ c) (hd : Crc.okb data = true) (hok : t.ok 900000) :
    Calls Try.prog 15 #[.pointer (some ⟨s, 0, none⟩), .int .u64 x, .slice A m c] w fun e w' => e = .returned (.int .i64 (save n t num data).1) ∧ StAt w' s g b n (save n t num data).2 ∧ Only g b w w' := by
  subst hx; subst hm
  exact Save h num hnum A c data hr hc hd hok
theorem z_save0 : save 8 z4 0 [] = (1, z4) := rfl
theorem z_save33 : save 8 z4 4 (List.replicate 33 0) = (181, z4) := rfl
theorem alive (w : World) : Calls Try.prog 10 #[] w fun e w' => e = .returned (.bool true) ∧ Below w.heap.size w w' := by
  have kc := fun (w : World) (C : Array Value) (n c : Nat) => Lib.run_convert_bytes_const (P := Try.prog) w 32 5 C n c Try.underlying32 Try.underlying5
  have HN := Aside0.mk (Disk.New.ok 8 w (by decide) (by decide))
  go_enter Try.func10, Try.ntmps10
  go_wp2_with fail
  refine HN.out.mono ?_; rintro e w1 ⟨g, b, rfl, hA, hg, hb, hB⟩
  have HA := Aside0.mk (show AtS w1 g b 8 z0 from hA)
  have HB := Aside0.mk hB
  have HG := Aside0.mk (show w.heap.size ≤ g ∧ w.heap.size ≤ b from ⟨hg, hb⟩)
  clear hA hB hg hb HN
  go_wp2_with fail
  refine (New.ok HA.out (by decide) (by decide +kernel)).mono ?_; rintro e w2 ⟨s, rfl, hs, hS, hB2⟩
  have HS := Aside0.mk hS
  have HB2 := Aside0.mk (Aid.bthen HB.out hB2)
  clear hs hS hB2 HB HA
  go_wp2_with fail
  refine (New.nil _).mono ?_; rintro e w3 ⟨rfl, ⟨m3, rfl⟩⟩
  have HS3 := Aside0.mk (HS.out.drewN m3)
  have HB3 := Aside0.mk (Aid.bdrew HB2.out m3)
  clear HS HB2
  go_wp2_with fail
  refine (Last HS3.out).mono ?_; rintro e w4 ⟨v4, rfl, hv4, hB4⟩
  rw [z_last0] at hv4 ⊢
  have HS4 := Aside0.mk (HS3.out.below hB4)
  have HB4 := Aside0.mk (Aid.bthen HB3.out hB4)
  have HS5 := Aside0.mk (HS4.out.below ((Below.refl _ _).alloc (Nat.le_refl _) (.cells #[.int .u8 97, .int .u8 98] 5 (2, 3))))
  clear HS3 HB3 hB4 hv4
  go_wp2_with fail
  refine (SaveL 1 1 rfl 2 2 [97, 98] rfl _ HS5.out (by decide) (Aid.C_new (enc := Value.int .u8) 0 _ [97, 98] _ 5 (2, 3) rfl (by decide)) (Nat.le_refl _) (by decide) (by unfold St.ok z0; decide)).mono ?_; rintro e w5 ⟨rfl, hS5, hO5⟩
  rw [z_s1]
  have HS6 : Aside0 (StAt w5 s g b 8 z1) := ⟨hS5⟩
  have HB6 : Aside0 (Below w.heap.size w w5) := ⟨(HB4.out.alloc HB4.out.size _).trans (hO5.low _ HG.out.1 HG.out.2 (Nat.le_trans HB4.out.size (by simp)))⟩
  clear HS4 HS5 HB4 hS5 hO5
  go_wp2_with fail
  have HS7 := Aside0.mk (HS6.out.below ((Below.refl _ _).alloc (Nat.le_refl _) (.cells #[.int .u8 99] 5 (1, 2))))
  refine (SaveL 2 2 rfl 1 1 [99] rfl _ HS7.out (by decide) (Aid.C_new (enc := Value.int .u8) 0 _ [99] _ 5 (1, 2) rfl (by decide)) (Nat.le_refl _) (by decide) (by unfold St.ok; rw [z_ok1.1, z_ok1.2.2]; decide)).mono ?_; rintro e w6 ⟨rfl, hS6, hO6⟩
  rw [z_s2]
  have HS8 : Aside0 (StAt w6 s g b 8 z2) := ⟨hS6⟩
  have HB8 : Aside0 (Below w.heap.size w w6) := ⟨(HB6.out.alloc HB6.out.size _).trans (hO6.low _ HG.out.1 HG.out.2 (Nat.le_trans HB6.out.size (by simp)))⟩
  clear HS6 HS7 HB6 hS6 hO6
  go_wp2_with fail
  refine (Last HS8.out).mono ?_; rintro e w7 ⟨v7, rfl, hv7, hB7⟩
  rw [z_last2] at hv7 ⊢
  have HS9 := Aside0.mk (HS8.out.below hB7)
  have HB9 := Aside0.mk (Aid.bthen HB8.out hB7)
  have hgw := At.lt HS8.out.at_
  have HV9 : Aside0 (Kd.R (Kd.int .u8) 5 w7 w6.heap.size (fun k => k ≠ g ∧ k ≠ b) v7 [99]) := ⟨Kd.R_mono (Kd.R_bound hv7) (fun k hk => ⟨by have := hk.2.1; have h2 := hgw.1; omega, by have := hk.2.1; have h2 := hgw.2; omega⟩)⟩
  clear HS8 HB8 hB7 hv7 hgw
  go_wp2_with fail
  refine (Cut HS9.out.at_ 2).mono ?_; rintro e w8 ⟨rfl, hA8, hO8⟩
  have HS10 : Aside0 (StAt w8 s g b 8 z3) := ⟨HS9.out.only hO8 hA8 HS9.out.ob⟩
  have HB10 : Aside0 (Below w.heap.size w w8) := ⟨HB9.out.trans (hO8.low _ HG.out.1 HG.out.2 HB9.out.size)⟩
  have HV10 := Aside0.mk (Kd.R_kept HV9.out hO8.kept (fun k hk hs => hs.elim hk.1 hk.2))
  clear HS9 HB9 hA8 hO8 HV9
  go_wp2_with fail
  have HS11 := Aside0.mk (HS10.out.below ((Below.refl _ _).alloc (Nat.le_refl _) (.cells #[.int .u8 100, .int .u8 100] 5 (2, 3))))
  refine (SaveL 3 3 rfl 2 2 [100, 100] rfl _ HS11.out (by decide) (Aid.C_new (enc := Value.int .u8) 0 _ [100, 100] _ 5 (2, 3) rfl (by decide)) (Nat.le_refl _) (by decide) (by unfold z3 St.cutAt St.ok; rw [z_ok2.1]; decide)).mono ?_; rintro e w9 ⟨rfl, hS9, hO9⟩
  rw [z_s4]
  have HS12 : Aside0 (StAt w9 s g b 8 z4) := ⟨hS9⟩
  have HB12 : Aside0 (Below w.heap.size w w9) := ⟨(HB10.out.alloc HB10.out.size _).trans (hO9.low _ HG.out.1 HG.out.2 (Nat.le_trans HB10.out.size (by simp)))⟩
  have HV12 := Aside0.mk (Kd.R_kept (Kd.R_below HV10.out ((Below.refl _ _).alloc (Nat.le_refl _) (.cells #[.int .u8 100, .int .u8 100] 5 (2, 3)))) hO9.kept (fun k hk hs => hs.elim hk.1 hk.2))
  clear HS10 HS11 HB10 HV10 hS9 hO9
  go_wp2_with fail
  refine (Last HS12.out).mono ?_; rintro e w10 ⟨v10, rfl, hv10, hB10⟩
  rw [z_last4] at hv10 ⊢
  have hgw := At.lt HS12.out.at_
  have HS13 := Aside0.mk (HS12.out.below hB10)
  have HB13 := Aside0.mk (Aid.bthen HB12.out hB10)
  have HV13 := Aside0.mk (Kd.R_below HV12.out hB10)
  have HU13 : Aside0 (Kd.R (Kd.int .u8) 5 w10 w9.heap.size (fun k => k ≠ g ∧ k ≠ b) v10 [99]) := ⟨Kd.R_mono (Kd.R_bound hv10) (fun k hk => ⟨by have := hk.2.1; have h2 := hgw.1; omega, by have := hk.2.1; have h2 := hgw.2; omega⟩)⟩
  clear HS12 HB12 HV12 hv10 hB10 hgw
  go_wp2_with fail
  refine (Slot HS13.out 1).mono ?_; rintro e w11 ⟨v11, rfl, hv11, hB11⟩
  rw [z_slot4]
  have HS14 := Aside0.mk (HS13.out.below hB11)
  have HB14 := Aside0.mk (Aid.bthen HB13.out hB11)
  have HV14 := Aside0.mk (Kd.R_below HV13.out hB11)
  have HU14 := Aside0.mk (Kd.R_below HU13.out hB11)
  clear HS13 HB13 HV13 HU13 hv11 hB11
  obtain ⟨A10, c10, rfl, hc10, hC10⟩ := Kd.R_reads HU14.out
  obtain ⟨A7, c7, rfl, hc7, hC7⟩ := Kd.R_reads HV14.out
  have HC10 := Aside0.mk hC10; have HC7 := Aside0.mk hC7
  clear hC10 hC7 HU14 HV14
  have HRM := Aside0.mk (Room HS14.out)
  go_wp2_with fail
  refine HRM.out.mono ?_; rintro e w12 ⟨rfl, ⟨m12, rfl⟩⟩
  rw [show ((room 8 : Nat) : Int) = 32 from rfl]
  have HS15 := Aside0.mk (HS14.out.drewN m12)
  have HB15 := Aside0.mk (Aid.bdrew HB14.out m12)
  have HC10b := Aside0.mk (Kd.C_drewN HC10.out m12); have HC7b := Aside0.mk (Kd.C_drewN HC7.out m12)
  clear HS14 HB14 HC10 HC7 HRM
  obtain ⟨w12, hw12⟩ : ∃ w12, w12 = w11.drewN m12 := ⟨_, rfl⟩
  rw [← hw12] at HS15 HB15 HC10b HC7b ⊢
  clear hw12
  have hst : strOfNums [99] = { data := #[99] } := by decide +kernel
  have hcv7 : (convert 32 9 (.slice A7 1 c7)).run Try.prog w12 = .ok (.string { data := #[99] }) w12 := by rw [← hst]; exact Kd.C_string (P := Try.prog) (A := A7) (c := c7) Try.underlying32 Try.underlying5 Try.underlying9 HC7b.out
  have hcv10 : (convert 32 9 (.slice A10 1 c10)).run Try.prog w12 = .ok (.string { data := #[99] }) w12 := by rw [← hst]; exact Kd.C_string (P := Try.prog) (A := A10) (c := c10) Try.underlying32 Try.underlying5 Try.underlying9 HC10b.out
  clear hst HC7b HC10b
  go_wp2_with fail
  have HS16 := Aside0.mk (HS15.out.below ((Below.refl _ _).alloc (Nat.le_refl _) (.cells #[.int .u8 97, .int .u8 98] 5 (2, 3))))
  refine (slots_Writes.calls (some ⟨w12.heap.size, 0, none⟩) 2 [97, 98] 3 _ (Aid.C_new (enc := Value.int .u8) 0 _ [97, 98] _ 5 (2, 3) rfl (by decide)) (Nat.le_refl _) (by decide +kernel)).mono ?_; rintro e w13 ⟨rfl, ⟨m13, rfl⟩⟩
  have HS17 := Aside0.mk (HS16.out.drewN m13)
  have HB17 := Aside0.mk (Aid.bdrew (HB15.out.alloc HB15.out.size (.cells #[.int .u8 97, .int .u8 98] 5 (2, 3))) m13)
  obtain ⟨w13, hw13⟩ : ∃ w13, w13 = (w12.alloc (.cells #[.int .u8 97, .int .u8 98] 5 (2, 3))).drewN m13 := ⟨_, rfl⟩
  have e13 : w13.heap.size = w12.heap.size + 1 := by rw [hw13]; simp
  rw [← hw13] at HS17 HB17
  clear HS15 HB15 HS16 hcv7 hcv10
  go_wp2_with fail
  rw [← hw13]; clear hw13 e13
  have hok4 : z4.ok 900000 := by unfold St.ok; rw [z_ok4.1, z_ok4.2.2]; decide
  refine (SaveL 0 0 rfl 0 0 [] rfl none HS17.out (by decide) (Kd.C_nil _ _) (Nat.le_refl _) (by decide) hok4).mono ?_; rintro e w14 ⟨rfl, hS14, hO14⟩
  rw [z_save0]
  have HS18 : Aside0 (StAt w14 s g b 8 z4) := ⟨hS14⟩
  have HB18 : Aside0 (Below w.heap.size w w14) := ⟨HB17.out.trans (hO14.low _ HG.out.1 HG.out.2 HB17.out.size)⟩
  clear HS17 HB17 hS14 hO14
  have HL := Aside0.mk (HS18.out.below ((Below.refl _ _).alloc (Nat.le_refl _) (.cells (((List.replicate 33 (0 : Int)).map (Value.int .u8)).toArray) 5)))
  have HB19 := Aside0.mk (HB18.out.alloc HB18.out.size (.cells (((List.replicate 33 (0 : Int)).map (Value.int .u8)).toArray) 5))
  have hmk : ∀ w, (Instr.makeSlice 32 (.int .i64 33) (.int .i64 33)).run Try.prog w = .ok (.slice (some ⟨w.heap.size, 0, none⟩) 33 33) (w.alloc (.cells (((List.replicate 33 (0 : Int)).map (Value.int .u8)).toArray) 5)) := fun w => mk22 33 (by decide) w
  go_wp2_with fail
  refine (SaveL 4 4 rfl 33 33 (List.replicate 33 0) rfl _ HL.out (by decide) (Aid.C_new (enc := Value.int .u8) 0 _ (List.replicate 33 0) _ 5 (0, 0) rfl (by decide)) (Nat.le_refl _) (by decide +kernel) hok4).mono ?_; rintro e w15 ⟨rfl, hS15, hO15⟩
  rw [z_save33]
  have HB20 : Aside0 (Below w.heap.size w w15) := ⟨HB19.out.trans (hO15.low _ HG.out.1 HG.out.2 HB19.out.size)⟩
  clear hS15 hO15 HB19 HL
  go_wp2_with fail
  go_ret
  exact ⟨rfl, HB20.out⟩
end Slots
end Disk
end Go.Proofs.Ytbjjpckldjjcgaa
/- The slots: the reference's Right and Room, few of no ops, made. -/
namespace Go.Proofs.Ytbjjpckldjjcgaa
open Go.RowKit Go.Proofs.YtbjjpckldjjcgaaW.PrintWords Go.Proofs.YtbjjpckldjjcgaaW.PrintLast Go.Proofs.YtbjjpckldjjcgaaW.PrintMore Go.Proofs.Ytbjjpckldjjcgaa.PK
set_option linter.unusedVariables false
set_option linter.unusedSimpArgs false
set_option maxHeartbeats 4000000
set_option maxRecDepth 100000
namespace Disk
namespace Slots
theorem half_f {n : Nat} {l : List Int} (x y : Int) (hl : l.length = 16 * n) (hn : n ≤ 1024) : redressref18_half.f l x y = some ((n / 2 : Nat) : Int) := by
  unfold redressref18_half.f
  have e1 : wrap64 ((l.length : Int) / 16) = (n : Int) := by unfold wrap64; omega
  rw [e1, Int.tdiv_eq_ediv_of_nonneg (by omega)]
  congr 1
  unfold wrap64
  omega
theorem RefRight (A : Option Addr) (c n : Nat) (l : List Int) (x y : Int) (w : World) (hr : Kd.C (Kd.int .u8) w A l.length l) (hc : l.length ≤ c) (hl : l.length = 16 * n) (hn : n ≤ 1024) (b : Bool) (hb : b = decide (3 ≤ n / 2)) :
    Calls Try.prog 22 #[.agg #[.slice A l.length c, .int .i64 x, .int .i64 y]] w fun e w' => e = .returned (.bool b) ∧ Below w.heap.size w w' := by
  refine redressref18_Right.calls A c l x y _ w hr hc ?_
  unfold redressref18_Right.f
  rw [half_f x y hl hn, hb]
  show some _ = some _
  congr 1
  rw [decide_eq_decide]
  omega
theorem RefRoom (A : Option Addr) (c n : Nat) (l : List Int) (x y : Int) (w : World) (hr : Kd.C (Kd.int .u8) w A l.length l) (hc : l.length ≤ c) (hl : l.length = 16 * n) (hn : n ≤ 1024) (h3 : 3 ≤ n / 2) :
    Calls Try.prog 23 #[.agg #[.slice A l.length c, .int .i64 x, .int .i64 y]] w fun e w' => e = .returned (.int .i64 (room n : Int)) ∧ Below w.heap.size w w' := by
  refine redressref18_Room.calls A c l x y _ w hr hc ?_
  unfold redressref18_Room.f
  rw [half_f x y hl hn]
  show (if _ then some _ else some _) = _
  have e1 : wrap64 (((n / 2 : Nat) : Int) - 2) = ((n / 2 : Nat) : Int) - 2 := by unfold wrap64; omega
  have e2 : wrap64 (16 * (((n / 2 : Nat) : Int) - 2)) = 16 * (((n / 2 : Nat) : Int) - 2) := by unfold wrap64; omega
  rw [e1, e2]
  unfold room
  split
  · congr 1; omega
  · congr 1; omega
theorem FewNil (A : Option Addr) (c : Nat) (l : List Int) (w : World) (hr : Kd.C (Kd.int .u8) w A l.length l) (hc : l.length ≤ c) (b : Bool) (hb : b = decide (l.length ≤ 5000)) :
    Calls Try.prog 26 #[.slice A l.length c, .slice none 0 0] w fun e w' => e = .returned (.bool b) ∧ Below w.heap.size w w' := by
  refine redresslaw18_few.calls 1 A c l none 0 [] b w hr hc (Kd.C_nil _ _) (Nat.le_refl _) ?_
  subst hb
  unfold redresslaw18_few.f redresslaw18_few.l0
  by_cases h : l.length ≤ 5000
  · have h' : (l.length : Int) ≤ 5000 := by omega
    simp [h, h']
  · have h' : ¬ (l.length : Int) ≤ 5000 := by omega
    simp [h, h']
theorem Made.no (A : Option Addr) (c : Nat) (l : List Int) (w : World) (h : ¬ right l) :
    Calls Try.prog 25 #[.slice A l.length c] w fun e w' => e = .returned (.tuple #[.pointer none, .pointer none, .bool false]) ∧ Below w.heap.size w w' := by
  have HR := Aside0.mk (RightF l h)
  clear h
  go_enter Try.func25, Try.ntmps25
  go_wp2_with fail
  refine (HR.out _).mono ?_; rintro e w1 ⟨rfl, ⟨m1, rfl⟩⟩
  have HB1 := Aside0.mk (Aid.bdrew (Below.refl w.heap.size w) m1)
  clear HR
  go_wp2_with fail
  go_ret3
  exact ⟨rfl, HB1.out⟩
theorem Made.small (A : Option Addr) (c n : Nat) (l : List Int) (w : World) (hr : Kd.C (Kd.int .u8) w A l.length l) (hc : l.length ≤ c) (hl : l.length = 16 * n) (h1 : 1 ≤ n) (hn : n ≤ 1024) (h3 : ¬ 3 ≤ n / 2) :
    Calls Try.prog 25 #[.slice A l.length c] w fun e w' => e = .returned (.tuple #[.pointer none, .pointer none, .bool false]) ∧ Below w.heap.size w w' := by
  have HR := Aside0.mk (RightT l ⟨by omega, by omega, by omega⟩)
  have HN := Aside0.mk (fun W => RefNew A l.length c l W rfl)
  have HC := Aside0.mk hr
  have HG := Aside0.mk (show l.length = 16 * n ∧ n ≤ 1024 ∧ l.length ≤ c ∧ false = decide (3 ≤ n / 2) from ⟨hl, hn, hc, (decide_eq_false h3).symm⟩)
  clear hr hc hl h1 hn h3
  go_enter Try.func25, Try.ntmps25
  go_wp2_with fail
  refine (HR.out _).mono ?_; rintro e w1 ⟨rfl, ⟨m1, rfl⟩⟩
  have HB1 := Aside0.mk (Aid.bdrew (Below.refl w.heap.size w) m1)
  have HC1 := Aside0.mk (Kd.C_drewN HC.out m1)
  clear HR HC
  go_wp2_with fail
  refine (HN.out _ HC1.out HG.out.2.2.1 (by have := HG.out.1; have := HG.out.2.1; omega)).mono ?_; rintro e w2 ⟨v2, rfl, hv2, hB2⟩
  obtain ⟨A2, c2, rfl, hc2, hC2⟩ := Kd.R_reads hv2
  have HC2 := Aside0.mk hC2; have HB2 := Aside0.mk (Aid.bthen HB1.out hB2)
  clear hC2 hv2 hB2 HB1 HC1 HN
  go_wp2_with fail
  refine (RefRight A2 c2 n l 0 (-1) _ HC2.out hc2 HG.out.1 HG.out.2.1 false HG.out.2.2.2).mono ?_; rintro e w3 ⟨rfl, hB3⟩
  have HB3 := Aside0.mk (Aid.bthen HB2.out hB3)
  clear hB3 HB2 HC2
  go_wp2_with fail
  go_ret3
  exact ⟨rfl, HB3.out⟩
theorem Made.yes (ad : Addr) (c n : Nat) (l : List Int) (w : World) (hr : Kd.C (Kd.int .u8) w (some ad) l.length l) (hc : l.length ≤ c) (hl : l.length = 16 * n) (hn : n ≤ 1024) (h3 : 3 ≤ n / 2) (ho : Crc.okb l = true) :
    Calls Try.prog 25 #[.slice (some ad) l.length c] w fun e w' => ∃ s g b, e = .returned (.tuple #[.pointer (some ⟨s, 0, none⟩), .pointer (some ⟨g, 0, none⟩), .bool true]) ∧ StAt w' s g b n ⟨l, 0, false, 0⟩ ∧ w.heap.size ≤ s ∧ w.heap.size ≤ g ∧ w.heap.size ≤ b ∧ Below w.heap.size w w' := by
  have HR := Aside0.mk (RightT l ⟨by omega, by omega, by omega⟩)
  have HN := Aside0.mk (fun W => RefNew (some ad) l.length c l W rfl)
  have HC := Aside0.mk hr
  have HG := Aside0.mk (show l.length = 16 * n ∧ n ≤ 1024 ∧ l.length ≤ c ∧ true = decide (3 ≤ n / 2) ∧ 3 ≤ n / 2 ∧ 1 ≤ n ∧ Crc.okb l = true from ⟨hl, hn, hc, (decide_eq_true h3).symm, h3, by omega, ho⟩)
  clear hr hc hl hn h3 ho
  go_enter Try.func25, Try.ntmps25
  go_wp2_with fail
  refine (HR.out _).mono ?_; rintro e w1 ⟨rfl, ⟨m1, rfl⟩⟩
  have HB1 := Aside0.mk (Aid.bdrew (Below.refl w.heap.size w) m1)
  have HC1 := Aside0.mk (Kd.C_drewN HC.out m1)
  clear HR HC
  go_wp2_with fail
  refine (HN.out _ HC1.out HG.out.2.2.1 (by have := HG.out.1; have := HG.out.2.1; omega)).mono ?_; rintro e w2 ⟨v2, rfl, hv2, hB2⟩
  obtain ⟨A2, c2, rfl, hc2, hC2⟩ := Kd.R_reads hv2
  have HC2 := Aside0.mk hC2; have HB2 := Aside0.mk (Aid.bthen HB1.out hB2)
  have HD2 := Aside0.mk (Kd.C_below HC1.out hB2)
  clear hC2 hv2 hB2 HB1 HC1 HN
  go_wp2_with fail
  refine (RefRight A2 c2 n l 0 (-1) _ HC2.out hc2 HG.out.1 HG.out.2.1 true HG.out.2.2.2.1).mono ?_; rintro e w3 ⟨rfl, hB3⟩
  have HB3 := Aside0.mk (Aid.bthen HB2.out hB3)
  have HD3 := Aside0.mk (Kd.C_below HD2.out hB3)
  clear hB3 HB2 HC2 HD2
  go_wp2_with fail
  refine (Load.ok ad c n l _ HD3.out HG.out.2.2.1 HG.out.1 HG.out.2.2.2.2.2.1 HG.out.2.1).mono ?_; rintro e w4 ⟨g, b, rfl, hA, hg, hb, hB4⟩
  have HA := Aside0.mk (show AtS w4 g b n ⟨l, 0, false, 0⟩ from hA)
  have HB4 := Aside0.mk (Aid.bthen HB3.out hB4)
  have HGB := Aside0.mk (show w.heap.size ≤ g ∧ w.heap.size ≤ b from ⟨Nat.le_trans HB3.out.size hg, Nat.le_trans HB3.out.size hb⟩)
  clear hA hB4 hg hb HD3 HB3
  go_wp2_with fail
  refine (New.ok HA.out HG.out.2.2.2.2.1 HG.out.2.2.2.2.2.2).mono ?_; rintro e w5 ⟨s, rfl, hs, hS, hB5⟩
  have HS := Aside0.mk hS
  have HB5 := Aside0.mk (Aid.bthen HB4.out hB5)
  have HSS := Aside0.mk (Nat.le_trans HB4.out.size hs)
  clear hs hS hB5 HB4 HA
  go_wp2_with fail
  go_ret3
  exact ⟨s, g, b, rfl, HS.out, HSS.out, HGB.out.1, HGB.out.2, HB5.out⟩
end Slots
end Disk
end Go.Proofs.Ytbjjpckldjjcgaa
