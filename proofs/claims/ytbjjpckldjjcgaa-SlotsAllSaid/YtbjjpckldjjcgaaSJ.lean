/- The laws' own lemmas; the law SlotsRefused: its walk. -/
import Derived.Test.YtbjjpckldjjcgaaS2
namespace Go.Proofs.Ytbjjpckldjjcgaa
open Go.RowKit Go.Proofs.YtbjjpckldjjcgaaW.PrintWords Go.Proofs.YtbjjpckldjjcgaaW.PrintLast Go.Proofs.YtbjjpckldjjcgaaW.PrintMore Go.Proofs.Ytbjjpckldjjcgaa.PK
set_option linter.unusedVariables false
set_option linter.unusedSimpArgs false
set_option maxHeartbeats 4000000
set_option maxRecDepth 100000
namespace Disk
namespace Slots
/-- A disk's bytes on which a store is made. -/
def good (l : List Int) : Prop := right l ∧ 3 ≤ l.length / 16 / 2
theorem c_some {w : World} {A : Option Addr} {l : List Int} (hr : Kd.C (Kd.int .u8) w A l.length l) (h : 0 < l.length) : ∃ ad, A = some ad := by
  obtain ⟨a, h', _⟩ := hr.2.2 h
  exact ⟨a, h'⟩
theorem Made.none (A : Option Addr) (c : Nat) (l : List Int) (w : World) (hr : Kd.C (Kd.int .u8) w A l.length l) (hc : l.length ≤ c) (h : ¬ good l) :
    Calls Try.prog 25 #[.slice A l.length c] w fun e w' => e = .returned (.tuple #[.pointer none, .pointer none, .bool false]) ∧ Below w.heap.size w w' := by
  by_cases h1 : right l
  · have h3 : ¬ 3 ≤ l.length / 16 / 2 := fun h3 => h ⟨h1, h3⟩
    obtain ⟨a1, a2, a3⟩ := h1
    exact Made.small A c (l.length / 16) l w hr hc (by omega) (by omega) (by omega) h3
  · exact Made.no A c l w h1
theorem Made.some (A : Option Addr) (c : Nat) (l : List Int) (w : World) (hr : Kd.C (Kd.int .u8) w A l.length l) (hc : l.length ≤ c) (h : good l) (ho : Crc.okb l = true) :
    Calls Try.prog 25 #[.slice A l.length c] w fun e w' => ∃ s g b, e = .returned (.tuple #[.pointer (some ⟨s, 0, Option.none⟩), .pointer (some ⟨g, 0, Option.none⟩), .bool true]) ∧ StAt w' s g b (l.length / 16) ⟨l, 0, false, 0⟩ ∧ w.heap.size ≤ s ∧ w.heap.size ≤ g ∧ w.heap.size ≤ b ∧ Below w.heap.size w w' := by
  obtain ⟨⟨a1, a2, a3⟩, h3⟩ := h
  obtain ⟨ad, rfl⟩ := c_some hr (by omega)
  exact Made.yes ad c (l.length / 16) l w hr hc (by omega) (by omega) h3 ho
theorem good_n {l : List Int} (h : good l) : ∃ n, l.length = 16 * n ∧ n ≤ 1024 ∧ 3 ≤ n / 2 ∧ l.length / 16 = n := by
  obtain ⟨⟨a1, a2, a3⟩, h3⟩ := h
  exact ⟨l.length / 16, by omega, by omega, h3, rfl⟩
theorem told_r {w w' : World} {r : Int × List Int × Bool} {e : Ending} (h : Told w r e w') : RTold w r e w' := by
  obtain ⟨v, he, hR, hB⟩ := h
  obtain ⟨A, c, rfl, hc, hC⟩ := Kd.R_reads hR
  exact ⟨A, c, he, hc, hC, hB⟩
theorem told_l {w w' : World} {r : Int × List Int × Int} {e : Ending} (h : ToldLast w r e w') : RToldLast w r e w' := by
  obtain ⟨v, he, hR, hB⟩ := h
  obtain ⟨A, c, rfl, hc, hC⟩ := Kd.R_reads hR
  exact ⟨A, c, he, hc, hC, hB⟩
theorem RefWrites (A : Option Addr) (c : Nat) (l : List Int) (w : World) (hr : Kd.C (Kd.int .u8) w A l.length l) (hc : l.length ≤ c) (hm : l.length ≤ 100000) :
    Calls Try.prog 16 #[.slice A l.length c] w fun e w' => e = .returned (.int .i64 ((2 + (l.length + 15) / 16 : Nat) : Int)) ∧ Drawn0 w w' := by
  refine redressref18_Writes.calls A c l _ w hr hc ?_
  unfold redressref18_Writes.f
  have e1 : wrap64 ((l.length : Int) + 15) = (l.length : Int) + 15 := by unfold wrap64; omega
  rw [e1, Int.tdiv_eq_ediv_of_nonneg (by omega)]
  congr 1
  have e2 : wrap64 (((l.length : Int) + 15) / 16) = ((l.length : Int) + 15) / 16 := by unfold wrap64; omega
  rw [e2]
  unfold wrap64
  omega
theorem whole {n num d : Nat} {s : St} {data : List Int} (h0 : num ≠ 0) (hn : num < 18446744073709551616) (h3 : 3 ≤ n / 2) (hl : s.db.length = 16 * n) (hr : data.length ≤ room n) (hd : Crc.okb data = true) (hc : s.cut = false) (hok : s.ok d) :
    (save n s num data).1 = 0 ∧ (save n s num data).2.cut = false ∧ (save n s num data).2.ok (d + 200) ∧ (save n s num data).2.db.length = 16 * n ∧ slotOf n (save n s num data).2.db ((num % 2 : Nat) : Int) = ((num : Int), data, true) ∧
    ∀ k : Nat, k < 2 → k ≠ num % 2 → slotOf n (save n s num data).2.db (k : Int) = slotOf n s.db (k : Int) := by
  have hs := save_ok (s := s) h0 h3 hr (fun e => by rw [hc] at e; cases e)
  have h2048 : data.length ≤ 2048 := by unfold room at hr; omega
  rw [hs]
  refine ⟨rfl, hc, ?_, saved_len hl h3 hr, slot_saved hl h3 hr h0 hn hd, fun k hk hne => slot_other hl h3 hr hk hne⟩
  unfold St.ok at *
  obtain ⟨a1, a2, a3, a4⟩ := hok
  exact ⟨by show _ ≤ s.many + _; omega, by show s.many + _ ≤ _; omega, by show _ ≤ s.left - _; omega, by show s.left - _ ≤ _; omega⟩
theorem SlotsRefused.no (A : Option Addr) (c : Nat) (l : List Int) (num : Int) (A2 : Option Addr) (c2 : Nat) (data : List Int) (w : World) (hr : Kd.C (Kd.int .u8) w A l.length l) (hc : l.length ≤ c) (h : ¬ good l) :
    Calls Try.prog 8 #[.slice A l.length c, .int .u64 num, .slice A2 data.length c2] w fun e w' => e = .returned (.bool true) ∧ Below w.heap.size w w' := by
  have HM := Aside0.mk (Made.none A c l w hr hc h)
  clear h hr hc
  go_enter Try.func8, Try.ntmps8
  go_wp2_with fail
  refine HM.out.mono ?_; rintro e w1 ⟨rfl, hB1⟩
  have HB1 := Aside0.mk hB1
  clear HM hB1
  go_wp2_with fail
  refine (alive _).mono ?_; rintro e w2 ⟨rfl, hB2⟩
  have HB2 := Aside0.mk (Aid.bthen HB1.out hB2)
  clear hB2 HB1
  go_wp2_with fail
  go_ret
  exact ⟨rfl, HB2.out⟩
theorem SlotsRefused.many (A : Option Addr) (c : Nat) (l : List Int) (num : Int) (A2 : Option Addr) (c2 : Nat) (data : List Int) (w : World) (hr : Kd.C (Kd.int .u8) w A l.length l) (hc : l.length ≤ c) (h : good l) (ho : Crc.okb l = true) (hl : ¬ (l.length ≤ 5000 ∧ data.length ≤ 5000)) :
    Calls Try.prog 8 #[.slice A l.length c, .int .u64 num, .slice A2 data.length c2] w fun e w' => e = .returned (.bool true) ∧ Below w.heap.size w w' := by
  have HM := Aside0.mk (Made.some A c l w hr hc h ho)
  have HC := Aside0.mk hr
  obtain ⟨bb, hbb⟩ : ∃ bb, bb = decide (l.length ≤ 5000) := ⟨_, rfl⟩
  have HF := Aside0.mk (fun W h => FewNil A c l W h hc bb hbb)
  have hbd : bb = true → (5000 : Int) < (data.length : Int) := by
    intro e; rw [e] at hbb; have := of_decide_eq_true hbb.symm; omega
  clear h hr hc ho hl hbb
  go_enter Try.func8, Try.ntmps8
  go_wp2_with fail
  refine HM.out.mono ?_; rintro e w1 ⟨s, g, b, rfl, hS, h1, h2, h3, hB1⟩
  have HB1 := Aside0.mk hB1
  clear HM hB1 hS h1 h2 h3
  go_wp2_with fail
  refine (HF.out _ (Kd.C_below HC.out HB1.out)).mono ?_; rintro e w2 ⟨rfl, hB2⟩
  have HB2 := Aside0.mk (Aid.bthen HB1.out hB2)
  clear hB2 HB1 HF HC
  cases bb
  · clear hbd
    go_wp2_with fail
    refine (alive _).mono ?_; rintro e w3 ⟨rfl, hB3⟩
    have HB3 := Aside0.mk (Aid.bthen HB2.out hB3)
    clear hB3 HB2
    go_wp2_with fail
    go_ret
    exact ⟨rfl, HB3.out⟩
  · have hd := hbd rfl
    clear hbd
    go_wp2_with fail
    refine (alive _).mono ?_; rintro e w3 ⟨rfl, hB3⟩
    have HB3 := Aside0.mk (Aid.bthen HB2.out hB3)
    clear hB3 HB2
    go_wp2_with fail
    go_ret
    exact ⟨rfl, HB3.out⟩
theorem SlotsRefused.ref (A : Option Addr) (c : Nat) (l : List Int) (num : Nat) (A2 : Option Addr) (c2 : Nat) (data : List Int) (w : World) (hr : Kd.C (Kd.int .u8) w A l.length l) (hc : l.length ≤ c) (h : good l) (ho : Crc.okb l = true) (hl : l.length ≤ 5000 ∧ data.length ≤ 5000)
    (hr2 : Kd.C (Kd.int .u8) w A2 data.length data) (hc2 : data.length ≤ c2) (ho2 : Crc.okb data = true) (hnum : num < 18446744073709551616) (hq : num = 0 ∨ room (l.length / 16) < data.length) :
    Calls Try.prog 8 #[.slice A l.length c, .int .u64 (num : Int), .slice A2 data.length c2] w fun e w' => e = .returned (.bool true) ∧ Below w.heap.size w w' := by
  have HM := Aside0.mk (Made.some A c l w hr hc h ho)
  have HC := Aside0.mk hr
  have HC2 := Aside0.mk hr2
  have HF := Aside0.mk (fun W h => FewNil A c l W h hc true (decide_eq_true hl.1).symm)
  have HN := Aside0.mk (fun W => RefNew A l.length c l W rfl)
  obtain ⟨n, hn1, hn2, hn3, hn4⟩ := good_n h
  rw [hn4] at HM hq
  have HRR := Aside0.mk (fun A' c' W h hc' => RefRoom A' c' n l 0 (-1) W h hc' hn1 hn2 hn3)
  have hd5 : (data.length : Int) ≤ 5000 := by omega
  obtain ⟨E, hE⟩ : ∃ E, E = (save n ⟨l, 0, false, 0⟩ num data).1 := ⟨_, rfl⟩
  have hE2 : (num = 0 ∧ E = 1 ∨ num ≠ 0 ∧ E = 181 ∧ room n < data.length) ∧ (save n ⟨l, 0, false, 0⟩ num data).2 = ⟨l, 0, false, 0⟩ := by
    rw [hE]
    by_cases h0 : num = 0
    · subst h0; rw [save_arg]; exact ⟨.inl ⟨rfl, rfl⟩, rfl⟩
    · have h4 : room n < data.length := hq.elim (fun h => absurd h h0) id
      rw [save_long _ h0 h4]; exact ⟨.inr ⟨h0, rfl, h4⟩, rfl⟩
  have HG := Aside0.mk (show l.length ≤ c ∧ l.length ≤ 5000 ∧ data.length ≤ c2 ∧ num < 18446744073709551616 ∧ Crc.okb data = true from ⟨hc, hl.1, hc2, hnum, ho2⟩)
  have HE := Aside0.mk hE; have HE2 := Aside0.mk hE2
  clear hr hr2 hc h ho hl hc2 ho2 hnum hq hn1 hn2 hn3 hn4 hE hE2
  go_enter Try.func8, Try.ntmps8
  go_wp2_with fail
  refine HM.out.mono ?_; rintro e w1 ⟨s, g, b, rfl, hS, h1, h2, h3, hB1⟩
  have HB1 := Aside0.mk hB1; have HS1 := Aside0.mk hS; have HGB := Aside0.mk (show w.heap.size ≤ g ∧ w.heap.size ≤ b from ⟨h2, h3⟩)
  clear HM hB1 hS h1 h2 h3
  go_wp2_with fail
  refine (HF.out _ (Kd.C_below HC.out HB1.out)).mono ?_; rintro e w2 ⟨rfl, hB2⟩
  have HS2 := Aside0.mk (HS1.out.below hB2)
  have HB2 := Aside0.mk (Aid.bthen HB1.out hB2)
  clear hB2 HB1 HF HS1
  go_wp2_with fail
  refine (Save HS2.out num HG.out.2.2.2.1 A2 c2 data (Kd.C_below HC2.out HB2.out) HG.out.2.2.1 HG.out.2.2.2.2 (by unfold St.ok; simp)).mono ?_; rintro e w3 ⟨rfl, hS3, hO3⟩
  rw [HE2.out.2] at hS3
  rw [← HE.out]
  have HS3 := Aside0.mk hS3
  have HB3 := Aside0.mk (HB2.out.trans (hO3.low _ HGB.out.1 HGB.out.2 HB2.out.size))
  clear hS3 hO3 HB2 HS2 HE
  go_wp2_with fail
  refine (HN.out _ (Kd.C_below HC.out HB3.out) HG.out.1 (by have := HG.out.2.1; omega)).mono ?_; rintro e w4 ⟨v4, rfl, hv4, hB4⟩
  obtain ⟨A4, c4, rfl, hc4, hC4⟩ := Kd.R_reads hv4
  have HC4 := Aside0.mk hC4; have HB4 := Aside0.mk (Aid.bthen HB3.out hB4); have HS4 := Aside0.mk (HS3.out.below hB4)
  clear hC4 hv4 hB4 HB3 HS3 HN
  go_wp2_with fail
  refine (HRR.out A4 c4 _ HC4.out hc4).mono ?_; rintro e w5 ⟨rfl, hB5⟩
  have HB5 := Aside0.mk (Aid.bthen HB4.out hB5); have HS5 := Aside0.mk (HS4.out.below hB5)
  clear hB5 HB4 HS4 HC4 HRR
  obtain ⟨h7, h8⟩ := HE2.out
  clear h8 HE2
  rcases h7 with ⟨rfl, rfl⟩ | ⟨h0, rfl, h4⟩
  · go_wp2_with fail
    refine (alive _).mono ?_; rintro e w6 ⟨rfl, hB6⟩
    have HB6 := Aside0.mk (Aid.bthen HB5.out hB6); have HS6 := Aside0.mk (HS5.out.below hB6)
    clear hB6 HB5 HS5
    go_wp2_with fail
    refine (Writes HS6.out.at_).mono ?_; rintro e w7 ⟨rfl, ⟨m7, rfl⟩⟩
    have HB7 := Aside0.mk (Aid.bdrew HB6.out m7); have HS7 := Aside0.mk (HS6.out.drewN m7)
    clear HB6 HS6
    go_wp2_with fail
    refine (Bytes HS7.out.at_).mono ?_; rintro e w8 ⟨v8, rfl, hv8, hB8⟩
    obtain ⟨A8, c8, rfl, hc8, hC8⟩ := Kd.R_reads hv8
    have HB8 := Aside0.mk (Aid.bthen HB7.out hB8)
    have HC8 := Aside0.mk hC8
    clear hB8 hC8 hv8 HB7 HS7
    go_wp2_with fail
    refine (SameRows A8 l.length c8 A l.length c l _ rfl rfl HC8.out hc8 (Kd.C_below HC.out HB8.out) HG.out.1 (by have := HG.out.2.1; omega)).mono ?_; rintro e w9 ⟨rfl, ⟨m9, rfl⟩⟩
    have HB9 := Aside0.mk (Aid.bdrew HB8.out m9)
    clear HB8 HC8
    go_wp2_with fail
    go_ret
    exact ⟨rfl, HB9.out⟩
  · have h0' : ((num : Int) != 0) = true := by simp; omega
    have h0'' : ((num : Int) == 0) = false := by simp; omega
    have h4' : decide (room n < data.length) = true := decide_eq_true h4
    clear h0 h4
    go_wp2_with fail
    refine (alive _).mono ?_; rintro e w6 ⟨rfl, hB6⟩
    have HB6 := Aside0.mk (Aid.bthen HB5.out hB6); have HS6 := Aside0.mk (HS5.out.below hB6)
    clear hB6 HB5 HS5
    go_wp2_with fail
    refine (Writes HS6.out.at_).mono ?_; rintro e w7 ⟨rfl, ⟨m7, rfl⟩⟩
    have HB7 := Aside0.mk (Aid.bdrew HB6.out m7); have HS7 := Aside0.mk (HS6.out.drewN m7)
    clear HB6 HS6
    go_wp2_with fail
    refine (Bytes HS7.out.at_).mono ?_; rintro e w8 ⟨v8, rfl, hv8, hB8⟩
    obtain ⟨A8, c8, rfl, hc8, hC8⟩ := Kd.R_reads hv8
    have HB8 := Aside0.mk (Aid.bthen HB7.out hB8)
    have HC8 := Aside0.mk hC8
    clear hB8 hC8 hv8 HB7 HS7
    go_wp2_with fail
    refine (SameRows A8 l.length c8 A l.length c l _ rfl rfl HC8.out hc8 (Kd.C_below HC.out HB8.out) HG.out.1 (by have := HG.out.2.1; omega)).mono ?_; rintro e w9 ⟨rfl, ⟨m9, rfl⟩⟩
    have HB9 := Aside0.mk (Aid.bdrew HB8.out m9)
    clear HB8 HC8
    go_wp2_with fail
    go_ret
    exact ⟨rfl, HB9.out⟩
theorem SlotsRefused.yes (A : Option Addr) (c : Nat) (l : List Int) (num : Nat) (A2 : Option Addr) (c2 : Nat) (data : List Int) (w : World) (hr : Kd.C (Kd.int .u8) w A l.length l) (hc : l.length ≤ c) (h : good l) (ho : Crc.okb l = true) (hl : l.length ≤ 5000 ∧ data.length ≤ 5000)
    (hr2 : Kd.C (Kd.int .u8) w A2 data.length data) (hc2 : data.length ≤ c2) (ho2 : Crc.okb data = true) (hnum : num < 18446744073709551616) (h0 : num ≠ 0) (hq : data.length ≤ room (l.length / 16)) :
    Calls Try.prog 8 #[.slice A l.length c, .int .u64 (num : Int), .slice A2 data.length c2] w fun e w' => e = .returned (.bool true) ∧ Below w.heap.size w w' := by
  have HM := Aside0.mk (Made.some A c l w hr hc h ho)
  have HC := Aside0.mk hr
  have HC2 := Aside0.mk hr2
  have HF := Aside0.mk (fun W h => FewNil A c l W h hc true (decide_eq_true hl.1).symm)
  have HN := Aside0.mk (fun W => RefNew A l.length c l W rfl)
  obtain ⟨n, hn1, hn2, hn3, hn4⟩ := good_n h
  rw [hn4] at HM hq
  have HRR := Aside0.mk (fun A' c' W h hc' => RefRoom A' c' n l 0 (-1) W h hc' hn1 hn2 hn3)
  have hd5 : (data.length : Int) ≤ 5000 := by omega
  obtain ⟨T, hT⟩ : ∃ T, T = (save n ⟨l, 0, false, 0⟩ num data).2 := ⟨_, rfl⟩
  have hS := save_ok (s := ⟨l, 0, false, 0⟩) h0 hn3 hq (fun e => by cases e)
  have hE : (save n ⟨l, 0, false, 0⟩ num data).1 = 0 := by rw [hS]
  have hTm : T.many = ((2 + (data.length + 15) / 16 : Nat) : Int) := by rw [hT, hS]; simp
  have HG := Aside0.mk (show l.length ≤ c ∧ l.length ≤ 5000 ∧ data.length ≤ c2 ∧ num < 18446744073709551616 ∧ Crc.okb data = true ∧ data.length ≤ 5000 from ⟨hc, hl.1, hc2, hnum, ho2, hl.2⟩)
  have HE := Aside0.mk hE; have HT := Aside0.mk hT; have HTm := Aside0.mk hTm
  have h0' : ((num : Int) != 0) = true := by simp; omega
  have h0'' : ((num : Int) == 0) = false := by simp; omega
  have h4' : decide (room n < data.length) = false := decide_eq_false (by omega)
  clear hr hr2 hc h ho hl hc2 ho2 hnum h0 hq hn1 hn2 hn3 hn4 hE hT hTm hS
  go_enter Try.func8, Try.ntmps8
  go_wp2_with fail
  refine HM.out.mono ?_; rintro e w1 ⟨s, g, b, rfl, hS, h1, h2, h3, hB1⟩
  have HB1 := Aside0.mk hB1; have HS1 := Aside0.mk hS; have HGB := Aside0.mk (show w.heap.size ≤ g ∧ w.heap.size ≤ b from ⟨h2, h3⟩)
  clear HM hB1 hS h1 h2 h3
  go_wp2_with fail
  refine (HF.out _ (Kd.C_below HC.out HB1.out)).mono ?_; rintro e w2 ⟨rfl, hB2⟩
  have HS2 := Aside0.mk (HS1.out.below hB2)
  have HB2 := Aside0.mk (Aid.bthen HB1.out hB2)
  clear hB2 HB1 HF HS1
  go_wp2_with fail
  refine (Save HS2.out num HG.out.2.2.2.1 A2 c2 data (Kd.C_below HC2.out HB2.out) HG.out.2.2.1 HG.out.2.2.2.2.1 (by unfold St.ok; simp)).mono ?_; rintro e w3 ⟨rfl, hS3, hO3⟩
  rw [← HT.out] at hS3
  rw [HE.out]
  have HS3 := Aside0.mk hS3
  have HB3 := Aside0.mk (HB2.out.trans (hO3.low _ HGB.out.1 HGB.out.2 HB2.out.size))
  clear hS3 hO3 HB2 HS2 HE HT
  go_wp2_with fail
  refine (HN.out _ (Kd.C_below HC.out HB3.out) HG.out.1 (by have := HG.out.2.1; omega)).mono ?_; rintro e w4 ⟨v4, rfl, hv4, hB4⟩
  obtain ⟨A4, c4, rfl, hc4, hC4⟩ := Kd.R_reads hv4
  have HC4 := Aside0.mk hC4; have HB4 := Aside0.mk (Aid.bthen HB3.out hB4); have HS4 := Aside0.mk (HS3.out.below hB4)
  clear hC4 hv4 hB4 HB3 HS3 HN
  go_wp2_with fail
  refine (HRR.out A4 c4 _ HC4.out hc4).mono ?_; rintro e w5 ⟨rfl, hB5⟩
  have HB5 := Aside0.mk (Aid.bthen HB4.out hB5); have HS5 := Aside0.mk (HS4.out.below hB5)
  clear hB5 HB4 HS4 HC4 HRR
  go_wp2_with fail
  refine (alive _).mono ?_; rintro e w6 ⟨rfl, hB6⟩
  have HB6 := Aside0.mk (Aid.bthen HB5.out hB6); have HS6 := Aside0.mk (HS5.out.below hB6)
  clear hB6 HB5 HS5
  go_wp2_with fail
  refine (Writes HS6.out.at_).mono ?_; rintro e w7 ⟨rfl, ⟨m7, rfl⟩⟩
  rw [HTm.out]
  have HB7 := Aside0.mk (Aid.bdrew HB6.out m7)
  clear HB6 HS6 HTm
  go_wp2_with fail
  refine (RefWrites A2 c2 data _ (Kd.C_below HC2.out HB7.out) HG.out.2.2.1 (by have := HG.out.2.2.2.2.2; omega)).mono ?_; rintro e w8 ⟨rfl, ⟨m8, rfl⟩⟩
  have HB8 := Aside0.mk (Aid.bdrew HB7.out m8)
  clear HB7
  go_wp2_with fail
  go_ret
  exact ⟨rfl, by have := HB8.out; simpa using this⟩
theorem SlotsRefused (A : Option Addr) (c : Nat) (l : List Int) (a : Int) (A2 : Option Addr) (c2 : Nat) (data : List Int) (w : World) (hr : Kd.C (Kd.int .u8) w A l.length l) (hc : l.length ≤ c) (ho : Crc.okb l = true)
    (hr2 : Kd.C (Kd.int .u8) w A2 data.length data) (hc2 : data.length ≤ c2) (ho2 : Crc.okb data = true) (ha0 : 0 ≤ a) (ha : a < 18446744073709551616) :
    Calls Try.prog 8 #[.slice A l.length c, .int .u64 a, .slice A2 data.length c2] w fun e w' => e = .returned (.bool true) ∧ Below w.heap.size w w' := by
  obtain ⟨num, rfl⟩ : ∃ num : Nat, a = (num : Int) := ⟨a.toNat, by omega⟩
  by_cases h : good l
  · by_cases h5 : l.length ≤ 5000 ∧ data.length ≤ 5000
    · by_cases hq : num = 0 ∨ room (l.length / 16) < data.length
      · exact SlotsRefused.ref A c l num A2 c2 data w hr hc h ho h5 hr2 hc2 ho2 (by omega) hq
      · exact SlotsRefused.yes A c l num A2 c2 data w hr hc h ho h5 hr2 hc2 ho2 (by omega) (fun e => hq (.inl e)) (by rcases Nat.lt_or_ge (room (l.length / 16)) data.length with h6 | h6; exact absurd (.inr h6) hq; exact h6)
    · exact SlotsRefused.many A c l num A2 c2 data w hr hc h ho h5
  · exact SlotsRefused.no A c l num A2 c2 data w hr hc h
end Slots
end Disk
end Go.Proofs.Ytbjjpckldjjcgaa
