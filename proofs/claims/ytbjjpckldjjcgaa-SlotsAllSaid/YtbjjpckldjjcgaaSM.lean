/- The law SlotsTurn: its walk. -/
import Derived.Test.YtbjjpckldjjcgaaSJ
namespace Go.Proofs.Ytbjjpckldjjcgaa
open Go.RowKit Go.Proofs.YtbjjpckldjjcgaaW.PrintWords Go.Proofs.YtbjjpckldjjcgaaW.PrintLast Go.Proofs.YtbjjpckldjjcgaaW.PrintMore Go.Proofs.Ytbjjpckldjjcgaa.PK
set_option linter.unusedVariables false
set_option linter.unusedSimpArgs false
set_option maxHeartbeats 4000000
set_option maxRecDepth 100000
namespace Disk
namespace Slots
abbrev KRow := Kd.slice 5 (Kd.int .u8)
/-- A row of rows, read at a place. -/
theorem at_row {w : World} {ad : Addr} {ls : List (List Int)} (h : Kd.C KRow w (some ad) ls.length ls) (j : Nat) (hj : j < ls.length) :
    ∃ A c, w.cell? (ad.add j) = some (.slice A ls[j].length c) ∧ ls[j].length ≤ c ∧ Kd.C (Kd.int .u8) w A ls[j].length ls[j] := by
  obtain ⟨ad', cs, e, hl, hK, hc⟩ := Kd.C_get h ([] : List Int) (j : Int) (by omega) (by omega)
  cases e
  have e1 : ls.getD (Int.toNat (j : Int)) [] = ls[j] := by rw [Int.toNat_natCast]; simp [List.getD_eq_getElem?_getD, List.getElem?_eq_getElem hj]
  rw [e1] at hK
  obtain ⟨A, c, rfl, hc1, hC⟩ := hK
  refine ⟨A, c, ?_, hc1, hC⟩
  have h2 := hc 0 _ rfl
  rwa [show (Int.toNat (j : Int)) * KRow.sz + 0 = j by rw [Int.toNat_natCast]; show j * 1 + 0 = j; omega] at h2
/-- What is known of a store behind j saves in turn, the first one's number being f. -/
structure Turn (n f : Nat) (ls : List (List Int)) (j : Nat) (T : St) : Prop where
  cut : T.cut = false
  ok : T.ok (200 * j)
  len : T.db.length = 16 * n
  fit : ∀ i (h : i < ls.length), i < j → ls[i].length ≤ room n
  one : ∀ i (h : i < ls.length), j = i + 1 → slotOf n T.db (((f + i) % 2 : Nat) : Int) = (((f + i : Nat) : Int), ls[i], true)
  two : ∀ i (h : i < ls.length), j = i + 2 → slotOf n T.db (((f + i) % 2 : Nat) : Int) = (((f + i : Nat) : Int), ls[i], true)
theorem sw64 (x : Int) (h1 : -9223372036854775808 ≤ x) (h2 : x ≤ 9223372036854775807) : wrap64 x = x := by unfold wrap64; omega
theorem Turn.step {n f : Nat} {ls : List (List Int)} {j : Nat} {T : St} (h : Turn n f ls j T) (hj : j < ls.length) (h3 : 3 ≤ n / 2) (hf : f ≠ 0) (hn : f + j < 18446744073709551616) (hr : ls[j].length ≤ room n) (hd : Crc.okb ls[j] = true) :
    (save n T (f + j) ls[j]).1 = 0 ∧ Turn n f ls (j + 1) (save n T (f + j) ls[j]).2 := by
  obtain ⟨a1, b1, d1, e1, f1, g1⟩ := whole (s := T) (num := f + j) (by omega) hn h3 h.len hr hd h.cut h.ok
  refine ⟨a1, b1, by rw [show 200 * (j + 1) = 200 * j + 200 by omega]; exact d1, e1, fun i hi e => ?_, fun i hi e => ?_, fun i hi e => ?_⟩
  · rcases Nat.lt_or_ge i j with h1 | h1
    · exact h.fit i hi h1
    · have e2 : j = i := by omega
      subst e2
      exact hr
  · have e2 : j = i := by omega
    subst e2
    exact f1
  · have e2 : j = i + 1 := by omega
    rw [g1 ((f + i) % 2) (Nat.mod_lt _ (by decide)) (by omega)]
    exact h.one i hi e2
theorem wu64 (x : Int) (h1 : 0 ≤ x) (h2 : x < 18446744073709551616) : IntKind.u64.wrap x = x := by
  simp [IntKind.wrap, IntKind.bits, IntKind.signed]; omega
theorem SlotsTurn.no (A : Option Addr) (c : Nat) (l : List Int) (A1 : Option Addr) (c1 : Nat) (ls : List (List Int)) (f : Nat) (w : World) (hr : Kd.C (Kd.int .u8) w A l.length l) (hc : l.length ≤ c) (h : ¬ good l) :
    Calls Try.prog 7 #[.slice A l.length c, .slice A1 ls.length c1, .int .u64 (f : Int)] w fun e w' => e = .returned (.bool true) ∧ Below w.heap.size w w' := by
  have HM := Aside0.mk (Made.none A c l w hr hc h)
  clear h hr hc
  go_enter Try.func7, Try.ntmps7
  go_wp2_with fail
  refine HM.out.mono ?_; rintro e w1 ⟨rfl, hB1⟩
  have HB1 := Aside0.mk hB1
  clear HM hB1
  go_wp2_with fail
  refine (alive _).mono ?_; rintro e w90 ⟨rfl, hB90⟩
  have HB90 := Aside0.mk (Aid.bthen HB1.out hB90)
  clear hB90 HB1
  go_wp2_with fail
  go_ret
  exact ⟨rfl, HB90.out⟩
theorem SlotsTurn.many (A : Option Addr) (c : Nat) (l : List Int) (A1 : Option Addr) (c1 : Nat) (ls : List (List Int)) (f : Nat) (w : World) (hr : Kd.C (Kd.int .u8) w A l.length l) (hc : l.length ≤ c) (h : good l) (ho : Crc.okb l = true)
    (hq : ¬ (l.length ≤ 5000 ∧ ls.length ≤ 20 ∧ 2 ≤ ls.length ∧ 1 ≤ f ∧ f ≤ 1099511627776)) :
    Calls Try.prog 7 #[.slice A l.length c, .slice A1 ls.length c1, .int .u64 (f : Int)] w fun e w' => e = .returned (.bool true) ∧ Below w.heap.size w w' := by
  have HM := Aside0.mk (Made.some A c l w hr hc h ho)
  have HC := Aside0.mk hr
  have HF := Aside0.mk (fun W h bb hbb => FewNil A c l W h hc bb hbb)
  have h5f : ¬ l.length ≤ 5000 → false = decide (l.length ≤ 5000) := fun h => (decide_eq_false h).symm
  have h5t : l.length ≤ 5000 → true = decide (l.length ≤ 5000) := fun h => (decide_eq_true h).symm
  have HQ := Aside0.mk hq
  clear h hr hc ho hq
  go_enter Try.func7, Try.ntmps7
  go_wp2_with fail
  refine HM.out.mono ?_; rintro e w1 ⟨s, g, b, rfl, hS, h1, h2, h3, hB1⟩
  have HB1 := Aside0.mk hB1
  clear HM hB1 hS h1 h2 h3
  by_cases h6 : l.length ≤ 5000
  · have h7 := Aside0.mk (h5t h6)
    have H6 := Aside0.mk h6
    clear h6
    go_wp2_with fail
    refine (HF.out _ (Kd.C_below HC.out HB1.out) true h7.out).mono ?_; rintro e w4 ⟨rfl, hB4⟩
    have HB4 := Aside0.mk (Aid.bthen HB1.out hB4)
    clear HB1 hB4 HF h5t h5f h7
    have hq := HQ.out; have h6 := H6.out; clear HQ H6
    by_cases q1 : ls.length ≤ 20
    · have q1' : (ls.length : Int) ≤ 20 := by omega
      by_cases q2 : 2 ≤ ls.length
      · have q2' : (2 : Int) ≤ (ls.length : Int) := by omega
        by_cases q3 : 1 ≤ f
        · have q3' : (1 : Int) ≤ (f : Int) := by omega
          have q4' : (1099511627776 : Int) < (f : Int) := by rcases Nat.lt_or_ge 1099511627776 f with h | h; omega; exact absurd ⟨h6, q1, q2, q3, h⟩ hq
          clear hq q1 q2 q3 h6
          go_wp2_with fail
          refine (alive _).mono ?_; rintro e w90 ⟨rfl, hB90⟩
          have HB90 := Aside0.mk (Aid.bthen HB4.out hB90)
          clear hB90 HB4
          go_wp2_with fail
          go_ret
          exact ⟨rfl, HB90.out⟩
        · have q3' : (f : Int) < 1 := by omega
          clear hq q1 q2 q3 h6
          go_wp2_with fail
          refine (alive _).mono ?_; rintro e w90 ⟨rfl, hB90⟩
          have HB90 := Aside0.mk (Aid.bthen HB4.out hB90)
          clear hB90 HB4
          go_wp2_with fail
          go_ret
          exact ⟨rfl, HB90.out⟩
      · have q2' : (ls.length : Int) < 2 := by omega
        clear hq q1 q2 h6
        go_wp2_with fail
        refine (alive _).mono ?_; rintro e w90 ⟨rfl, hB90⟩
        have HB90 := Aside0.mk (Aid.bthen HB4.out hB90)
        clear hB90 HB4
        go_wp2_with fail
        go_ret
        exact ⟨rfl, HB90.out⟩
    · have q1' : (20 : Int) < (ls.length : Int) := by omega
      clear hq q1 h6
      go_wp2_with fail
      refine (alive _).mono ?_; rintro e w90 ⟨rfl, hB90⟩
      have HB90 := Aside0.mk (Aid.bthen HB4.out hB90)
      clear hB90 HB4
      go_wp2_with fail
      go_ret
      exact ⟨rfl, HB90.out⟩
  · have h7 := Aside0.mk (h5f h6)
    clear HQ h6 h5t h5f
    go_wp2_with fail
    refine (HF.out _ (Kd.C_below HC.out HB1.out) false h7.out).mono ?_; rintro e w4 ⟨rfl, hB4⟩
    have HB4 := Aside0.mk (Aid.bthen HB1.out hB4)
    clear HB1 hB4 HF
    go_wp2_with fail
    refine (alive _).mono ?_; rintro e w90 ⟨rfl, hB90⟩
    have HB90 := Aside0.mk (Aid.bthen HB4.out hB90)
    clear hB90 HB4
    go_wp2_with fail
    go_ret
    exact ⟨rfl, HB90.out⟩
theorem SlotsTurn.yes (A : Option Addr) (c : Nat) (l : List Int) (a1 : Addr) (c1 : Nat) (ls : List (List Int)) (f : Nat) (w : World) (hr : Kd.C (Kd.int .u8) w A l.length l) (hc : l.length ≤ c) (h : good l) (ho : Crc.okb l = true) (hr1 : Kd.C KRow w (some a1) ls.length ls) (hc1 : ls.length ≤ c1) (hox : ∀ x ∈ ls, Crc.okb x = true)
    (h5 : l.length ≤ 5000) (h20 : ls.length ≤ 20) (h2l : 2 ≤ ls.length) (hf1 : 1 ≤ f) (hf2 : f ≤ 1099511627776) :
    Calls Try.prog 7 #[.slice A l.length c, .slice (some a1) ls.length c1, .int .u64 (f : Int)] w fun e w' => e = .returned (.bool true) ∧ Below w.heap.size w w' := by
  have HM := Aside0.mk (Made.some A c l w hr hc h ho)
  obtain ⟨n, hn1, hn2, hn3, hn4⟩ := good_n h
  rw [hn4] at HM
  have HC := Aside0.mk hr; have HL := Aside0.mk hr1
  have HF := Aside0.mk (fun W h => FewNil A c l W h hc true (decide_eq_true h5).symm)
  have HT0 := Aside0.mk (show Turn n f ls 0 ⟨l, 0, false, 0⟩ from ⟨rfl, by unfold St.ok; simp, hn1, fun i _ e => by omega, fun i _ e => by omega, fun i _ e => by omega⟩)
  have HG := Aside0.mk (show 3 ≤ n / 2 ∧ f ≠ 0 ∧ ls.length ≤ 20 ∧ f ≤ 1099511627776 ∧ room n ≤ 2048 ∧ 2 ≤ ls.length from ⟨hn3, by omega, h20, hf2, by unfold room; omega, h2l⟩)
  have HO := Aside0.mk hox
  have q1' : (ls.length : Int) ≤ 20 := by omega
  have q2' : (2 : Int) ≤ (ls.length : Int) := by omega
  have q3' : (1 : Int) ≤ (f : Int) := by omega
  have q4' : (f : Int) ≤ 1099511627776 := by omega
  clear hr hr1 hc h ho hc1 hox h5 h20 h2l hf1 hf2 hn1 hn2 hn3 hn4
  go_enter Try.func7, Try.ntmps7
  go_wp2_with fail
  refine HM.out.mono ?_; rintro e w1 ⟨s, g, b, rfl, hS, h1, h2, h3, hB1⟩
  have HB1 := Aside0.mk hB1; have HS1 := Aside0.mk hS; have HGB := Aside0.mk (show w.heap.size ≤ g ∧ w.heap.size ≤ b from ⟨h2, h3⟩)
  clear HM hB1 hS h1 h2 h3
  go_wp2_with fail
  refine (HF.out _ (Kd.C_below HC.out HB1.out)).mono ?_; rintro e w4 ⟨rfl, hB4⟩
  have HB4 := Aside0.mk (Aid.bthen HB1.out hB4); have HS4 := Aside0.mk (HS1.out.below hB4)
  clear HB1 hB4 HS1 HF
  go_wp2_with fail
  clear q1' q2' q3' q4'
  go_loopg [56] (ls.length + 1) (fun kq v56 w' => ∃ (j : Nat) (T : St), v56 = .int .i64 (j : Int) ∧ Aside0 (kq + j = ls.length + 1 ∧ j ≤ ls.length) ∧ Aside0 (StAt w' s g b n T) ∧ Aside0 (Turn n f ls j T) ∧ Aside0 (Below w.heap.size w w'))
  case atStart => exact ⟨0, _, rfl, ⟨by omega, by omega⟩, HS4, HT0, HB4⟩
  case round =>
    clear HS4 HT0 HB4
    obtain ⟨j, T, rfl, HK, HS, HT, HB⟩ := hrel
    cases gk with
    | zero => exact absurd HK.out (by omega)
    | succ k1 =>
      by_cases hj : j < ls.length
      · have c14 : decide ((j : Int) < (ls.length : Int)) = true := decide_eq_true (by omega)
        have p0 : (0 : Int) ≤ (j : Int) := by omega
        have q0 : (j : Int) < (ls.length : Int) := by omega
        obtain ⟨A5, c5, x0, hc5, hC5⟩ := at_row HL.out j hj
        have HD := Aside0.mk (HO.out _ (List.getElem_mem hj))
        obtain ⟨o, ho⟩ : ∃ o, o = ls[j] := ⟨_, rfl⟩
        rw [← ho] at x0 hc5 hC5 HD
        have HOJ := Aside0.mk ho; clear ho
        replace x0 := (HB.out.cell (World.block_lt_of_cell? w _ x0)).trans x0
        have HC5 := Aside0.mk hC5; have HCC := Aside0.mk hc5; clear hC5 hc5
        have ej : IntKind.i64.wrap ((j : Int) + 1) = ((j + 1 : Nat) : Int) := by rw [IntKind.wrap_i64]; have := HK.out; have := HG.out; omega
        have eu : IntKind.u64.wrap (j : Int) = (j : Int) := wu64 _ (by omega) (by have := HG.out; omega)
        have ea : IntKind.u64.wrap ((f : Int) + (j : Int)) = ((f + j : Nat) : Int) := (wu64 _ (by omega) (by have := HG.out; omega)).trans (by omega)
        by_cases hq : o.length ≤ room n
        · have hq' : decide (room n < o.length) = false := decide_eq_false (by omega)
          have HST := Aside0.mk (HT.out.step hj HG.out.1 HG.out.2.1 (by have := HG.out; omega) (by rw [← HOJ.out]; exact hq) (by rw [← HOJ.out]; exact HD.out))
          rw [← HOJ.out] at HST
          have HOK := Aside0.mk (St.ok_le HT.out.ok (d' := 900000) (by have := HG.out; omega))
          clear hq HT
          go_wp2_with fail
          refine (Room HS.out).mono ?_; rintro e w6 ⟨rfl, hd6⟩
          have HB6 := Aside0.mk (Aid.bthen HB.out hd6.below); have HS6 := Aside0.mk (HS.out.below hd6.below)
          clear hd6 HS HB x0
          go_wp2_with fail
          refine (SaveL _ (f + j) (by omega) _ c5 o rfl A5 HS6.out (by have := HG.out; omega) (Kd.C_below HC5.out HB6.out) HCC.out HD.out HOK.out).mono ?_; rintro e w7 ⟨rfl, hS7, hO7⟩
          rw [HST.out.1]
          have HS7 := Aside0.mk hS7; have HT7 := Aside0.mk HST.out.2
          have HB7 := Aside0.mk (HB6.out.trans (hO7.low _ HGB.out.1 HGB.out.2 HB6.out.size))
          clear hS7 hO7 HB6 HS6 HST HOK HC5 HCC HD HOJ
          go_wp2_with fail
          go_roundg k1
          case measure => omega
          case rel => exact ⟨j + 1, _, by first | (simp; done) | rw [ej], ⟨by have := HK.out; omega, by omega⟩, HS7, HT7, HB7⟩
        · have hq' : decide (room n < o.length) = true := decide_eq_true (by omega)
          clear hq ej eu ea
          go_wp2_with fail
          refine (Room HS.out).mono ?_; rintro e w6 ⟨rfl, hd6⟩
          have HB6 := Aside0.mk (Aid.bthen HB.out hd6.below)
          clear hd6 HS HB x0
          go_wp2_with fail
          refine (alive _).mono ?_; rintro e w90 ⟨rfl, hB90⟩
          have HB90 := Aside0.mk (Aid.bthen HB6.out hB90)
          clear hB90 HB6
          go_wp2_with fail
          go_ret
          exact ⟨rfl, HB90.out⟩
      · have c14 : decide ((j : Int) < (ls.length : Int)) = false := decide_eq_false (by omega)
        have ej : j = ls.length := by have := HK.out; omega
        subst ej
        obtain ⟨m, hm⟩ : ∃ m, ls.length = m + 2 := ⟨ls.length - 2, by have := HG.out; omega⟩
        have HLN := Aside0.mk (show ls.length = m + 2 ∧ m ≤ 18 ∧ f ≤ 1099511627776 ∧ f ≠ 0 from ⟨hm, by have := HG.out; omega, HG.out.2.2.2.1, HG.out.2.1⟩)
        obtain ⟨Ax, cx, x0, hcx, hCx⟩ := at_row HL.out (m + 1) (by omega)
        obtain ⟨Ay, cy, y0, hcy, hCy⟩ := at_row HL.out m (by omega)
        have z1 := HT.out.one (m + 1) (by omega) hm
        have z2 := HT.out.two m (by omega) hm
        obtain ⟨p, hp⟩ : ∃ p, p = ls[m + 1] := ⟨_, rfl⟩
        obtain ⟨q, hq⟩ : ∃ q, q = ls[m] := ⟨_, rfl⟩
        rw [← hp] at x0 hcx hCx z1
        rw [← hq] at y0 hcy hCy z2
        have hlp : p.length ≤ 100000 := by have := HT.out.fit (m + 1) (by omega) (by omega); rw [hp]; have := HG.out; omega
        have hlq : q.length ≤ 100000 := by have := HT.out.fit m (by omega) (by omega); rw [hq]; have := HG.out; omega
        obtain ⟨Lt, hLt⟩ : ∃ Lt : Int, Lt = (f : Int) + (ls.length : Int) - 1 := ⟨_, rfl⟩
        have e1 : ((f + (m + 1) : Nat) : Int) = Lt := by omega
        have e2 : ((f + m : Nat) : Int) = Lt - 1 := by omega
        have e3 : (((f + (m + 1)) % 2 : Nat) : Int) = Lt % 2 := by omega
        have e4 : (((f + m) % 2 : Nat) : Int) = (Lt - 1) % 2 := by omega
        rw [e1, e3] at z1
        rw [e2, e4] at z2
        have z3 : lastOf n T.db = (Lt, p, 0) := by
          rw [lastOf_ref]
          rcases (show Lt % 2 = 0 ∧ (Lt - 1) % 2 = 1 ∨ Lt % 2 = 1 ∧ (Lt - 1) % 2 = 0 by omega) with ⟨d1, d2⟩ | ⟨d1, d2⟩
          · rw [d1] at z1; rw [d2] at z2; rw [z1, z2]
            simp
            intro h; exfalso; omega
          · rw [d1] at z1; rw [d2] at z2; rw [z1, z2]
            rw [if_pos ⟨rfl, .inr (by show Lt - 1 < Lt; omega)⟩]
        have HX := Aside0.mk (show p.length ≤ cx ∧ q.length ≤ cy ∧ p.length ≤ 100000 ∧ q.length ≤ 100000 from ⟨hcx, hcy, hlp, hlq⟩)
        have HCX := Aside0.mk hCx; have HCY := Aside0.mk hCy; have HLT := Aside0.mk hLt
        have HZ := Aside0.mk (show _ ∧ _ ∧ _ from ⟨z1, z2, z3⟩)
        have HLB := Aside0.mk (show 1 ≤ Lt ∧ Lt ≤ 1099511627796 by omega)
        have X0 := Aside0.mk x0; have Y0 := Aside0.mk y0
        clear HK hm hp hq hlp hlq e1 e2 e3 e4 z1 z2 z3 hcx hcy hCx hCy HT hLt x0 y0
        go_wp2_with fail
        rw [← HLT.out]
        refine (Slot HS.out (Lt % 2)).mono ?_; intro e w7 h7
        rw [HZ.out.1] at h7
        obtain ⟨A7, c7, rfl, hc7, hC7, hB7⟩ := told_r h7
        have HC7 := Aside0.mk hC7; have HB7 := Aside0.mk (Aid.bthen HB.out hB7); have HS7 := Aside0.mk (HS.out.below hB7)
        clear h7 hC7 hB7 HS HB
        have e5 : IntKind.u64.wrap (Lt - 1) = Lt - 1 := wu64 _ (by have := HLB.out; omega) (by have := HLB.out; omega)
        have e6 : wrap64 ((Lt - 1).tmod 2) = (Lt - 1) % 2 := by rw [Int.tmod_eq_emod_of_nonneg (by have := HLB.out; omega)]; exact sw64 _ (by omega) (by omega)
        go_wp2_with fail
        rw [e6]
        refine (Slot HS7.out ((Lt - 1) % 2)).mono ?_; intro e w8 h8
        rw [HZ.out.2.1] at h8
        obtain ⟨A8, c8, rfl, hc8, hC8, hB8⟩ := told_r h8
        have HC8 := Aside0.mk hC8; have HB8 := Aside0.mk (Aid.bthen HB7.out hB8); have HS8 := Aside0.mk (HS7.out.below hB8)
        have HC7b := Aside0.mk (Kd.C_below HC7.out hB8)
        clear h8 hC8 hB8 HS7 HB7 HC7
        go_wp2_with fail
        refine (Last HS8.out).mono ?_; intro e w9 h9
        rw [HZ.out.2.2] at h9
        obtain ⟨A9, c9, rfl, hc9, hC9, hB9⟩ := told_l h9
        have HC9 := Aside0.mk hC9; have HB9 := Aside0.mk (Aid.bthen HB8.out hB9)
        have HC7c := Aside0.mk (Kd.C_below HC7b.out hB9); have HC8c := Aside0.mk (Kd.C_below HC8.out hB9)
        clear h9 hC9 hB9 HS8 HB8 HC8 HC7b
        go_wp2_with fail
        refine (alive _).mono ?_; rintro e w10 ⟨rfl, hB10⟩
        have HB10 := Aside0.mk (Aid.bthen HB9.out hB10)
        have HC9d := Aside0.mk (Kd.C_below HC9.out hB10); have HC7d := Aside0.mk (Kd.C_below HC7c.out hB10); have HC8d := Aside0.mk (Kd.C_below HC8c.out hB10)
        clear hB10 HB9 HC7c HC8c HC9
        have x1 := (HB10.out.cell (World.block_lt_of_cell? w _ X0.out)).trans X0.out
        have y1 := (HB10.out.cell (World.block_lt_of_cell? w _ Y0.out)).trans Y0.out
        rw [show m + 1 = ls.length - 1 by have := HLN.out; omega] at x1
        rw [show m = ls.length - 2 by have := HLN.out; omega] at y1
        have e7 : Int.toNat ((ls.length : Int) - 2) = ls.length - 2 := by omega
        have r1 : (2 : Int) ≤ (ls.length : Int) := by have := HLN.out; omega
        have r2 : (ls.length : Int) ≤ 20 := by have := HLN.out; omega
        clear X0 Y0
        go_wp2_with fail
        refine (SameRows A7 p.length c7 Ax p.length cx p _ rfl rfl HC7d.out hc7 (Kd.C_below HCX.out HB10.out) HX.out.1 HX.out.2.2.1).mono ?_; rintro e w11 ⟨rfl, hd11⟩
        have hB11 := hd11.below
        have HB11 := Aside0.mk (Aid.bthen HB10.out hB11)
        have HC9e := Aside0.mk (Kd.C_below HC9d.out hB11); have HC7e := Aside0.mk (Kd.C_below HC7d.out hB11); have HC8e := Aside0.mk (Kd.C_below HC8d.out hB11)
        replace y1 := (hB11.cell (World.block_lt_of_cell? _ _ y1)).trans y1
        clear hd11 hB11 HB10 HC9d HC7d HC8d x1
        go_wp2_with fail
        refine (SameRows A8 q.length c8 Ay q.length cy q _ rfl rfl HC8e.out hc8 (Kd.C_below HCY.out HB11.out) HX.out.2.1 HX.out.2.2.2).mono ?_; rintro e w12 ⟨rfl, hd12⟩
        have hB12 := hd12.below
        have HB12 := Aside0.mk (Aid.bthen HB11.out hB12)
        have HC9f := Aside0.mk (Kd.C_below HC9e.out hB12); have HC7f := Aside0.mk (Kd.C_below HC7e.out hB12)
        clear hd12 hB12 HB11 HC9e HC7e HC8e y1
        go_wp2_with fail
        refine (SameRows A9 p.length c9 A7 p.length c7 p _ rfl rfl HC9f.out hc9 HC7f.out hc7 HX.out.2.2.1).mono ?_; rintro e w13 ⟨rfl, hd13⟩
        have HB13 := Aside0.mk (Aid.bthen HB12.out hd13.below)
        clear hd13 HB12 HC9f HC7f
        go_wp2_with fail
        go_ret
        exact ⟨rfl, HB13.out⟩
theorem SlotsTurn (A : Option Addr) (c : Nat) (l : List Int) (A1 : Option Addr) (c1 : Nat) (ls : List (List Int)) (a : Int) (w : World) (hr : Kd.C (Kd.int .u8) w A l.length l) (hc : l.length ≤ c) (ho : Crc.okb l = true)
    (hr1 : Kd.C KRow w A1 ls.length ls) (hc1 : ls.length ≤ c1) (hox : ∀ x ∈ ls, Crc.okb x = true) (ha : 0 ≤ a) :
    Calls Try.prog 7 #[.slice A l.length c, .slice A1 ls.length c1, .int .u64 a] w fun e w' => e = .returned (.bool true) ∧ Below w.heap.size w w' := by
  obtain ⟨f, rfl⟩ : ∃ f : Nat, a = (f : Int) := ⟨a.toNat, by omega⟩
  by_cases h : good l
  · by_cases hq : l.length ≤ 5000 ∧ ls.length ≤ 20 ∧ 2 ≤ ls.length ∧ 1 ≤ f ∧ f ≤ 1099511627776
    · obtain ⟨a1, rfl⟩ : ∃ a1, A1 = some a1 := by
        obtain ⟨y, h', _⟩ := hr1.2.2 (by omega)
        exact ⟨y, h'⟩
      exact SlotsTurn.yes A c l a1 c1 ls f w hr hc h ho hr1 hc1 hox hq.1 hq.2.1 hq.2.2.1 hq.2.2.2.1 hq.2.2.2.2
    · exact SlotsTurn.many A c l A1 c1 ls f w hr hc h ho hq
  · exact SlotsTurn.no A c l A1 c1 ls f w hr hc h
end Slots
end Disk
end Go.Proofs.Ytbjjpckldjjcgaa
