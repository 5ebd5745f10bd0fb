/- The law SlotsTorn: its walk. -/
import Derived.Test.YtbjjpckldjjcgaaSN0
namespace Go.Proofs.Ytbjjpckldjjcgaa
open Go.RowKit Go.Proofs.YtbjjpckldjjcgaaW.PrintWords Go.Proofs.YtbjjpckldjjcgaaW.PrintLast Go.Proofs.YtbjjpckldjjcgaaW.PrintMore Go.Proofs.Ytbjjpckldjjcgaa.PK
set_option linter.unusedVariables false
set_option linter.unusedSimpArgs false
set_option maxHeartbeats 4000000
set_option maxRecDepth 100000
namespace Disk
namespace Slots
theorem SlotsTorn.many (x : Int) (A1 : Option Addr) (c1 : Nat) (ls : List (List Int)) (a : Int) (w : World) (hq : ¬ (ls.length ≤ 20 ∧ 6 ≤ x ∧ x ≤ 200 ∧ 0 ≤ a)) :
    Calls Try.prog 3 #[.int .i64 x, .slice A1 ls.length c1, .int .i64 a] w fun e w' => e = .returned (.bool true) ∧ Below w.heap.size w w' := by
  have HQ := Aside0.mk hq
  have HB := Aside0.mk (Below.refl w.heap.size w)
  clear hq
  go_enter Try.func3, Try.ntmps3
  by_cases q1 : ls.length ≤ 20
  · have q1' : (ls.length : Int) ≤ 20 := by omega
    by_cases q2 : 6 ≤ x
    · by_cases q3 : x ≤ 200
      · have q4 : a < 0 := by rcases Int.lt_or_le a 0 with h | h; exact h; exact absurd ⟨q1, q2, q3, h⟩ HQ.out
        clear HQ q1
        go_wp2_with fail
        refine (alive _).mono ?_; rintro e w90 ⟨rfl, hB90⟩
        have HB90 := Aside0.mk (Aid.bthen HB.out hB90)
        clear hB90 HB
        go_wp2_with fail
        go_ret
        exact ⟨rfl, HB90.out⟩
      · have q3' : 200 < x := by omega
        clear HQ q1 q3
        go_wp2_with fail
        refine (alive _).mono ?_; rintro e w90 ⟨rfl, hB90⟩
        have HB90 := Aside0.mk (Aid.bthen HB.out hB90)
        clear hB90 HB
        go_wp2_with fail
        go_ret
        exact ⟨rfl, HB90.out⟩
    · have q2' : x < 6 := by omega
      clear HQ q1 q2
      go_wp2_with fail
      refine (alive _).mono ?_; rintro e w90 ⟨rfl, hB90⟩
      have HB90 := Aside0.mk (Aid.bthen HB.out hB90)
      clear hB90 HB
      go_wp2_with fail
      go_ret
      exact ⟨rfl, HB90.out⟩
  · have q1' : (20 : Int) < (ls.length : Int) := by omega
    clear HQ q1
    go_wp2_with fail
    refine (alive _).mono ?_; rintro e w90 ⟨rfl, hB90⟩
    have HB90 := Aside0.mk (Aid.bthen HB.out hB90)
    clear hB90 HB
    go_wp2_with fail
    go_ret
    exact ⟨rfl, HB90.out⟩
/-- How the last save ended: whole, or cut. -/
def Ended (n : Nat) (ls : List (List Int)) (k : Nat) (mw N : Nat) (db : List Int) : Prop :=
  (mw ≤ k ∧ N = ls.length ∨ k < mw ∧ N + 1 = ls.length) ∧ lastOf n db = lastVal ls N
theorem SlotsTorn.yes (n : Nat) (A1 : Option Addr) (c1 : Nat) (ls : List (List Int)) (k : Nat) (w : World) (hr1 : Kd.C KRow w A1 ls.length ls) (hc1 : ls.length ≤ c1) (hox : ∀ x ∈ ls, Crc.okb x = true)
    (h20 : ls.length ≤ 20) (h6 : 6 ≤ n) (h200 : n ≤ 200) (hk : k ≤ 9223372036854775807) :
    Calls Try.prog 3 #[.int .i64 (n : Int), .slice A1 ls.length c1, .int .i64 (k : Int)] w fun e w' => e = .returned (.bool true) ∧ Below w.heap.size w w' := by
  have HM := Aside0.mk (Disk.New.ok n w (by omega) (by omega))
  have HL : Aside0 (∀ ad, A1 = some ad → Kd.C KRow w (some ad) ls.length ls) := ⟨fun ad e => by rw [← e]; exact hr1⟩
  have HAD : Aside0 (0 < ls.length → ∃ ad, A1 = some ad) := ⟨fun h => by obtain ⟨y, h', _⟩ := hr1.2.2 h; exact ⟨y, h'⟩⟩
  have HG := Aside0.mk (show 3 ≤ n / 2 ∧ ls.length ≤ 20 ∧ room n ≤ 2048 ∧ n ≤ 200 ∧ k ≤ 9223372036854775807 from ⟨by omega, h20, by unfold room; omega, h200, hk⟩)
  have HO := Aside0.mk hox
  have HT0 := Aside0.mk (Torn.start n ls)
  have HZ0 : Aside0 (Crc.okb (List.replicate (16 * n) 0) = true) := ⟨(Crc.okb_iff _).2 (fun x hx => by rw [List.mem_replicate] at hx; rw [hx.2]; decide)⟩
  have q1 : (ls.length : Int) ≤ 20 := by omega
  have q2 : (6 : Int) ≤ (n : Int) := by omega
  have q3 : (n : Int) ≤ 200 := by omega
  have q4 : (0 : Int) ≤ (k : Int) := by omega
  clear hr1 hc1 hox h20 h6 h200 hk
  go_enter Try.func3, Try.ntmps3
  go_wp2_with fail
  refine HM.out.mono ?_; rintro e w1 ⟨g, b, rfl, hA, h2, h3, hB1⟩
  have HB1 := Aside0.mk hB1; have HA1 := Aside0.mk (show AtS w1 g b n ⟨List.replicate (16 * n) 0, 0, false, 0⟩ from hA); have HGB := Aside0.mk (show w.heap.size ≤ g ∧ w.heap.size ≤ b from ⟨h2, h3⟩)
  clear HM hB1 hA h2 h3
  go_wp2_with fail
  refine (New.ok HA1.out HG.out.1 HZ0.out).mono ?_; rintro e w2 ⟨s, rfl, hs, hS, hB2⟩
  have HB2 := Aside0.mk (Aid.bthen HB1.out hB2); have HS2 := Aside0.mk hS
  clear hB2 hs hS HB1 HA1
  go_wp2_with fail
  clear q1 q2 q3 q4
  go_loopg [11, 56] (ls.length + 1) (fun kq v11 v56 w' => ∃ (j N : Nat) (T : St), v11 = .int .u64 (N : Int) ∧ v56 = .int .i64 (j : Int) ∧ Aside0 (kq + j = ls.length + 1 ∧ j ≤ ls.length ∧ N ≤ j) ∧ Aside0 (StAt w' s g b n T) ∧ Aside0 (∀ i (h : i < ls.length), i < j → ls[i].length ≤ room n) ∧
      Aside0 ((j < ls.length ∨ j = 0) → N = j ∧ T.cut = false ∧ T.ok (200 * j) ∧ Torn n ls j T.db) ∧ Aside0 (∀ i (h : i < ls.length), j = i + 1 → j = ls.length → Ended n ls k (2 + (ls[i].length + 15) / 16) N T.db) ∧ Aside0 (Below w.heap.size w w'))
  case atStart => exact ⟨0, 0, _, rfl, rfl, ⟨by omega, by omega, by omega⟩, HS2, ⟨fun i _ h => absurd h (by omega)⟩, ⟨fun _ => ⟨rfl, rfl, by unfold St.ok; simp, HT0.out⟩⟩, ⟨fun i _ h => by omega⟩, HB2⟩
  case round =>
    clear HS2 HT0 HB2 HZ0
    obtain ⟨j, N, T, rfl, rfl, HK, HS, HFT, HT, HE, HB⟩ := hrel
    cases gk with
    | zero => exact absurd HK.out (by omega)
    | succ k1 =>
      by_cases hj : j < ls.length
      · have c14 : decide ((j : Int) < (ls.length : Int)) = true := decide_eq_true (by omega)
        have p0 : (0 : Int) ≤ (j : Int) := by omega
        have q0 : (j : Int) < (ls.length : Int) := by omega
        obtain ⟨a1, rfl⟩ := HAD.out (by omega)
        obtain ⟨A5, c5, x0, hc5, hC5⟩ := at_row (HL.out a1 rfl) j hj
        have HD := Aside0.mk (HO.out _ (List.getElem_mem hj))
        obtain ⟨hN, hTc, hTk, hTT⟩ := HT.out (.inl hj)
        subst hN
        obtain ⟨o, ho⟩ : ∃ o, o = ls[N] := ⟨_, rfl⟩
        rw [← ho] at x0 hc5 hC5 HD
        have HOJ := Aside0.mk ho; clear ho
        replace x0 := (HB.out.cell (World.block_lt_of_cell? w _ x0)).trans x0
        have HC5 := Aside0.mk hC5; have HCC := Aside0.mk hc5; have HTT := Aside0.mk hTT; have HTC := Aside0.mk hTc; have HTK := Aside0.mk hTk; clear hC5 hc5 hTT hTc hTk HT HE
        have ej : IntKind.i64.wrap ((N : Int) + 1) = ((N + 1 : Nat) : Int) := by rw [IntKind.wrap_i64]; have := HK.out; have := HG.out; omega
        by_cases hq : o.length ≤ room n
        · have hq' : decide (room n < o.length) = false := decide_eq_false (by omega)
          have HFQ := Aside0.mk hq
          clear hq
          by_cases hl : N + 1 = ls.length
          · have hl' : ((N : Int) == (ls.length : Int) - 1) = true := by simp; omega
            have HLL := Aside0.mk hl
            clear hl
            go_wp2_with fail
            refine (Room HS.out).mono ?_; rintro e w6 ⟨rfl, hd6⟩
            have HB6 := Aside0.mk (Aid.bthen HB.out hd6.below); have HS6 := Aside0.mk (HS.out.below hd6.below)
            clear hd6 HS HB x0
            go_wp2_with fail
            refine (Cut HS6.out.at_ (k : Int)).mono ?_; rintro e w7 ⟨rfl, hA7, hO7⟩
            have HS7 : Aside0 (StAt w7 s g b n (St.cutAt T (k : Int))) := ⟨HS6.out.only hO7 hA7 HS6.out.ob⟩
            have HB7 := Aside0.mk (HB6.out.trans (hO7.low _ HGB.out.1 HGB.out.2 HB6.out.size))
            clear hA7 hO7 HS6 HB6
            have hk0 : (St.cutAt T (k : Int)).left = (k : Int) := by show max 0 (k : Int) = _; omega
            have HOK : Aside0 ((St.cutAt T (k : Int)).ok 900000) := ⟨by
              have hk := HTK.out
              have hkk := HG.out.2.2.2.2
              have hll := HG.out.2.1
              unfold St.ok at *
              obtain ⟨k1, k2, k3, k4⟩ := hk
              exact ⟨by show _ ≤ T.many; omega, by show T.many ≤ _; omega, by rw [hk0]; omega, by rw [hk0]; omega⟩⟩
            have HFN : Aside0 (∀ i (h : i < ls.length), i < N + 1 → ls[i].length ≤ room n) := ⟨fun i h h1 => by
              rcases Nat.lt_or_ge i N with h2 | h2
              · exact HFT.out i h h2
              · have e : i = N := by omega
                subst e
                rw [← HOJ.out]; exact HFQ.out⟩
            clear hl'
            by_cases hw : 2 + (o.length + 15) / 16 ≤ k
            · have hso := save_ok (s := St.cutAt T (k : Int)) (n := n) (num := N + 1) (data := o) (by omega) HG.out.1 HFQ.out (fun _ => by rw [hk0]; omega)
              have hst := HTT.out.step hj HG.out.1 (by have := HG.out; omega) (by rw [← HOJ.out]; exact HFQ.out) (by rw [← HOJ.out]; exact HD.out)
              rw [← HOJ.out] at hst
              obtain ⟨T2, hT2⟩ : ∃ T2, T2 = (save n (St.cutAt T (k : Int)) (N + 1) o).2 := ⟨_, rfl⟩
              have HST := Aside0.mk (show (save n (St.cutAt T (k : Int)) (N + 1) o).1 = 0 ∧ T2 = (save n (St.cutAt T (k : Int)) (N + 1) o).2 ∧ (∀ i (h : i < ls.length), N + 1 = i + 1 → N + 1 = ls.length → Ended n ls k (2 + (ls[i].length + 15) / 16) (N + 1) T2.db) from ⟨by rw [hso], hT2, fun i h e1 e2 => by
                have e : N = i := by omega
                subst e
                rw [← HOJ.out]
                exact ⟨.inl ⟨hw, e2⟩, by rw [hT2, hso]; exact hst.last (by omega)⟩⟩)
              clear hso hst hT2 hk0 hw
              go_wp2_with fail
              refine (SaveL _ (N + 1) (by omega) _ c5 o rfl A5 HS7.out (by have := HG.out; omega) (Kd.C_below HC5.out HB7.out) HCC.out HD.out HOK.out).mono ?_; rintro e w8 ⟨rfl, hS8, hO8⟩
              rw [← HST.out.2.1] at hS8
              rw [HST.out.1]
              have HS8 := Aside0.mk hS8
              have HB8 := Aside0.mk (HB7.out.trans (hO8.low _ HGB.out.1 HGB.out.2 HB7.out.size))
              clear hS8 hO8 HB7 HS7 HOK HC5 HCC HD HOJ HTT HTC HTK HFT HFQ
              go_wp2_with fail
              go_roundg k1
              case measure => omega
              case rel => exact ⟨N + 1, N + 1, T2, by (simp; done), by first | (simp; done) | rw [ej], ⟨by have := HK.out; omega, by omega, by omega⟩, HS8, HFN, ⟨fun h => by have := HLL.out; omega⟩, ⟨HST.out.2.2⟩, HB8⟩
            · have hso := save_cut (s := St.cutAt T (k : Int)) (a := k) (n := n) (num := N + 1) (data := o) (by omega) HG.out.1 HFQ.out rfl hk0 (by omega)
              have hst := HTT.out.torn (a := k) hj HG.out.1 (by have := HG.out; omega) (by rw [← HOJ.out]; exact HFQ.out) (by rw [← HOJ.out]; omega)
              rw [← HOJ.out] at hst
              obtain ⟨T2, hT2⟩ : ∃ T2, T2 = (save n (St.cutAt T (k : Int)) (N + 1) o).2 := ⟨_, rfl⟩
              have HST := Aside0.mk (show (save n (St.cutAt T (k : Int)) (N + 1) o).1 = 170 ∧ T2 = (save n (St.cutAt T (k : Int)) (N + 1) o).2 ∧ (∀ i (h : i < ls.length), N + 1 = i + 1 → N + 1 = ls.length → Ended n ls k (2 + (ls[i].length + 15) / 16) N T2.db) from ⟨by rw [hso], hT2, fun i h e1 e2 => by
                have e : N = i := by omega
                subst e
                rw [← HOJ.out]
                exact ⟨.inr ⟨by omega, e2⟩, by rw [hT2, hso]; exact hst⟩⟩)
              clear hso hst hT2 hk0 hw
              go_wp2_with fail
              refine (SaveL _ (N + 1) (by omega) _ c5 o rfl A5 HS7.out (by have := HG.out; omega) (Kd.C_below HC5.out HB7.out) HCC.out HD.out HOK.out).mono ?_; rintro e w8 ⟨rfl, hS8, hO8⟩
              rw [← HST.out.2.1] at hS8
              rw [HST.out.1]
              have HS8 := Aside0.mk hS8
              have HB8 := Aside0.mk (HB7.out.trans (hO8.low _ HGB.out.1 HGB.out.2 HB7.out.size))
              clear hS8 hO8 HB7 HS7 HOK HC5 HCC HD HOJ HTT HTC HTK HFT HFQ
              go_wp2_with fail
              go_roundg k1
              case measure => omega
              case rel => exact ⟨N + 1, N, T2, rfl, by first | (simp; done) | rw [ej], ⟨by have := HK.out; omega, by omega, by omega⟩, HS8, HFN, ⟨fun h => by have := HLL.out; omega⟩, ⟨HST.out.2.2⟩, HB8⟩
          · have hl' : ((N : Int) == (ls.length : Int) - 1) = false := by simp; omega
            have HLL := Aside0.mk hl
            have HOK := Aside0.mk (St.ok_le HTK.out (d' := 900000) (by have := HG.out; omega))
            have hso := save_ok (s := T) (n := n) (num := N + 1) (data := o) (by omega) HG.out.1 HFQ.out (fun e => by rw [HTC.out] at e; cases e)
            have hst := HTT.out.step hj HG.out.1 (by have := HG.out; omega) (by rw [← HOJ.out]; exact HFQ.out) (by rw [← HOJ.out]; exact HD.out)
            rw [← HOJ.out] at hst
            obtain ⟨T2, hT2⟩ : ∃ T2, T2 = (save n T (N + 1) o).2 := ⟨_, rfl⟩
            have HST := Aside0.mk (show (save n T (N + 1) o).1 = 0 ∧ T2 = (save n T (N + 1) o).2 ∧ T2.cut = false ∧ T2.ok (200 * (N + 1)) ∧ Torn n ls (N + 1) T2.db from ⟨by rw [hso], hT2, by rw [hT2, hso]; exact HTC.out, by
              have hk := HTK.out
              have h8 : o.length ≤ 2048 := Nat.le_trans HFQ.out HG.out.2.2.1
              rw [hT2, hso]
              unfold St.ok at *
              obtain ⟨k1, k2, k3, k4⟩ := hk
              refine ⟨?_, ?_, ?_, ?_⟩
              · show _ ≤ T.many + _; omega
              · show T.many + _ ≤ _; omega
              · show _ ≤ T.left - _; omega
              · show T.left - _ ≤ _; omega, by rw [hT2, hso]; exact hst⟩)
            clear hso hst hT2 hl
            go_wp2_with fail
            refine (Room HS.out).mono ?_; rintro e w6 ⟨rfl, hd6⟩
            have HB6 := Aside0.mk (Aid.bthen HB.out hd6.below); have HS6 := Aside0.mk (HS.out.below hd6.below)
            clear hd6 HS HB x0
            go_wp2_with fail
            refine (SaveL _ (N + 1) (by omega) _ c5 o rfl A5 HS6.out (by have := HG.out; omega) (Kd.C_below HC5.out HB6.out) HCC.out HD.out HOK.out).mono ?_; rintro e w8 ⟨rfl, hS8, hO8⟩
            rw [← HST.out.2.1] at hS8
            rw [HST.out.1]
            have HS8 := Aside0.mk hS8
            have HB8 := Aside0.mk (HB6.out.trans (hO8.low _ HGB.out.1 HGB.out.2 HB6.out.size))
            have HFN : Aside0 (∀ i (h : i < ls.length), i < N + 1 → ls[i].length ≤ room n) := ⟨fun i h h1 => by
              rcases Nat.lt_or_ge i N with h2 | h2
              · exact HFT.out i h h2
              · have e : i = N := by omega
                subst e
                rw [← HOJ.out]; exact HFQ.out⟩
            clear hS8 hO8 HB6 HS6 HOK HC5 HCC HD HOJ HTT HTC HTK HFT HFQ
            go_wp2_with fail
            go_roundg k1
            case measure => omega
            case rel => exact ⟨N + 1, N + 1, T2, by (simp; done), by first | (simp; done) | rw [ej], ⟨by have := HK.out; omega, by omega, by omega⟩, HS8, HFN, ⟨fun _ => ⟨rfl, HST.out.2.2.1, HST.out.2.2.2.1, HST.out.2.2.2.2⟩⟩, ⟨fun i h e1 e2 => absurd e2 HLL.out⟩, HB8⟩
        · have hq' : decide (room n < o.length) = true := decide_eq_true (by omega)
          clear hq ej
          go_wp2_with fail
          refine (Room HS.out).mono ?_; rintro e w6 ⟨rfl, hd6⟩
          have HB6 := Aside0.mk (Aid.bthen HB.out hd6.below)
          clear hd6 HS HB x0
          go_wp2_with fail
          refine (alive _).mono ?_; rintro e w90 ⟨rfl, hB90⟩
          have HB90 := Aside0.mk (Aid.bthen HB6.out hB90)
          clear hB90 HB6
          go_wp2_with fail
          go_ret
          exact ⟨rfl, HB90.out⟩
      · have c14 : decide ((j : Int) < (ls.length : Int)) = false := decide_eq_false (by omega)
        have ej : j = ls.length := by have := HK.out; omega
        subst ej
        have hNl : N ≤ ls.length := by have := HK.out; omega
        clear HK HT
        by_cases h0 : ls.length = 0
        · have e0 : ((ls.length : Int) == 0) = true := by rw [h0]; rfl
          have e0' : (ls.length == 0) = true := by rw [h0]; rfl
          clear HE HFT h0 hNl
          go_wp2_with fail
          refine (alive _).mono ?_; rintro e w90 ⟨rfl, hB90⟩
          have HB90 := Aside0.mk (Aid.bthen HB.out hB90)
          clear hB90 HB
          go_wp2_with fail
          go_ret
          exact ⟨rfl, HB90.out⟩
        · have e0 : ((ls.length : Int) == 0) = false := beq_eq_false_iff_ne.2 (by omega)
          obtain ⟨a1, rfl⟩ := HAD.out (by omega)
          obtain ⟨m, hm⟩ : ∃ m, ls.length = m + 1 := ⟨ls.length - 1, by omega⟩
          obtain ⟨Ax, cx, x0, hcx, hCx⟩ := at_row (HL.out a1 rfl) m (by omega)
          have hend := HE.out m (by omega) hm rfl
          have hfit := HFT.out m (by omega) (by omega)
          obtain ⟨p, hp⟩ : ∃ p, p = ls[m] := ⟨_, rfl⟩
          rw [← hp] at x0 hcx hCx hend hfit
          obtain ⟨mw, hmw⟩ : ∃ mw, mw = 2 + (p.length + 15) / 16 := ⟨_, rfl⟩
          rw [← hmw] at hend
          have HP := Aside0.mk (show p.length ≤ cx ∧ p.length ≤ 100000 ∧ ls.length = m + 1 ∧ m < 20 from ⟨hcx, by have := HG.out; omega, hm, by have := HG.out; omega⟩)
          have HCX := Aside0.mk hCx; have HEND := Aside0.mk hend
          have HRW : Aside0 (∀ W, Kd.C (Kd.int .u8) W Ax p.length p → Calls Try.prog 16 #[.slice Ax p.length cx] W fun e w' => e = .returned (.int .i64 (mw : Int)) ∧ Drawn0 W w') := ⟨fun W h => by rw [hmw]; exact RefWrites Ax cx p W h hcx HP.out.2.1⟩
          rw [show m = ls.length - 1 by omega] at x0
          replace x0 := (HB.out.cell (World.block_lt_of_cell? w _ x0)).trans x0
          have r1 : (1 : Int) ≤ (ls.length : Int) := by omega
          have HNL := Aside0.mk hNl
          clear hcx hCx hend hfit hmw hp HE h0 hNl hm
          go_wp2_with fail
          refine (HRW.out _ (Kd.C_below HCX.out HB.out)).mono ?_; rintro e w3 ⟨rfl, hd3⟩
          have HB3 := Aside0.mk (Aid.bthen HB.out hd3.below); have HS3 := Aside0.mk (HS.out.below hd3.below)
          clear HRW HB HS x0
          go_wp2_with fail
          refine (Last HS3.out).mono ?_; intro e w4 h4
          rw [HEND.out.2] at h4
          by_cases hN : N = 0
          · subst hN
            have hv : lastVal ls 0 = (0, [], 180) := rfl
            rw [hv] at h4
            obtain ⟨A4, c4, rfl, hc4, hC4, hB4⟩ := told_l h4
            have HB4 := Aside0.mk (Aid.bthen HB3.out hB4)
            have hw : decide (mw ≤ k) = false := decide_eq_false (by rcases HEND.out.1 with h | h; have := HP.out; omega; omega)
            clear h4 hC4 hB4 HS3 HB3 HCX hv
            go_wp2_with fail
            refine (alive _).mono ?_; rintro e w90 ⟨rfl, hB90⟩
            have HB90 := Aside0.mk (Aid.bthen HB4.out hB90)
            clear hB90 HB4
            go_wp2_with fail
            go_ret
            exact ⟨rfl, HB90.out⟩
          · have hNi : N - 1 < ls.length := by have := HNL.out; omega
            obtain ⟨Ay, cy, y0, hcy, hCy⟩ := at_row (HL.out a1 rfl) (N - 1) hNi
            have hfq := HFT.out (N - 1) hNi hNi
            have hv : lastVal ls N = ((N : Int), ls[N - 1], 0) := by unfold lastVal; rw [if_neg hN]; simp [List.getD_eq_getElem?_getD, List.getElem?_eq_getElem hNi]
            rw [hv] at h4
            obtain ⟨q, hq⟩ : ∃ q, q = ls[N - 1] := ⟨_, rfl⟩
            rw [← hq] at y0 hcy hCy hfq h4
            obtain ⟨A4, c4, rfl, hc4, hC4, hB4⟩ := told_l h4
            have HB4 := Aside0.mk (Aid.bthen HB3.out hB4); have HC4 := Aside0.mk hC4
            have HQ := Aside0.mk (show q.length ≤ cy ∧ q.length ≤ 100000 from ⟨hcy, by have := HG.out; omega⟩)
            have HCY := Aside0.mk hCy; have Y0 := Aside0.mk y0
            have hw : (decide (mw ≤ k) = true ∧ N = ls.length) ∨ (decide (mw ≤ k) = false ∧ N ≠ ls.length) := by
              rcases HEND.out.1 with h | h
              · exact .inl ⟨decide_eq_true h.1, h.2⟩
              · exact .inr ⟨decide_eq_false (by omega), by omega⟩
            have e1 : ((N : Int) == 0) = false := by simp; omega
            have HNN := Aside0.mk (show 1 ≤ N by omega)
            clear h4 hC4 hB4 HS3 HB3 HCX hv hq hfq hcy hCy y0 hN hNi HEND
            have e2 : (N == ls.length) = decide (mw ≤ k) := by
              rcases hw with ⟨h1, h2⟩ | ⟨h1, h2⟩
              · rw [h1]; simpa using h2
              · rw [h1]; simpa using h2
            have e3 : ((N : Int) == (ls.length : Int)) = decide (mw ≤ k) := by
              rw [← e2]
              by_cases h : N = ls.length
              · rw [beq_iff_eq.2 h, beq_iff_eq.2 (show (N : Int) = (ls.length : Int) by omega)]
              · rw [beq_eq_false_iff_ne.2 h, beq_eq_false_iff_ne.2 (show (N : Int) ≠ (ls.length : Int) by omega)]
            clear hw
            go_wp2_with fail
            refine (alive _).mono ?_; rintro e w90 ⟨rfl, hB90⟩
            have HB90 := Aside0.mk (Aid.bthen HB4.out hB90); have HC90 := Aside0.mk (Kd.C_below HC4.out hB90)
            clear hB90 HB4 HC4
            have y1 := (HB90.out.cell (World.block_lt_of_cell? w _ Y0.out)).trans Y0.out
            have r2 : (1 : Int) ≤ (N : Int) := by have := HNN.out; omega
            have r3 : (N : Int) ≤ (ls.length : Int) := by have := HNL.out; omega
            clear Y0
            go_wp2_with fail
            refine (SameRows A4 q.length c4 Ay q.length cy q _ rfl rfl HC90.out hc4 (Kd.C_below HCY.out HB90.out) HQ.out.1 HQ.out.2).mono ?_; rintro e w91 ⟨rfl, hd91⟩
            have HB91 := Aside0.mk (Aid.bthen HB90.out hd91.below)
            clear hd91 HB90 HC90 y1
            go_wp2_with fail
            go_ret
            exact ⟨rfl, HB91.out⟩
theorem SlotsTorn (x : Int) (A1 : Option Addr) (c1 : Nat) (ls : List (List Int)) (a : Int) (w : World) (hr1 : Kd.C KRow w A1 ls.length ls) (hc1 : ls.length ≤ c1) (hox : ∀ x ∈ ls, Crc.okb x = true) (ha : a ≤ 9223372036854775807) :
    Calls Try.prog 3 #[.int .i64 x, .slice A1 ls.length c1, .int .i64 a] w fun e w' => e = .returned (.bool true) ∧ Below w.heap.size w w' := by
  by_cases hq : ls.length ≤ 20 ∧ 6 ≤ x ∧ x ≤ 200 ∧ 0 ≤ a
  · obtain ⟨n, rfl⟩ : ∃ n : Nat, x = (n : Int) := ⟨x.toNat, by omega⟩
    obtain ⟨k, rfl⟩ : ∃ k : Nat, a = (k : Int) := ⟨a.toNat, by omega⟩
    exact SlotsTorn.yes n A1 c1 ls k w hr1 hc1 hox hq.1 (by omega) (by omega) (by omega)
  · exact SlotsTorn.many x A1 c1 ls a w hq
end Slots
end Disk
end Go.Proofs.Ytbjjpckldjjcgaa
