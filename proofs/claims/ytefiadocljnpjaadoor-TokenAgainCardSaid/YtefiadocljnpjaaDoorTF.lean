/- token.Print (layer 5), walked by hand, with strings.ContainsFunc at its closure. -/
import Derived.Test.YtefiadocljnpjaaDoorTC
import Derived.Test.YtefiadocljnpjaaDoorTE
import Derived.Test.YtefiadocljnpjaaDoorTO
namespace Go.Proofs.YtefiadocljnpjaaDoor.Row
open Go.Proofs.Tree Go.RowKit Go.Proofs.YtefiadocljnpjaaDoorW.PrintWords Go.Proofs.YtefiadocljnpjaaDoorW.PrintLast Go.Proofs.YtefiadocljnpjaaDoorW.PrintMore Go.Proofs.YtefiadocljnpjaaDoor.PK
set_option linter.unusedVariables false
set_option linter.unusedSimpArgs false
set_option maxHeartbeats 4000000
set_option maxRecDepth 100000
theorem Other (b : Int) (x : Bool) (hx : isL b = !x) (w : World) : Calls Tryd.prog 66 #[.int .i32 b] w fun e w' => e = .returned (.bool x) ∧ Below w.heap.size w w' := by
  have HX := Aside0.mk hx
  clear hx
  cases x with
  | true =>
    go_enter Tryd.func66, Tryd.ntmps66
    go_wp2_with fail
    refine (token_letter.calls b false _ (by rw [token_letter_some, HX.out]; rfl)).mono ?_; rintro e w2 ⟨rfl, hd⟩
    go_wp2_with fail
    go_ret
    exact ⟨rfl, hd.below⟩
  | false =>
    go_enter Tryd.func66, Tryd.ntmps66
    go_wp2_with fail
    refine (token_letter.calls b true _ (by rw [token_letter_some, HX.out]; rfl)).mono ?_; rintro e w2 ⟨rfl, hd⟩
    go_wp2_with fail
    go_ret
    exact ⟨rfl, hd.below⟩
/-- indexFunc at the closure: the first place q that is no letter, or -1. -/
theorem indexFunc (s : ByteArray) (q : Nat) (r : Int) (hs : s.size ≤ 1000000) (hq : q ≤ s.size) (hl : ∀ p : Nat, p < q → isL (bt s (p : Int)) = true) (hr : (q < s.size ∧ isL (bt s (q : Int)) = false ∧ r = (q : Int)) ∨ (q = s.size ∧ r = -1)) (w : World) :
    Calls Tryd.prog 103 #[.string s, .func (.func 66) #[] #[], .bool true] w fun e w' => e = .returned (.int .i64 r) ∧ Below w.heap.size w w' := by
  obtain ⟨k, hk⟩ : ∃ k, k = w.heap.size := ⟨_, rfl⟩
  have H0 := Aside0.mk (show (w.iter s 0).heap[k]? = some (.stringIter s 0) ∧ Below w.heap.size w (w.iter s 0) from ⟨by rw [hk]; exact World.iter_heap w s 0, below_alloc (Below.refl _ _) _⟩)
  have HK := Aside0.mk (Nat.le_of_eq hk.symm)
  have HQ := Aside0.mk (And.intro hs hq)
  have HL := Aside0.mk hl
  have HR := Aside0.mk hr
  clear hs hq hl hr
  go_enter Tryd.func103, Tryd.ntmps103
  go_wp2_with fail
  rw [← hk]
  clear hk
  go_loopg [7, 8] (s.size + 2) (fun kq v7 v8 W => ∃ (p : Nat), Aside0 (kq + p = s.size + 2 ∧ p ≤ q) ∧ Aside0 (W.heap[k]? = some (.stringIter s p) ∧ Below w.heap.size w W))
  case atStart => exact ⟨0, ⟨by omega, by omega⟩, H0⟩
  case round =>
    clear H0
    obtain ⟨p, HP, HI⟩ := hrel
    cases gk with
    | zero => exact absurd HP.out (by have := HQ.out; omega)
    | succ k1 =>
      by_cases hp : p < s.size
      · have HPS := Aside0.mk hp
        have hb := bt_nat s p hp
        by_cases hpq : p < q
        · have hlt : isL (bt s (p : Int)) = true := HL.out p hpq
          have ha : (s[p]'hp).toNat < 128 := by
            rw [hb] at hlt
            unfold isL at hlt
            simp only [Bool.and_eq_true, decide_eq_true_eq] at hlt
            omega
          have hnx : ∀ ty, (Instr.next (.pointer (some ⟨k, 0, none⟩)) true ty).run Tryd.prog wr = _ := fun ty => Lib.run_next_ascii_at wr k s p ty HI.out.1 hp ha
          obtain ⟨b, eb⟩ : ∃ b : Nat, b = (s[p]'hp).toNat := ⟨_, rfl⟩
          simp only [← eb] at hnx hb
          have HB := Aside0.mk (show isL (b : Int) = true by rw [← hb]; exact hlt)
          have HPQ := Aside0.mk hpq
          obtain ⟨w1, hw1⟩ : ∃ w1, w1 = wr.iterAt k s (p + 1) := ⟨_, rfl⟩
          rw [← hw1] at hnx
          have H1 := Aside0.mk (show w1.heap[k]? = some (.stringIter s (p + 1)) ∧ Below w.heap.size w w1 by rw [hw1]; exact ⟨Lib.iterAt_heap wr k s p (p + 1) HI.out.1, Lib.below_iterAt HI.out.2 HK.out s (p + 1)⟩)
          clear hw1 HI eb ha hlt hb hp hpq
          go_wp2_with (first | (go_at_call 66; refine (Other (b : Int) false (by rw [HB.out]; rfl) _).mono ?_; rintro e w2 ⟨rfl, hb2⟩))
          go_roundg k1
          case measure => omega
          case rel => exact ⟨p + 1, ⟨by have := HP.out; omega, by have := HPQ.out; omega⟩, ⟨(hb2.block k (Array.getElem?_eq_some_iff.1 H1.out.1).1).trans H1.out.1, Aid_bthen H1.out.2 hb2⟩⟩
        · have e : p = q := by have := HP.out; omega
          subst e
          obtain ⟨h1, h2, rfl⟩ : p < s.size ∧ isL (bt s (p : Int)) = false ∧ r = (p : Int) := by
            rcases HR.out with h | h
            · exact h
            · exact absurd h.1 (by omega)
          have hnx : ∀ ty, (Instr.next (.pointer (some ⟨k, 0, none⟩)) true ty).run Tryd.prog wr = _ := fun ty => Lib.run_next_any_at wr k s p ty HI.out.1 hp
          have hB0 : isL (((Utf8.decode s p).1 : Nat) : Int) = false := by
            by_cases ha : (s[p]'hp).toNat < 128
            · have e1 : (Utf8.decode s p).1 = (s[p]'hp).toNat := by
                have := decode_ascii s p hp ha
                rw [this]
              rw [e1, ← hb]; exact h2
            · have := decode_high s p hp (by omega)
              unfold isL
              rw [decide_eq_false (show ¬ (((Utf8.decode s p).1 : Nat) : Int) ≤ 122 by omega), Bool.and_false]
          obtain ⟨b, eb⟩ : ∃ b : Nat, b = (Utf8.decode s p).1 := ⟨_, rfl⟩
          obtain ⟨d, ed⟩ : ∃ d : Nat, d = (Utf8.decode s p).2 := ⟨_, rfl⟩
          simp only [← eb, ← ed] at hnx hB0
          have HB := Aside0.mk hB0
          obtain ⟨w1, hw1⟩ : ∃ w1, w1 = wr.iterAt k s (p + d) := ⟨_, rfl⟩
          rw [← hw1] at hnx
          have H1 := Aside0.mk (show Below w.heap.size w w1 by rw [hw1]; exact Lib.below_iterAt HI.out.2 HK.out s (p + d))
          clear hw1 HI eb ed hB0 hb hp hpq h1 h2
          go_wp2_with (first | (go_at_call 66; refine (Other (b : Int) true (by rw [HB.out]; rfl) _).mono ?_; rintro e w2 ⟨rfl, hb2⟩))
          (try rw [Exit.noGoto_ret])
          go_ret
          exact ⟨rfl, Aid_bthen H1.out hb2⟩
      · have hnx : ∀ ty, (Instr.next (.pointer (some ⟨k, 0, none⟩)) true ty).run Tryd.prog wr = _ := fun ty => Lib.run_next_end_at wr k s p ty HI.out.1 hp
        obtain rfl : r = -1 := by
          rcases HR.out with h | h
          · exact absurd h.1 (by have := HP.out; omega)
          · exact h.2
        have HPS := Aside0.mk hp
        clear hp
        go_wp2_with fail
        (try rw [Exit.noGoto_ret])
        go_ret
        exact ⟨rfl, HI.out.2⟩
/-- strings.ContainsFunc at the closure. -/
theorem CFunc (s : ByteArray) (x : Bool) (hs : s.size ≤ 1000000) (hx : x = !decide (∀ p : Nat, p < s.size → isL (bt s (p : Int)) = true)) (w : World) :
    Calls Tryd.prog 67 #[.string s, .func (.func 66) #[] #[]] w fun e w' => e = .returned (.bool x) ∧ Below w.heap.size w w' := by
  obtain ⟨q, h1, h2, h3, h4⟩ := run_end s _ 0 (Nat.le_refl _) (Nat.zero_le _)
  have key : ∀ (r : Int), ((q < s.size ∧ isL (bt s (q : Int)) = false ∧ r = (q : Int)) ∨ (q = s.size ∧ r = -1)) → ∀ W, Calls Tryd.prog 88 #[.string s, .func (.func 66) #[] #[]] W fun e w' => e = .returned (.int .i64 r) ∧ Below W.heap.size W w' := by
    intro r hr W
    have HC := Aside0.mk (fun W => indexFunc s q r hs h2 (fun p hp => h3 p (Nat.zero_le _) hp) hr W)
    clear hr h1 h2 h3 h4 hs hx
    go_enter Tryd.func88, Tryd.ntmps88
    go_wp2_with fail
    refine (HC.out _).mono ?_; rintro e w2 ⟨rfl, hb2⟩
    go_wp2_with fail
    go_ret
    exact ⟨rfl, hb2⟩
  by_cases hq : q < s.size
  · have e : x = true := by
      rw [hx, decide_eq_false (fun h => by have := h q hq; rw [h4 hq] at this; exact absurd this (by decide))]; rfl
    subst e
    have HC := Aside0.mk (key (q : Int) (.inl ⟨hq, h4 hq, rfl⟩))
    have c1 : decide ((q : Int) ≥ 0) = true := decide_eq_true (by omega)
    have c2 : decide ((0 : Int) ≤ (q : Int)) = true := decide_eq_true (by omega)
    clear hx h1 h2 h3 h4 hs key hq
    go_enter Tryd.func67, Tryd.ntmps67
    go_wp2_with fail
    refine (HC.out _).mono ?_; rintro e w2 ⟨rfl, hb2⟩
    go_wp2_with fail
    go_ret
    exact ⟨rfl, hb2⟩
  · have e : x = false := by
      rw [hx, decide_eq_true (fun p hp => h3 p (Nat.zero_le _) (by omega))]; rfl
    subst e
    have HC := Aside0.mk (key (-1) (.inr ⟨by omega, rfl⟩))
    clear hx h1 h2 h3 h4 hs key hq
    go_enter Tryd.func67, Tryd.ntmps67
    go_wp2_with fail
    refine (HC.out _).mono ?_; rintro e w2 ⟨rfl, hb2⟩
    go_wp2_with fail
    go_ret
    exact ⟨rfl, hb2⟩
/-- A token in a block of its own. -/
theorem box37 (k at_ : Int) (n : ByteArray) (w : World) : ∃ (x : Nat) (wr : World), x = w.heap.size ∧ wr = w.alloc (.cells #[.int .i64 k, .int .i64 at_, .string n] 37) ∧ wr.cell? ⟨x, 0, none⟩ = some (.int .i64 k) ∧ wr.cell? ⟨x, 1, none⟩ = some (.int .i64 at_) ∧ wr.cell? ⟨x, 2, none⟩ = some (.string n) ∧ Below w.heap.size w wr := by
  have h := heap_new w (.cells #[.int .i64 k, .int .i64 at_, .string n] 37)
  refine ⟨_, _, rfl, rfl, ?_, ?_, ?_, below_alloc (Below.refl _ _) _⟩
  · rw [cell_of_row _ _ _ _ _ _ h]; rfl
  · rw [cell_of_row _ _ _ _ _ _ h]; rfl
  · rw [cell_of_row _ _ _ _ _ _ h]; rfl
theorem Print (k at_ : Int) (n : ByteArray) (u : ByteArray) (b : Bool) (hs : n.size ≤ 1000000) (h : tprint k n = (u, b)) (w : World) :
    Calls Tryd.prog 26 #[.agg #[.int .i64 k, .int .i64 at_, .string n]] w fun e w' => e = .returned (.tuple #[.string u, .bool b]) ∧ Below w.heap.size w w' := by
  have HS := Aside0.mk hs
  have hlen : n.size ≤ 9223372036854775807 := by omega
  obtain ⟨x, wr, hx, hw, z0, z1, z2, hB⟩ := box37 k at_ n w
  have HB := Aside0.mk hB
  have HX := Aside0.mk hx
  have HW := Aside0.mk hw
  clear hs hB hx hw
  by_cases h10 : k = 10
  · subst h10
    have e0 : tprint 10 n = if decide (Nam n) = true then (n, true) else (⟨#[]⟩, false) := by unfold tprint; rw [if_pos rfl]
    rw [e0] at h
    by_cases hz : n.size = 0
    · obtain rfl := ba_empty n hz
      rw [if_neg (by decide)] at h
      cases h
      clear hz e0 hlen
      go_enter Tryd.func26, Tryd.ntmps26
      go_upto_region 1 with fail
      rw [← HW.out, ← HX.out]
      go_wp2_with fail
      go_ret2
      exact ⟨rfl, HB.out⟩
    · have c1 : n.toList.isEmpty = false := by rw [isEmpty_size]; exact decide_eq_false hz
      by_cases h8 : n.size ≤ 8
      · have d1 : decide ((n.size : Int) > 8) = false := decide_eq_false (by omega)
        have d2 : decide (8 < n.size) = false := decide_eq_false (by omega)
        have d3 : decide ((8 : Int) < (n.size : Int)) = false := decide_eq_false (by omega)
        by_cases hl : ∀ p : Nat, p < n.size → isL (bt n (p : Int)) = true
        · rw [if_pos (decide_eq_true (show Nam n from ⟨by omega, h8, hl⟩))] at h
          cases h
          have HC := Aside0.mk (fun W => CFunc n false HS.out (by rw [decide_eq_true hl]; rfl) W)
          clear hz h8 hl e0
          go_enter Tryd.func26, Tryd.ntmps26
          go_upto_region 1 with fail
          rw [← HW.out, ← HX.out]
          go_wp2_with fail
          refine (HC.out _).mono ?_; rintro e w2 ⟨rfl, hb2⟩
          have z2' := (hb2.cell (World.block_lt_of_cell? wr _ z2)).trans z2
          have HB2 := Aside0.mk (Aid_bthen HB.out hb2)
          clear hb2
          go_wp2_with fail
          go_ret2
          exact ⟨rfl, HB2.out⟩
        · rw [if_neg (fun e => hl (of_decide_eq_true e).2.2)] at h
          cases h
          have HC := Aside0.mk (fun W => CFunc n true HS.out (by rw [decide_eq_false hl]; rfl) W)
          clear hz h8 hl e0
          go_enter Tryd.func26, Tryd.ntmps26
          go_upto_region 1 with fail
          rw [← HW.out, ← HX.out]
          go_wp2_with fail
          refine (HC.out _).mono ?_; rintro e w2 ⟨rfl, hb2⟩
          have HB2 := Aside0.mk (Aid_bthen HB.out hb2)
          clear hb2
          go_wp2_with fail
          go_ret2
          exact ⟨rfl, HB2.out⟩
      · have d1 : decide ((n.size : Int) > 8) = true := decide_eq_true (by omega)
        have d2 : decide (8 < n.size) = true := decide_eq_true (by omega)
        have d3 : decide ((8 : Int) < (n.size : Int)) = true := decide_eq_true (by omega)
        rw [if_neg (fun e => h8 (of_decide_eq_true e).2.1)] at h
        cases h
        clear hz h8 e0
        go_enter Tryd.func26, Tryd.ntmps26
        go_upto_region 1 with fail
        rw [← HW.out, ← HX.out]
        go_wp2_with fail
        go_ret2
        exact ⟨rfl, HB.out⟩
  · have c0 : (k == 10) = false := beq_eq_false_iff_ne.2 h10
    have e0 : tprint k n = if k < 1 then (⟨#[]⟩, false) else if k > 9 then (⟨#[]⟩, false) else if n.toList = [] then (signsB.extract (k - 1).toNat k.toNat, true) else (⟨#[]⟩, false) := by unfold tprint; rw [if_neg h10]
    rw [e0] at h
    clear h10 e0
    by_cases h1 : k < 1
    · have d1 : decide (k < 1) = true := decide_eq_true h1
      rw [if_pos h1] at h
      cases h
      clear h1
      go_enter Tryd.func26, Tryd.ntmps26
      go_upto_region 1 with fail
      rw [← HW.out, ← HX.out]
      go_wp2_with fail
      go_ret2
      exact ⟨rfl, HB.out⟩
    · have d1 : decide (k < 1) = false := decide_eq_false h1
      rw [if_neg h1] at h
      by_cases h9 : k > 9
      · have d2 : decide (k > 9) = true := decide_eq_true h9
        have d3 : decide (9 < k) = true := decide_eq_true h9
        rw [if_pos h9] at h
        cases h
        clear h1 h9
        go_enter Tryd.func26, Tryd.ntmps26
        go_upto_region 1 with fail
        rw [← HW.out, ← HX.out]
        go_wp2_with fail
        go_ret2
        exact ⟨rfl, HB.out⟩
      · have d2 : decide (k > 9) = false := decide_eq_false h9
        have d3 : decide (9 < k) = false := decide_eq_false h9
        rw [if_neg h9] at h
        by_cases hn : n.toList = []
        · rw [if_pos hn] at h
          obtain rfl := ba_empty n ((toList_nil n).1 hn)
          cases h
          have k1 : wrap64 (k - 1) = k - 1 := by unfold wrap64; omega
          have k2 : IntKind.i64.wrap (k - 1) = k - 1 := (i64_w _).trans k1
          have k3 : ((0 : Int) ≤ k - 1) = True := eq_true (by omega)
          have k3' : ((1 : Int) ≤ k) = True := eq_true (by omega)
          have k4 : (k - 1 ≤ k) = True := eq_true (by omega)
          have k5 : (k ≤ 9) = True := eq_true (by omega)
          have k6 : ((0 : Int) ≤ k) = True := eq_true (by omega)
          have HK := Aside0.mk (show (k - 1).toNat = k.toNat - 1 by omega)
          clear h1 h9 hn hlen
          go_enter Tryd.func26, Tryd.ntmps26
          go_upto_region 1 with fail
          rw [← HW.out, ← HX.out]
          go_wp2_with fail
          go_ret2
          rw [HK.out]
          exact ⟨rfl, HB.out⟩
        · rw [if_neg hn] at h
          cases h
          have c1 : n.toList.isEmpty = false := by rw [isEmpty_size]; exact decide_eq_false (fun e => hn ((toList_nil n).2 e))
          clear h1 h9 hn
          go_enter Tryd.func26, Tryd.ntmps26
          go_upto_region 1 with fail
          rw [← HW.out, ← HX.out]
          go_wp2_with fail
          go_ret2
          exact ⟨rfl, HB.out⟩
end Go.Proofs.YtefiadocljnpjaaDoor.Row
