/- strings.IndexRune at the signs and a rune that is no ASCII. -/
import Derived.Test.YtefiadocljnpjaaDoorTB
import Derived.WalkMore
namespace Go.Proofs.YtefiadocljnpjaaDoor.Row
open Go.Proofs.Tree Go.RowKit Go.Proofs.YtefiadocljnpjaaDoorW.PrintWords Go.Proofs.YtefiadocljnpjaaDoorW.PrintLast Go.Proofs.YtefiadocljnpjaaDoorW.PrintMore Go.Proofs.YtefiadocljnpjaaDoor.PK
set_option linter.unusedVariables false
set_option linter.unusedSimpArgs false
set_option maxHeartbeats 4000000
set_option maxRecDepth 100000
def vr (r : Nat) : Bool := decide (r < 55296) || (decide (57343 < r) && decide (r ≤ 1114111))
theorem ValidRune (r : Nat) (w : World) : Calls Tryd.prog 85 #[.int .i32 (r : Int)] w fun e w' => e = .returned (.bool (vr r)) ∧ w' = w := by
  have c1 : decide ((0 : Int) ≤ (r : Int)) = true := decide_eq_true (by omega)
  by_cases h1 : r < 55296
  · have c2 : decide ((r : Int) < 55296) = true := decide_eq_true (by omega)
    have c3 : decide (r < 55296) = true := decide_eq_true h1
    have e : vr r = true := by unfold vr; rw [c3]; rfl
    rw [e]
    clear h1 e
    go_enter Tryd.func85, Tryd.ntmps85
    go_wp2_with fail
    (try rw [Exit.noGoto_ret])
    go_ret
    exact ⟨rfl, rfl⟩
  · have c2 : decide ((r : Int) < 55296) = false := decide_eq_false (by omega)
    have c3 : decide (r < 55296) = false := decide_eq_false h1
    by_cases h2 : 57343 < r
    · have c4 : decide ((57343 : Int) < (r : Int)) = true := decide_eq_true (by omega)
      have c5 : decide (57343 < r) = true := decide_eq_true h2
      by_cases h3 : r ≤ 1114111
      · have c6 : decide ((r : Int) ≤ 1114111) = true := decide_eq_true (by omega)
        have c7 : decide (r ≤ 1114111) = true := decide_eq_true h3
        have e : vr r = true := by unfold vr; rw [c3, c5, c7]; rfl
        rw [e]
        clear h1 h2 h3 e
        go_enter Tryd.func85, Tryd.ntmps85
        go_wp2_with fail
        (try rw [Exit.noGoto_ret])
        go_ret
        exact ⟨rfl, rfl⟩
      · have c6 : decide ((r : Int) ≤ 1114111) = false := decide_eq_false (by omega)
        have c7 : decide (r ≤ 1114111) = false := decide_eq_false h3
        have e : vr r = false := by unfold vr; rw [c3, c5, c7]; rfl
        rw [e]
        clear h1 h2 h3 e
        go_enter Tryd.func85, Tryd.ntmps85
        go_wp2_with fail
        (try rw [Exit.noGoto_ret])
        go_ret
        exact ⟨rfl, rfl⟩
    · have c4 : decide ((57343 : Int) < (r : Int)) = false := decide_eq_false (by omega)
      have c5 : decide (57343 < r) = false := decide_eq_false h2
      have e : vr r = false := by unfold vr; rw [c3, c5]; rfl
      rw [e]
      clear h1 h2 e
      go_enter Tryd.func85, Tryd.ntmps85
      go_wp2_with fail
      (try rw [Exit.noGoto_ret])
      go_ret
      exact ⟨rfl, rfl⟩
theorem IndexRune_err (w : World) : Calls Tryd.prog 63 #[.string signsB, .int .i32 65533] w fun e w' => e = .returned (.int .i64 (-1)) ∧ Below w.heap.size w w' := by
  obtain ⟨k, hk⟩ : ∃ k, k = w.heap.size := ⟨_, rfl⟩
  have H0 := Aside0.mk (show (w.iter signsB 0).heap[k]? = some (.stringIter signsB 0) ∧ Below w.heap.size w (w.iter signsB 0) from ⟨by rw [hk]; exact World.iter_heap w signsB 0, below_alloc (Below.refl _ _) _⟩)
  have HK := Aside0.mk (Nat.le_of_eq hk.symm)
  go_enter Tryd.func63, Tryd.ntmps63
  go_wp2_with fail
  rw [← hk]
  clear hk
  go_loopg [5, 6] 11 (fun kq v5 v6 W => ∃ (p : Nat), Aside0 (kq + p = 11 ∧ p ≤ 9) ∧ Aside0 (W.heap[k]? = some (.stringIter signsB p) ∧ Below w.heap.size w W))
  case atStart => exact ⟨0, ⟨by omega, by omega⟩, H0⟩
  case round =>
    clear H0
    obtain ⟨p, HP, HI⟩ := hrel
    cases gk with
    | zero => exact absurd HP.out (by omega)
    | succ k1 =>
      have hp : p = 0 ∨ p = 1 ∨ p = 2 ∨ p = 3 ∨ p = 4 ∨ p = 5 ∨ p = 6 ∨ p = 7 ∨ p = 8 ∨ p = 9 := by have := HP.out; omega
      rcases hp with rfl | rfl | rfl | rfl | rfl | rfl | rfl | rfl | rfl | rfl
      · have hnx : ∀ ty, (Instr.next (.pointer (some ⟨k, 0, none⟩)) true ty).run Tryd.prog wr = .ok (.tuple #[.bool true, .int .i64 0, .int .i32 40]) (wr.iterAt k signsB 1) := fun ty => Lib.run_next_ascii_at wr k signsB 0 ty HI.out.1 (by decide) (by decide)
        obtain ⟨w1, hw1⟩ : ∃ w1, w1 = wr.iterAt k signsB 1 := ⟨_, rfl⟩
        rw [← hw1] at hnx
        have H1 := Aside0.mk (show w1.heap[k]? = some (.stringIter signsB 1) ∧ Below w.heap.size w w1 by rw [hw1]; exact ⟨Lib.iterAt_heap wr k signsB 0 1 HI.out.1, Lib.below_iterAt HI.out.2 HK.out signsB 1⟩)
        clear hw1 HI
        go_wp2_with fail
        go_roundg k1
        case measure => omega
        case rel => exact ⟨1, ⟨by have := HP.out; omega, by omega⟩, H1⟩
      · have hnx : ∀ ty, (Instr.next (.pointer (some ⟨k, 0, none⟩)) true ty).run Tryd.prog wr = .ok (.tuple #[.bool true, .int .i64 1, .int .i32 41]) (wr.iterAt k signsB 2) := fun ty => Lib.run_next_ascii_at wr k signsB 1 ty HI.out.1 (by decide) (by decide)
        obtain ⟨w1, hw1⟩ : ∃ w1, w1 = wr.iterAt k signsB 2 := ⟨_, rfl⟩
        rw [← hw1] at hnx
        have H1 := Aside0.mk (show w1.heap[k]? = some (.stringIter signsB 2) ∧ Below w.heap.size w w1 by rw [hw1]; exact ⟨Lib.iterAt_heap wr k signsB 1 2 HI.out.1, Lib.below_iterAt HI.out.2 HK.out signsB 2⟩)
        clear hw1 HI
        go_wp2_with fail
        go_roundg k1
        case measure => omega
        case rel => exact ⟨2, ⟨by have := HP.out; omega, by omega⟩, H1⟩
      · have hnx : ∀ ty, (Instr.next (.pointer (some ⟨k, 0, none⟩)) true ty).run Tryd.prog wr = .ok (.tuple #[.bool true, .int .i64 2, .int .i32 91]) (wr.iterAt k signsB 3) := fun ty => Lib.run_next_ascii_at wr k signsB 2 ty HI.out.1 (by decide) (by decide)
        obtain ⟨w1, hw1⟩ : ∃ w1, w1 = wr.iterAt k signsB 3 := ⟨_, rfl⟩
        rw [← hw1] at hnx
        have H1 := Aside0.mk (show w1.heap[k]? = some (.stringIter signsB 3) ∧ Below w.heap.size w w1 by rw [hw1]; exact ⟨Lib.iterAt_heap wr k signsB 2 3 HI.out.1, Lib.below_iterAt HI.out.2 HK.out signsB 3⟩)
        clear hw1 HI
        go_wp2_with fail
        go_roundg k1
        case measure => omega
        case rel => exact ⟨3, ⟨by have := HP.out; omega, by omega⟩, H1⟩
      · have hnx : ∀ ty, (Instr.next (.pointer (some ⟨k, 0, none⟩)) true ty).run Tryd.prog wr = .ok (.tuple #[.bool true, .int .i64 3, .int .i32 93]) (wr.iterAt k signsB 4) := fun ty => Lib.run_next_ascii_at wr k signsB 3 ty HI.out.1 (by decide) (by decide)
        obtain ⟨w1, hw1⟩ : ∃ w1, w1 = wr.iterAt k signsB 4 := ⟨_, rfl⟩
        rw [← hw1] at hnx
        have H1 := Aside0.mk (show w1.heap[k]? = some (.stringIter signsB 4) ∧ Below w.heap.size w w1 by rw [hw1]; exact ⟨Lib.iterAt_heap wr k signsB 3 4 HI.out.1, Lib.below_iterAt HI.out.2 HK.out signsB 4⟩)
        clear hw1 HI
        go_wp2_with fail
        go_roundg k1
        case measure => omega
        case rel => exact ⟨4, ⟨by have := HP.out; omega, by omega⟩, H1⟩
      · have hnx : ∀ ty, (Instr.next (.pointer (some ⟨k, 0, none⟩)) true ty).run Tryd.prog wr = .ok (.tuple #[.bool true, .int .i64 4, .int .i32 59]) (wr.iterAt k signsB 5) := fun ty => Lib.run_next_ascii_at wr k signsB 4 ty HI.out.1 (by decide) (by decide)
        obtain ⟨w1, hw1⟩ : ∃ w1, w1 = wr.iterAt k signsB 5 := ⟨_, rfl⟩
        rw [← hw1] at hnx
        have H1 := Aside0.mk (show w1.heap[k]? = some (.stringIter signsB 5) ∧ Below w.heap.size w w1 by rw [hw1]; exact ⟨Lib.iterAt_heap wr k signsB 4 5 HI.out.1, Lib.below_iterAt HI.out.2 HK.out signsB 5⟩)
        clear hw1 HI
        go_wp2_with fail
        go_roundg k1
        case measure => omega
        case rel => exact ⟨5, ⟨by have := HP.out; omega, by omega⟩, H1⟩
      · have hnx : ∀ ty, (Instr.next (.pointer (some ⟨k, 0, none⟩)) true ty).run Tryd.prog wr = .ok (.tuple #[.bool true, .int .i64 5, .int .i32 43]) (wr.iterAt k signsB 6) := fun ty => Lib.run_next_ascii_at wr k signsB 5 ty HI.out.1 (by decide) (by decide)
        obtain ⟨w1, hw1⟩ : ∃ w1, w1 = wr.iterAt k signsB 6 := ⟨_, rfl⟩
        rw [← hw1] at hnx
        have H1 := Aside0.mk (show w1.heap[k]? = some (.stringIter signsB 6) ∧ Below w.heap.size w w1 by rw [hw1]; exact ⟨Lib.iterAt_heap wr k signsB 5 6 HI.out.1, Lib.below_iterAt HI.out.2 HK.out signsB 6⟩)
        clear hw1 HI
        go_wp2_with fail
        go_roundg k1
        case measure => omega
        case rel => exact ⟨6, ⟨by have := HP.out; omega, by omega⟩, H1⟩
      · have hnx : ∀ ty, (Instr.next (.pointer (some ⟨k, 0, none⟩)) true ty).run Tryd.prog wr = .ok (.tuple #[.bool true, .int .i64 6, .int .i32 124]) (wr.iterAt k signsB 7) := fun ty => Lib.run_next_ascii_at wr k signsB 6 ty HI.out.1 (by decide) (by decide)
        obtain ⟨w1, hw1⟩ : ∃ w1, w1 = wr.iterAt k signsB 7 := ⟨_, rfl⟩
        rw [← hw1] at hnx
        have H1 := Aside0.mk (show w1.heap[k]? = some (.stringIter signsB 7) ∧ Below w.heap.size w w1 by rw [hw1]; exact ⟨Lib.iterAt_heap wr k signsB 6 7 HI.out.1, Lib.below_iterAt HI.out.2 HK.out signsB 7⟩)
        clear hw1 HI
        go_wp2_with fail
        go_roundg k1
        case measure => omega
        case rel => exact ⟨7, ⟨by have := HP.out; omega, by omega⟩, H1⟩
      · have hnx : ∀ ty, (Instr.next (.pointer (some ⟨k, 0, none⟩)) true ty).run Tryd.prog wr = .ok (.tuple #[.bool true, .int .i64 7, .int .i32 62]) (wr.iterAt k signsB 8) := fun ty => Lib.run_next_ascii_at wr k signsB 7 ty HI.out.1 (by decide) (by decide)
        obtain ⟨w1, hw1⟩ : ∃ w1, w1 = wr.iterAt k signsB 8 := ⟨_, rfl⟩
        rw [← hw1] at hnx
        have H1 := Aside0.mk (show w1.heap[k]? = some (.stringIter signsB 8) ∧ Below w.heap.size w w1 by rw [hw1]; exact ⟨Lib.iterAt_heap wr k signsB 7 8 HI.out.1, Lib.below_iterAt HI.out.2 HK.out signsB 8⟩)
        clear hw1 HI
        go_wp2_with fail
        go_roundg k1
        case measure => omega
        case rel => exact ⟨8, ⟨by have := HP.out; omega, by omega⟩, H1⟩
      · have hnx : ∀ ty, (Instr.next (.pointer (some ⟨k, 0, none⟩)) true ty).run Tryd.prog wr = .ok (.tuple #[.bool true, .int .i64 8, .int .i32 47]) (wr.iterAt k signsB 9) := fun ty => Lib.run_next_ascii_at wr k signsB 8 ty HI.out.1 (by decide) (by decide)
        obtain ⟨w1, hw1⟩ : ∃ w1, w1 = wr.iterAt k signsB 9 := ⟨_, rfl⟩
        rw [← hw1] at hnx
        have H1 := Aside0.mk (show w1.heap[k]? = some (.stringIter signsB 9) ∧ Below w.heap.size w w1 by rw [hw1]; exact ⟨Lib.iterAt_heap wr k signsB 8 9 HI.out.1, Lib.below_iterAt HI.out.2 HK.out signsB 9⟩)
        clear hw1 HI
        go_wp2_with fail
        go_roundg k1
        case measure => omega
        case rel => exact ⟨9, ⟨by have := HP.out; omega, by omega⟩, H1⟩
      · have hnx : ∀ ty, (Instr.next (.pointer (some ⟨k, 0, none⟩)) true ty).run Tryd.prog wr = _ := fun ty => Lib.run_next_end_at wr k signsB 9 ty HI.out.1 (by decide)
        go_wp2_with fail
        (try rw [Exit.noGoto_ret])
        go_ret
        exact ⟨rfl, HI.out.2⟩
theorem enc_high (r : Nat) (h : 128 ≤ r) : 2 ≤ (Utf8.encode (r : Int)).size ∧ (Utf8.encode (r : Int)).size ≤ 4 ∧ 128 ≤ bt (Utf8.encode (r : Int)) (((Utf8.encode (r : Int)).size - 1 : Nat) : Int) := by
  unfold Utf8.encode
  obtain ⟨c, hc⟩ : ∃ c, c = (if Utf8.valid (r : Int) then (r : Int).toNat else Utf8.runeError) := ⟨_, rfl⟩
  have h128 : 128 ≤ c := by
    rw [hc]; split
    · omega
    · decide
  simp only [← hc]
  have hb : ∀ x : Nat, 128 ≤ ((UInt8.ofNat (128 + x % 64)).toNat : Int) := fun x => by
    rw [UInt8.toNat_ofNat']; omega
  rw [if_neg (by omega)]
  split
  · exact ⟨Nat.le_refl 2, show 2 ≤ 4 by omega, hb _⟩
  · split
    · exact ⟨show 2 ≤ 3 by omega, show 3 ≤ 4 by omega, hb _⟩
    · exact ⟨show 2 ≤ 4 by omega, show 4 ≤ 4 by omega, hb _⟩
theorem IndexRune_brute (r : Nat) (n : Nat) (h : 128 ≤ r) (hv : vr r = true) (he : r ≠ 65533) (hn : (Utf8.encode (r : Int)).size = n + 1) (hn1 : 1 ≤ n) (hn3 : n ≤ 3) (hl : 128 ≤ bt (Utf8.encode (r : Int)) (n : Int)) (w : World) : Calls Tryd.prog 63 #[.string signsB, .int .i32 (r : Int)] w fun e w' => e = .returned (.int .i64 (-1)) ∧ Below w.heap.size w w' := by
  have c1 : decide ((0 : Int) ≤ (r : Int)) = true := decide_eq_true (by omega)
  have c2 : decide ((r : Int) < 128) = false := decide_eq_false (by omega)
  have c3 : decide (r < 128) = false := decide_eq_false (by omega)
  have c4 : ((r : Int) == 65533) = false := beq_eq_false_iff_ne.2 (by omega)
  have HV := Aside0.mk (ValidRune r)
  rw [hv] at HV
  obtain ⟨rs, hrs⟩ : ∃ rs, rs = Utf8.encode (r : Int) := ⟨_, rfl⟩
  rw [← hrs] at hn hl
  have henc : Utf8.encode (r : Int) = rs := hrs.symm
  have hsz : (rs.size : Int) = (n : Int) + 1 := by omega
  have k1 : wrap64 ((n : Int) + 1 - 1) = (n : Int) := by unfold wrap64; omega
  have k2 : wrap64 ((n : Int) + 1) = (n : Int) + 1 := by unfold wrap64; omega
  have k3 : wrap64 (n : Int) = (n : Int) := by unfold wrap64; omega
  have d1 : decide ((n : Int) < 9) = true := decide_eq_true (by omega)
  have d2 : decide (n < 9) = true := decide_eq_true (by omega)
  obtain ⟨x, hx⟩ : ∃ x, x = bt signsB (n : Int) := ⟨_, rfl⟩
  obtain ⟨y, hy⟩ : ∃ y, y = bt rs (n : Int) := ⟨_, rfl⟩
  have hxl : x < 128 := by rw [hx]; have : ∀ m : Fin 9, bt signsB ((m.val : Nat) : Int) < 128 := by decide +kernel
                           exact this ⟨n, by omega⟩
  have hxy : (x != y) = true := bne_iff_ne.2 (by omega)
  have hxy2 : (x == y) = false := beq_eq_false_iff_ne.2 (by omega)
  have hxn : ¬ x = y := by omega
  have p1 : (0 : Int) ≤ (n : Int) := by omega
  have p2 : (n : Int) < 9 := by omega
  have p2' : (n : Int) < (signsB.size : Int) := p2
  have hs9 : signsB.size = 9 := rfl
  have p3 : (n : Int) < (rs.size : Int) := by omega
  have b1 : ∀ h : n < signsB.size, ((signsB[n]'h).toNat : Int) = bt signsB (n : Int) := bt_at signsB (n : Int)
  have b2 : ∀ h : n < rs.size, ((rs[n]'h).toNat : Int) = bt rs (n : Int) := bt_at rs (n : Int)
  have m1 : n < signsB.size := by omega
  have m2 : n < rs.size := by omega
  replace m1 := eq_true m1
  replace m2 := eq_true m2
  rw [← hx] at b1
  rw [← hy] at b2
  replace p1 := eq_true p1
  replace p2 := eq_true p2
  replace p2' := eq_true p2'
  replace p3 := eq_true p3
  have HI := Aside0.mk (show Lib.indexByte (signsB.extract (n + 1) signsB.size).data.toList y.toNat.toUInt8 = -1 from by
    have key : ∀ m : Fin 9, ∀ y : Fin 256, 128 ≤ y.val → Lib.indexByte (signsB.extract (m.val + 1) 9).data.toList (((y.val : Nat) : Int)).toNat.toUInt8 = -1 := by decide +kernel
    have hyb : 0 ≤ y ∧ y < 256 := by rw [hy]; have := bt_range rs (n : Int); omega
    have := key ⟨n, by omega⟩ ⟨y.toNat, by omega⟩ (show 128 ≤ y.toNat by omega)
    rw [show (((y.toNat : Nat) : Int)) = y from Int.toNat_of_nonneg hyb.1] at this
    exact this)
  clear hs9 hrs hn hl h hv he hx hy hxl hn1 hn3
  go_enter Tryd.func63, Tryd.ntmps63
  go_wp2_with fail
  refine (HV.out _).mono ?_; rintro e w1 ⟨rfl, rfl⟩
  go_wp2_with fail
  go_step3
  go_wp2_with fail
  rw [k3]
  have q1 : wrap64 ((n : Int) + 1) = (n : Int) + 1 := k2
  have q2 : IntKind.i64.wrap ((n : Int) + 1) = (n : Int) + 1 := (i64_w _).trans k2
  have q3 : ((n : Int) + 1).toNat = n + 1 := by omega
  have q4 : (0 : Int) ≤ (n : Int) + 1 := by omega
  have q5 : ((n : Int) + 1 ≤ (signsB.size : Int)) = True := eq_true (by have := of_eq_true p2'; omega)
  refine wp_loop_rounds 1 ?_
  rw [rounds_succ]
  go_wp2_with fail
  go_step3
  go_wp2_with fail
  go_quiet (fail)
  go_wp2_with fail
  have HC : ∀ W, Calls Tryd.prog 84 #[.string (signsB.extract (n + 1) signsB.size), .int .u8 y] W fun e w' => e = .returned (.int .i64 (-1)) ∧ w' = W := fun W => (IndexByte _ _ _).mono fun e w' h => by rw [HI.out] at h; exact h
  have HC' := Aside0.mk HC
  clear HC
  go_quiet ((go_at_call 84; refine (HC'.out _).mono ?_; rintro e w' ⟨rfl, rfl⟩; exact ⟨rfl, ⟨_, rfl⟩⟩))
  go_wp2_with fail
  rw [Exit.noGoto_ret]
  go_wp2_with fail
  (try rw [Exit.noGoto_ret])
  go_wp2_with fail
  go_ret
  exact ⟨rfl, pw_below_drewN (Below.refl _ _) _⟩
/-- A rune that is none. -/
theorem IndexRune_none (r : Nat) (h : 128 ≤ r) (hv : vr r = false) (w : World) : Calls Tryd.prog 63 #[.string signsB, .int .i32 (r : Int)] w fun e w' => e = .returned (.int .i64 (-1)) ∧ Below w.heap.size w w' := by
  have he : r ≠ 65533 := fun e => by rw [e] at hv; exact absurd hv (by decide)
  have c1 : decide ((0 : Int) ≤ (r : Int)) = true := decide_eq_true (by omega)
  have c2 : decide ((r : Int) < 128) = false := decide_eq_false (by omega)
  have c3 : decide (r < 128) = false := decide_eq_false (by omega)
  have c4 : ((r : Int) == 65533) = false := beq_eq_false_iff_ne.2 (by omega)
  have HV := Aside0.mk (ValidRune r)
  rw [hv] at HV
  clear h hv he
  go_enter Tryd.func63, Tryd.ntmps63
  go_wp2_with fail
  refine (HV.out _).mono ?_; rintro e w1 ⟨rfl, rfl⟩
  go_wp2_with fail
  (try rw [Exit.noGoto_ret])
  go_ret
  exact ⟨rfl, Below.refl _ _⟩
/-- Of each rune that is no ASCII: it is no sign. -/
theorem IndexRune_high (r : Nat) (h : 128 ≤ r) (w : World) : Calls Tryd.prog 63 #[.string signsB, .int .i32 (r : Int)] w fun e w' => e = .returned (.int .i64 (-1)) ∧ Below w.heap.size w w' := by
  by_cases he : r = 65533
  · subst he
    exact IndexRune_err w
  · cases hv : vr r with
    | false => exact IndexRune_none r h hv w
    | true =>
      obtain ⟨h2, h4, hl⟩ := enc_high r h
      exact IndexRune_brute r ((Utf8.encode (r : Int)).size - 1) h hv he (by omega) (by omega) (by omega) hl w
end Go.Proofs.YtefiadocljnpjaaDoor.Row
