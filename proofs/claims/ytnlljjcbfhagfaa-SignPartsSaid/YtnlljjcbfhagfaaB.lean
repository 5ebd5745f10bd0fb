/- How two, and how all, end side by side, and the closed call 'alive': contracts, walked by hand. -/
import Derived.Test.YtnlljjcbfhagfaaA
namespace Go.Proofs.Ytnlljjcbfhagfaa
open Go.RowKit Go.Proofs.YtnlljjcbfhagfaaW.PrintWords Go.Proofs.YtnlljjcbfhagfaaW.PrintLast Go.Proofs.YtnlljjcbfhagfaaW.PrintMore
set_option linter.unusedVariables false
set_option linter.unusedSimpArgs false
attribute [local go_sem] max2_int min2_int max_two min_two max_three min_three max_four min_four

theorem sign_Is.any (a0 : Int) (w : World) :
    Calls Try.prog 12 #[.int .i64 a0] w fun e w' => e = .returned (.bool (decide (1 ≤ a0 ∧ a0 ≤ 3))) ∧ Drawn0 w w' := sign_Is.calls a0 _ w rfl
theorem sign_Is.yes (a0 : Int) (w : World) (h1 : 1 ≤ a0) (h3 : a0 ≤ 3) :
    Calls Try.prog 12 #[.int .i64 a0] w fun e w' => e = .returned (.bool true) ∧ Drawn0 w w' := sign_Is.calls a0 _ w (by simp [sign_Is.f, h1, h3])
theorem sign_Is.no (a0 : Int) (w : World) (h : ¬ (1 ≤ a0 ∧ a0 ≤ 3)) :
    Calls Try.prog 12 #[.int .i64 a0] w fun e w' => e = .returned (.bool false) ∧ Drawn0 w w' := sign_Is.calls a0 _ w (by simp [sign_Is.f]; omega)

/-! ### sign_Both: function 16 -/
def bothOf (a b : Int) : Int := if ¬ (1 ≤ a ∧ a ≤ 3) ∨ ¬ (1 ≤ b ∧ b ≤ 3) then 0 else if a = 2 ∨ b = 2 then 2 else if a < b then b else a
def sign_Both.f (a0 a1 : Int) : Option Int := some (bothOf a0 a1)

theorem sign_Both.in (a b : Int) (w : World) (ha1 : 1 ≤ a) (ha3 : a ≤ 3) (hb1 : 1 ≤ b) (hb3 : b ≤ 3) :
    Calls Try.prog 16 #[.int .i64 a, .int .i64 b] w fun e w' => e = .returned (.int .i64 (bothOf a b)) ∧ Drawn0 w w' := by
  by_cases e1 : a = 2
  · subst e1
    go_enter Try.func16, Try.ntmps16
    go_wp2_with (first | (go_at_call_of 12 b; refine (sign_Is.yes b _ hb1 hb3).mono ?_; rintro e w' ⟨rfl, ⟨n, rfl⟩⟩) | (go_at_call 12; refine (sign_Is.yes _ _ ha1 ha3).mono ?_; rintro e w' ⟨rfl, ⟨n, rfl⟩⟩))
    all_goals go_ret
    all_goals exact ⟨by simp [bothOf, hb1, hb3], by repeat (first | exact Drawn0.refl _ | apply Drawn0.step)⟩
  · have E1 : (a == 2) = false := by simpa using e1
    by_cases e2 : b = 2
    · subst e2
      go_enter Try.func16, Try.ntmps16
      go_wp2_with (first | (go_at_call_of 12 a; refine (sign_Is.yes a _ ha1 ha3).mono ?_; rintro e w' ⟨rfl, ⟨n, rfl⟩⟩) | (go_at_call 12; refine (sign_Is.yes _ _ hb1 hb3).mono ?_; rintro e w' ⟨rfl, ⟨n, rfl⟩⟩))
      all_goals go_ret
      all_goals exact ⟨by simp [bothOf, ha1, ha3], by repeat (first | exact Drawn0.refl _ | apply Drawn0.step)⟩
    · have E2 : (b == 2) = false := by simpa using e2
      have hab : bothOf a b = if a < b then b else a := by simp [bothOf, e1, e2, ha1, ha3, hb1, hb3]
      rw [hab]; clear hab
      by_cases hlt : a < b
      all_goals
        go_enter Try.func16, Try.ntmps16
        go_wp2_with (first | (go_at_call_of 12 a; refine (sign_Is.yes a _ ha1 ha3).mono ?_; rintro e w' ⟨rfl, ⟨n, rfl⟩⟩) | (go_at_call_of 12 b; refine (sign_Is.yes b _ hb1 hb3).mono ?_; rintro e w' ⟨rfl, ⟨n, rfl⟩⟩))
        go_ret
        exact ⟨by simp [hlt], by repeat (first | exact Drawn0.refl _ | apply Drawn0.step)⟩

theorem sign_Both.any (a b : Int) (w : World) :
    Calls Try.prog 16 #[.int .i64 a, .int .i64 b] w fun e w' => e = .returned (.int .i64 (bothOf a b)) ∧ Drawn0 w w' := by
  by_cases ha : 1 ≤ a ∧ a ≤ 3
  · by_cases hb : 1 ≤ b ∧ b ≤ 3
    · exact sign_Both.in a b w ha.1 ha.2 hb.1 hb.2
    · have h0 : bothOf a b = 0 := by simp [bothOf]; omega
      rw [h0]; clear h0
      have Hb := Aside0.mk hb; clear hb
      obtain ⟨ha1, ha3⟩ := ha
      by_cases hab : a = b
      · subst hab; exact absurd ⟨ha1, ha3⟩ Hb.out
      have Hab := Aside0.mk hab; clear hab
      go_enter Try.func16, Try.ntmps16
      go_wp2_with fail
      refine (sign_Is.yes a _ ha1 ha3).mono ?_; rintro e w' ⟨rfl, ⟨n, rfl⟩⟩
      go_wp2_with fail
      refine (sign_Is.no b _ Hb.out).mono ?_; rintro e w' ⟨rfl, ⟨m, rfl⟩⟩
      go_wp2_with fail
      go_ret
      exact ⟨rfl, by repeat (first | exact Drawn0.refl _ | apply Drawn0.step)⟩
  · have h0 : bothOf a b = 0 := by simp [bothOf]; omega
    rw [h0]; clear h0
    have Ha := Aside0.mk ha; clear ha
    go_enter Try.func16, Try.ntmps16
    go_wp2_with fail
    refine (sign_Is.no a _ Ha.out).mono ?_; rintro e w' ⟨rfl, ⟨n, rfl⟩⟩
    go_wp2_with fail
    go_ret
    exact ⟨rfl, by repeat (first | exact Drawn0.refl _ | apply Drawn0.step)⟩
theorem sign_Both.calls (a b r : Int) (w : World) (h : sign_Both.f a b = some r) :
    Calls Try.prog 16 #[.int .i64 a, .int .i64 b] w fun e w' => e = .returned (.int .i64 r) ∧ Drawn0 w w' := by
  obtain rfl := Option.some.inj h
  exact sign_Both.any a b w

/-! ### sign_All: function 18 -/
def sign_All.f (l : List Int) : Option Int := some (l.foldl bothOf 1)

theorem foldl_take_succ (l : List Int) (k : Nat) (h : k < l.length) : (l.take (k + 1)).foldl bothOf 1 = bothOf ((l.take k).foldl bothOf 1) (rd l (k : Int)) := by
  rw [List.take_succ_eq_append_getElem h, List.foldl_append]
  simp [rd, List.getD_eq_getElem?_getD, List.getElem?_eq_getElem h]

theorem sign_All.calls (A0 : Option Addr) (c0 : Nat) (l0 : List Int) (r : Int) (w : World) (hr0 : Kd.C (Kd.int .i64) w A0 l0.length l0) (hc0 : l0.length ≤ c0) (h : sign_All.f l0 = some r) :
    Calls Try.prog 18 #[.slice A0 l0.length c0] w fun e w' => e = .returned (.int .i64 r) ∧ Drawn0 w w' := by
  obtain rfl := Option.some.inj h
  have hm := Kd.C_max hr0
  have HR := Aside0.mk hr0; clear hr0 h
  go_enter Try.func18, Try.ntmps18
  go_wp2_with fail
  go_loopw [3, 8] (fun acc i wr => ∃ k : Nat, k ≤ l0.length ∧ i = .int .i64 k ∧ acc = .int .i64 ((l0.take k).foldl bothOf 1) ∧ Drawn0 w wr) (fun _ i _ => l0.length - (intOf i).toNat)
  case atStart => exact ⟨0, by omega, rfl, rfl, Drawn0.refl _⟩
  case round =>
    obtain ⟨k, hk, rfl, rfl, ⟨n, rfl⟩⟩ := hrel
    by_cases hlt : k < l0.length
    · have HS := Aside0.mk (foldl_take_succ l0 k hlt)
      obtain ⟨ad, rfl, hcell⟩ := Kd.at_int HR.out (k : Int) (by omega) (by omega)
      rw [Int.toNat_natCast] at hcell
      go_wp2_with (go_at_call 16; refine (sign_Both.any _ _ _).mono ?_; rintro e w' ⟨rfl, ⟨m, rfl⟩⟩)
      go_roundw
      case rel => exact ⟨k + 1, by omega, by go_num, by rw [HS.out], by repeat (first | exact Drawn0.refl _ | apply Drawn0.step)⟩
      case measure => simp [intOf]; omega
    · obtain rfl : k = l0.length := by omega
      go_wp2
      go_ret
      exact ⟨by simp, by repeat (first | exact Drawn0.refl _ | apply Drawn0.step)⟩

/-! ### alive: function 9 -/
theorem sign_Of.q (w : World) : Calls Try.prog 10 #[.string ⟨#[63]⟩] w fun e w' => e = .returned (.tuple #[.int .i64 3, .bool true]) ∧ Below w.heap.size w w' := sign_Of.calls _ _ _ _ (by decide +kernel)
theorem sign_Of.e (w : World) : Calls Try.prog 10 #[.string ⟨#[]⟩] w fun e w' => e = .returned (.tuple #[.int .i64 0, .bool false]) ∧ Below w.heap.size w w' := sign_Of.calls _ _ _ _ (by decide +kernel)
theorem sign_Text.one (w : World) : Calls Try.prog 14 #[.int .i64 1] w fun e w' => e = .returned (.string ⟨#[111, 107]⟩) ∧ Below w.heap.size w w' := sign_Text.calls _ _ _ rfl
def redresslaw01_alive.f : Option Bool := some true
theorem redresslaw01_alive.any (w : World) : Calls Try.prog 9 #[] w fun e w' => e = .returned (.bool true) ∧ Below w.heap.size w w' := by
  go_enter Try.func9, Try.ntmps9
  go_wp2_with fail
  refine (sign_Of.q _).mono ?_; rintro e w1 ⟨rfl, h1⟩
  go_wp2_with fail
  refine (sign_Of.e _).mono ?_; rintro e w2 ⟨rfl, h2⟩
  go_wp2_with fail
  refine (sign_Is.yes _ _ (by omega) (by omega)).mono ?_; rintro e w' ⟨rfl, ⟨n1, rfl⟩⟩
  go_wp2_with fail
  refine (sign_Is.no _ _ (by omega)).mono ?_; rintro e w' ⟨rfl, ⟨n2, rfl⟩⟩
  go_wp2_with fail
  refine (sign_Both.calls 3 2 2 _ rfl).mono ?_; rintro e w' ⟨rfl, ⟨n3, rfl⟩⟩
  go_wp2_with fail
  refine (sign_Both.calls 3 1 3 _ rfl).mono ?_; rintro e w' ⟨rfl, ⟨n4, rfl⟩⟩
  go_wp2_with fail
  refine (sign_Text.one _).mono ?_; rintro e w3 ⟨rfl, h3⟩
  go_wp2_with fail
  refine (sign_All.calls none 0 [] 1 _ (Kd.C_nil _ _) (Nat.le_refl _) rfl).mono ?_; rintro e w' ⟨rfl, ⟨n5, rfl⟩⟩
  go_wp2_with fail
  refine (sign_All.calls _ _ [3, 2] 2 _ (Aid.C_new (enc := Value.int .i64) 0 _ [3, 2] _ 3 (0, 0) rfl (by decide)) (Nat.le_refl _) rfl).mono ?_; rintro e w' ⟨rfl, ⟨n6, rfl⟩⟩
  go_wp2_with fail
  go_ret
  exact ⟨rfl, Aid.bdrew (Aid.balloc (Aid.bdrew (Aid.bthen (Aid.bdrew (Aid.bthen h1 h2) _) h3) _) _) _⟩
theorem redresslaw01_alive.calls (r : Bool) (w : World) (h : redresslaw01_alive.f = some r) : Calls Try.prog 9 #[] w fun e w' => e = .returned (.bool r) ∧ Below w.heap.size w w' := by
  obtain rfl := Option.some.inj h
  exact redresslaw01_alive.any w
end Go.Proofs.Ytnlljjcbfhagfaa
