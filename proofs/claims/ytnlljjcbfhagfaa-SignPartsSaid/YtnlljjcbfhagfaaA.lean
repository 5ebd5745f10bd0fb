/- The functions of the package sign that the printer does not take: their contracts, walked by hand. -/
import Derived.Test.YtnlljjcbfhagfaaH
namespace Go.Proofs.Ytnlljjcbfhagfaa
open Go.RowKit Go.Proofs.YtnlljjcbfhagfaaW.PrintWords Go.Proofs.YtnlljjcbfhagfaaW.PrintLast Go.Proofs.YtnlljjcbfhagfaaW.PrintMore

abbrev signTexts : Value := .agg #[.string ⟨#[]⟩, .string ⟨#[111, 107]⟩, .string ⟨#[33]⟩, .string ⟨#[63]⟩]
theorem idx0 (w : World) : (Instr.index 36 signTexts (.int .i64 0)).run Try.prog w = .ok (.string ⟨#[]⟩) w := by kernel_rfl
theorem idx1 (w : World) : (Instr.index 36 signTexts (.int .i64 1)).run Try.prog w = .ok (.string ⟨#[111, 107]⟩) w := by kernel_rfl
theorem idx2 (w : World) : (Instr.index 36 signTexts (.int .i64 2)).run Try.prog w = .ok (.string ⟨#[33]⟩) w := by kernel_rfl
theorem idx3 (w : World) : (Instr.index 36 signTexts (.int .i64 3)).run Try.prog w = .ok (.string ⟨#[63]⟩) w := by kernel_rfl

theorem sign_texts.calls (w : World) :
    Calls Try.prog 20 #[] w fun e w' => e = .returned signTexts ∧ Below w.heap.size w w' := by
  go_enter Try.func20, Try.ntmps20
  go_wp2
  exact bodyPost_ret (v := .agg #[.string ⟨#[]⟩, .string ⟨#[111, 107]⟩, .string ⟨#[33]⟩, .string ⟨#[63]⟩]) (by simp [results, Try.results20, go_sem]) rfl ⟨rfl, (Below.refl _ _).alloc (Nat.le_refl _) _⟩

/-! ### sign_Is: function 12 -/
def sign_Is.f (a0 : Int) : Option (Bool) := some (decide (1 ≤ a0 ∧ a0 ≤ 3))
theorem sign_Is.calls (a0 : Int) (r : Bool) (w : World) (h : sign_Is.f a0 = some r) :
    Calls Try.prog 12 #[.int .i64 a0] w fun e w' => e = .returned (.bool r) ∧ Drawn0 w w' := by
  obtain rfl := Option.some.inj h
  by_cases c1 : 1 ≤ a0 <;> by_cases c2 : a0 ≤ 3 <;>
  · go_enter Try.func12, Try.ntmps12
    go_wp2
    go_ret
    exact ⟨by simp [c1, c2], Drawn0.refl _⟩

/-! ### sign_Text: function 14 -/
def sign_Text.f (a0 : Int) : Option ByteArray := some (if a0 = 1 then ⟨#[111, 107]⟩ else if a0 = 2 then ⟨#[33]⟩ else if a0 = 3 then ⟨#[63]⟩ else ⟨#[]⟩)

theorem sign_Text.at (a0 : Int) (r : ByteArray) (w : World) (hr : ∀ w, (Instr.index 36 signTexts (.int .i64 a0)).run Try.prog w = .ok (.string r) w) (h1 : 1 ≤ a0) (h3 : a0 ≤ 3) :
    Calls Try.prog 14 #[.int .i64 a0] w fun e w' => e = .returned (.string r) ∧ Below w.heap.size w w' := by
  go_enter Try.func14, Try.ntmps14
  go_wp2_with (first | (go_at_call 12; refine (sign_Is.calls a0 true _ (by simp [sign_Is.f, h1, h3])).mono ?_; rintro e w' ⟨rfl, ⟨n, rfl⟩⟩) | (go_at_call 20; refine (sign_texts.calls _).mono ?_; rintro e w' ⟨rfl, HB⟩))
  go_ret
  exact ⟨rfl, (pw_below_drewN (Below.refl _ _) _).trans HB⟩

theorem sign_Text.calls (a0 : Int) (r : ByteArray) (w : World) (h : sign_Text.f a0 = some r) :
    Calls Try.prog 14 #[.int .i64 a0] w fun e w' => e = .returned (.string r) ∧ Below w.heap.size w w' := by
  obtain rfl := Option.some.inj h
  by_cases e1 : a0 = 1
  · subst e1; exact sign_Text.at _ _ _ idx1 (by omega) (by omega)
  by_cases e2 : a0 = 2
  · subst e2; exact sign_Text.at _ _ _ idx2 (by omega) (by omega)
  by_cases e3 : a0 = 3
  · subst e3; exact sign_Text.at _ _ _ idx3 (by omega) (by omega)
  rw [if_neg e1, if_neg e2, if_neg e3]
  clear h
  have hf : sign_Is.f a0 = some false := by unfold sign_Is.f; simp; omega
  go_enter Try.func14, Try.ntmps14
  go_wp2_with (go_at_call 12; refine (sign_Is.calls a0 false _ hf).mono ?_; rintro e w' ⟨rfl, ⟨n, rfl⟩⟩)
  go_ret
  exact ⟨rfl, pw_below_drewN (Below.refl _ _) _⟩

/-! ### sign_Of: function 10 -/
def signText (k : Nat) : List UInt8 := if k = 1 then [111, 107] else if k = 2 then [33] else if k = 3 then [63] else []
def sign_Of.f (a0 : ByteArray) : Option (Int × Bool) :=
  some (if a0.toList = [111, 107] then (1, true) else if a0.toList = [33] then (2, true) else if a0.toList = [63] then (3, true) else (0, false))

theorem sign_Of.hit (a0 : ByteArray) (r1 : Int) (r2 : Bool) (h : sign_Of.f a0 = some (r1, r2)) (k : Nat) (h1 : 1 ≤ k) (h3 : k ≤ 3) (hno : ∀ j : Nat, 1 ≤ j → j < k → a0.toList ≠ signText j)
    (he : a0.toList = signText k) : r1 = k ∧ r2 = true := by
  unfold sign_Of.f at h
  rcases (by omega : k = 1 ∨ k = 2 ∨ k = 3) with rfl | rfl | rfl <;> simp [signText] at he <;> rw [he] at h <;> simp at h <;> simp [h]

theorem sign_Of.calls (a0 : ByteArray) (r1 : Int) (r2 : Bool) (w : World) (h : sign_Of.f a0 = some (r1, r2)) :
    Calls Try.prog 10 #[.string a0] w fun e w' => e = .returned (.tuple #[.int .i64 r1, .bool r2]) ∧ Below w.heap.size w w' := by
  go_enter Try.func10, Try.ntmps10
  go_wp2_with (go_at_call 20; refine (sign_texts.calls _).mono ?_; rintro e w' ⟨rfl, HB⟩)
  have H := Aside0.mk h; clear h
  have HB := Aside0.mk HB
  go_loopw [7] (fun i wr => ∃ k : Nat, k ≤ 4 ∧ i = .int .i64 k ∧ Aside0 (∀ j : Nat, 1 ≤ j → j < k → a0.toList ≠ signText j) ∧ Aside0 (Below w.heap.size w wr)) (fun i _ => 4 - (intOf i).toNat)
  case atStart => exact ⟨0, by omega, rfl, ⟨fun j h1 h2 => by omega⟩, HB⟩
  case round =>
    clear HB
    obtain ⟨k, hk, rfl, hno, HB⟩ := hrel
    have i0 := idx0; have i1 := idx1; have i2 := idx2; have i3 := idx3
    match k, hk, hno with
    | 0, _, hno =>
      go_wp2_with (go_at_call 12; refine (sign_Is.calls 0 false _ (by simp [sign_Is.f])).mono ?_; rintro e w' ⟨rfl, ⟨n, rfl⟩⟩)
      all_goals
        go_roundw
        case rel => exact ⟨1, by omega, by go_num, ⟨fun j h1 h2 => by omega⟩, ⟨by repeat (first | exact HB.out | apply pw_below_drewN)⟩⟩
        case measure => simp [intOf]
    | 1, _, hno =>
      go_wp2_with (go_at_call 12; refine (sign_Is.calls 1 true _ (by simp [sign_Is.f])).mono ?_; rintro e w' ⟨rfl, ⟨n, rfl⟩⟩)
      · go_ret2
        have he : a0.toList = [111, 107] := Eq.symm (by assumption)
        obtain ⟨rfl, rfl⟩ := sign_Of.hit a0 r1 r2 H.out 1 (by omega) (by omega) hno.out he
        exact ⟨rfl, pw_below_drewN HB.out _⟩
      · have he : ¬ a0.toList = [111, 107] := fun h_ => absurd h_.symm (by assumption)
        go_roundw
        case rel => exact ⟨2, by omega, by go_num, ⟨fun j h1 h2 => by rcases (by omega : j = 1) with rfl; exact he⟩, HB⟩
        case measure => simp [intOf]
    | 2, _, hno =>
      go_wp2_with (go_at_call 12; refine (sign_Is.calls 2 true _ (by simp [sign_Is.f])).mono ?_; rintro e w' ⟨rfl, ⟨n, rfl⟩⟩)
      · go_ret2
        have he : a0.toList = [33] := Eq.symm (by assumption)
        obtain ⟨rfl, rfl⟩ := sign_Of.hit a0 r1 r2 H.out 2 (by omega) (by omega) hno.out he
        exact ⟨rfl, pw_below_drewN HB.out _⟩
      · have he : ¬ a0.toList = [33] := fun h_ => absurd h_.symm (by assumption)
        go_roundw
        case rel => exact ⟨3, by omega, by go_num, ⟨fun j h1 h2 => by rcases (by omega : j = 1 ∨ j = 2) with rfl | rfl; exact hno.out 1 (by omega) (by omega); exact he⟩, HB⟩
        case measure => simp [intOf]
    | 3, _, hno =>
      go_wp2_with (go_at_call 12; refine (sign_Is.calls 3 true _ (by simp [sign_Is.f])).mono ?_; rintro e w' ⟨rfl, ⟨n, rfl⟩⟩)
      · go_ret2
        have he : a0.toList = [63] := Eq.symm (by assumption)
        obtain ⟨rfl, rfl⟩ := sign_Of.hit a0 r1 r2 H.out 3 (by omega) (by omega) hno.out he
        exact ⟨rfl, pw_below_drewN HB.out _⟩
      · have he : ¬ a0.toList = [63] := fun h_ => absurd h_.symm (by assumption)
        go_roundw
        case rel => exact ⟨4, by omega, by go_num, ⟨fun j h1 h2 => by rcases (by omega : j = 1 ∨ j = 2 ∨ j = 3) with rfl | rfl | rfl; exact hno.out 1 (by omega) (by omega); exact hno.out 2 (by omega) (by omega); exact he⟩, HB⟩
        case measure => simp [intOf]
    | 4, _, hno =>
      go_wp2_with fail
      go_ret2
      have e1 := hno.out 1 (by omega) (by omega)
      have e2 := hno.out 2 (by omega) (by omega)
      have e3 := hno.out 3 (by omega) (by omega)
      have h := H.out
      simp only [signText] at e1 e2 e3
      simp at e1 e2 e3
      simp [sign_Of.f, e1, e2, e3] at h
      obtain ⟨rfl, rfl⟩ := h
      exact ⟨rfl, HB.out⟩
end Go.Proofs.Ytnlljjcbfhagfaa
