/- The tokens of a text: a relation that both the program and the reference keep to; the reference's Lex keeps to it. -/
import Derived.Test.YtefiadocljnpjaaDoorMR
import Derived.Test.YtefiadocljnpjaaDoorPKx5
namespace Go.Proofs.YtefiadocljnpjaaDoor.Row
open Go.Proofs.Tree Go.RowKit Go.Proofs.YtefiadocljnpjaaDoorW.PrintWords Go.Proofs.YtefiadocljnpjaaDoorW.PrintLast Go.Proofs.YtefiadocljnpjaaDoorW.PrintMore Go.Proofs.YtefiadocljnpjaaDoor.PK
set_option linter.unusedVariables false
set_option linter.unusedSimpArgs false
set_option maxHeartbeats 4000000
set_option maxRecDepth 100000
theorem tev_step {α : Type} {g f : Nat → Option α} {r : α} (k : Ev f r) (h : ∀ k, g (k + 1) = f k) : Ev g r := Ev.step h k
theorem tw64 (n : Int) (h0 : -9223372036854775808 ≤ n) (h1 : n < 9223372036854775808) : wrap64 n = n := by unfold wrap64; omega
/-- Which sign a byte is, from 1 on; 0: it is none. -/
def sg (b : Int) : Int := if b = 40 then 1 else if b = 41 then 2 else if b = 91 then 3 else if b = 93 then 4 else if b = 59 then 5 else if b = 43 then 6 else if b = 124 then 7 else if b = 62 then 8 else if b = 47 then 9 else 0
def signsB : ByteArray := ⟨#[40, 41, 91, 93, 59, 43, 124, 62, 47]⟩
theorem kind_at (k : Nat) (b : Int) (j : Nat) (hj : j < 9) (c : Int) (hc : bt signsB (j : Int) = c) : redressref05_kind.l0 (k + 1) b signsB (j : Int) = if c = b then some ((j : Int) + 1) else redressref05_kind.l0 k b signsB ((j : Int) + 1) := by
  simp only [redressref05_kind.l0]
  rw [if_pos (show (j : Int) < (signsB.size : Int) by show (j : Int) < 9; omega), if_pos (by omega), hc, tw64 _ (by omega) (by omega)]
theorem kind_end (k : Nat) (b : Int) : redressref05_kind.l0 (k + 1) b signsB 9 = some 0 := by
  simp only [redressref05_kind.l0]
  rw [if_neg (show ¬ (9 : Int) < (signsB.size : Int) by show ¬ (9 : Int) < 9; omega)]
theorem kind_some (k : Nat) (b : Int) : redressref05_kind.f (k + 10) b = some (sg b) := by
  show redressref05_kind.l0 (k + 10) b signsB ((0 : Nat) : Int) = _
  rw [kind_at (k + 9) b 0 (by omega) 40 rfl]
  unfold sg
  by_cases h0 : b = 40
  · rw [if_pos h0.symm, if_pos h0]; rfl
  rw [if_neg (fun h => h0 h.symm), if_neg h0]
  rw [show ((0 : Nat) : Int) + 1 = ((1 : Nat) : Int) from rfl, kind_at (k + 8) b 1 (by omega) 41 rfl]
  by_cases h1 : b = 41
  · rw [if_pos h1.symm, if_pos h1]; rfl
  rw [if_neg (fun h => h1 h.symm), if_neg h1]
  rw [show ((1 : Nat) : Int) + 1 = ((2 : Nat) : Int) from rfl, kind_at (k + 7) b 2 (by omega) 91 rfl]
  by_cases h2 : b = 91
  · rw [if_pos h2.symm, if_pos h2]; rfl
  rw [if_neg (fun h => h2 h.symm), if_neg h2]
  rw [show ((2 : Nat) : Int) + 1 = ((3 : Nat) : Int) from rfl, kind_at (k + 6) b 3 (by omega) 93 rfl]
  by_cases h3 : b = 93
  · rw [if_pos h3.symm, if_pos h3]; rfl
  rw [if_neg (fun h => h3 h.symm), if_neg h3]
  rw [show ((3 : Nat) : Int) + 1 = ((4 : Nat) : Int) from rfl, kind_at (k + 5) b 4 (by omega) 59 rfl]
  by_cases h4 : b = 59
  · rw [if_pos h4.symm, if_pos h4]; rfl
  rw [if_neg (fun h => h4 h.symm), if_neg h4]
  rw [show ((4 : Nat) : Int) + 1 = ((5 : Nat) : Int) from rfl, kind_at (k + 4) b 5 (by omega) 43 rfl]
  by_cases h5 : b = 43
  · rw [if_pos h5.symm, if_pos h5]; rfl
  rw [if_neg (fun h => h5 h.symm), if_neg h5]
  rw [show ((5 : Nat) : Int) + 1 = ((6 : Nat) : Int) from rfl, kind_at (k + 3) b 6 (by omega) 124 rfl]
  by_cases h6 : b = 124
  · rw [if_pos h6.symm, if_pos h6]; rfl
  rw [if_neg (fun h => h6 h.symm), if_neg h6]
  rw [show ((6 : Nat) : Int) + 1 = ((7 : Nat) : Int) from rfl, kind_at (k + 2) b 7 (by omega) 62 rfl]
  by_cases h7 : b = 62
  · rw [if_pos h7.symm, if_pos h7]; rfl
  rw [if_neg (fun h => h7 h.symm), if_neg h7]
  rw [show ((7 : Nat) : Int) + 1 = ((8 : Nat) : Int) from rfl, kind_at (k + 1) b 8 (by omega) 47 rfl]
  by_cases h8 : b = 47
  · rw [if_pos h8.symm, if_pos h8]; rfl
  rw [if_neg (fun h => h8 h.symm), if_neg h8]
  exact kind_end k b
theorem kind_ev (b : Int) : Ev (fun k => redressref05_kind.f k b) (sg b) := ⟨10, fun k hk => by
  obtain ⟨m, rfl⟩ : ∃ m, k = m + 10 := ⟨k - 10, by omega⟩
  exact kind_some m b⟩
theorem letter_some (b : Int) : redressref05_letter.f b = some (isL b) := by
  unfold redressref05_letter.f isL
  by_cases h : b ≥ 97
  · rw [if_pos h, decide_eq_true (show 97 ≤ b from h), Bool.true_and]
  · rw [if_neg h, decide_eq_false (show ¬ 97 ≤ b from h), Bool.false_and]
/-- A letter is no sign and no blank. -/
theorem letter_sign (b : Int) (h : isL b = true) : sg b = 0 ∧ b ≠ 32 ∨ sg b ≠ 0 ∧ b = 124 := by
  unfold isL at h
  simp only [Bool.and_eq_true, decide_eq_true_eq] at h
  unfold sg
  left
  refine ⟨?_, by omega⟩
  rw [if_neg (by omega), if_neg (by omega), if_neg (by omega), if_neg (by omega), if_neg (by omega), if_neg (by omega), if_neg (by omega), if_neg (by omega), if_neg (by omega)]
/-- What Lex tells from place 'at' on, with the tokens so far. -/
inductive Lx (s : ByteArray) : Nat → List S34 → (List S34 × Int × Int) → Prop
  | fin (out : List S34) : Lx s s.size out (out, (s.size : Int), 0)
  | long (a tt : Nat) (out : List S34) (h1 : a + 8 < tt) (h2 : tt ≤ s.size) (hl : ∀ p : Nat, a ≤ p → p < tt → isL (bt s (p : Int)) = true) (he : tt < s.size → isL (bt s (tt : Int)) = false) : Lx s a out ([], (a : Int), 51)
  | name (a tt : Nat) (out : List S34) (r : List S34 × Int × Int) (h1 : a < tt) (h8 : tt ≤ a + 8) (h2 : tt ≤ s.size) (hl : ∀ p : Nat, a ≤ p → p < tt → isL (bt s (p : Int)) = true) (he : tt < s.size → isL (bt s (tt : Int)) = false) (k : Lx s tt (out ++ [⟨10, (a : Int), s.extract a tt⟩]) r) : Lx s a out r
  | bad (a : Nat) (out : List S34) (h1 : a < s.size) (hl : isL (bt s (a : Int)) = false) (hb : bt s (a : Int) ≠ 32) (hs : sg (bt s (a : Int)) = 0) : Lx s a out ([], (a : Int), 50)
  | blank (a : Nat) (out : List S34) (r : List S34 × Int × Int) (h1 : a < s.size) (hb : bt s (a : Int) = 32) (k : Lx s (a + 1) out r) : Lx s a out r
  | sign (a : Nat) (out : List S34) (r : List S34 × Int × Int) (h1 : a < s.size) (hl : isL (bt s (a : Int)) = false) (hb : bt s (a : Int) ≠ 32) (hs : sg (bt s (a : Int)) ≠ 0) (k : Lx s (a + 1) (out ++ [⟨sg (bt s (a : Int)), (a : Int), ⟨#[]⟩⟩]) r) : Lx s a out r
theorem run_end (s : ByteArray) (d : Nat) : ∀ a : Nat, s.size - a ≤ d → a ≤ s.size → ∃ tt : Nat, a ≤ tt ∧ tt ≤ s.size ∧ (∀ p : Nat, a ≤ p → p < tt → isL (bt s (p : Int)) = true) ∧ (tt < s.size → isL (bt s (tt : Int)) = false) := by
  induction d with
  | zero => intro a h h2; exact ⟨a, Nat.le_refl _, h2, fun p h3 h4 => by omega, fun h3 => by omega⟩
  | succ d ih =>
    intro a h h2
    by_cases ha : a < s.size
    · cases hl : isL (bt s (a : Int)) with
      | false => exact ⟨a, Nat.le_refl _, h2, fun p h3 h4 => by omega, fun _ => hl⟩
      | true =>
        obtain ⟨tt, h3, h4, h5, h6⟩ := ih (a + 1) (by omega) (by omega)
        refine ⟨tt, by omega, h4, fun p hp1 hp2 => ?_, h6⟩
        by_cases e : p = a
        · rw [e]; exact hl
        · exact h5 p (by omega) hp2
    · exact ⟨a, Nat.le_refl _, h2, fun p h3 h4 => by omega, fun h3 => by omega⟩
/-- It tells something of each text. -/
theorem Lx.some (s : ByteArray) (d : Nat) : ∀ (a : Nat) (out : List S34), s.size - a ≤ d → a ≤ s.size → ∃ r, Lx s a out r := by
  induction d with
  | zero => intro a out h h2; have e : a = s.size := by omega
            subst e; exact ⟨_, .fin out⟩
  | succ d ih =>
    intro a out h h2
    by_cases ha : a < s.size
    · obtain ⟨tt, h3, h4, h5, h6⟩ := run_end s _ a (Nat.le_refl _) h2
      by_cases h7 : a < tt
      · by_cases h8 : tt ≤ a + 8
        · obtain ⟨r, hr⟩ := ih tt (out ++ [⟨10, (a : Int), s.extract a tt⟩]) (by omega) h4
          exact ⟨r, .name a tt out r h7 h8 h4 h5 h6 hr⟩
        · exact ⟨_, .long a tt out (by omega) h4 h5 h6⟩
      · have e : tt = a := by omega
        subst e
        have hl := h6 ha
        by_cases hb : bt s (tt : Int) = 32
        · obtain ⟨r, hr⟩ := ih (tt + 1) out (by omega) (by omega)
          exact ⟨r, .blank tt out r ha hb hr⟩
        · by_cases hs : sg (bt s (tt : Int)) = 0
          · exact ⟨_, .bad tt out ha hl hb hs⟩
          · obtain ⟨r, hr⟩ := ih (tt + 1) (out ++ [⟨sg (bt s (tt : Int)), (tt : Int), ⟨#[]⟩⟩]) (by omega) (by omega)
            exact ⟨r, .sign tt out r ha hl hb hs hr⟩
    · have e : a = s.size := by omega
      subst e; exact ⟨_, .fin out⟩
/-- The inner loop of the reference. -/
theorem ref_run (s : ByteArray) (hs : s.size ≤ 1000000) (a tt : Nat) (out : List S34) (r : List S34 × Int × Int) (h2 : tt ≤ s.size) (he : tt < s.size → isL (bt s (tt : Int)) = false) (hj : Ev (fun k => redressref05_Lex.j2 k s out (a : Int) (tt : Int)) r) (d : Nat) :
    ∀ p : Nat, tt - p ≤ d → p ≤ tt → (∀ q : Nat, p ≤ q → q < tt → isL (bt s (q : Int)) = true) → Ev (fun k => redressref05_Lex.l1 k s out (a : Int) (p : Int)) r := by
  have hend : Ev (fun k => redressref05_Lex.l1 k s out (a : Int) (tt : Int)) r := by
    by_cases ht : tt < s.size
    · refine tev_step (f := fun k => redressref05_Lex.j2 k s out (a : Int) (tt : Int)) hj (fun k => ?_)
      simp only [redressref05_Lex.l1]
      rw [if_pos (by omega), if_pos (by omega), letter_some, he ht, Option.bind_some, if_neg (by decide)]
    · refine tev_step (f := fun k => redressref05_Lex.j2 k s out (a : Int) (tt : Int)) hj (fun k => ?_)
      simp only [redressref05_Lex.l1]
      rw [if_neg (by omega)]
  induction d with
  | zero => intro p h h3 hl; have e : p = tt := by omega
            subst e; exact hend
  | succ d ih =>
    intro p h h3 hl
    by_cases hp : p < tt
    · have hw : wrap64 ((p : Int) + 1) = ((p + 1 : Nat) : Int) := by rw [tw64 _ (by omega) (by omega)]; omega
      refine tev_step (f := fun k => redressref05_Lex.l1 k s out (a : Int) ((p + 1 : Nat) : Int)) (ih (p + 1) (by omega) (by omega) (fun q h4 h5 => hl q (by omega) h5)) (fun k => ?_)
      simp only [redressref05_Lex.l1]
      rw [if_pos (by omega), if_pos (by omega), letter_some, hl p (Nat.le_refl _) hp, Option.bind_some, if_pos rfl, hw]
    · have e : p = tt := by omega
      subst e; exact hend
theorem ref_lex (s : ByteArray) (hs : s.size ≤ 1000000) (a : Nat) (out : List S34) (r : List S34 × Int × Int) (h : Lx s a out r) : a ≤ s.size → out.length ≤ a → Ev (fun k => redressref05_Lex.l0 k s out (a : Int)) r := by
  induction h with
  | fin out =>
    intro _ _
    exact tev_step (f := _) (Ev.now _) (fun k => by simp only [redressref05_Lex.l0]; rw [if_neg (by omega)])
  | long a tt out h1 h2 hl he =>
    intro _ _
    refine tev_step (f := fun k => redressref05_Lex.l1 k s out (a : Int) (a : Int)) (ref_run s hs a tt out _ h2 he ?_ _ a (Nat.le_refl _) (by omega) hl) (fun k => by simp only [redressref05_Lex.l0]; rw [if_pos (by omega)])
    exact tev_step (f := _) (Ev.now _) (fun k => by simp only [redressref05_Lex.j2]; rw [if_pos (by rw [tw64 _ (by omega) (by omega)]; omega)])
  | name a tt out r h1 h8 h2 hl he k ih =>
    intro _ ho
    refine tev_step (f := fun k => redressref05_Lex.l1 k s out (a : Int) (a : Int)) (ref_run s hs a tt out _ h2 he ?_ _ a (Nat.le_refl _) (by omega) hl) (fun k => by simp only [redressref05_Lex.l0]; rw [if_pos (by omega)])
    refine tev_step (f := fun k => redressref05_Lex.l0 k s (out ++ [⟨10, (a : Int), s.extract a tt⟩]) (tt : Int)) (ih h2 (by simp; omega)) (fun k => ?_)
    simp only [redressref05_Lex.j2]
    rw [if_neg (by rw [tw64 _ (by omega) (by omega)]; omega), if_pos (by omega), if_pos (by omega), if_pos (by omega), if_pos (by omega), if_pos (by omega)]
    rfl
  | bad a out h1 hl hb hs0 =>
    intro _ _
    refine tev_step (f := fun k => redressref05_Lex.l1 k s out (a : Int) (a : Int)) (ref_run s hs a a out _ (by omega) (fun _ => hl) ?_ _ a (Nat.le_refl _) (Nat.le_refl _) (fun q h3 h4 => by omega)) (fun k => by simp only [redressref05_Lex.l0]; rw [if_pos (by omega)])
    refine tev_step (f := fun k => (redressref05_kind.f k (bt s (a : Int))).bind fun t109 => (redressref05_Lex.j3 k s out (a : Int) (t109 == 0))) ?_ (fun k => by simp only [redressref05_Lex.j2]; rw [if_neg (by rw [tw64 _ (by omega) (by omega)]; omega), if_neg (by omega), if_pos (by omega), if_pos (by omega), if_neg hb])
    refine Ev.bind (kind_ev _) ?_
    rw [hs0]
    exact tev_step (f := _) (Ev.now _) (fun k => by simp only [redressref05_Lex.j3]; rw [if_pos (by decide)])
  | blank a out r h1 hb k ih =>
    intro _ ho
    have hl : isL (bt s (a : Int)) = false := by rw [hb]; rfl
    have hw : wrap64 ((a : Int) + 1) = ((a + 1 : Nat) : Int) := by rw [tw64 _ (by omega) (by omega)]; omega
    refine tev_step (f := fun k => redressref05_Lex.l1 k s out (a : Int) (a : Int)) (ref_run s hs a a out _ (by omega) (fun _ => hl) ?_ _ a (Nat.le_refl _) (Nat.le_refl _) (fun q h3 h4 => by omega)) (fun k => by simp only [redressref05_Lex.l0]; rw [if_pos (by omega)])
    refine tev_step (f := fun k => redressref05_Lex.j3 k s out (a : Int) false) ?_ (fun k => by simp only [redressref05_Lex.j2]; rw [if_neg (by rw [tw64 _ (by omega) (by omega)]; omega), if_neg (by omega), if_pos (by omega), if_pos (by omega), if_pos hb])
    refine tev_step (f := fun k => redressref05_Lex.l0 k s out ((a + 1 : Nat) : Int)) (ih (by omega) (by omega)) (fun k => ?_)
    simp only [redressref05_Lex.j3]
    rw [if_neg (by decide), if_pos (by omega), if_pos (by omega), if_pos hb, hw]
  | sign a out r h1 hl hb hs0 k ih =>
    intro _ ho
    have hw : wrap64 ((a : Int) + 1) = ((a + 1 : Nat) : Int) := by rw [tw64 _ (by omega) (by omega)]; omega
    refine tev_step (f := fun k => redressref05_Lex.l1 k s out (a : Int) (a : Int)) (ref_run s hs a a out _ (by omega) (fun _ => hl) ?_ _ a (Nat.le_refl _) (Nat.le_refl _) (fun q h3 h4 => by omega)) (fun k => by simp only [redressref05_Lex.l0]; rw [if_pos (by omega)])
    refine tev_step (f := fun k => (redressref05_kind.f k (bt s (a : Int))).bind fun t109 => (redressref05_Lex.j3 k s out (a : Int) (t109 == 0))) ?_ (fun k => by simp only [redressref05_Lex.j2]; rw [if_neg (by rw [tw64 _ (by omega) (by omega)]; omega), if_neg (by omega), if_pos (by omega), if_pos (by omega), if_neg hb])
    refine Ev.bind (kind_ev _) ?_
    rw [show (sg (bt s (a : Int)) == 0) = false from beq_eq_false_iff_ne.2 hs0]
    refine tev_step (f := fun k => (redressref05_kind.f k (bt s (a : Int))).bind fun t110 => (if out.length < 4398046511104 then (redressref05_Lex.l0 k s (out ++ [(⟨t110, (a : Int), (⟨#[]⟩ : ByteArray)⟩ : S34)]) ((a + 1 : Nat) : Int)) else (none))) ?_ (fun k => ?_)
    · refine Ev.bind (kind_ev _) ?_
      have hlt : out.length < 4398046511104 := by omega
      simp only [hlt, if_true]
      exact ih (by omega) (by simp; omega)
    · simp only [redressref05_Lex.j3]
      rw [if_neg (by decide), if_pos (by omega), if_pos (by omega), if_neg hb, hw]
/-- What Lex tells of a text. -/
def LexIs (s : ByteArray) (r : List S34 × Int × Int) : Prop := if s.size > 1000 then r = ([], 1000, 52) else Lx s 0 [] r
theorem LexIs.some (s : ByteArray) : ∃ r, LexIs s r := by
  unfold LexIs
  by_cases h : s.size > 1000
  · exact ⟨_, by rw [if_pos h]⟩
  · obtain ⟨r, hr⟩ := Lx.some s _ 0 [] (Nat.le_refl _) (Nat.zero_le _)
    exact ⟨r, by rw [if_neg h]; exact hr⟩
theorem RefLex (s : ByteArray) (r : List S34 × Int × Int) (h : LexIs s r) : Ev (fun k => redressref05_Lex.f k s) r := by
  unfold LexIs at h
  unfold redressref05_Lex.f
  by_cases hs : s.size > 1000
  · rw [if_pos hs] at h
    subst h
    simp only [show (s.size : Int) > 1000 by omega, if_true]
    exact Ev.now _
  · rw [if_neg hs] at h
    simp only [show ¬ (s.size : Int) > 1000 by omega, if_false]
    exact ref_lex s (by omega) 0 [] r h (Nat.zero_le _) (Nat.le_refl _)
end Go.Proofs.YtefiadocljnpjaaDoor.Row
