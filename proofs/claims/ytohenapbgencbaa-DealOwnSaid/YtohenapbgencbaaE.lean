/- The laws of the dealer: what they share, in plain words. -/
import Derived.Test.YtohenapbgencbaaD
namespace Go.Proofs.Ytohenapbgencbaa
open Go.RowKit Go.Proofs.YtohenapbgencbaaW.PrintWords Go.Proofs.YtohenapbgencbaaW.PrintLast Go.Proofs.YtohenapbgencbaaW.PrintMore Go.Proofs.Ytohenapbgencbaa.PK
set_option linter.unusedVariables false
set_option linter.unusedSimpArgs false
set_option maxHeartbeats 4000000
set_option maxRecDepth 100000
namespace Deal

theorem rd32 (l : List S32) (j : Nat) (h : j < l.length) : rd_T32 l (j : Int) = l[j] := by unfold rd_T32; simp [List.getD_eq_getElem?_getD, List.getElem?_eq_getElem h]
theorem rd53 (l : List S53) (j : Nat) (h : j < l.length) : rd_T53 l (j : Int) = l[j] := by unfold rd_T53; simp [List.getD_eq_getElem?_getD, List.getElem?_eq_getElem h]
theorem few_l (l0 : List Int) (l1 : List S32) : ∀ d k j s, d < k → (j : Nat) + d = l1.length → l1.length ≤ 9223372036854775807 → ∃ r, redresslaw20_few.l0 k l0 l1 s l1 (l1.length : Int) (j : Int) = some r ∧ (r = true → l0.length ≤ 100 ∧ l1.length ≤ 100) := by
  intro d
  induction d with
  | zero =>
    intro k j s hk hj hm
    obtain ⟨k, rfl⟩ : ∃ m, k = m + 1 := ⟨k - 1, by omega⟩
    simp only [redresslaw20_few.l0]
    rw [if_neg (by omega)]
    by_cases h1 : (l0.length : Int) ≤ 100
    · rw [if_pos h1]
      by_cases h2 : (l1.length : Int) ≤ 100
      · rw [if_pos h2]
        exact ⟨_, rfl, fun _ => ⟨by omega, by omega⟩⟩
      · rw [if_neg h2]
        exact ⟨_, rfl, fun h => by cases h⟩
    · rw [if_neg h1]
      exact ⟨_, rfl, fun h => by cases h⟩
  | succ d ih =>
    intro k j s hk hj hm
    obtain ⟨k, rfl⟩ : ∃ m, k = m + 1 := ⟨k - 1, by omega⟩
    simp only [redresslaw20_few.l0]
    have e : wrap64 ((j : Int) + 1) = ((j + 1 : Nat) : Int) := by unfold wrap64; omega
    rw [if_pos (by omega), if_pos (by omega), if_pos (by omega), e]
    exact ih k (j + 1) _ (by omega) (by omega) hm
def FewSays (l0 l1 : Nat) (w : World) (e : Ending) (w' : World) : Prop := ∃ r : Bool, e = .returned (.bool r) ∧ (r = true → l0 ≤ 100 ∧ l1 ≤ 100) ∧ Below w.heap.size w w'
theorem Few (A0 : Option Addr) (c0 : Nat) (l0 : List Int) (A1 : Option Addr) (c1 : Nat) (l1 : List S32) (w : World) (hr0 : Kd.C (Kd.int .i64) w A0 l0.length l0) (hc0 : l0.length ≤ c0) (hr1 : Kd.C k32 w A1 l1.length l1) (hc1 : l1.length ≤ c1) (hm : l1.length ≤ 9223372036854775807) :
    Calls Try.prog 9 #[.slice A0 l0.length c0, .slice A1 l1.length c1] w (FewSays l0.length l1.length w) := by
  obtain ⟨r, h1, h2⟩ := few_l l0 l1 l1.length (l1.length + 1) 0 0 (by omega) (by omega) hm
  refine (redresslaw20_few.calls (l1.length + 1) A0 c0 l0 A1 c1 l1 r w hr0 hc0 hr1 hc1 (by unfold redresslaw20_few.f; exact h1)).mono ?_
  rintro e w' ⟨rfl, hb⟩
  exact ⟨r, rfl, h2, by first | exact hb | exact hb.below⟩

/-- Asked for one after another. -/
def DS.runs (s : DS) (l : List S32) : DS := l.foldl (fun s x => (s.ask x.f0 x.f1).2) s
theorem runs_snoc (s : DS) (l : List S32) (x : S32) : s.runs (l ++ [x]) = ((s.runs l).ask x.f0 x.f1).2 := by unfold DS.runs; rw [List.foldl_append]; rfl
theorem runs_take (s : DS) (l : List S32) (j : Nat) (h : j < l.length) : s.runs (l.take (j + 1)) = ((s.runs (l.take j)).ask l[j].f0 l[j].f1).2 := by
  rw [List.take_succ_eq_append_getElem h, runs_snoc]
theorem ask_facts (s : DS) (i : Int) (n : ByteArray) : (s.ask i n).2.asked = s.asked + 1 ∧ (s.ask i n).2.deeds.length ≤ s.deeds.length + 1 ∧ (s.ask i n).2.refuses = s.refuses ∧ ∃ t, (s.ask i n).2.deeds = s.deeds ++ t := by
  unfold DS.ask
  cases known s.deeds i with
  | some b => exact ⟨rfl, by simp, rfl, [], by simp⟩
  | none => exact ⟨rfl, by simp, rfl, _, rfl⟩
/-- The counters of a dealer that was asked j times. -/
def DS.sane (s : DS) (r : List Int) (j : Nat) : Prop := s.asked = (j : Int) ∧ s.deeds.length ≤ j ∧ s.refuses = r
theorem sane0 (r : List Int) : (⟨r, [], 0⟩ : DS).sane r 0 := ⟨rfl, Nat.le_refl _, rfl⟩
theorem sane_ask {s : DS} {r : List Int} {j : Nat} (h : s.sane r j) (i : Int) (n : ByteArray) : (s.ask i n).2.sane r (j + 1) := by
  obtain ⟨h1, h2, h3, _⟩ := ask_facts s i n
  exact ⟨by rw [h1, h.1]; omega, by have := h.2.1; omega, h3.trans h.2.2⟩
theorem known_append {l t : List S53} {i : Int} {b : Bool} (h : known l i = some b) : known (l ++ t) i = some b := by
  unfold known at *
  rw [List.find?_append]
  cases h4 : l.find? (fun d => d.f0 == i) with
  | some y => rw [h4] at h; simpa using h
  | none => rw [h4] at h; cases h
theorem known_ask (s : DS) (i : Int) (n : ByteArray) : known (s.ask i n).2.deeds i = some (s.ask i n).1 := by
  unfold DS.ask
  cases h : known s.deeds i with
  | some b => exact h
  | none =>
    have := known_snoc s.deeds ⟨i, n, !decide (i ∈ s.refuses)⟩ h i
    unfold upd at this
    rw [if_pos rfl] at this
    exact this.symm
theorem known_ask_other (s : DS) (i k : Int) (n : ByteArray) (h : k ≠ i) : known (s.ask i n).2.deeds k = known s.deeds k := by
  unfold DS.ask
  cases hk : known s.deeds i with
  | some b => rfl
  | none =>
    have := known_snoc s.deeds ⟨i, n, !decide (i ∈ s.refuses)⟩ hk k
    unfold upd at this
    rw [if_neg h] at this
    exact this.symm
theorem known_run (s : DS) (h0 : s.deeds = []) (l : List S32) (i : Int) : (known (s.runs l).deeds i = none) ↔ ∀ y ∈ l, y.f0 ≠ i := by
  have key : ∀ (l : List S32) (s : DS), (known (s.runs l).deeds i = none) ↔ (known s.deeds i = none ∧ ∀ y ∈ l, y.f0 ≠ i) := by
    intro l
    induction l with
    | nil => intro s; simp [DS.runs]
    | cons x l ih =>
      intro s
      have e : s.runs (x :: l) = (s.ask x.f0 x.f1).2.runs l := rfl
      rw [e, ih]
      by_cases h : i = x.f0
      · subst h
        rw [known_ask]
        simp
      · rw [known_ask_other s x.f0 i x.f1 h]
        simp only [List.mem_cons, forall_eq_or_imp]
        constructor
        · rintro ⟨h1, h2⟩; exact ⟨h1, fun e => h e.symm, h2⟩
        · rintro ⟨h1, _, h2⟩; exact ⟨h1, h2⟩
  rw [key l s, h0]
  simp [known]
theorem runs_prefix (l : List S32) : ∀ s : DS, ∃ t, (s.runs l).deeds = s.deeds ++ t := by
  induction l with
  | nil => intro s; exact ⟨[], by simp [DS.runs]⟩
  | cons x l ih =>
    intro s
    obtain ⟨t, ht⟩ := (ask_facts s x.f0 x.f1).2.2.2
    obtain ⟨t2, ht2⟩ := ih (s.ask x.f0 x.f1).2
    exact ⟨t ++ t2, by rw [show s.runs (x :: l) = (s.ask x.f0 x.f1).2.runs l from rfl, ht2, ht, List.append_assoc]⟩
theorem runs_split (s : DS) (l : List S32) (j : Nat) : ∃ t, (s.runs l).deeds = (s.runs (l.take j)).deeds ++ t := by
  obtain ⟨t, ht⟩ := runs_prefix (l.drop j) (s.runs (l.take j))
  refine ⟨t, ?_⟩
  rw [← ht]
  unfold DS.runs
  rw [← List.foldl_append, List.take_append_drop]
/-- What is asked first is there, under its own name. -/
theorem first_there (s : DS) (l : List S32) (j : Nat) (h : j < l.length) (hn : known (s.runs (l.take j)).deeds l[j].f0 = none) :
    ∃ (hd : (s.runs (l.take j)).deeds.length < (s.runs l).deeds.length), (s.runs l).deeds[(s.runs (l.take j)).deeds.length].f0 = l[j].f0 ∧ (s.runs l).deeds[(s.runs (l.take j)).deeds.length].f1 = l[j].f1 ∧ (s.runs (l.take (j + 1))).deeds.length = (s.runs (l.take j)).deeds.length + 1 := by
  obtain ⟨t, ht⟩ := runs_split s l (j + 1)
  rw [runs_take s l j h] at ht
  have e : ((s.runs (l.take j)).ask l[j].f0 l[j].f1).2.deeds = (s.runs (l.take j)).deeds ++ [⟨l[j].f0, l[j].f1, !decide (l[j].f0 ∈ (s.runs (l.take j)).refuses)⟩] := by unfold DS.ask; rw [hn]
  rw [e] at ht
  have hd : (s.runs (l.take j)).deeds.length < (s.runs l).deeds.length := by rw [ht]; simp
  refine ⟨hd, ?_⟩
  have hg : (s.runs l).deeds[(s.runs (l.take j)).deeds.length]? = some ⟨l[j].f0, l[j].f1, !decide (l[j].f0 ∈ (s.runs (l.take j)).refuses)⟩ := by
    rw [ht, List.append_assoc, List.getElem?_append_right (Nat.le_refl _)]; simp
  rw [List.getElem?_eq_getElem hd] at hg
  have hg2 := Option.some.inj hg
  rw [hg2]
  exact ⟨rfl, rfl, by rw [runs_take s l j h, e]; simp⟩
theorem again_there (s : DS) (l : List S32) (j : Nat) (h : j < l.length) (b : Bool) (hn : known (s.runs (l.take j)).deeds l[j].f0 = some b) : (s.runs (l.take (j + 1))).deeds = (s.runs (l.take j)).deeds := by
  rw [runs_take s l j h]; unfold DS.ask; rw [hn]
/-- Is a number new behind a row? -/
def newB (l : List S32) (i : Int) : Bool := l.all (fun y => y.f0 != i)
theorem newB_snoc (l : List S32) (y : S32) (i : Int) : newB (l ++ [y]) i = (newB l i && (y.f0 != i)) := by unfold newB; simp
theorem newB_iff (l : List S32) (i : Int) : newB l i = true ↔ ∀ y ∈ l, y.f0 ≠ i := by unfold newB; simp
theorem newB_take (l : List S32) (k : Nat) (h : k < l.length) (i : Int) : newB (l.take (k + 1)) i = (newB (l.take k) i && (l[k].f0 != i)) := by rw [List.take_succ_eq_append_getElem h, newB_snoc]
end Deal
end Go.Proofs.Ytohenapbgencbaa
