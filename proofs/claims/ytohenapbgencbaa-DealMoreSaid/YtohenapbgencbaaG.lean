/- Two dealers, in plain words. -/
import Derived.Test.YtohenapbgencbaaE
namespace Go.Proofs.Ytohenapbgencbaa
open Go.RowKit Go.Proofs.YtohenapbgencbaaW.PrintWords Go.Proofs.YtohenapbgencbaaW.PrintLast Go.Proofs.YtohenapbgencbaaW.PrintMore Go.Proofs.Ytohenapbgencbaa.PK
set_option linter.unusedVariables false
set_option linter.unusedSimpArgs false
namespace Deal

theorem known_none_iff (l : List S53) (i : Int) : known l i = none ↔ i ∉ l.map (·.f0) := by
  unfold known
  rw [Option.map_eq_none_iff, List.find?_eq_none]
  simp only [List.mem_map, not_exists, not_and, beq_iff_eq]
theorem known_mem {l : List S53} {i : Int} {b : Bool} (h : known l i = some b) : ∃ d ∈ l, d.f0 = i ∧ d.f2 = b := by
  unfold known at h
  obtain ⟨d, h1, h2⟩ := Option.map_eq_some_iff.1 h
  exact ⟨d, List.mem_of_find?_eq_some h1, by simpa using List.find?_some h1, h2⟩
theorem ask_ids (s : DS) (i : Int) (n : ByteArray) : (s.ask i n).2.deeds.map (·.f0) = if i ∈ s.deeds.map (·.f0) then s.deeds.map (·.f0) else s.deeds.map (·.f0) ++ [i] := by
  unfold DS.ask
  cases h : known s.deeds i with
  | some b =>
    obtain ⟨d, h1, h2, _⟩ := known_mem h
    rw [if_pos (by rw [← h2]; exact List.mem_map_of_mem h1)]
  | none => rw [if_neg ((known_none_iff _ _).1 h)]; simp
theorem ask_refuses (s : DS) (i : Int) (n : ByteArray) : (s.ask i n).2.refuses = s.refuses := (ask_facts s i n).2.2.1
/-- One that refuses nothing beside one that refuses all. -/
structure Inv1 (all : List Int) (a b : DS) : Prop where
  ra : a.refuses = []
  rb : b.refuses = all
  ta : ∀ d ∈ a.deeds, d.f2 = true
  tb : ∀ d ∈ b.deeds, d.f2 = false
  ids : a.deeds.map (·.f0) = b.deeds.map (·.f0)
theorem ask_true {s : DS} (hr : s.refuses = []) (ht : ∀ d ∈ s.deeds, d.f2 = true) (i : Int) (n : ByteArray) : (s.ask i n).1 = true ∧ ∀ d ∈ (s.ask i n).2.deeds, d.f2 = true := by
  unfold DS.ask
  cases h : known s.deeds i with
  | some b =>
    obtain ⟨d, h1, _, h2⟩ := known_mem h
    exact ⟨by show b = true; rw [← h2]; exact ht d h1, ht⟩
  | none =>
    refine ⟨by rw [hr]; rfl, fun d hd => ?_⟩
    rcases List.mem_append.1 hd with h1 | h1
    · exact ht d h1
    · simp at h1; rw [h1, hr]; rfl
theorem ask_false {s : DS} {i : Int} (hr : i ∈ s.refuses) (ht : ∀ d ∈ s.deeds, d.f2 = false) (n : ByteArray) : (s.ask i n).1 = false ∧ ∀ d ∈ (s.ask i n).2.deeds, d.f2 = false := by
  unfold DS.ask
  cases h : known s.deeds i with
  | some b =>
    obtain ⟨d, h1, _, h2⟩ := known_mem h
    exact ⟨by show b = false; rw [← h2]; exact ht d h1, ht⟩
  | none =>
    refine ⟨by simp [hr], fun d hd => ?_⟩
    rcases List.mem_append.1 hd with h1 | h1
    · exact ht d h1
    · simp at h1; rw [h1]; simp [hr]
theorem Inv1.ask {all : List Int} {a b : DS} (h : Inv1 all a b) {i : Int} (hi : i ∈ all) (n : ByteArray) : (a.ask i n).1 = true ∧ (b.ask i n).1 = false ∧ Inv1 all (a.ask i n).2 (b.ask i n).2 := by
  have h1 := ask_true h.ra h.ta i n
  have h2 := ask_false (show i ∈ b.refuses by rw [h.rb]; exact hi) h.tb n
  exact ⟨h1.1, h2.1, (ask_refuses _ _ _).trans h.ra, (ask_refuses _ _ _).trans h.rb, h1.2, h2.2, by rw [ask_ids, ask_ids, h.ids]⟩
theorem Inv1.ends {all : List Int} {a b : DS} (h : Inv1 all a b) : uniq (pick (fun x => !x.f2) a.deeds) = [] ∧ pick (fun x => x.f2) b.deeds = [] ∧ (pick (fun x => x.f2) a.deeds).length = b.deeds.length := by
  have e1 : a.deeds.filter (fun x => !x.f2) = [] := by rw [List.filter_eq_nil_iff]; intro d hd; simp [h.ta d hd]
  have e2 : b.deeds.filter (fun x => x.f2) = [] := by rw [List.filter_eq_nil_iff]; intro d hd; simp [h.tb d hd]
  have e3 : a.deeds.filter (fun x => x.f2) = a.deeds := by rw [List.filter_eq_self]; intro d hd; simp [h.ta d hd]
  refine ⟨by unfold pick; rw [e1]; rfl, by unfold pick; rw [e2]; rfl, ?_⟩
  unfold pick
  rw [e3, List.length_map]
  have := congrArg List.length h.ids
  simpa using this
/-- The same numbers, and what the second did the first did. -/
inductive Two : List S53 → List S53 → Prop where
  | nil : Two [] []
  | cons {x y : S53} {l m : List S53} (h : x.f0 = y.f0 ∧ (y.f2 = true → x.f2 = true)) (t : Two l m) : Two (x :: l) (y :: m)
theorem Two.snoc {l m : List S53} (h : Two l m) {x y : S53} (hx : x.f0 = y.f0 ∧ (y.f2 = true → x.f2 = true)) : Two (l ++ [x]) (m ++ [y]) := by
  induction h with
  | nil => exact .cons hx .nil
  | cons h _ ih => exact .cons h ih
/-- One that refuses more beside one that refuses less. -/
structure Inv2 (a b : DS) : Prop where
  sub : ∀ i ∈ a.refuses, i ∈ b.refuses
  two : Two a.deeds b.deeds
theorem two_known {i : Int} : ∀ {l m : List S53}, Two l m → (known l i = none ∧ known m i = none) ∨ ∃ b c, known l i = some b ∧ known m i = some c ∧ (c = true → b = true) := by
  intro l m h
  induction h with
  | nil => exact .inl ⟨rfl, rfl⟩
  | @cons x y l m hxy _ ih =>
    unfold known at *
    by_cases e : x.f0 = i
    · have e2 : y.f0 = i := hxy.1 ▸ e
      refine .inr ⟨x.f2, y.f2, ?_, ?_, hxy.2⟩
      · simp [List.find?_cons, e]
      · simp [List.find?_cons, e2]
    · have e2 : ¬ y.f0 = i := hxy.1 ▸ e
      simp only [List.find?_cons]
      rw [show (x.f0 == i) = false by simpa using e, show (y.f0 == i) = false by simpa using e2]
      exact ih
theorem Inv2.ask {a b : DS} (h : Inv2 a b) (i : Int) (n : ByteArray) : ((b.ask i n).1 = true → (a.ask i n).1 = true) ∧ Inv2 (a.ask i n).2 (b.ask i n).2 := by
  have hs : ∀ j ∈ (a.ask i n).2.refuses, j ∈ (b.ask i n).2.refuses := by rw [ask_refuses, ask_refuses]; exact h.sub
  rcases two_known (i := i) h.two with ⟨h1, h2⟩ | ⟨x, y, h1, h2, h3⟩
  · have ea : a.ask i n = (!decide (i ∈ a.refuses), { a with deeds := a.deeds ++ [⟨i, n, !decide (i ∈ a.refuses)⟩], asked := a.asked + 1 }) := by unfold DS.ask; rw [h1]
    have eb : b.ask i n = (!decide (i ∈ b.refuses), { b with deeds := b.deeds ++ [⟨i, n, !decide (i ∈ b.refuses)⟩], asked := b.asked + 1 }) := by unfold DS.ask; rw [h2]
    have him : (!decide (i ∈ b.refuses)) = true → (!decide (i ∈ a.refuses)) = true := by
      intro hb
      simp at hb ⊢
      exact fun ha => hb (h.sub i ha)
    refine ⟨by rw [ea, eb]; exact him, hs, ?_⟩
    rw [ea, eb]
    exact h.two.snoc ⟨rfl, him⟩
  · have ea : a.ask i n = (x, { a with asked := a.asked + 1 }) := by unfold DS.ask; rw [h1]
    have eb : b.ask i n = (y, { b with asked := b.asked + 1 }) := by unfold DS.ask; rw [h2]
    refine ⟨by rw [ea, eb]; exact h3, hs, ?_⟩
    rw [ea, eb]
    exact h.two
theorem Inv2.ends {a b : DS} (h : Inv2 a b) : (pick (fun x => x.f2) b.deeds).length ≤ (pick (fun x => x.f2) a.deeds).length ∧ a.deeds.length = b.deeds.length := by
  have key : ∀ {l m : List S53}, Two l m → (pick (fun x => x.f2) m).length ≤ (pick (fun x => x.f2) l).length ∧ l.length = m.length := by
    intro l m h
    induction h with
    | nil => exact ⟨Nat.le_refl _, rfl⟩
    | @cons x y l m hxy _ ih =>
      refine ⟨?_, by simp [ih.2]⟩
      unfold pick at *
      simp only [List.filter_cons]
      cases hy : y.f2
      · cases hx : x.f2
        · simpa using ih.1
        · simp; have := ih.1; simp at this; omega
      · rw [hxy.2 hy]
        simpa using ih.1
  exact key h.two
end Deal
end Go.Proofs.Ytohenapbgencbaa
