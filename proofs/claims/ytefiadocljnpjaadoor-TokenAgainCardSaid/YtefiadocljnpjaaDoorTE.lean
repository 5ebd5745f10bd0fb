/- The plain law of layer 5: texts of tokens, and what is read of them. -/
import Derived.Test.YtefiadocljnpjaaDoorTA
import Derived.Test.YtefiadocljnpjaaDoorTN
import Derived.Test.YtefiadocljnpjaaDoorPKx6
import Derived.Test.YtefiadocljnpjaaDoorPKx9
namespace Go.Proofs.YtefiadocljnpjaaDoor.Row
open Go.Proofs.Tree Go.RowKit Go.Proofs.YtefiadocljnpjaaDoorW.PrintWords Go.Proofs.YtefiadocljnpjaaDoorW.PrintLast Go.Proofs.YtefiadocljnpjaaDoorW.PrintMore Go.Proofs.YtefiadocljnpjaaDoor.PK
set_option linter.unusedVariables false
set_option linter.unusedSimpArgs false
set_option maxRecDepth 100000
theorem bt_of (S : ByteArray) (p : Nat) (h : p < S.size) : bt S (p : Int) = ((S[p]'h).toNat : Int) := by
  unfold bt
  rw [dif_pos (by simpa using h)]
  rfl
theorem bt_left (s u : ByteArray) (p : Nat) (h : p < s.size) : bt (s ++ u) (p : Int) = bt s (p : Int) := by
  rw [bt_of _ p (by rw [ByteArray.size_append]; omega), bt_of s p h, ByteArray.getElem_append_left h]
theorem bt_right (s u : ByteArray) (p : Nat) (h : p < u.size) : bt (s ++ u) ((s.size + p : Nat) : Int) = bt u (p : Int) := by
  rw [bt_of _ (s.size + p) (by rw [ByteArray.size_append]; omega), bt_of u p h, ByteArray.getElem_append_right (by omega)]
  congr 3
  omega
theorem ba_ext (a b : ByteArray) (h : a.size = b.size) (hb : ∀ p : Nat, p < a.size → bt a (p : Int) = bt b (p : Int)) : a = b := by
  apply ByteArray.ext_getElem h
  intro i h1 h2
  have := hb i h1
  rw [bt_of a i h1, bt_of b i h2] at this
  exact UInt8.toNat_inj.1 (by omega)
theorem ba_empty (n : ByteArray) (h : n.size = 0) : n = ⟨#[]⟩ := ba_ext _ _ (by rw [h]; rfl) (fun p hp => by omega)
/-- A name that may be. -/
def Nam (n : ByteArray) : Prop := 1 ≤ n.size ∧ n.size ≤ 8 ∧ ∀ p : Nat, p < n.size → isL (bt n (p : Int)) = true
instance (n : ByteArray) : Decidable (Nam n) := by unfold Nam; infer_instance
/-- A token that may be. -/
def Can (k : Int) (n : ByteArray) : Prop := (k = 10 ∧ Nam n) ∨ (1 ≤ k ∧ k ≤ 9 ∧ n = ⟨#[]⟩)
/-- The text of a token. -/
def tx (k : Int) (n : ByteArray) : ByteArray := if k = 10 then n else signsB.extract (k - 1).toNat k.toNat
def tprint (k : Int) (n : ByteArray) : ByteArray × Bool :=
  if k = 10 then (if decide (Nam n) = true then (n, true) else (⟨#[]⟩, false))
  else if k < 1 then (⟨#[]⟩, false) else if k > 9 then (⟨#[]⟩, false) else if n.toList = [] then (signsB.extract (k - 1).toNat k.toNat, true) else (⟨#[]⟩, false)
theorem toList_nil (n : ByteArray) : n.toList = [] ↔ n.size = 0 := by
  rw [ByteArray.toList_eq]
  constructor
  · intro h
    have := congrArg List.length h
    rw [Array.length_toList] at this
    exact this
  · intro h
    apply List.eq_nil_of_length_eq_zero
    rw [Array.length_toList]
    exact h
theorem tprint_can (k : Int) (n : ByteArray) (h : Can k n) : tprint k n = (tx k n, true) := by
  rcases h with ⟨rfl, hn⟩ | ⟨h1, h9, rfl⟩
  · unfold tprint tx
    rw [if_pos rfl, if_pos rfl, if_pos (decide_eq_true hn)]
  · unfold tprint tx
    rw [if_neg (by omega), if_neg (by omega), if_neg (by omega), if_pos ((toList_nil _).2 rfl), if_neg (by omega)]
theorem tprint_cases (k : Int) (n : ByteArray) : (Can k n ∧ tprint k n = (tx k n, true)) ∨ tprint k n = (⟨#[]⟩, false) := by
  by_cases h : Can k n
  · exact .inl ⟨h, tprint_can k n h⟩
  · right
    unfold tprint
    by_cases h10 : k = 10
    · rw [if_pos h10, if_neg (fun e => h (.inl ⟨h10, of_decide_eq_true e⟩))]
    · rw [if_neg h10]
      by_cases h1 : k < 1
      · rw [if_pos h1]
      · rw [if_neg h1]
        by_cases h9 : k > 9
        · rw [if_pos h9]
        · rw [if_neg h9]
          by_cases hn : n.toList = []
          · exact absurd (.inr ⟨by omega, by omega, ba_empty n ((toList_nil n).1 hn)⟩) h
          · rw [if_neg hn]
theorem sign_text (k : Int) (h1 : 1 ≤ k) (h9 : k ≤ 9) : (signsB.extract (k - 1).toNat k.toNat).size = 1 ∧ sg (bt (signsB.extract (k - 1).toNat k.toNat) ((0 : Nat) : Int)) = k ∧ isL (bt (signsB.extract (k - 1).toNat k.toNat) ((0 : Nat) : Int)) = false ∧ bt (signsB.extract (k - 1).toNat k.toNat) ((0 : Nat) : Int) ≠ 32 := by
  have key : ∀ j : Fin 9, (signsB.extract j.val (j.val + 1)).size = 1 ∧ sg (bt (signsB.extract j.val (j.val + 1)) ((0 : Nat) : Int)) = ((j.val : Nat) : Int) + 1 ∧ isL (bt (signsB.extract j.val (j.val + 1)) ((0 : Nat) : Int)) = false ∧ bt (signsB.extract j.val (j.val + 1)) ((0 : Nat) : Int) ≠ 32 := by decide +kernel
  have := key ⟨(k - 1).toNat, by omega⟩
  have e1 : (k - 1).toNat + 1 = k.toNat := by omega
  have e2 : (((k - 1).toNat : Nat) : Int) + 1 = k := by omega
  simp only [e1, e2] at this
  exact this
theorem tx_size (k : Int) (n : ByteArray) (h : Can k n) : 1 ≤ (tx k n).size ∧ (tx k n).size ≤ 8 := by
  rcases h with ⟨rfl, hn⟩ | ⟨h1, h9, rfl⟩
  · unfold tx; rw [if_pos rfl]; exact ⟨hn.1, hn.2.1⟩
  · unfold tx; rw [if_neg (by omega), (sign_text k h1 h9).1]; omega
/-- The reader comes to a place with these tokens. -/
def Rd (S : ByteArray) (a : Nat) (out : List S34) : Prop := ∀ r, Lx S a out r → Lx S 0 [] r
def Ext (s S : ByteArray) : Prop := s.size ≤ S.size ∧ ∀ p : Nat, p < s.size → bt S (p : Int) = bt s (p : Int)
/-- A text that is read as these tokens, whatever stands behind it but a letter. -/
def Pre (s : ByteArray) (out : List S34) : Prop := ∀ S, Ext s S → (s.size < S.size → isL (bt S (s.size : Int)) = false) → Rd S s.size out
/-- .. whatever stands behind it. -/
def PreB (s : ByteArray) (out : List S34) : Prop := ∀ S, Ext s S → Rd S s.size out
theorem PreB.pre {s : ByteArray} {out : List S34} (h : PreB s out) : Pre s out := fun S hE _ => h S hE
theorem Ext.refl (s : ByteArray) : Ext s s := ⟨Nat.le_refl _, fun _ _ => rfl⟩
theorem Ext.left {s u S : ByteArray} (h : Ext (s ++ u) S) : Ext s S :=
  ⟨by have := h.1; rw [ByteArray.size_append] at this; omega, fun p hp => by rw [h.2 p (by rw [ByteArray.size_append]; omega), bt_left s u p hp]⟩
theorem Ext.at {s u S : ByteArray} (h : Ext (s ++ u) S) (p : Nat) (hp : p < u.size) : bt S ((s.size + p : Nat) : Int) = bt u (p : Int) := by
  rw [h.2 (s.size + p) (by rw [ByteArray.size_append]; omega), bt_right s u p hp]
def blankT : ByteArray := ⟨#[32]⟩
theorem preB_nil : PreB ⟨#[]⟩ [] := fun S _ r h => h
theorem Pre.blank {s : ByteArray} {out : List S34} (h : Pre s out) : PreB (s ++ blankT) out := by
  intro S hE r hr
  have h0 : bt S ((s.size + 0 : Nat) : Int) = 32 := hE.at 0 (by decide)
  rw [Nat.add_zero] at h0
  have hs := hE.1
  have e : (s ++ blankT).size = s.size + 1 := by rw [ByteArray.size_append]; rfl
  rw [e] at hs hr
  refine h S hE.left (fun _ => by rw [h0]; rfl) r (.blank s.size out r (by omega) h0 hr)
theorem PreB.tok {s : ByteArray} {out : List S34} (h : PreB s out) (k : Int) (n : ByteArray) (hc : Can k n) : Pre (s ++ tx k n) (out ++ [⟨k, (s.size : Int), n⟩]) := by
  intro S hE hb r hr
  have hs := hE.1
  rw [ByteArray.size_append] at hs hb hr
  refine h S hE.left r ?_
  rcases hc with ⟨rfl, hn⟩ | ⟨h1, h9, rfl⟩
  · have e : tx 10 n = n := by unfold tx; rw [if_pos rfl]
    rw [e] at hs hb hr hE
    have ex : S.extract s.size (s.size + n.size) = n := by
      refine ba_ext _ _ (by rw [ByteArray.size_extract]; omega) (fun p hp => ?_)
      rw [ByteArray.size_extract] at hp
      rw [bt_extract S _ _ p (by omega) hs, hE.at p (by omega)]
    refine .name s.size (s.size + n.size) out r (by have := hn.1; omega) (by have := hn.2.1; omega) hs (fun p h2 h3 => ?_) hb (by rw [ex]; exact hr)
    have := hE.at (p - s.size) (by omega)
    rw [show s.size + (p - s.size) = p by omega] at this
    rw [this]
    exact hn.2.2 _ (by omega)
  · have e : tx k ⟨#[]⟩ = signsB.extract (k - 1).toNat k.toNat := by unfold tx; rw [if_neg (by omega)]
    rw [e] at hs hb hr hE
    obtain ⟨z1, z2, z3, z4⟩ := sign_text k h1 h9
    have h0 := hE.at 0 (by omega)
    rw [Nat.add_zero] at h0
    rw [z1] at hs hr
    rw [← h0] at z2 z3 z4
    refine .sign s.size out r (by omega) z3 z4 (by rw [z2]; omega) ?_
    rw [z2]
    exact hr
theorem Pre.lex {s : ByteArray} {out : List S34} (h : Pre s out) (hs : s.size ≤ 1000) : LexIs s (out, (s.size : Int), 0) := by
  unfold LexIs
  rw [if_neg (by omega)]
  exact h s (Ext.refl s) (fun h => by omega) _ (.fin out)
theorem lex_nil : LexIs ⟨#[]⟩ ([], 0, 0) := preB_nil.pre.lex (by decide)
theorem lex_one (k : Int) (n : ByteArray) (hc : Can k n) : LexIs (tx k n) ([⟨k, 0, n⟩], ((tx k n).size : Int), 0) := by
  have h := preB_nil.tok k n hc
  have e : (⟨#[]⟩ : ByteArray) ++ tx k n = tx k n := ByteArray.empty_append
  rw [e] at h
  exact h.lex (by have := tx_size k n hc; omega)
/-- What tokens take, printed, with a blank behind each. -/
def cost : List S34 → Nat
  | [] => 0
  | t :: l => (tx t.f0 t.f2).size + 1 + cost l
theorem cost_append (a b : List S34) : cost (a ++ b) = cost a + cost b := by
  induction a with
  | nil => simp [cost]
  | cons t l ih => simp [cost, ih]; omega
theorem named_extract (s : ByteArray) (a tt : Nat) (h1 : a < tt) (h8 : tt ≤ a + 8) (h2 : tt ≤ s.size) (hl : ∀ p : Nat, a ≤ p → p < tt → isL (bt s (p : Int)) = true) : Nam (s.extract a tt) := by
  have e : (s.extract a tt).size = tt - a := by rw [ByteArray.size_extract]; omega
  refine ⟨by omega, by omega, fun p hp => ?_⟩
  rw [bt_extract s a tt p (by omega) h2]
  exact hl _ (by omega) (by omega)
theorem can_sign (b : Int) (h : sg b ≠ 0) : Can (sg b) ⟨#[]⟩ := by
  right
  have : 0 ≤ sg b ∧ sg b ≤ 9 := by unfold sg; (repeat' split) <;> omega
  exact ⟨by omega, by omega, rfl⟩
/-- Each token that is read may be, and they take not much. -/
theorem lx_can {s : ByteArray} {a : Nat} {out : List S34} {r : List S34 × Int × Int} (h : Lx s a out r) : a ≤ s.size → (∀ t ∈ out, Can t.f0 t.f2) → (∀ t ∈ r.1, Can t.f0 t.f2) ∧ cost r.1 ≤ cost out + 2 * (s.size - a) := by
  induction h with
  | fin out => exact fun _ h => ⟨h, Nat.le_add_right _ _⟩
  | long a tt out h1 h2 hl he => exact fun _ _ => ⟨(fun t ht => by cases ht), (by simp [cost])⟩
  | bad a out h1 hl hb hs => exact fun _ _ => ⟨(fun t ht => by cases ht), (by simp [cost])⟩
  | name a tt out r h1 h8 h2 hl he k ih =>
    intro ha ho
    have hn := named_extract s a tt h1 h8 h2 hl
    obtain ⟨i1, i2⟩ := ih h2 (fun t ht => by
      rcases List.mem_append.1 ht with ht | ht
      · exact ho t ht
      · simp at ht; rw [ht]; exact .inl ⟨rfl, hn⟩)
    refine ⟨i1, ?_⟩
    rw [cost_append] at i2
    have e : cost [(⟨10, (a : Int), s.extract a tt⟩ : S34)] = (tt - a) + 1 := by
      simp only [cost, tx, if_true, ByteArray.size_extract]
      omega
    rw [e] at i2
    omega
  | blank a out r h1 hb k ih =>
    intro ha ho
    obtain ⟨i1, i2⟩ := ih (by omega) ho
    exact ⟨i1, by omega⟩
  | sign a out r h1 hl hb hs k ih =>
    intro ha ho
    have hc := can_sign _ hs
    obtain ⟨i1, i2⟩ := ih (by omega) (fun t ht => by
      rcases List.mem_append.1 ht with ht | ht
      · exact ho t ht
      · simp at ht; rw [ht]; exact hc)
    refine ⟨i1, ?_⟩
    rw [cost_append] at i2
    have e : cost [(⟨sg (bt s (a : Int)), (a : Int), ⟨#[]⟩⟩ : S34)] = 2 := by
      have h0 : 1 ≤ sg (bt s (a : Int)) ∧ sg (bt s (a : Int)) ≤ 9 := by
        rcases hc with ⟨h, hn⟩ | ⟨h1, h9, _⟩
        · exact absurd hn.1 (by decide)
        · exact ⟨h1, h9⟩
      have z := (sign_text _ h0.1 h0.2).1
      simp only [cost, tx]
      rw [if_neg (by omega), z]
    rw [e] at i2
    omega
/-- The place is one of the text, or its end. -/
theorem lx_place {s : ByteArray} {a : Nat} {out : List S34} {r : List S34 × Int × Int} (h : Lx s a out r) : a ≤ s.size → 0 ≤ r.2.1 ∧ r.2.1 ≤ (s.size : Int) := by
  induction h with
  | fin out => intro _; simp
  | long a tt out h1 h2 hl he => intro _; simp only; omega
  | bad a out h1 hl hb hs => intro _; simp only; omega
  | name a tt out r h1 h8 h2 hl he k ih => exact fun _ => ih h2
  | blank a out r h1 hb k ih => exact fun _ => ih (by omega)
  | sign a out r h1 hl hb hs k ih => exact fun _ => ih (by omega)
theorem lex_place {s : ByteArray} {r : List S34 × Int × Int} (h : LexIs s r) : 0 ≤ r.2.1 ∧ r.2.1 ≤ (s.size : Int) := by
  unfold LexIs at h
  by_cases hs : s.size > 1000
  · rw [if_pos hs] at h
    subst h
    simp only; omega
  · rw [if_neg hs] at h
    exact lx_place h (Nat.zero_le _)
/-- What is refused at a byte is refused there whatever stands behind it; what stands ahead of it is read. -/
theorem lx_head {s : ByteArray} {a : Nat} {out : List S34} {r : List S34 × Int × Int} (h : Lx s a out r) : ∀ q : Nat, r.2.1 = (q : Int) → r.2.2 = 50 → a ≤ s.size → a ≤ q ∧ q < s.size ∧ r.1 = [] ∧
    (∀ S : ByteArray, q < S.size → (∀ p : Nat, p ≤ q → bt S (p : Int) = bt s (p : Int)) → Lx S a out ([], (q : Int), 50)) ∧
    (∀ S : ByteArray, S.size = q → (∀ p : Nat, p < q → bt S (p : Int) = bt s (p : Int)) → ∃ o, Lx S a out (o, (q : Int), 0)) := by
  induction h with
  | fin out => intro q _ h; simp at h
  | long a tt out h1 h2 hl he => intro q _ h; simp at h
  | bad a out h1 hl hb hs =>
    intro q hq _ _
    simp only at hq
    obtain rfl : a = q := by omega
    refine ⟨Nat.le_refl _, h1, rfl, fun S hS he => ?_, fun S hS he => ?_⟩
    · exact .bad a out hS (by rw [he a (Nat.le_refl _)]; exact hl) (by rw [he a (Nat.le_refl _)]; exact hb) (by rw [he a (Nat.le_refl _)]; exact hs)
    · subst hS
      exact ⟨out, .fin out⟩
  | name a tt out r h1 h8 h2 hl he k ih =>
    intro q hq h50 _
    obtain ⟨i1, i2, i3, i4, i5⟩ := ih q hq h50 h2
    have ext : ∀ S : ByteArray, q ≤ S.size → (∀ p : Nat, p < q → bt S (p : Int) = bt s (p : Int)) → S.extract a tt = s.extract a tt := by
      intro S hS hp
      refine ba_ext _ _ (by rw [ByteArray.size_extract, ByteArray.size_extract]; omega) (fun p h => ?_)
      rw [ByteArray.size_extract] at h
      rw [bt_extract S a tt p (by omega) (by omega), bt_extract s a tt p (by omega) h2, hp _ (by omega)]
    refine ⟨by omega, i2, i3, fun S hS hp => ?_, fun S hS hp => ?_⟩
    · refine .name a tt out _ h1 h8 (by omega) (fun p h3 h4 => by rw [hp p (by omega)]; exact hl p h3 h4) (fun h3 => by rw [hp tt i1]; exact he (by omega)) ?_
      rw [ext S (by omega) (fun p h => hp p (by omega))]
      exact i4 S hS hp
    · obtain ⟨o, ho⟩ := i5 S hS hp
      refine ⟨o, .name a tt out _ h1 h8 (by omega) (fun p h3 h4 => by rw [hp p (by omega)]; exact hl p h3 h4) (fun h3 => by rw [hp tt (by omega)]; exact he (by omega)) ?_⟩
      rw [ext S (by omega) hp]
      exact ho
  | blank a out r h1 hb k ih =>
    intro q hq h50 _
    obtain ⟨i1, i2, i3, i4, i5⟩ := ih q hq h50 (by omega)
    refine ⟨by omega, i2, i3, fun S hS hp => .blank a out _ (by omega) (by rw [hp a (by omega)]; exact hb) (i4 S hS hp), fun S hS hp => ?_⟩
    obtain ⟨o, ho⟩ := i5 S hS hp
    exact ⟨o, .blank a out _ (by omega) (by rw [hp a (by omega)]; exact hb) ho⟩
  | sign a out r h1 hl hb hs k ih =>
    intro q hq h50 _
    obtain ⟨i1, i2, i3, i4, i5⟩ := ih q hq h50 (by omega)
    refine ⟨by omega, i2, i3, fun S hS hp => ?_, fun S hS hp => ?_⟩
    · have e := hp a (by omega)
      exact .sign a out _ (by omega) (by rw [e]; exact hl) (by rw [e]; exact hb) (by rw [e]; exact hs) (by rw [e]; exact i4 S hS hp)
    · obtain ⟨o, ho⟩ := i5 S hS hp
      have e := hp a (by omega)
      exact ⟨o, .sign a out _ (by omega) (by rw [e]; exact hl) (by rw [e]; exact hb) (by rw [e]; exact hs) (by rw [e]; exact ho)⟩
/-- The reference's words. -/
theorem named_ev (n : ByteArray) (hn : n.size ≤ 9223372036854775807) : Ev (fun k => redressref05_named.f k n) (decide (Nam n)) := by
  have last : (∀ q : Nat, q < n.size → isL (bt n (q : Int)) = true) → Ev (fun k => redressref05_named.l0 k n (n.size : Int)) (decide (Nam n)) := by
    intro hl
    by_cases h0 : (n.size : Int) ≥ 1
    · have e : decide (Nam n) = decide ((n.size : Int) ≤ 8) := by
        rw [decide_eq_decide]
        exact ⟨fun h => by have := h.2.1; omega, fun h => ⟨by omega, by omega, hl⟩⟩
      rw [e]
      exact tev_step (f := _) (Ev.now _) (fun k => by simp only [redressref05_named.l0]; rw [if_neg (by omega), if_pos h0])
    · have e : decide (Nam n) = false := decide_eq_false (fun h => h0 (by have := h.1; omega))
      rw [e]
      exact tev_step (f := _) (Ev.now _) (fun k => by simp only [redressref05_named.l0]; rw [if_neg (by omega), if_neg h0])
  have key : ∀ d p : Nat, n.size - p ≤ d → p ≤ n.size → (∀ q : Nat, q < p → isL (bt n (q : Int)) = true) → Ev (fun k => redressref05_named.l0 k n (p : Int)) (decide (Nam n)) := by
    intro d
    induction d with
    | zero =>
      intro p h1 h2 hl
      obtain rfl : p = n.size := by omega
      exact last hl
    | succ d ih =>
      intro p h1 h2 hl
      by_cases hp : p < n.size
      · have hw : wrap64 ((p : Int) + 1) = ((p + 1 : Nat) : Int) := by rw [tw64 _ (by omega) (by omega)]; omega
        cases hb : isL (bt n (p : Int)) with
        | true =>
          refine tev_step (f := _) (ih (p + 1) (by omega) (by omega) (fun q hq => ?_)) (fun k => by simp only [redressref05_named.l0]; rw [if_pos (by omega), if_pos (by omega), letter_some, hb, Option.bind_some, if_pos rfl, hw])
          by_cases e : q = p
          · rw [e]; exact hb
          · exact hl q (by omega)
        | false =>
          have e : decide (Nam n) = false := decide_eq_false (fun h => by have := h.2.2 p hp; rw [hb] at this; exact absurd this (by decide))
          rw [e]
          exact tev_step (f := _) (Ev.now _) (fun k => by simp only [redressref05_named.l0]; rw [if_pos (by omega), if_pos (by omega), letter_some, hb, Option.bind_some, if_neg (by decide)])
      · obtain rfl : p = n.size := by omega
        exact last hl
  exact key _ 0 (Nat.le_refl _) (Nat.zero_le _) (fun q h => by omega)
theorem refPrint_ev (k at_ : Int) (n : ByteArray) (hn : n.size ≤ 9223372036854775807) : Ev (fun f => redressref05_Print.f f k at_ n) (tprint k n) := by
  have j0 : ∀ b : Bool, (b = true → k = 10 ∧ Nam n) → (b = false → k = 10 → ¬ Nam n) → Ev (fun f => redressref05_Print.j0 f (⟨#[40, 41, 91, 93, 59, 43, 124, 62, 47]⟩ : ByteArray) b k at_ n) (tprint k n) := by
    intro b ht hf
    cases b with
    | true =>
      obtain ⟨h10, hN⟩ := ht rfl
      have e : tprint k n = (n, true) := by unfold tprint; rw [if_pos h10, if_pos (decide_eq_true hN)]
      rw [e]
      exact tev_step (f := _) (Ev.now _) (fun f => rfl)
    | false =>
      by_cases h1 : k < 1
      · have e : tprint k n = (⟨#[]⟩, false) := by unfold tprint; rw [if_neg (by omega), if_pos h1]
        rw [e]
        exact tev_step (f := _) (Ev.now _) (fun f => by simp only [redressref05_Print.j0]; rw [if_neg (by decide), if_pos h1])
      · by_cases h9 : k > 9
        · have e : tprint k n = (⟨#[]⟩, false) := by
            unfold tprint
            by_cases h10 : k = 10
            · rw [if_pos h10, if_neg (fun e => hf rfl h10 (of_decide_eq_true e))]
            · rw [if_neg h10, if_neg h1, if_pos h9]
          rw [e]
          exact tev_step (f := _) (Ev.now _) (fun f => by simp only [redressref05_Print.j0]; rw [if_neg (by decide), if_neg h1, if_pos h9])
        · by_cases hm : n.toList = []
          · have e : tprint k n = (signsB.extract (k - 1).toNat k.toNat, true) := by unfold tprint; rw [if_neg (by omega), if_neg h1, if_neg h9, if_pos hm]
            rw [e]
            have hw : wrap64 (k - 1) = k - 1 := tw64 _ (by omega) (by omega)
            refine tev_step (f := _) (Ev.now _) (fun f => ?_)
            simp only [redressref05_Print.j0]
            rw [if_neg (by decide), if_neg h1, if_neg h9, if_pos hm, hw, if_pos (by omega), if_pos (by omega), if_pos (by show k ≤ (9 : Int); omega)]
            rfl
          · have e : tprint k n = (⟨#[]⟩, false) := by unfold tprint; rw [if_neg (by omega), if_neg h1, if_neg h9, if_neg hm]
            rw [e]
            exact tev_step (f := _) (Ev.now _) (fun f => by simp only [redressref05_Print.j0]; rw [if_neg (by decide), if_neg h1, if_neg h9, if_neg hm])
  by_cases h10 : k = 10
  · have e : (fun f => redressref05_Print.f f k at_ n) = fun f => (redressref05_named.f f n).bind fun t => redressref05_Print.j0 f (⟨#[40, 41, 91, 93, 59, 43, 124, 62, 47]⟩ : ByteArray) t k at_ n := by
      funext f; unfold redressref05_Print.f; rw [if_pos h10]
    rw [e]
    exact Ev.bind (named_ev n hn) (j0 _ (fun h => ⟨h10, of_decide_eq_true h⟩) (fun h _ => of_decide_eq_false h))
  · have e : (fun f => redressref05_Print.f f k at_ n) = fun f => redressref05_Print.j0 f (⟨#[40, 41, 91, 93, 59, 43, 124, 62, 47]⟩ : ByteArray) false k at_ n := by
      funext f; unfold redressref05_Print.f; rw [if_neg h10]
    rw [e]
    exact j0 false (fun h => absurd h (by decide)) (fun _ h => absurd h h10)
/-- A row is the same as itself. -/
theorem same_ev (l : List S34) (hl : l.length ≤ 9223372036854775806) : Ev (fun k => redressref05_Same.f k l l) true := by
  have key : ∀ d p : Nat, l.length - p ≤ d → p ≤ l.length → Ev (fun k => redressref05_Same.l0 k l l (p : Int)) true := by
    intro d
    induction d with
    | zero =>
      intro p h1 h2
      obtain rfl : p = l.length := by omega
      exact tev_step (f := _) (Ev.now _) (fun k => by simp only [redressref05_Same.l0]; rw [if_neg (by omega)])
    | succ d ih =>
      intro p h1 h2
      by_cases hp : p < l.length
      · have hw : wrap64 ((p : Int) + 1) = ((p + 1 : Nat) : Int) := by rw [tw64 _ (by omega) (by omega)]; omega
        exact tev_step (f := _) (ih (p + 1) (by omega) (by omega)) (fun k => by simp only [redressref05_Same.l0]; rw [if_pos (by omega), if_pos (by omega), if_pos (by omega), if_neg (by simp), hw])
      · obtain rfl : p = l.length := by omega
        exact tev_step (f := _) (Ev.now _) (fun k => by simp only [redressref05_Same.l0]; rw [if_neg (by omega)])
  have e : (fun k => redressref05_Same.f k l l) = fun k => redressref05_Same.l0 k l l ((0 : Nat) : Int) := by
    funext k; unfold redressref05_Same.f; rw [if_pos rfl]; rfl
  rw [e]
  exact key _ 0 (Nat.le_refl _) (Nat.zero_le _)
end Go.Proofs.YtefiadocljnpjaaDoor.Row
