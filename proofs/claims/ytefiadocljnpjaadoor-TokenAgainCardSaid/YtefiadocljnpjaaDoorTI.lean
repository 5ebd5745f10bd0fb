/- Layer 5: the contracts that the laws use, in one form; the law TokenLexes. -/
import Derived.Test.YtefiadocljnpjaaDoorTH
namespace Go.Proofs.YtefiadocljnpjaaDoor.Row
open Go.Proofs.Tree Go.RowKit Go.Proofs.YtefiadocljnpjaaDoorW.PrintWords Go.Proofs.YtefiadocljnpjaaDoorW.PrintLast Go.Proofs.YtefiadocljnpjaaDoorW.PrintMore Go.Proofs.YtefiadocljnpjaaDoor.PK
set_option linter.unusedVariables false
set_option linter.unusedSimpArgs false
set_option maxHeartbeats 4000000
set_option maxRecDepth 100000
theorem ev_at {α : Type} {g : Nat → Option α} {r : α} (h : Ev g r) : ∃ k, g k = some r := h.elim fun K hK => ⟨K, hK K (Nat.le_refl _)⟩
theorem R_is {α : Type} {d : Kd α} {e base : Nat} {W : World} {own : Nat → Prop} {v : Value} {xs : List α} (h : d.R e W base own v xs) : ∃ A c, v = .slice A xs.length c ∧ xs.length ≤ c ∧ Kd.C d W A xs.length xs := by
  obtain ⟨A, c, e, h1, h2⟩ := Kd.R_reads h
  exact ⟨A, c, e, h1, h2⟩
theorem RefLexC (s : ByteArray) (R : List S34 × Int × Int) (h : LexIs s R) (w : World) : Calls Tryd.prog 23 #[.string s] w fun e w' => ∃ A c, e = .returned (.tuple #[.slice A R.1.length c, .int .i64 R.2.1, .int .i64 R.2.2]) ∧ R.1.length ≤ c ∧ Kd.C k34 w' A R.1.length R.1 ∧ Below w.heap.size w w' := by
  obtain ⟨k, hk⟩ := ev_at (RefLex s R h)
  refine (redressref05_Lex.calls k s R.1 R.2.1 R.2.2 w hk).mono ?_
  rintro e w' ⟨v, rfl, hR, hB⟩
  obtain ⟨A, c, rfl, h1, h2⟩ := R_is hR
  exact ⟨A, c, rfl, h1, h2, hB⟩
theorem olds_ev (l : List S34) (hl : l.length < 4398046511104) : Ev (fun k => redresslaw05_Olds.f k (l.map t37)) l := by
  have key : ∀ d p : Nat, l.length - p ≤ d → p ≤ l.length → Ev (fun k => redresslaw05_Olds.l0 k (l.take p) (l.map t37) (l.length : Int) (p : Int)) l := by
    intro d
    induction d with
    | zero =>
      intro p h1 h2
      obtain rfl : p = l.length := by omega
      rw [List.take_length]
      exact tev_step (f := _) (Ev.now _) (fun k => by simp only [redresslaw05_Olds.l0]; rw [if_neg (by omega)])
    | succ d ih =>
      intro p h1 h2
      by_cases hp : p < l.length
      · have hw : wrap64 ((p : Int) + 1) = ((p + 1 : Nat) : Int) := by rw [tw64 _ (by omega) (by omega)]; omega
        have ht : l.take p ++ [(⟨(rd_T37 (l.map t37) (p : Int)).f0, (rd_T37 (l.map t37) (p : Int)).f1, (rd_T37 (l.map t37) (p : Int)).f2⟩ : S34)] = l.take (p + 1) := by
          rw [List.take_succ_eq_append_getElem hp]
          congr 2
          unfold rd_T37
          rw [Int.toNat_natCast, List.getD_eq_getElem?_getD, List.getElem?_map, List.getElem?_eq_getElem hp]
          rfl
        refine tev_step (f := _) (ih (p + 1) (by omega) (by omega)) (fun k => ?_)
        simp only [redresslaw05_Olds.l0]
        rw [if_pos (by omega), if_pos (by omega), if_pos (by rw [List.length_map]; omega), if_pos (by rw [List.length_take]; omega), ht, hw]
      · obtain rfl : p = l.length := by omega
        rw [List.take_length]
        exact tev_step (f := _) (Ev.now _) (fun k => by simp only [redresslaw05_Olds.l0]; rw [if_neg (by omega)])
  have e : (fun k => redresslaw05_Olds.f k (l.map t37)) = fun k => redresslaw05_Olds.l0 k (l.take 0) (l.map t37) (l.length : Int) ((0 : Nat) : Int) := by
    funext k; unfold redresslaw05_Olds.f; rw [List.length_map]; rfl
  rw [e]
  exact key _ 0 (Nat.le_refl _) (Nat.zero_le _)
theorem OldsC (A : Option Addr) (c : Nat) (l : List S34) (w : World) (hC : Kd.C k37 w A l.length (l.map t37)) (hc : l.length ≤ c) (hl : l.length < 4398046511104) : Calls Tryd.prog 25 #[.slice A l.length c] w fun e w' => ∃ A' c', e = .returned (.slice A' l.length c') ∧ l.length ≤ c' ∧ Kd.C k34 w' A' l.length l ∧ Below w.heap.size w w' := by
  obtain ⟨k, hk⟩ := ev_at (olds_ev l hl)
  have h := redresslaw05_Olds.calls k A c (l.map t37) l w (by rw [List.length_map]; exact hC) (by rw [List.length_map]; exact hc) hk
  rw [List.length_map] at h
  refine h.mono ?_
  rintro e w' ⟨v, rfl, hR, hB⟩
  obtain ⟨A', c', rfl, h1, h2⟩ := R_is hR
  exact ⟨A', c', rfl, h1, h2, hB⟩
theorem SameC (A : Option Addr) (c : Nat) (A' : Option Addr) (c' : Nat) (l : List S34) (w : World) (h1 : Kd.C k34 w A l.length l) (hc : l.length ≤ c) (h2 : Kd.C k34 w A' l.length l) (hc' : l.length ≤ c') (hl : l.length ≤ 1000000) : Calls Tryd.prog 24 #[.slice A l.length c, .slice A' l.length c'] w fun e w' => e = .returned (.bool true) ∧ Below w.heap.size w w' := by
  obtain ⟨k, hk⟩ := ev_at (same_ev l (by omega))
  exact (redressref05_Same.calls k A c l A' c' l true w h1 hc h2 hc' hk).mono fun e w' ⟨he, hd⟩ => ⟨he, hd.below⟩
theorem RefPrintC (k at_ : Int) (n : ByteArray) (u : ByteArray) (b : Bool) (hn : n.size ≤ 9223372036854775807) (h : tprint k n = (u, b)) (w : World) : Calls Tryd.prog 27 #[.agg #[.int .i64 k, .int .i64 at_, .string n]] w fun e w' => e = .returned (.tuple #[.string u, .bool b]) ∧ Below w.heap.size w w' := by
  obtain ⟨f, hf⟩ := ev_at (refPrint_ev k at_ n (by omega))
  rw [h] at hf
  exact redressref05_Print.calls f k at_ n u b w hf
theorem lx_len {s : ByteArray} {a : Nat} {out : List S34} {r : List S34 × Int × Int} (h : Lx s a out r) : a ≤ s.size → out.length ≤ a → r.1.length ≤ s.size := by
  induction h with
  | fin out => exact fun _ h => h
  | long a tt out h1 h2 hl he => exact fun _ _ => Nat.zero_le _
  | bad a out h1 hl hb hs => exact fun _ _ => Nat.zero_le _
  | name a tt out r h1 h8 h2 hl he k ih => exact fun _ ho => ih h2 (by rw [List.length_append]; simp only [List.length_cons, List.length_nil]; omega)
  | blank a out r h1 hb k ih => exact fun _ ho => ih (by omega) (by omega)
  | sign a out r h1 hl hb hs k ih => exact fun _ ho => ih (by omega) (by rw [List.length_append]; simp only [List.length_cons, List.length_nil]; omega)
theorem lex_len {s : ByteArray} {r : List S34 × Int × Int} (h : LexIs s r) : r.1.length ≤ 1000 := by
  unfold LexIs at h
  by_cases hs : s.size > 1000
  · rw [if_pos hs] at h
    subst h
    exact Nat.zero_le _
  · rw [if_neg hs] at h
    have := lx_len h (Nat.zero_le _) (Nat.le_refl _)
    omega
theorem TokenLexes (s : ByteArray) (w : World) (hL : Laid5 w) (hs : s.size ≤ maxLen) : Calls Tryd.prog 3 #[.string s] w fun e w' => e = .returned (.bool true) ∧ Below w.heap.size w w' := by
  unfold maxLen at hs
  have HL := Aside0.mk hL
  clear hL
  by_cases h0 : s.size ≤ 1100
  · have c1 : decide ((s.size : Int) > 1100) = false := decide_eq_false (by omega)
    have c2 : decide (1100 < s.size) = false := decide_eq_false (by omega)
    have c3 : decide ((1100 : Int) < (s.size : Int)) = false := decide_eq_false (by omega)
    obtain ⟨⟨l, at_, er⟩, hR⟩ := LexIs.some s
    obtain ⟨p1, p2⟩ := lex_place hR
    have HR := Aside0.mk hR
    have HLen := Aside0.mk (lex_len hR)
    simp only at p1 p2
    have d1 : decide (at_ ≥ 0) = true := decide_eq_true p1
    have d2 : decide ((0 : Int) ≤ at_) = true := decide_eq_true p1
    have d3 : decide (at_ ≤ (s.size : Int)) = true := decide_eq_true p2
    clear hR p1 p2 h0
    go_enter Tryd.func3, Tryd.ntmps3
    go_wp2_with fail
    refine (Lex s _ HR.out _).mono ?_; rintro e w1 ⟨A, c, rfl, hc, hC, h1⟩
    simp only at hc hC
    have HC1 := Aside0.mk hC
    have HK1 := Aside0.mk hc
    have H1 := Aside0.mk h1
    clear hc hC h1
    go_wp2_with fail
    refine (RefLexC s _ HR.out _).mono ?_; rintro e w2 ⟨A2, c2, rfl, hc, hC, h2⟩
    simp only at hc hC
    have HC2 := Aside0.mk hC
    have HK2 := Aside0.mk hc
    have HC1b := Aside0.mk (Kd.C_below HC1.out h2)
    have H2 := Aside0.mk (Aid_bthen H1.out h2)
    clear hc hC h2 HC1 H1
    go_wp2_with fail
    refine (Alive5 _ (HL.out.below H2.out)).mono ?_; rintro e w3 ⟨rfl, h3⟩
    have HC1c := Aside0.mk (Kd.C_below HC1b.out h3)
    have HC2c := Aside0.mk (Kd.C_below HC2.out h3)
    have H3 := Aside0.mk (Aid_bthen H2.out h3)
    clear h3 HC1b HC2 H2
    go_wp2_with fail
    refine (OldsC A c l _ HC1c.out HK1.out (by have := HLen.out; omega)).mono ?_; rintro e w4 ⟨A3, c3, rfl, hc, hC, h4⟩
    have HC3 := Aside0.mk hC
    have HK3 := Aside0.mk hc
    have HC2d := Aside0.mk (Kd.C_below HC2c.out h4)
    have H4 := Aside0.mk (Aid_bthen H3.out h4)
    clear hc hC h4 HC1c HC2c H3
    go_wp2_with fail
    refine (SameC A3 c3 A2 c2 l _ HC3.out HK3.out HC2d.out HK2.out (by have := HLen.out; omega)).mono ?_; rintro e w5 ⟨rfl, h5⟩
    have H5 := Aside0.mk (Aid_bthen H4.out h5)
    clear h5 HC3 HC2d H4
    go_wp2_with fail
    go_ret
    exact ⟨rfl, H5.out⟩
  · have c1 : decide ((s.size : Int) > 1100) = true := decide_eq_true (by omega)
    have c2 : decide (1100 < s.size) = true := decide_eq_true (by omega)
    have c3 : decide ((1100 : Int) < (s.size : Int)) = true := decide_eq_true (by omega)
    clear h0
    go_enter Tryd.func3, Tryd.ntmps3
    go_wp2_with fail
    refine (Alive5 _ HL.out).mono ?_; rintro e w3 ⟨rfl, h3⟩
    go_wp2_with fail
    go_ret
    exact ⟨rfl, h3⟩
end Go.Proofs.YtefiadocljnpjaaDoor.Row
