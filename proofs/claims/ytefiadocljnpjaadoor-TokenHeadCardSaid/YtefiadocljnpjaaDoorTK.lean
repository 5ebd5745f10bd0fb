/- Layer 5: the law TokenHead. -/
import Derived.Test.YtefiadocljnpjaaDoorTI
namespace Go.Proofs.YtefiadocljnpjaaDoor.Row
open Go.Proofs.Tree Go.RowKit Go.Proofs.YtefiadocljnpjaaDoorW.PrintWords Go.Proofs.YtefiadocljnpjaaDoorW.PrintLast Go.Proofs.YtefiadocljnpjaaDoorW.PrintMore Go.Proofs.YtefiadocljnpjaaDoor.PK
set_option linter.unusedVariables false
set_option linter.unusedSimpArgs false
set_option maxHeartbeats 4000000
set_option maxRecDepth 100000
theorem lex_head {s more : ByteArray} {R : List S34 × Int × Int} (h : LexIs s R) (q : Nat) (hq : R.2.1 = (q : Int)) (h50 : R.2.2 = 50) (hs : s.size + more.size ≤ 900) : q < s.size ∧ LexIs (s.extract 0 (q + 1) ++ more) ([], (q : Int), 50) ∧ ∃ o, LexIs (s.extract 0 q) (o, (q : Int), 0) := by
  unfold LexIs at h
  rw [if_neg (by omega)] at h
  obtain ⟨_, h2, _, h4, h5⟩ := lx_head h q hq h50 (Nat.zero_le _)
  have e1 : (s.extract 0 (q + 1)).size = q + 1 := by rw [ByteArray.size_extract]; omega
  have e2 : (s.extract 0 q).size = q := by rw [ByteArray.size_extract]; omega
  refine ⟨h2, ?_, ?_⟩
  · unfold LexIs
    rw [ByteArray.size_append, e1, if_neg (by omega)]
    refine h4 _ (by rw [ByteArray.size_append, e1]; omega) (fun p hp => ?_)
    rw [bt_left _ _ p (by omega), bt_extract s 0 (q + 1) p (by omega) (by omega), Nat.zero_add]
  · obtain ⟨o, ho⟩ := h5 (s.extract 0 q) e2 (fun p hp => by rw [bt_extract s 0 q p (by omega) (by omega), Nat.zero_add])
    refine ⟨o, ?_⟩
    unfold LexIs
    rw [e2, if_neg (by omega)]
    exact ho
theorem lex_byte {s : ByteArray} {R : List S34 × Int × Int} (h : LexIs s R) (h50 : R.2.2 = 50) : s.size ≤ 1000 := by
  unfold LexIs at h
  by_cases hs : s.size > 1000
  · rw [if_pos hs] at h
    subst h
    exact absurd h50 (by decide)
  · omega
theorem TokenHead (s more : ByteArray) (w : World) (hL : Laid5 w) (hs : s.size ≤ 4611686018427387903) (hm : more.size ≤ 4611686018427387903) : Calls Tryd.prog 7 #[.string s, .string more] w fun e w' => e = .returned (.bool true) ∧ Below w.heap.size w w' := by
  have HL := Aside0.mk hL
  clear hL
  have k0 : wrap64 ((s.size : Int) + (more.size : Int)) = (s.size : Int) + (more.size : Int) := tw64 _ (by omega) (by omega)
  have k0' : IntKind.i64.wrap ((s.size : Int) + (more.size : Int)) = (s.size : Int) + (more.size : Int) := (i64_w _).trans k0
  by_cases h0 : s.size + more.size ≤ 900
  · have c1 : decide ((s.size : Int) + (more.size : Int) > 900) = false := decide_eq_false (by omega)
    have c2 : decide (900 < s.size + more.size) = false := decide_eq_false (by omega)
    have c3 : decide ((900 : Int) < (s.size : Int) + (more.size : Int)) = false := decide_eq_false (by omega)
    obtain ⟨⟨l, at_, er⟩, hR⟩ := LexIs.some s
    have HR := Aside0.mk hR
    by_cases h50 : er = 50
    · subst h50
      obtain ⟨p1, p2⟩ := lex_place hR
      simp only at p1 p2
      obtain ⟨q, rfl⟩ : ∃ q : Nat, at_ = (q : Int) := ⟨at_.toNat, by omega⟩
      obtain ⟨hq, hA, o, hB⟩ := lex_head hR q rfl rfl h0
      have HA := Aside0.mk hA
      have HB := Aside0.mk hB
      have d1 : decide ((q : Int) < 0) = false := decide_eq_false (by omega)
      have d2 : decide ((q : Int) ≥ (s.size : Int)) = false := decide_eq_false (by omega)
      have d3 : decide ((s.size : Int) ≤ (q : Int)) = false := decide_eq_false (by omega)
      have d4 : decide (s.size ≤ q) = false := decide_eq_false (by omega)
      have q1 : wrap64 ((q : Int) + 1) = (q : Int) + 1 := tw64 _ (by omega) (by omega)
      have q2 : IntKind.i64.wrap ((q : Int) + 1) = (q : Int) + 1 := (i64_w _).trans q1
      have q3 : ((q : Int) + 1).toNat = q + 1 := by omega
      have q4 : ((0 : Int) ≤ (q : Int) + 1) = True := eq_true (by omega)
      have q5 : ((q : Int) + 1 ≤ (s.size : Int)) = True := eq_true (by omega)
      have q6 : ((q : Int) ≤ (s.size : Int)) = True := eq_true (by omega)
      have q7 : (q ≤ s.size) = True := eq_true (by omega)
      have q8 : (q + 1 ≤ s.size) = True := eq_true (by omega)
      have hcat : (s.extract 0 (q + 1)).size + more.size ≤ 9223372036854775807 := by rw [ByteArray.size_extract]; omega
      clear hR p1 p2 hA hB hq h0 hs hm
      go_enter Tryd.func7, Tryd.ntmps7
      go_wp2_with fail
      refine (Lex s _ HR.out _).mono ?_; rintro e w1 ⟨A, c, rfl, _, _, h1⟩
      have H1 := Aside0.mk h1
      clear h1
      go_wp2_with fail
      refine (Lex (s.extract 0 (q + 1) ++ more) _ HA.out _).mono ?_; rintro e w2 ⟨A2, c2, rfl, _, _, h2⟩
      have H2 := Aside0.mk (Aid_bthen H1.out h2)
      clear h2 H1
      go_wp2_with fail
      refine (Lex (s.extract 0 q) _ HB.out _).mono ?_; rintro e w3 ⟨A3, c3, rfl, _, _, h3⟩
      have H3 := Aside0.mk (Aid_bthen H2.out h3)
      clear h3 H2
      go_wp2_with fail
      refine (Alive5 _ (HL.out.below H3.out)).mono ?_; rintro e w4 ⟨rfl, h4⟩
      have H4 := Aside0.mk (Aid_bthen H3.out h4)
      clear h4 H3
      go_wp2_with fail
      go_ret
      exact ⟨rfl, H4.out⟩
    · have d0 : (er != 50) = true := bne_iff_ne.2 h50
      clear hR h50 h0 hs hm
      go_enter Tryd.func7, Tryd.ntmps7
      go_wp2_with fail
      refine (Lex s _ HR.out _).mono ?_; rintro e w1 ⟨A, c, rfl, _, _, h1⟩
      have H1 := Aside0.mk h1
      clear h1
      go_wp2_with fail
      refine (Alive5 _ (HL.out.below H1.out)).mono ?_; rintro e w4 ⟨rfl, h4⟩
      have H4 := Aside0.mk (Aid_bthen H1.out h4)
      clear h4 H1
      go_wp2_with fail
      go_ret
      exact ⟨rfl, H4.out⟩
  · have c1 : decide ((s.size : Int) + (more.size : Int) > 900) = true := decide_eq_true (by omega)
    have c2 : decide (900 < s.size + more.size) = true := decide_eq_true (by omega)
    have c3 : decide ((900 : Int) < (s.size : Int) + (more.size : Int)) = true := decide_eq_true (by omega)
    clear h0 hs hm
    go_enter Tryd.func7, Tryd.ntmps7
    go_wp2_with fail
    refine (Alive5 _ HL.out).mono ?_; rintro e w3 ⟨rfl, h3⟩
    go_wp2_with fail
    go_ret
    exact ⟨rfl, h3⟩
end Go.Proofs.YtefiadocljnpjaaDoor.Row
