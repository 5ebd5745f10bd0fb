/- The laws SortOf, SortRight, SortOne, SortBlocks (printed by wip/row/genS.py). -/
import Derived.Test.YtefiadocljnpjaaDoorXD
namespace Go.Proofs.YtefiadocljnpjaaDoor.Row
open Go.Proofs.Tree Go.RowKit Go.Proofs.YtefiadocljnpjaaDoorW.PrintWords Go.Proofs.YtefiadocljnpjaaDoorW.PrintLast Go.Proofs.YtefiadocljnpjaaDoorW.PrintMore Go.Proofs.YtefiadocljnpjaaDoor.PK
set_option linter.unusedVariables false
set_option linter.unusedSimpArgs false
set_option maxHeartbeats 4000000
set_option maxRecDepth 100000
theorem SortOf (A : Option Addr) (c : Nat) (l : List S48) (w : World) (hL : Laid w) (hC : Kd.C k48 w A l.length l) (hc : l.length ≤ c) (hs : ∀ n ∈ l, n.f1.size ≤ maxLen) :
    Calls Tryd.prog 15 #[.slice A l.length c] w fun e w' => e = .returned (.bool true) ∧ Below w.heap.size w w' := by
  have h0 : In1 w w A l := ⟨hC, hL, Below.refl _ _⟩
  clear hL hC
  by_cases hf : few4 l = true
  · have HF := Aside0.mk hf
    have hl : l.length ≤ 120 := by have h := hf; unfold few4 at h; simp only [Bool.and_eq_true, decide_eq_true_eq] at h; exact h.1
    have HL := Aside0.mk hl
    have HM := Aside0.mk (show l.length ≤ 1000000 by omega)
    clear hf hl
    have HN := Aside0.mk hs
    clear hs
    rcases five _ (ofV_in l) with hv | hv | hv | hv | hv
    · have HV := Aside0.mk hv
      clear hv
      go_enter Tryd.func15, Tryd.ntmps15
      go_wp2_with fail
      refine (e50 true hc HF.out h0).mono ?_; rintro e w1 ⟨rfl, h1⟩
      clear h0
      go_wp2_with fail
      refine (e51 h1).mono ?_; rintro e w2 ⟨rfl, h2⟩
      clear h1
      go_wp2_with fail
      refine (e52 0 hc HV.out h2).mono ?_; rintro e w3 ⟨rfl, h3⟩
      clear h2
      go_wp2_with fail
      refine (e53 0 hc HV.out HM.out HN.out h3).mono ?_; rintro e w4 ⟨rfl, h4⟩
      clear h3
      go_wp2_with fail
      refine (e54 false false hc (by rw [HV.out]; rfl) h4).mono ?_; rintro e w5 ⟨rfl, h5⟩
      clear h4
      go_wp2_with fail
      refine (e55 false false hc (by rw [HV.out]; rfl) HM.out HN.out h5).mono ?_; rintro e w6 ⟨rfl, h6⟩
      clear h5
      go_wp2_with fail
      refine (e54 true false hc (by rw [HV.out]; rfl) h6).mono ?_; rintro e w7 ⟨rfl, h7⟩
      clear h6
      go_wp2_with fail
      refine (e55 true false hc (by rw [HV.out]; rfl) HM.out HN.out h7).mono ?_; rintro e w8 ⟨rfl, h8⟩
      clear h7
      go_wp2_with fail
      refine (e56 false hc (by rw [HV.out]; rfl) h8).mono ?_; rintro e w9 ⟨rfl, h9⟩
      clear h8
      go_wp2_with fail
      refine (e53 0 hc HV.out HM.out HN.out h9).mono ?_; rintro e w10 ⟨rfl, h10⟩
      clear h9
      go_wp2_with fail
      (try rw [Exit.noGoto_ret])
      go_ret
      exact ⟨rfl, h10.b⟩
    · have HV := Aside0.mk hv
      clear hv
      go_enter Tryd.func15, Tryd.ntmps15
      go_wp2_with fail
      refine (e50 true hc HF.out h0).mono ?_; rintro e w1 ⟨rfl, h1⟩
      clear h0
      go_wp2_with fail
      refine (e51 h1).mono ?_; rintro e w2 ⟨rfl, h2⟩
      clear h1
      go_wp2_with fail
      refine (e52 1 hc HV.out h2).mono ?_; rintro e w3 ⟨rfl, h3⟩
      clear h2
      go_wp2_with fail
      refine (e53 1 hc HV.out HM.out HN.out h3).mono ?_; rintro e w4 ⟨rfl, h4⟩
      clear h3
      go_wp2_with fail
      refine (e54 false true hc (by rw [HV.out]; rfl) h4).mono ?_; rintro e w5 ⟨rfl, h5⟩
      clear h4
      go_wp2_with fail
      refine (e55 false true hc (by rw [HV.out]; rfl) HM.out HN.out h5).mono ?_; rintro e w6 ⟨rfl, h6⟩
      clear h5
      go_wp2_with fail
      refine (e54 true false hc (by rw [HV.out]; rfl) h6).mono ?_; rintro e w7 ⟨rfl, h7⟩
      clear h6
      go_wp2_with fail
      refine (e55 true false hc (by rw [HV.out]; rfl) HM.out HN.out h7).mono ?_; rintro e w8 ⟨rfl, h8⟩
      clear h7
      go_wp2_with fail
      refine (e56 true hc (by rw [HV.out]; rfl) h8).mono ?_; rintro e w9 ⟨rfl, h9⟩
      clear h8
      go_wp2_with fail
      refine (e53 1 hc HV.out HM.out HN.out h9).mono ?_; rintro e w10 ⟨rfl, h10⟩
      clear h9
      go_wp2_with fail
      (try rw [Exit.noGoto_ret])
      go_ret
      exact ⟨rfl, h10.b⟩
    · have HV := Aside0.mk hv
      clear hv
      go_enter Tryd.func15, Tryd.ntmps15
      go_wp2_with fail
      refine (e50 true hc HF.out h0).mono ?_; rintro e w1 ⟨rfl, h1⟩
      clear h0
      go_wp2_with fail
      refine (e51 h1).mono ?_; rintro e w2 ⟨rfl, h2⟩
      clear h1
      go_wp2_with fail
      refine (e52 2 hc HV.out h2).mono ?_; rintro e w3 ⟨rfl, h3⟩
      clear h2
      go_wp2_with fail
      refine (e53 2 hc HV.out HM.out HN.out h3).mono ?_; rintro e w4 ⟨rfl, h4⟩
      clear h3
      go_wp2_with fail
      refine (e54 false false hc (by rw [HV.out]; rfl) h4).mono ?_; rintro e w5 ⟨rfl, h5⟩
      clear h4
      go_wp2_with fail
      refine (e55 false false hc (by rw [HV.out]; rfl) HM.out HN.out h5).mono ?_; rintro e w6 ⟨rfl, h6⟩
      clear h5
      go_wp2_with fail
      refine (e54 true true hc (by rw [HV.out]; rfl) h6).mono ?_; rintro e w7 ⟨rfl, h7⟩
      clear h6
      go_wp2_with fail
      refine (e55 true true hc (by rw [HV.out]; rfl) HM.out HN.out h7).mono ?_; rintro e w8 ⟨rfl, h8⟩
      clear h7
      go_wp2_with fail
      refine (e56 false hc (by rw [HV.out]; rfl) h8).mono ?_; rintro e w9 ⟨rfl, h9⟩
      clear h8
      go_wp2_with fail
      refine (e53 2 hc HV.out HM.out HN.out h9).mono ?_; rintro e w10 ⟨rfl, h10⟩
      clear h9
      go_wp2_with fail
      (try rw [Exit.noGoto_ret])
      go_ret
      exact ⟨rfl, h10.b⟩
    · have HV := Aside0.mk hv
      clear hv
      go_enter Tryd.func15, Tryd.ntmps15
      go_wp2_with fail
      refine (e50 true hc HF.out h0).mono ?_; rintro e w1 ⟨rfl, h1⟩
      clear h0
      go_wp2_with fail
      refine (e51 h1).mono ?_; rintro e w2 ⟨rfl, h2⟩
      clear h1
      go_wp2_with fail
      refine (e52 3 hc HV.out h2).mono ?_; rintro e w3 ⟨rfl, h3⟩
      clear h2
      go_wp2_with fail
      refine (e53 3 hc HV.out HM.out HN.out h3).mono ?_; rintro e w4 ⟨rfl, h4⟩
      clear h3
      go_wp2_with fail
      refine (e54 false true hc (by rw [HV.out]; rfl) h4).mono ?_; rintro e w5 ⟨rfl, h5⟩
      clear h4
      go_wp2_with fail
      refine (e55 false true hc (by rw [HV.out]; rfl) HM.out HN.out h5).mono ?_; rintro e w6 ⟨rfl, h6⟩
      clear h5
      go_wp2_with fail
      refine (e54 true false hc (by rw [HV.out]; rfl) h6).mono ?_; rintro e w7 ⟨rfl, h7⟩
      clear h6
      go_wp2_with fail
      refine (e55 true false hc (by rw [HV.out]; rfl) HM.out HN.out h7).mono ?_; rintro e w8 ⟨rfl, h8⟩
      clear h7
      go_wp2_with fail
      refine (e56 false hc (by rw [HV.out]; rfl) h8).mono ?_; rintro e w9 ⟨rfl, h9⟩
      clear h8
      go_wp2_with fail
      refine (e53 3 hc HV.out HM.out HN.out h9).mono ?_; rintro e w10 ⟨rfl, h10⟩
      clear h9
      go_wp2_with fail
      (try rw [Exit.noGoto_ret])
      go_ret
      exact ⟨rfl, h10.b⟩
    · have HV := Aside0.mk hv
      clear hv
      go_enter Tryd.func15, Tryd.ntmps15
      go_wp2_with fail
      refine (e50 true hc HF.out h0).mono ?_; rintro e w1 ⟨rfl, h1⟩
      clear h0
      go_wp2_with fail
      refine (e51 h1).mono ?_; rintro e w2 ⟨rfl, h2⟩
      clear h1
      go_wp2_with fail
      refine (e52 4 hc HV.out h2).mono ?_; rintro e w3 ⟨rfl, h3⟩
      clear h2
      go_wp2_with fail
      refine (e53 4 hc HV.out HM.out HN.out h3).mono ?_; rintro e w4 ⟨rfl, h4⟩
      clear h3
      go_wp2_with fail
      refine (e54 false false hc (by rw [HV.out]; rfl) h4).mono ?_; rintro e w5 ⟨rfl, h5⟩
      clear h4
      go_wp2_with fail
      refine (e55 false false hc (by rw [HV.out]; rfl) HM.out HN.out h5).mono ?_; rintro e w6 ⟨rfl, h6⟩
      clear h5
      go_wp2_with fail
      refine (e54 true true hc (by rw [HV.out]; rfl) h6).mono ?_; rintro e w7 ⟨rfl, h7⟩
      clear h6
      go_wp2_with fail
      refine (e55 true true hc (by rw [HV.out]; rfl) HM.out HN.out h7).mono ?_; rintro e w8 ⟨rfl, h8⟩
      clear h7
      go_wp2_with fail
      refine (e56 false hc (by rw [HV.out]; rfl) h8).mono ?_; rintro e w9 ⟨rfl, h9⟩
      clear h8
      go_wp2_with fail
      refine (e53 4 hc HV.out HM.out HN.out h9).mono ?_; rintro e w10 ⟨rfl, h10⟩
      clear h9
      go_wp2_with fail
      (try rw [Exit.noGoto_ret])
      go_ret
      exact ⟨rfl, h10.b⟩
  · have HF := Aside0.mk (show few4 l = false by simpa using hf)
    clear hf
    go_enter Tryd.func15, Tryd.ntmps15
    go_wp2_with fail
    refine (e50 false hc HF.out h0).mono ?_; rintro e w1 ⟨rfl, h1⟩
    clear h0
    go_wp2_with fail
    refine (e51 h1).mono ?_; rintro e w2 ⟨rfl, h2⟩
    clear h1
    go_wp2_with fail
    (try rw [Exit.noGoto_ret])
    go_ret
    exact ⟨rfl, h2.b⟩
theorem SortRight (A : Option Addr) (c : Nat) (l : List S48) (w : World) (hL : Laid w) (hC : Kd.C k48 w A l.length l) (hc : l.length ≤ c) (hs : ∀ n ∈ l, n.f1.size ≤ maxLen) :
    Calls Tryd.prog 16 #[.slice A l.length c] w fun e w' => e = .returned (.bool true) ∧ Below w.heap.size w w' := by
  have h0 : In1 w w A l := ⟨hC, hL, Below.refl _ _⟩
  clear hL hC
  by_cases hf : few4 l = true
  · have HF := Aside0.mk hf
    have hl : l.length ≤ 120 := by have h := hf; unfold few4 at h; simp only [Bool.and_eq_true, decide_eq_true_eq] at h; exact h.1
    have HL := Aside0.mk hl
    have HM := Aside0.mk (show l.length ≤ 1000000 by omega)
    clear hf hl
    have HN := Aside0.mk hs
    clear hs
    obtain ⟨r, hr⟩ : ∃ r, r = rtV l := ⟨_, rfl⟩
    have HR := Aside0.mk hr.symm
    clear hr
    go_enter Tryd.func16, Tryd.ntmps16
    go_wp2_with fail
    refine (e50 true hc HF.out h0).mono ?_; rintro e w1 ⟨rfl, h1⟩
    clear h0
    go_wp2_with fail
    refine (e51 h1).mono ?_; rintro e w2 ⟨rfl, h2⟩
    clear h1
    go_wp2_with fail
    refine (e57 r hc HR.out HM.out h2).mono ?_; rintro e w3 ⟨rfl, h3⟩
    clear h2
    go_wp2_with fail
    refine (e58 r hc HR.out HM.out HN.out h3).mono ?_; rintro e w4 ⟨rfl, h4⟩
    clear h3
    go_wp2_with fail
    refine (Acts A c l _ h4.c hc HM.out).mono ?_; rintro e w9 ⟨A1, c1, rfl, hc1, hA1, hb⟩
    have h9 := h4.below hb
    clear h4 hb
    go_wp2_with fail
    refine (RefActs A c l _ h9.c hc HM.out).mono ?_; rintro e w10 ⟨A2, c2, rfl, hc2, hA2, hb⟩
    have h10 := h9.below hb
    have hA1' := Kd.C_below hA1 hb
    clear h9 hA1 hb
    go_wp2_with fail
    refine (Texts _ A1 c1 A2 c2 _ hA1' hc1 hA2 hc2).mono ?_; rintro e w11 ⟨rfl, hb⟩
    have h4 := h10.below hb
    clear h10 hA1' hA2 hb
    go_wp2_with fail
    (try rw [Exit.noGoto_ret])
    go_ret
    exact ⟨rfl, h4.b⟩
  · have HF := Aside0.mk (show few4 l = false by simpa using hf)
    clear hf
    go_enter Tryd.func16, Tryd.ntmps16
    go_wp2_with fail
    refine (e50 false hc HF.out h0).mono ?_; rintro e w1 ⟨rfl, h1⟩
    clear h0
    go_wp2_with fail
    refine (e51 h1).mono ?_; rintro e w2 ⟨rfl, h2⟩
    clear h1
    go_wp2_with fail
    (try rw [Exit.noGoto_ret])
    go_ret
    exact ⟨rfl, h2.b⟩
theorem SortOne (A : Option Addr) (c : Nat) (l : List S48) (w : World) (hL : Laid w) (hC : Kd.C k48 w A l.length l) (hc : l.length ≤ c) :
    Calls Tryd.prog 18 #[.slice A l.length c] w fun e w' => e = .returned (.bool true) ∧ Below w.heap.size w w' := by
  have h0 : In1 w w A l := ⟨hC, hL, Below.refl _ _⟩
  clear hL hC
  by_cases hf : few4 l = true
  · have HF := Aside0.mk hf
    have hl : l.length ≤ 120 := by have h := hf; unfold few4 at h; simp only [Bool.and_eq_true, decide_eq_true_eq] at h; exact h.1
    have HL := Aside0.mk hl
    have HM := Aside0.mk (show l.length ≤ 1000000 by omega)
    clear hf hl
    rcases five _ (ofV_in l) with hv | hv | hv | hv | hv
    · have HV := Aside0.mk hv
      clear hv
      obtain ⟨n, hn⟩ : ∃ n, n = cntL l [11, 12, 13, 14] := ⟨_, rfl⟩
      have HC := Aside0.mk hn.symm
      clear hn
      go_enter Tryd.func18, Tryd.ntmps18
      go_wp2_with fail
      refine (e50 true hc HF.out h0).mono ?_; rintro e w1 ⟨rfl, h1⟩
      clear h0
      go_wp2_with fail
      have h2 := h1.below (al w1 (.cells #[.int .i64 11, .int .i64 12, .int .i64 13, .int .i64 14] 3))
      have hC4 := C_four w1
      refine (Count A c l _ 4 [11, 12, 13, 14] _ h2.c hc hC4 (by decide)).mono ?_; rintro e w3 ⟨rfl, hb⟩
      have h2' := h2.below hb
      clear h2 h1 hC4 hb
      rw [HC.out]
      go_wp2_with fail
      refine (e52 0 hc HV.out h2').mono ?_; rintro e w4 ⟨rfl, h4⟩
      clear h2'
      go_wp2_with fail
      refine (e51 h4).mono ?_; rintro e w5 ⟨rfl, h5⟩
      clear h4
      go_wp2_with fail
      refine (e54 false false hc (by rw [HV.out]; rfl) h5).mono ?_; rintro e w6 ⟨rfl, h6⟩
      clear h5
      go_wp2_with fail
      refine (e54 false false hc (by rw [HV.out]; rfl) h6).mono ?_; rintro e w7 ⟨rfl, h7⟩
      clear h6
      go_wp2_with fail
      refine (e54 true false hc (by rw [HV.out]; rfl) h7).mono ?_; rintro e w8 ⟨rfl, h8⟩
      clear h7
      go_wp2_with fail
      (try rw [Exit.noGoto_ret])
      go_ret
      exact ⟨rfl, h8.b⟩
    · have HV := Aside0.mk hv
      clear hv
      obtain ⟨n, hn⟩ : ∃ n, n = cntL l [11, 12, 13, 14] := ⟨_, rfl⟩
      have HC := Aside0.mk hn.symm
      have hz : n = 0 := by rw [hn]; exact (cnt_goes l).1 (by rw [HV.out]; decide)
      subst hz
      clear hn
      go_enter Tryd.func18, Tryd.ntmps18
      go_wp2_with fail
      refine (e50 true hc HF.out h0).mono ?_; rintro e w1 ⟨rfl, h1⟩
      clear h0
      go_wp2_with fail
      have h2 := h1.below (al w1 (.cells #[.int .i64 11, .int .i64 12, .int .i64 13, .int .i64 14] 3))
      have hC4 := C_four w1
      refine (Count A c l _ 4 [11, 12, 13, 14] _ h2.c hc hC4 (by decide)).mono ?_; rintro e w3 ⟨rfl, hb⟩
      have h2' := h2.below hb
      clear h2 h1 hC4 hb
      rw [HC.out]
      go_wp2_with fail
      refine (e52 1 hc HV.out h2').mono ?_; rintro e w4 ⟨rfl, h4⟩
      clear h2'
      go_wp2_with fail
      refine (e51 h4).mono ?_; rintro e w5 ⟨rfl, h5⟩
      clear h4
      go_wp2_with fail
      refine (e54 false true hc (by rw [HV.out]; rfl) h5).mono ?_; rintro e w6 ⟨rfl, h6⟩
      clear h5
      go_wp2_with fail
      refine (e54 true false hc (by rw [HV.out]; rfl) h6).mono ?_; rintro e w7 ⟨rfl, h7⟩
      clear h6
      go_wp2_with fail
      refine (e54 false true hc (by rw [HV.out]; rfl) h7).mono ?_; rintro e w8 ⟨rfl, h8⟩
      clear h7
      go_wp2_with fail
      (try rw [Exit.noGoto_ret])
      go_ret
      exact ⟨rfl, h8.b⟩
    · have HV := Aside0.mk hv
      clear hv
      obtain ⟨n, hn⟩ : ∃ n, n = cntL l [11, 12, 13, 14] := ⟨_, rfl⟩
      have HC := Aside0.mk hn.symm
      have hz : n = 0 := by rw [hn]; exact (cnt_goes l).1 (by rw [HV.out]; decide)
      subst hz
      clear hn
      go_enter Tryd.func18, Tryd.ntmps18
      go_wp2_with fail
      refine (e50 true hc HF.out h0).mono ?_; rintro e w1 ⟨rfl, h1⟩
      clear h0
      go_wp2_with fail
      have h2 := h1.below (al w1 (.cells #[.int .i64 11, .int .i64 12, .int .i64 13, .int .i64 14] 3))
      have hC4 := C_four w1
      refine (Count A c l _ 4 [11, 12, 13, 14] _ h2.c hc hC4 (by decide)).mono ?_; rintro e w3 ⟨rfl, hb⟩
      have h2' := h2.below hb
      clear h2 h1 hC4 hb
      rw [HC.out]
      go_wp2_with fail
      refine (e52 2 hc HV.out h2').mono ?_; rintro e w4 ⟨rfl, h4⟩
      clear h2'
      go_wp2_with fail
      refine (e51 h4).mono ?_; rintro e w5 ⟨rfl, h5⟩
      clear h4
      go_wp2_with fail
      refine (e54 false false hc (by rw [HV.out]; rfl) h5).mono ?_; rintro e w6 ⟨rfl, h6⟩
      clear h5
      go_wp2_with fail
      refine (e54 false false hc (by rw [HV.out]; rfl) h6).mono ?_; rintro e w7 ⟨rfl, h7⟩
      clear h6
      go_wp2_with fail
      refine (e54 true true hc (by rw [HV.out]; rfl) h7).mono ?_; rintro e w8 ⟨rfl, h8⟩
      clear h7
      go_wp2_with fail
      (try rw [Exit.noGoto_ret])
      go_ret
      exact ⟨rfl, h8.b⟩
    · have HV := Aside0.mk hv
      clear hv
      obtain ⟨n, hn⟩ : ∃ n, n = cntL l [11, 12, 13, 14] := ⟨_, rfl⟩
      have HC := Aside0.mk hn.symm
      have hz : 0 < n := by rw [hn]; exact (cnt_goes l).2 (by rw [HV.out]; decide)
      have q0 : ((n : Int) == 0) = false := beq_eq_false_iff_ne.2 (by omega)
      have q1 : decide ((n : Int) > 0) = true := decide_eq_true (by omega)
      have q2 : decide ((0 : Int) < (n : Int)) = true := decide_eq_true (by omega)
      have q3 : decide (0 < n) = true := decide_eq_true hz
      clear hn hz
      go_enter Tryd.func18, Tryd.ntmps18
      go_wp2_with fail
      refine (e50 true hc HF.out h0).mono ?_; rintro e w1 ⟨rfl, h1⟩
      clear h0
      go_wp2_with fail
      have h2 := h1.below (al w1 (.cells #[.int .i64 11, .int .i64 12, .int .i64 13, .int .i64 14] 3))
      have hC4 := C_four w1
      refine (Count A c l _ 4 [11, 12, 13, 14] _ h2.c hc hC4 (by decide)).mono ?_; rintro e w3 ⟨rfl, hb⟩
      have h2' := h2.below hb
      clear h2 h1 hC4 hb
      rw [HC.out]
      go_wp2_with fail
      refine (e52 3 hc HV.out h2').mono ?_; rintro e w4 ⟨rfl, h4⟩
      clear h2'
      go_wp2_with fail
      refine (e51 h4).mono ?_; rintro e w5 ⟨rfl, h5⟩
      clear h4
      go_wp2_with fail
      refine (e54 false true hc (by rw [HV.out]; rfl) h5).mono ?_; rintro e w6 ⟨rfl, h6⟩
      clear h5
      go_wp2_with fail
      refine (e54 true false hc (by rw [HV.out]; rfl) h6).mono ?_; rintro e w7 ⟨rfl, h7⟩
      clear h6
      go_wp2_with fail
      refine (e54 false true hc (by rw [HV.out]; rfl) h7).mono ?_; rintro e w8 ⟨rfl, h8⟩
      clear h7
      go_wp2_with fail
      (try rw [Exit.noGoto_ret])
      go_ret
      exact ⟨rfl, h8.b⟩
    · have HV := Aside0.mk hv
      clear hv
      obtain ⟨n, hn⟩ : ∃ n, n = cntL l [11, 12, 13, 14] := ⟨_, rfl⟩
      have HC := Aside0.mk hn.symm
      have hz : 0 < n := by rw [hn]; exact (cnt_goes l).2 (by rw [HV.out]; decide)
      have q0 : ((n : Int) == 0) = false := beq_eq_false_iff_ne.2 (by omega)
      have q1 : decide ((n : Int) > 0) = true := decide_eq_true (by omega)
      have q2 : decide ((0 : Int) < (n : Int)) = true := decide_eq_true (by omega)
      have q3 : decide (0 < n) = true := decide_eq_true hz
      clear hn hz
      go_enter Tryd.func18, Tryd.ntmps18
      go_wp2_with fail
      refine (e50 true hc HF.out h0).mono ?_; rintro e w1 ⟨rfl, h1⟩
      clear h0
      go_wp2_with fail
      have h2 := h1.below (al w1 (.cells #[.int .i64 11, .int .i64 12, .int .i64 13, .int .i64 14] 3))
      have hC4 := C_four w1
      refine (Count A c l _ 4 [11, 12, 13, 14] _ h2.c hc hC4 (by decide)).mono ?_; rintro e w3 ⟨rfl, hb⟩
      have h2' := h2.below hb
      clear h2 h1 hC4 hb
      rw [HC.out]
      go_wp2_with fail
      refine (e52 4 hc HV.out h2').mono ?_; rintro e w4 ⟨rfl, h4⟩
      clear h2'
      go_wp2_with fail
      refine (e51 h4).mono ?_; rintro e w5 ⟨rfl, h5⟩
      clear h4
      go_wp2_with fail
      refine (e54 false false hc (by rw [HV.out]; rfl) h5).mono ?_; rintro e w6 ⟨rfl, h6⟩
      clear h5
      go_wp2_with fail
      refine (e54 false false hc (by rw [HV.out]; rfl) h6).mono ?_; rintro e w7 ⟨rfl, h7⟩
      clear h6
      go_wp2_with fail
      refine (e54 true true hc (by rw [HV.out]; rfl) h7).mono ?_; rintro e w8 ⟨rfl, h8⟩
      clear h7
      go_wp2_with fail
      (try rw [Exit.noGoto_ret])
      go_ret
      exact ⟨rfl, h8.b⟩
  · have HF := Aside0.mk (show few4 l = false by simpa using hf)
    clear hf
    go_enter Tryd.func18, Tryd.ntmps18
    go_wp2_with fail
    refine (e50 false hc HF.out h0).mono ?_; rintro e w1 ⟨rfl, h1⟩
    clear h0
    go_wp2_with fail
    refine (e51 h1).mono ?_; rintro e w2 ⟨rfl, h2⟩
    clear h1
    go_wp2_with fail
    (try rw [Exit.noGoto_ret])
    go_ret
    exact ⟨rfl, h2.b⟩
theorem SortBlocks (A : Option Addr) (c : Nat) (l : List S48) (w : World) (hL : Laid w) (hC : Kd.C k48 w A l.length l) (hc : l.length ≤ c) :
    Calls Tryd.prog 20 #[.slice A l.length c] w fun e w' => e = .returned (.bool true) ∧ Below w.heap.size w w' := by
  have h0 : In1 w w A l := ⟨hC, hL, Below.refl _ _⟩
  clear hL hC
  by_cases hf : few4 l = true
  · have HF := Aside0.mk hf
    have hl : l.length ≤ 120 := by have h := hf; unfold few4 at h; simp only [Bool.and_eq_true, decide_eq_true_eq] at h; exact h.1
    have HL := Aside0.mk hl
    have HM := Aside0.mk (show l.length ≤ 1000000 by omega)
    clear hf hl
    rcases five _ (ofV_in l) with hv | hv | hv | hv | hv
    · have HV := Aside0.mk hv
      clear hv
      have hr : ofV (nd 9 :: l) = 0 := by rw [of_block l HL.out, HV.out]; decide +kernel
      obtain ⟨m, hm⟩ : ∃ m, m = nd 9 :: l := ⟨_, rfl⟩
      have HR := Aside0.mk (show ofV m = 0 by rw [hm]; exact hr)
      have HE := Aside0.mk hm
      clear hr hm
      have k200 : decide ((l.length : Int) ≥ 200) = false := decide_eq_false (by have := HL.out; omega)
      have k200' : decide (200 ≤ l.length) = false := decide_eq_false (by have := HL.out; omega)
      have k200'' : decide ((200 : Int) ≤ (l.length : Int)) = false := decide_eq_false (by have := HL.out; omega)
      go_enter Tryd.func20, Tryd.ntmps20
      go_wp2_with fail
      refine (e50 true hc HF.out h0).mono ?_; rintro e w1 ⟨rfl, h1⟩
      clear h0
      go_wp2_with fail
      have hq := C_sing w1 h1.c hc
      have h2 := h1.below (al w1 (.cells #[.slice A l.length c] 51))
      refine (Make1 (nd 9) l _ _ hq (by have := HL.out; omega)).mono ?_; rintro e w2 ⟨AB, cB, rfl, hcB, hCB, hb⟩
      rw [← HE.out] at hCB hcB ⊢
      have h3 : In1 w w2 A l ∧ Kd.C k48 w2 AB m.length m := ⟨h2.below hb, hCB⟩
      clear h1 h2 hq hCB hb
      go_wp2_with fail
      refine (Alive4 _ h3.1.l).mono ?_; rintro e w4 ⟨rfl, hb⟩
      have h4 := And.intro (h3.1.below hb) (Kd.C_below h3.2 hb)
      clear hb h3
      go_wp2_with fail
      refine (On false AB cB m _ h4.1.l h4.2 hcB).mono ?_; rintro e w5 ⟨rfl, hb⟩
      rw [show onV false (ofV m) = false by rw [HR.out]; rfl]
      have h5 := And.intro (h4.1.below hb) (Kd.C_below h4.2 hb)
      clear hb h4
      go_wp2_with fail
      refine (On true A c l _ h5.1.l h5.1.c hc).mono ?_; rintro e w6 ⟨rfl, hb⟩
      rw [show onV true (ofV l) = false by rw [HV.out]; rfl]
      have h6 := And.intro (h5.1.below hb) (Kd.C_below h5.2 hb)
      clear hb h5
      go_wp2_with fail
      refine (Term AB cB m _ h6.1.l h6.2 hcB).mono ?_; rintro e w7 ⟨rfl, hb⟩
      rw [show decide (ofV m = 1) = false by rw [HR.out]; rfl]
      have h7 := And.intro (h6.1.below hb) (Kd.C_below h6.2 hb)
      clear hb h6
      go_wp2_with fail
      refine (Of A c l _ h7.1.l h7.1.c hc).mono ?_; rintro e w8 ⟨rfl, hb⟩
      rw [show ofV l = 0 by rw [HV.out]]
      have h8 := And.intro (h7.1.below hb) (Kd.C_below h7.2 hb)
      clear hb h7
      go_wp2_with fail
      refine (On true AB cB m _ h8.1.l h8.2 hcB).mono ?_; rintro e w9 ⟨rfl, hb⟩
      rw [show onV true (ofV m) = false by rw [HR.out]; rfl]
      have h9 := And.intro (h8.1.below hb) (Kd.C_below h8.2 hb)
      clear hb h8
      go_wp2_with fail
      (try rw [Exit.noGoto_ret])
      go_ret
      exact ⟨rfl, h9.1.b⟩
    · have HV := Aside0.mk hv
      clear hv
      have hr : ofV (nd 9 :: l) = 0 := by rw [of_block l HL.out, HV.out]; decide +kernel
      obtain ⟨m, hm⟩ : ∃ m, m = nd 9 :: l := ⟨_, rfl⟩
      have HR := Aside0.mk (show ofV m = 0 by rw [hm]; exact hr)
      have HE := Aside0.mk hm
      clear hr hm
      have k200 : decide ((l.length : Int) ≥ 200) = false := decide_eq_false (by have := HL.out; omega)
      have k200' : decide (200 ≤ l.length) = false := decide_eq_false (by have := HL.out; omega)
      have k200'' : decide ((200 : Int) ≤ (l.length : Int)) = false := decide_eq_false (by have := HL.out; omega)
      go_enter Tryd.func20, Tryd.ntmps20
      go_wp2_with fail
      refine (e50 true hc HF.out h0).mono ?_; rintro e w1 ⟨rfl, h1⟩
      clear h0
      go_wp2_with fail
      have hq := C_sing w1 h1.c hc
      have h2 := h1.below (al w1 (.cells #[.slice A l.length c] 51))
      refine (Make1 (nd 9) l _ _ hq (by have := HL.out; omega)).mono ?_; rintro e w2 ⟨AB, cB, rfl, hcB, hCB, hb⟩
      rw [← HE.out] at hCB hcB ⊢
      have h3 : In1 w w2 A l ∧ Kd.C k48 w2 AB m.length m := ⟨h2.below hb, hCB⟩
      clear h1 h2 hq hCB hb
      go_wp2_with fail
      refine (Alive4 _ h3.1.l).mono ?_; rintro e w4 ⟨rfl, hb⟩
      have h4 := And.intro (h3.1.below hb) (Kd.C_below h3.2 hb)
      clear hb h3
      go_wp2_with fail
      refine (On false AB cB m _ h4.1.l h4.2 hcB).mono ?_; rintro e w5 ⟨rfl, hb⟩
      rw [show onV false (ofV m) = false by rw [HR.out]; rfl]
      have h5 := And.intro (h4.1.below hb) (Kd.C_below h4.2 hb)
      clear hb h4
      go_wp2_with fail
      refine (On true A c l _ h5.1.l h5.1.c hc).mono ?_; rintro e w6 ⟨rfl, hb⟩
      rw [show onV true (ofV l) = false by rw [HV.out]; rfl]
      have h6 := And.intro (h5.1.below hb) (Kd.C_below h5.2 hb)
      clear hb h5
      go_wp2_with fail
      refine (Term AB cB m _ h6.1.l h6.2 hcB).mono ?_; rintro e w7 ⟨rfl, hb⟩
      rw [show decide (ofV m = 1) = false by rw [HR.out]; rfl]
      have h7 := And.intro (h6.1.below hb) (Kd.C_below h6.2 hb)
      clear hb h6
      go_wp2_with fail
      refine (Of A c l _ h7.1.l h7.1.c hc).mono ?_; rintro e w8 ⟨rfl, hb⟩
      rw [show ofV l = 1 by rw [HV.out]]
      have h8 := And.intro (h7.1.below hb) (Kd.C_below h7.2 hb)
      clear hb h7
      go_wp2_with fail
      refine (On true AB cB m _ h8.1.l h8.2 hcB).mono ?_; rintro e w9 ⟨rfl, hb⟩
      rw [show onV true (ofV m) = false by rw [HR.out]; rfl]
      have h9 := And.intro (h8.1.below hb) (Kd.C_below h8.2 hb)
      clear hb h8
      go_wp2_with fail
      (try rw [Exit.noGoto_ret])
      go_ret
      exact ⟨rfl, h9.1.b⟩
    · have HV := Aside0.mk hv
      clear hv
      have hr : ofV (nd 9 :: l) = 1 := by rw [of_block l HL.out, HV.out]; decide +kernel
      obtain ⟨m, hm⟩ : ∃ m, m = nd 9 :: l := ⟨_, rfl⟩
      have HR := Aside0.mk (show ofV m = 1 by rw [hm]; exact hr)
      have HE := Aside0.mk hm
      clear hr hm
      have k200 : decide ((l.length : Int) ≥ 200) = false := decide_eq_false (by have := HL.out; omega)
      have k200' : decide (200 ≤ l.length) = false := decide_eq_false (by have := HL.out; omega)
      have k200'' : decide ((200 : Int) ≤ (l.length : Int)) = false := decide_eq_false (by have := HL.out; omega)
      go_enter Tryd.func20, Tryd.ntmps20
      go_wp2_with fail
      refine (e50 true hc HF.out h0).mono ?_; rintro e w1 ⟨rfl, h1⟩
      clear h0
      go_wp2_with fail
      have hq := C_sing w1 h1.c hc
      have h2 := h1.below (al w1 (.cells #[.slice A l.length c] 51))
      refine (Make1 (nd 9) l _ _ hq (by have := HL.out; omega)).mono ?_; rintro e w2 ⟨AB, cB, rfl, hcB, hCB, hb⟩
      rw [← HE.out] at hCB hcB ⊢
      have h3 : In1 w w2 A l ∧ Kd.C k48 w2 AB m.length m := ⟨h2.below hb, hCB⟩
      clear h1 h2 hq hCB hb
      go_wp2_with fail
      refine (Alive4 _ h3.1.l).mono ?_; rintro e w4 ⟨rfl, hb⟩
      have h4 := And.intro (h3.1.below hb) (Kd.C_below h3.2 hb)
      clear hb h3
      go_wp2_with fail
      refine (On false AB cB m _ h4.1.l h4.2 hcB).mono ?_; rintro e w5 ⟨rfl, hb⟩
      rw [show onV false (ofV m) = true by rw [HR.out]; rfl]
      have h5 := And.intro (h4.1.below hb) (Kd.C_below h4.2 hb)
      clear hb h4
      go_wp2_with fail
      refine (On true A c l _ h5.1.l h5.1.c hc).mono ?_; rintro e w6 ⟨rfl, hb⟩
      rw [show onV true (ofV l) = true by rw [HV.out]; rfl]
      have h6 := And.intro (h5.1.below hb) (Kd.C_below h5.2 hb)
      clear hb h5
      go_wp2_with fail
      refine (Term AB cB m _ h6.1.l h6.2 hcB).mono ?_; rintro e w7 ⟨rfl, hb⟩
      rw [show decide (ofV m = 1) = true by rw [HR.out]; rfl]
      have h7 := And.intro (h6.1.below hb) (Kd.C_below h6.2 hb)
      clear hb h6
      go_wp2_with fail
      refine (Of A c l _ h7.1.l h7.1.c hc).mono ?_; rintro e w8 ⟨rfl, hb⟩
      rw [show ofV l = 2 by rw [HV.out]]
      have h8 := And.intro (h7.1.below hb) (Kd.C_below h7.2 hb)
      clear hb h7
      go_wp2_with fail
      refine (On true AB cB m _ h8.1.l h8.2 hcB).mono ?_; rintro e w9 ⟨rfl, hb⟩
      rw [show onV true (ofV m) = false by rw [HR.out]; rfl]
      have h9 := And.intro (h8.1.below hb) (Kd.C_below h8.2 hb)
      clear hb h8
      go_wp2_with fail
      (try rw [Exit.noGoto_ret])
      go_ret
      exact ⟨rfl, h9.1.b⟩
    · have HV := Aside0.mk hv
      clear hv
      have hr : ofV (nd 9 :: l) = 0 := by rw [of_block l HL.out, HV.out]; decide +kernel
      obtain ⟨m, hm⟩ : ∃ m, m = nd 9 :: l := ⟨_, rfl⟩
      have HR := Aside0.mk (show ofV m = 0 by rw [hm]; exact hr)
      have HE := Aside0.mk hm
      clear hr hm
      have k200 : decide ((l.length : Int) ≥ 200) = false := decide_eq_false (by have := HL.out; omega)
      have k200' : decide (200 ≤ l.length) = false := decide_eq_false (by have := HL.out; omega)
      have k200'' : decide ((200 : Int) ≤ (l.length : Int)) = false := decide_eq_false (by have := HL.out; omega)
      go_enter Tryd.func20, Tryd.ntmps20
      go_wp2_with fail
      refine (e50 true hc HF.out h0).mono ?_; rintro e w1 ⟨rfl, h1⟩
      clear h0
      go_wp2_with fail
      have hq := C_sing w1 h1.c hc
      have h2 := h1.below (al w1 (.cells #[.slice A l.length c] 51))
      refine (Make1 (nd 9) l _ _ hq (by have := HL.out; omega)).mono ?_; rintro e w2 ⟨AB, cB, rfl, hcB, hCB, hb⟩
      rw [← HE.out] at hCB hcB ⊢
      have h3 : In1 w w2 A l ∧ Kd.C k48 w2 AB m.length m := ⟨h2.below hb, hCB⟩
      clear h1 h2 hq hCB hb
      go_wp2_with fail
      refine (Alive4 _ h3.1.l).mono ?_; rintro e w4 ⟨rfl, hb⟩
      have h4 := And.intro (h3.1.below hb) (Kd.C_below h3.2 hb)
      clear hb h3
      go_wp2_with fail
      refine (On false AB cB m _ h4.1.l h4.2 hcB).mono ?_; rintro e w5 ⟨rfl, hb⟩
      rw [show onV false (ofV m) = false by rw [HR.out]; rfl]
      have h5 := And.intro (h4.1.below hb) (Kd.C_below h4.2 hb)
      clear hb h4
      go_wp2_with fail
      refine (On true A c l _ h5.1.l h5.1.c hc).mono ?_; rintro e w6 ⟨rfl, hb⟩
      rw [show onV true (ofV l) = false by rw [HV.out]; rfl]
      have h6 := And.intro (h5.1.below hb) (Kd.C_below h5.2 hb)
      clear hb h5
      go_wp2_with fail
      refine (Term AB cB m _ h6.1.l h6.2 hcB).mono ?_; rintro e w7 ⟨rfl, hb⟩
      rw [show decide (ofV m = 1) = false by rw [HR.out]; rfl]
      have h7 := And.intro (h6.1.below hb) (Kd.C_below h6.2 hb)
      clear hb h6
      go_wp2_with fail
      refine (Of A c l _ h7.1.l h7.1.c hc).mono ?_; rintro e w8 ⟨rfl, hb⟩
      rw [show ofV l = 3 by rw [HV.out]]
      have h8 := And.intro (h7.1.below hb) (Kd.C_below h7.2 hb)
      clear hb h7
      go_wp2_with fail
      refine (On true AB cB m _ h8.1.l h8.2 hcB).mono ?_; rintro e w9 ⟨rfl, hb⟩
      rw [show onV true (ofV m) = false by rw [HR.out]; rfl]
      have h9 := And.intro (h8.1.below hb) (Kd.C_below h8.2 hb)
      clear hb h8
      go_wp2_with fail
      (try rw [Exit.noGoto_ret])
      go_ret
      exact ⟨rfl, h9.1.b⟩
    · have HV := Aside0.mk hv
      clear hv
      have hr : ofV (nd 9 :: l) = 3 := by rw [of_block l HL.out, HV.out]; decide +kernel
      obtain ⟨m, hm⟩ : ∃ m, m = nd 9 :: l := ⟨_, rfl⟩
      have HR := Aside0.mk (show ofV m = 3 by rw [hm]; exact hr)
      have HE := Aside0.mk hm
      clear hr hm
      have k200 : decide ((l.length : Int) ≥ 200) = false := decide_eq_false (by have := HL.out; omega)
      have k200' : decide (200 ≤ l.length) = false := decide_eq_false (by have := HL.out; omega)
      have k200'' : decide ((200 : Int) ≤ (l.length : Int)) = false := decide_eq_false (by have := HL.out; omega)
      go_enter Tryd.func20, Tryd.ntmps20
      go_wp2_with fail
      refine (e50 true hc HF.out h0).mono ?_; rintro e w1 ⟨rfl, h1⟩
      clear h0
      go_wp2_with fail
      have hq := C_sing w1 h1.c hc
      have h2 := h1.below (al w1 (.cells #[.slice A l.length c] 51))
      refine (Make1 (nd 9) l _ _ hq (by have := HL.out; omega)).mono ?_; rintro e w2 ⟨AB, cB, rfl, hcB, hCB, hb⟩
      rw [← HE.out] at hCB hcB ⊢
      have h3 : In1 w w2 A l ∧ Kd.C k48 w2 AB m.length m := ⟨h2.below hb, hCB⟩
      clear h1 h2 hq hCB hb
      go_wp2_with fail
      refine (Alive4 _ h3.1.l).mono ?_; rintro e w4 ⟨rfl, hb⟩
      have h4 := And.intro (h3.1.below hb) (Kd.C_below h3.2 hb)
      clear hb h3
      go_wp2_with fail
      refine (On false AB cB m _ h4.1.l h4.2 hcB).mono ?_; rintro e w5 ⟨rfl, hb⟩
      rw [show onV false (ofV m) = true by rw [HR.out]; rfl]
      have h5 := And.intro (h4.1.below hb) (Kd.C_below h4.2 hb)
      clear hb h4
      go_wp2_with fail
      refine (On true A c l _ h5.1.l h5.1.c hc).mono ?_; rintro e w6 ⟨rfl, hb⟩
      rw [show onV true (ofV l) = true by rw [HV.out]; rfl]
      have h6 := And.intro (h5.1.below hb) (Kd.C_below h5.2 hb)
      clear hb h5
      go_wp2_with fail
      refine (Term AB cB m _ h6.1.l h6.2 hcB).mono ?_; rintro e w7 ⟨rfl, hb⟩
      rw [show decide (ofV m = 1) = false by rw [HR.out]; rfl]
      have h7 := And.intro (h6.1.below hb) (Kd.C_below h6.2 hb)
      clear hb h6
      go_wp2_with fail
      refine (Of A c l _ h7.1.l h7.1.c hc).mono ?_; rintro e w8 ⟨rfl, hb⟩
      rw [show ofV l = 4 by rw [HV.out]]
      have h8 := And.intro (h7.1.below hb) (Kd.C_below h7.2 hb)
      clear hb h7
      go_wp2_with fail
      refine (On true AB cB m _ h8.1.l h8.2 hcB).mono ?_; rintro e w9 ⟨rfl, hb⟩
      rw [show onV true (ofV m) = false by rw [HR.out]; rfl]
      have h9 := And.intro (h8.1.below hb) (Kd.C_below h8.2 hb)
      clear hb h8
      go_wp2_with fail
      (try rw [Exit.noGoto_ret])
      go_ret
      exact ⟨rfl, h9.1.b⟩
  · have HF := Aside0.mk (show few4 l = false by simpa using hf)
    clear hf
    go_enter Tryd.func20, Tryd.ntmps20
    go_wp2_with fail
    refine (e50 false hc HF.out h0).mono ?_; rintro e w1 ⟨rfl, h1⟩
    clear h0
    go_wp2_with fail
    refine (e51 h1).mono ?_; rintro e w2 ⟨rfl, h2⟩
    clear h1
    go_wp2_with fail
    (try rw [Exit.noGoto_ret])
    go_ret
    exact ⟨rfl, h2.b⟩
end Go.Proofs.YtefiadocljnpjaaDoor.Row
/- The law SortKids (printed by wip/row/genJ.py). -/
namespace Go.Proofs.YtefiadocljnpjaaDoor.Row
open Go.Proofs.Tree Go.RowKit Go.Proofs.YtefiadocljnpjaaDoorW.PrintWords Go.Proofs.YtefiadocljnpjaaDoorW.PrintLast Go.Proofs.YtefiadocljnpjaaDoorW.PrintMore Go.Proofs.YtefiadocljnpjaaDoor.PK
set_option linter.unusedVariables false
set_option linter.unusedSimpArgs false
set_option maxHeartbeats 4000000
set_option maxRecDepth 100000
theorem wh_pos (l : List S48) (h : wh l = true) : 0 < l.length := by
  obtain ⟨t, _, e, _, _⟩ := wh_tree l h
  rw [e]; exact Tr.len_pos t
theorem SortKids (A : Option Addr) (c : Nat) (l : List S48) (w : World) (hL : Laid w) (hC : Kd.C k48 w A l.length l) (hc : l.length ≤ c) :
    Calls Tryd.prog 17 #[.slice A l.length c] w fun e w' => e = .returned (.bool true) ∧ Below w.heap.size w w' := by
  have h0 : In1 w w A l := ⟨hC, hL, Below.refl _ _⟩
  clear hL hC
  by_cases hf : few4 l = true
  · have HF := Aside0.mk hf
    have HM := Aside0.mk (show l.length ≤ 1000000 by have h := hf; unfold few4 at h; simp only [Bool.and_eq_true, decide_eq_true_eq] at h; omega)
    clear hf
    by_cases hT : ofV l = 1
    · have HT := Aside0.mk hT
      have HP := Aside0.mk (wh_pos l (of_pos l (by omega)))
      have HS := Aside0.mk (kid_sorts l hT)
      have p1 : (0 : Int) < (l.length : Int) := by have := HP.out; omega
      have p2 : 0 < l.length := HP.out
      clear hT
      obtain ⟨adl, eA, _⟩ := head_cell h0.c HP.out
      subst eA
      obtain ⟨z, hz⟩ : ∃ z, z = (rd_T48 l 0).f0 := ⟨_, rfl⟩
      have HZ := Aside0.mk hz.symm
      rw [← hz] at HS
      clear hz
      by_cases h9 : z = 9
      · subst h9
        go_enter Tryd.func17, Tryd.ntmps17
        go_wp2_with fail
        refine (e50 true hc HF.out h0).mono ?_; rintro e w1 ⟨rfl, h1⟩
        clear h0
        go_wp2_with fail
        refine (e56 true hc (by rw [HT.out]; rfl) h1).mono ?_; rintro e w2 ⟨rfl, h2⟩
        clear h1
        go_wp2_with fail
        refine (Kids (some adl) c l _ h2.c hc HM.out).mono ?_; rintro e w3 ⟨AK, cK, rfl, hS3, hB3⟩
        have h3 : In1 w w3 (some adl) l ∧ Kd.C (Kd.slice 48 k48) w3 AK (kidsL l).length (kidsL l) := ⟨h2.below hB3, (Kd.S_reads' hS3).2.2⟩
        clear h2 hS3 hB3
        obtain ⟨ks, hks⟩ : ∃ ks, ks = kidsL l := ⟨_, rfl⟩
        rw [← hks] at h3 HS ⊢
        clear hks
        have H3 := Aside0.mk h3
        clear h3
        go_wp2_with fail
        go_loopg [4, 5, 18] (ks.length + 1) (fun kq v4 v5 v18 W => ∃ (j : Nat), v18 = .int .i64 (j : Int) ∧ Aside0 (kq + j = ks.length + 1 ∧ j ≤ ks.length) ∧ Aside0 (In1 w W (some adl) l ∧ Kd.C (Kd.slice 48 k48) W AK ks.length ks))
        case atStart => exact ⟨0, rfl, ⟨by omega, by omega⟩, H3⟩
        case round =>
          clear H3
          obtain ⟨j, rfl, HJ, HI⟩ := hrel
          cases gk with
          | zero => exact absurd HJ.out (by omega)
          | succ k1 =>
            by_cases hj : j < ks.length
            · have c14 : decide ((j : Int) < (ks.length : Int)) = true := decide_eq_true (by omega)
              have c14' : decide (j < ks.length) = true := decide_eq_true hj
              have p0 : (0 : Int) ≤ (j : Int) := by omega
              have q0 : (j : Int) < (ks.length : Int) := by omega
              obtain ⟨ad, A1, c1', e7, x0, hl1, hi1⟩ := at_L9 HI.out.2 (j : Int) p0 q0
              subst e7
              obtain ⟨adl', eA', y0⟩ := head_cell HI.out.1.c HP.out
              injection eA' with eA'
              subst eA'
              rw [HZ.out] at y0
              have hkm : rd_L9 ks (j : Int) ∈ ks := by unfold rd_L9; rw [Int.toNat_natCast, List.getD_eq_getElem?_getD, List.getElem?_eq_getElem hj]; exact List.getElem_mem hj
              have hkv := HS.out _ hkm
              obtain ⟨k, hk⟩ : ∃ k, k = rd_L9 ks (j : Int) := ⟨_, rfl⟩
              rw [← hk] at x0 hl1 hi1 hkv
              simp only [Int.toNat_natCast] at x0
              have HKI := Aside0.mk (show Kd.C k48 wr A1 k.length k ∧ k.length ≤ c1' ∧ ofV k = 2 from ⟨hi1, hl1, by rw [hkv]; first | rfl | exact if_pos rfl⟩)
              have EJ := Aside0.mk (wsucc j ks.length hj (Kd.C_max HI.out.2))
              clear hk hkv hkm hl1 hi1 hj
              go_wp2_with fail
              refine (Of A1 c1' k _ HI.out.1.l HKI.out.1 HKI.out.2.1).mono ?_; rintro e w4 ⟨rfl, hB4⟩
              rw [HKI.out.2.2]
              have HI4 := Aside0.mk (show In1 w w4 (some adl) l ∧ Kd.C (Kd.slice 48 k48) w4 (some ad) ks.length ks from ⟨HI.out.1.below hB4, Kd.C_below HI.out.2 hB4⟩)
              clear HI hB4 x0 y0 HKI
              go_wp2_with fail
              go_roundg k1
              case measure => omega
              case rel => exact ⟨j + 1, by rw [EJ.out], ⟨by have := HJ.out; omega, by omega⟩, HI4⟩
            · have c14 : decide ((j : Int) < (ks.length : Int)) = false := decide_eq_false (by omega)
              have c14' : decide (j < ks.length) = false := decide_eq_false hj
              clear hj
              go_wp2_with fail
              refine (e51 HI.out.1).mono ?_; rintro e w6 ⟨rfl, h6⟩
              clear HI
              go_wp2_with fail
              (try rw [Exit.noGoto_ret])
              go_ret
              exact ⟨rfl, h6.b⟩
      · have HN9 := Aside0.mk h9
        have c9 : (z == 9) = false := beq_eq_false_iff_ne.2 h9
        clear h9
        go_enter Tryd.func17, Tryd.ntmps17
        go_wp2_with fail
        refine (e50 true hc HF.out h0).mono ?_; rintro e w1 ⟨rfl, h1⟩
        clear h0
        go_wp2_with fail
        refine (e56 true hc (by rw [HT.out]; rfl) h1).mono ?_; rintro e w2 ⟨rfl, h2⟩
        clear h1
        go_wp2_with fail
        refine (Kids (some adl) c l _ h2.c hc HM.out).mono ?_; rintro e w3 ⟨AK, cK, rfl, hS3, hB3⟩
        have h3 : In1 w w3 (some adl) l ∧ Kd.C (Kd.slice 48 k48) w3 AK (kidsL l).length (kidsL l) := ⟨h2.below hB3, (Kd.S_reads' hS3).2.2⟩
        clear h2 hS3 hB3
        obtain ⟨ks, hks⟩ : ∃ ks, ks = kidsL l := ⟨_, rfl⟩
        rw [← hks] at h3 HS ⊢
        clear hks
        have H3 := Aside0.mk h3
        clear h3
        go_wp2_with fail
        go_loopg [4, 5, 18] (ks.length + 1) (fun kq v4 v5 v18 W => ∃ (j : Nat), v18 = .int .i64 (j : Int) ∧ Aside0 (kq + j = ks.length + 1 ∧ j ≤ ks.length) ∧ Aside0 (In1 w W (some adl) l ∧ Kd.C (Kd.slice 48 k48) W AK ks.length ks))
        case atStart => exact ⟨0, rfl, ⟨by omega, by omega⟩, H3⟩
        case round =>
          clear H3
          obtain ⟨j, rfl, HJ, HI⟩ := hrel
          cases gk with
          | zero => exact absurd HJ.out (by omega)
          | succ k1 =>
            by_cases hj : j < ks.length
            · have c14 : decide ((j : Int) < (ks.length : Int)) = true := decide_eq_true (by omega)
              have c14' : decide (j < ks.length) = true := decide_eq_true hj
              have p0 : (0 : Int) ≤ (j : Int) := by omega
              have q0 : (j : Int) < (ks.length : Int) := by omega
              obtain ⟨ad, A1, c1', e7, x0, hl1, hi1⟩ := at_L9 HI.out.2 (j : Int) p0 q0
              subst e7
              obtain ⟨adl', eA', y0⟩ := head_cell HI.out.1.c HP.out
              injection eA' with eA'
              subst eA'
              rw [HZ.out] at y0
              have hkm : rd_L9 ks (j : Int) ∈ ks := by unfold rd_L9; rw [Int.toNat_natCast, List.getD_eq_getElem?_getD, List.getElem?_eq_getElem hj]; exact List.getElem_mem hj
              have hkv := HS.out _ hkm
              obtain ⟨k, hk⟩ : ∃ k, k = rd_L9 ks (j : Int) := ⟨_, rfl⟩
              rw [← hk] at x0 hl1 hi1 hkv
              simp only [Int.toNat_natCast] at x0
              have HKI := Aside0.mk (show Kd.C k48 wr A1 k.length k ∧ k.length ≤ c1' ∧ ofV k = 1 from ⟨hi1, hl1, by rw [hkv]; first | rfl | exact if_pos rfl | exact if_neg HN9.out⟩)
              have EJ := Aside0.mk (wsucc j ks.length hj (Kd.C_max HI.out.2))
              clear hk hkv hkm hl1 hi1 hj
              go_wp2_with fail
              refine (Of A1 c1' k _ HI.out.1.l HKI.out.1 HKI.out.2.1).mono ?_; rintro e w4 ⟨rfl, hB4⟩
              rw [HKI.out.2.2]
              have HI4 := Aside0.mk (show In1 w w4 (some adl) l ∧ Kd.C (Kd.slice 48 k48) w4 (some ad) ks.length ks from ⟨HI.out.1.below hB4, Kd.C_below HI.out.2 hB4⟩)
              clear HI hB4 x0 y0 HKI
              go_wp2_with fail
              go_roundg k1
              case measure => omega
              case rel => exact ⟨j + 1, by rw [EJ.out], ⟨by have := HJ.out; omega, by omega⟩, HI4⟩
            · have c14 : decide ((j : Int) < (ks.length : Int)) = false := decide_eq_false (by omega)
              have c14' : decide (j < ks.length) = false := decide_eq_false hj
              clear hj
              go_wp2_with fail
              refine (e51 HI.out.1).mono ?_; rintro e w6 ⟨rfl, h6⟩
              clear HI
              go_wp2_with fail
              (try rw [Exit.noGoto_ret])
              go_ret
              exact ⟨rfl, h6.b⟩
    · have HT := Aside0.mk (show decide (ofV l = 1) = false from decide_eq_false hT)
      clear hT
      go_enter Tryd.func17, Tryd.ntmps17
      go_wp2_with fail
      refine (e50 true hc HF.out h0).mono ?_; rintro e w1 ⟨rfl, h1⟩
      clear h0
      go_wp2_with fail
      refine (e56 false hc HT.out h1).mono ?_; rintro e w2 ⟨rfl, h2⟩
      clear h1
      go_wp2_with fail
      refine (e51 h2).mono ?_; rintro e w3 ⟨rfl, h3⟩
      clear h2
      go_wp2_with fail
      (try rw [Exit.noGoto_ret])
      go_ret
      exact ⟨rfl, h3.b⟩
  · have HF := Aside0.mk (show few4 l = false by simpa using hf)
    clear hf
    go_enter Tryd.func17, Tryd.ntmps17
    go_wp2_with fail
    refine (e50 false hc HF.out h0).mono ?_; rintro e w1 ⟨rfl, h1⟩
    clear h0
    go_wp2_with fail
    refine (e51 h1).mono ?_; rintro e w2 ⟨rfl, h2⟩
    clear h1
    go_wp2_with fail
    (try rw [Exit.noGoto_ret])
    go_ret
    exact ⟨rfl, h2.b⟩
end Go.Proofs.YtefiadocljnpjaaDoor.Row
