/- The reference's Point, Points, Box, At: their contracts. -/
import Derived.Test.YtcbemeooeecboaaSX
namespace Go.Proofs.Ytcbemeooeecboaa.Rng
open Go Go.RowKit Go.Shelf Go.Proofs.Tree Go.Proofs.YtcbemeooeecboaaW.PrintWords Go.Proofs.YtcbemeooeecboaaW.PrintLast Go.Proofs.YtcbemeooeecboaaW.PrintMore Go.Proofs.Ytcbemeooeecboaa.PK
set_option linter.unusedVariables false
set_option linter.unusedSimpArgs false
set_option maxHeartbeats 4000000
set_option maxRecDepth 100000
/-- The reference's point of node k. -/
def rpt (l : List S44) (k : Nat) : Value := .complex .f64 (floatOfInt .f64 (leafN (kinds l) k : Int)) (floatOfInt .f64 ((refOver l (k : Int)).length : Int))
theorem RefPoint (A : Option Addr) (c : Nat) (l : List S44) (k : Nat) (w : World) (hrow : Kd.C k44 w A l.length l) (hc : l.length ≤ c) (hl : l.length < 4398046511104) (hk : k ≤ l.length) :
    Calls Try.prog 27 #[.slice A l.length c, .int .i64 (k : Int)] w fun e w' => e = .returned (rpt l k) ∧ Below w.heap.size w w' := by
  have HX := Aside0.mk (RefX A c l k w hrow hc hl hk)
  have HO := Aside0.mk (fun w' (h : Below w.heap.size w w') => RefOver A c l (k : Int) w' (Kd.C_below hrow h) hc hl)
  have HRP : Aside0 (∀ a b : Int, a = (leafN (kinds l) k : Int) → b = ((refOver l (k : Int)).length : Int) → rpt l k = .complex .f64 (floatOfInt .f64 a) (floatOfInt .f64 b)) := ⟨fun a b h1 h2 => by rw [h1, h2]; rfl⟩
  obtain ⟨nl, hnl⟩ : ∃ nl : Int, nl = (leafN (kinds l) k : Int) := ⟨_, rfl⟩
  rw [← hnl] at HX
  have HNL := Aside0.mk hnl
  clear hrow hc hl hk hnl
  go_enter Try.func27, Try.ntmps27
  go_wp2_with fail
  refine HX.out.mono ?_; rintro e w1 ⟨rfl, hb⟩
  have HO1 := Aside0.mk (HO.out w1 hb)
  have HB := Aside0.mk hb
  clear hb
  go_wp2_with fail
  refine HO1.out.mono ?_; rintro e w2 ⟨v, rfl, hown, hb2⟩
  obtain ⟨A2, c2, rfl, _⟩ := own_reads hown
  have HB2 := Aside0.mk (HB.out.trans (hb2.mono HB.out.size))
  obtain ⟨n2, hn2⟩ : ∃ n2 : Nat, n2 = (refOver l (k : Int)).length := ⟨_, rfl⟩
  rw [← hn2]
  have HN2 := Aside0.mk hn2
  clear hown hb2 hn2
  go_wp2_with fail
  go_ret
  exact ⟨by rw [HRP.out nl (n2 : Int) HNL.out (by rw [HN2.out])]; rfl, HB2.out⟩
theorem many_one {l : List S44} (h0 : l.length ≠ 0) (h1 : size S44.f0 l = l.length) : many l = l.length := by
  have : oneB l = true := by unfold oneB; simp [h1]; omega
  unfold many; rw [this]; rfl
theorem many_zero {l : List S44} (h : ¬ (l.length ≠ 0 ∧ size S44.f0 l = l.length)) : many l = 0 := by
  have : oneB l = false := by
    unfold oneB
    by_cases h0 : l.length = 0
    · simp [h0]
    · simp; intro _ h1; exact h ⟨h0, h1⟩
  unfold many; rw [this]; rfl
theorem RefPoints (A : Option Addr) (c : Nat) (l : List S44) (w : World) (hrow : Kd.C k44 w A l.length l) (hc : l.length ≤ c) (hl : l.length < 4398046511104) :
    Calls Try.prog 12 #[.slice A l.length c] w fun e w' => ∃ v, e = .returned v ∧ w'.ownsRow w.heap.size 27 1 v ((List.range (many l)).map (rpt l)).length ((List.range (many l)).map (rpt l)) ∧ Below w.heap.size w w' := by
  have HR := Aside0.mk (And.intro hl (And.intro hc hrow))
  have HS := Aside0.mk (RefSize A c l w hrow hc (by omega))
  by_cases h0 : l.length = 0
  · have HE := Aside0.mk (many_zero (l := l) (fun h => h.1 h0))
    rw [h0] at HS ⊢
    clear hrow hc hl h0
    go_enter Try.func12, Try.ntmps12
    go_wp2_with fail
    go_ret
    exact ⟨_, rfl, by rw [HE.out]; exact World.ownsRow_nil _ _ _ _, Below.refl _ _⟩
  have g0 : ((l.length : Int) == 0) = false := beq_eq_false_iff_ne.2 (by omega)
  have g1 : (l.length == 0) = false := beq_eq_false_iff_ne.2 h0
  by_cases h1 : size S44.f0 l = l.length
  · rw [h1] at HS
    have HP := Aside0.mk (fun k w' (hk : k ≤ l.length) (h : Below w.heap.size w w') => RefPoint A c l k w' (Kd.C_below hrow h) hc hl hk)
    rw [many_one h0 h1]
    clear hrow hc hl h0 h1
    go_enter Try.func12, Try.ntmps12
    go_wp2_with fail
    refine HS.out.mono ?_; rintro e w1 ⟨rfl, hd⟩
    have HB1 := Aside0.mk hd.below
    clear hd
    go_wp2_with fail
    clear g0 g1
    go_loopg [3, 4] (l.length + 1) (fun kq v3 v4 W' => ∃ j : Nat, v4 = .int .i64 (j : Int) ∧ Aside0 (W'.ownsRow w.heap.size 27 1 v3 ((List.range j).map (rpt l)).length ((List.range j).map (rpt l))) ∧ Aside0 (kq + j = l.length + 1 ∧ j ≤ l.length) ∧ Aside0 (Below w.heap.size w W'))
    case atStart => exact ⟨0, rfl, ⟨World.ownsRow_nil _ _ _ _⟩, ⟨by omega, Nat.zero_le _⟩, HB1⟩
    case round =>
      obtain ⟨j, rfl, HO, HJ, HB⟩ := hrel
      cases gk with
      | zero => exact absurd HJ.out.1 (by have := HJ.out.2; omega)
      | succ k1 =>
        by_cases hj : j < l.length
        · have HQ := Aside0.mk (HP.out j wr HJ.out.2 HB.out)
          have c1 : decide ((j : Int) < (l.length : Int)) = true := decide_eq_true (by omega)
          have c2 : decide (j < l.length) = true := decide_eq_true hj
          have HW2 : Aside0 (wrap64 ((j : Int) + 1) = ((j + 1 : Nat) : Int)) := ⟨wadd1 j (Nat.lt_trans (Nat.lt_trans hj HR.out.1) (by decide))⟩
          have HJ2 := Aside0.mk hj
          have HNN : Aside0 (((List.range j).map (rpt l)).length < 4398046511104) := ⟨by rw [List.length_map, List.length_range]; exact Nat.lt_trans hj HR.out.1⟩
          obtain ⟨pv, hpv⟩ : ∃ pv, pv = rpt l j := ⟨_, rfl⟩
          rw [← hpv] at HQ
          have hpv1 : ∃ a b, pv = .complex .f64 a b := ⟨_, _, hpv⟩
          obtain ⟨pa, pb, rfl⟩ := hpv1
          have HSV : Aside0 ((List.range (j + 1)).map (rpt l) = (List.range j).map (rpt l) ++ [.complex .f64 pa pb]) := ⟨by rw [List.range_succ, List.map_append, hpv]; rfl⟩
          clear hj hpv
          go_wp2_with fail
          refine HQ.out.mono ?_; rintro e w6 ⟨rfl, hb6⟩
          have HB6 := Aside0.mk (HB.out.trans (hb6.mono HB.out.size))
          have HO6 := Aside0.mk (pw_own_below HO.out hb6)
          clear hb6 HB HO
          go_wp2_with (at_builtin; refine print_append (w0 := w) w.heap.size rfl (.tmp 21) (.tmp 25) 25 27 (.complex .f64 0 0) 16 rfl Try.underlying25 info27 (by rfl) (by decide) u3 _ (.complex .f64 pa pb) (by rfl) (by rfl) (by rfl) HO6.out HB6.out HB6.out.size (by have := HNN.out; omega) ?_; intro v9 w9 hown9 hbel9 hgrow9 hat9; have HW9 := Aside0.mk (And.intro hown9 hbel9); clear hown9 hbel9 hgrow9 hat9)
          go_roundg k1
          · exact ⟨j + 1, congrArg (Value.int .i64) HW2.out, ⟨by rw [HSV.out]; exact HW9.out.1⟩, ⟨by have := HJ.out; omega, HJ2.out⟩, ⟨HW9.out.2⟩⟩
          · exact Nat.lt_succ_self _
        · have c1 : decide ((j : Int) < (l.length : Int)) = false := decide_eq_false (by omega)
          have c2 : decide (j < l.length) = false := decide_eq_false hj
          have HF := Aside0.mk (show j = l.length by have := HJ.out; omega)
          clear hj
          go_wp2_with fail
          go_ret
          exact ⟨_, rfl, by rw [← HF.out]; exact HO.out, HB.out⟩
  · have HE := Aside0.mk (many_zero (l := l) (fun h => h1 h.2))
    have g2 : (((size S44.f0 l : Nat) : Int) == (l.length : Int)) = false := beq_eq_false_iff_ne.2 (by omega)
    have g3 : (size S44.f0 l == l.length) = false := beq_eq_false_iff_ne.2 h1
    have g4 : (((size S44.f0 l : Nat) : Int) != (l.length : Int)) = true := by simp [bne, g2]
    have g5 : (size S44.f0 l != l.length) = true := by simp [bne, g3]
    obtain ⟨z, hz⟩ : ∃ z, z = size S44.f0 l := ⟨_, rfl⟩
    rw [← hz] at HS g2 g3 g4 g5
    clear hrow hc hl h0 h1 hz
    go_enter Try.func12, Try.ntmps12
    go_wp2_with fail
    refine HS.out.mono ?_; rintro e w1 ⟨rfl, hd⟩
    go_wp2_with fail
    go_ret
    exact ⟨_, rfl, by rw [HE.out]; exact World.ownsRow_nil _ _ _ _, hd.below⟩
/-- What the reference's Box tells. -/
def rbox (l : List S44) : Value := if many l = 0 then .complex .f64 0 0 else .complex .f64 (floatOfInt .f64 (leafN (kinds l) l.length : Int)) (floatOfInt .f64 (depth S44.f0 l : Int))
theorem RefBox (A : Option Addr) (c : Nat) (l : List S44) (w : World) (hrow : Kd.C k44 w A l.length l) (hc : l.length ≤ c) (hl : l.length < 4398046511104) :
    Calls Try.prog 14 #[.slice A l.length c] w fun e w' => e = .returned (rbox l) ∧ Below w.heap.size w w' := by
  have HS := Aside0.mk (RefSize A c l w hrow hc (by omega))
  by_cases h0 : l.length = 0
  · have HE : Aside0 (rbox l = .complex .f64 0 0) := ⟨by unfold rbox; rw [if_pos (many_zero (fun h => h.1 h0))]⟩
    rw [h0] at HS ⊢
    clear hrow hc hl h0
    go_enter Try.func14, Try.ntmps14
    go_wp2_with fail
    go_ret
    exact ⟨by rw [HE.out]; rfl, Below.refl _ _⟩
  have g0 : ((l.length : Int) == 0) = false := beq_eq_false_iff_ne.2 (by omega)
  have g1 : (l.length == 0) = false := beq_eq_false_iff_ne.2 h0
  by_cases h1 : size S44.f0 l = l.length
  · rw [h1] at HS
    have HX := Aside0.mk (fun w' (h : Below w.heap.size w w') => RefX A c l l.length w' (Kd.C_below hrow h) hc hl (Nat.le_refl _))
    have HD := Aside0.mk (fun w' (h : Below w.heap.size w w') => RefDepth A c l w' (Kd.C_below hrow h) hc (by omega))
    have HRP : Aside0 (∀ a b : Int, a = (leafN (kinds l) l.length : Int) → b = (depth S44.f0 l : Int) → rbox l = .complex .f64 (floatOfInt .f64 a) (floatOfInt .f64 b)) := ⟨fun a b h2 h3 => by unfold rbox; rw [if_neg (by rw [many_one h0 h1]; exact h0), h2, h3]⟩
    obtain ⟨nl, hnl⟩ : ∃ nl : Int, nl = (leafN (kinds l) l.length : Int) := ⟨_, rfl⟩
    obtain ⟨nd, hnd⟩ : ∃ nd : Int, nd = (depth S44.f0 l : Int) := ⟨_, rfl⟩
    rw [← hnl] at HX
    rw [← hnd] at HD
    have HNL := Aside0.mk (And.intro hnl hnd)
    clear hrow hc hl h0 h1 hnl hnd
    go_enter Try.func14, Try.ntmps14
    go_wp2_with fail
    refine HS.out.mono ?_; rintro e w1 ⟨rfl, hd⟩
    have HB1 := Aside0.mk hd.below
    have HX1 := Aside0.mk (HX.out w1 hd.below)
    clear hd
    go_wp2_with fail
    refine HX1.out.mono ?_; rintro e w2 ⟨rfl, hb2⟩
    have HB2 := Aside0.mk (HB1.out.trans (hb2.mono HB1.out.size))
    have HD2 := Aside0.mk (HD.out w2 HB2.out)
    clear hb2
    go_wp2_with fail
    refine HD2.out.mono ?_; rintro e w3 ⟨rfl, hd3⟩
    have HB3 := Aside0.mk (HB2.out.trans (hd3.below.mono HB2.out.size))
    clear hd3
    go_wp2_with fail
    go_ret
    exact ⟨by rw [HRP.out nl nd HNL.out.1 HNL.out.2]; rfl, HB3.out⟩
  · have HE : Aside0 (rbox l = .complex .f64 0 0) := ⟨by unfold rbox; rw [if_pos (many_zero (fun h => h1 h.2))]⟩
    have g2 : (((size S44.f0 l : Nat) : Int) == (l.length : Int)) = false := beq_eq_false_iff_ne.2 (by omega)
    have g3 : (size S44.f0 l == l.length) = false := beq_eq_false_iff_ne.2 h1
    have g4 : (((size S44.f0 l : Nat) : Int) != (l.length : Int)) = true := by simp [bne, g2]
    have g5 : (size S44.f0 l != l.length) = true := by simp [bne, g3]
    obtain ⟨z, hz⟩ : ∃ z, z = size S44.f0 l := ⟨_, rfl⟩
    rw [← hz] at HS g2 g3 g4 g5
    clear hrow hc hl h0 h1 hz
    go_enter Try.func14, Try.ntmps14
    go_wp2_with fail
    refine HS.out.mono ?_; rintro e w1 ⟨rfl, hd⟩
    go_wp2_with fail
    go_ret
    exact ⟨by rw [HE.out]; rfl, hd.below⟩
end Go.Proofs.Ytcbemeooeecboaa.Rng
