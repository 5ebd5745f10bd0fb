/- The reference's X and Over: their contracts. -/
import Derived.Test.YtcbemeooeecboaaRW
import Derived.Test.YtcbemeooeecboaaRV
namespace Go.Proofs.Ytcbemeooeecboaa.Rng
open Go Go.RowKit Go.Shelf Go.Proofs.Tree Go.Proofs.YtcbemeooeecboaaW.PrintWords Go.Proofs.YtcbemeooeecboaaW.PrintLast Go.Proofs.YtcbemeooeecboaaW.PrintMore Go.Proofs.Ytcbemeooeecboaa.PK
set_option linter.unusedVariables false
set_option linter.unusedSimpArgs false
set_option maxHeartbeats 4000000
set_option maxRecDepth 100000
/-- How many of the first j nodes are leaves. -/
def leafN (l : List Int) : Nat → Nat
  | 0 => 0
  | j + 1 => if ar (l.getD j 0) = 0 then leafN l j + 1 else leafN l j
theorem leafN_le (l : List Int) (j : Nat) : leafN l j ≤ j := by
  induction j with
  | zero => exact Nat.le_refl _
  | succ j ih => unfold leafN; split <;> omega
theorem RefX (A : Option Addr) (c : Nat) (l : List S44) (k : Nat) (w : World) (hrow : Kd.C k44 w A l.length l) (hc : l.length ≤ c) (hl : l.length < 4398046511104) (hk : k ≤ l.length) :
    Calls Try.prog 28 #[.slice A l.length c, .int .i64 (k : Int)] w fun e w' => e = .returned (.int .i64 (leafN (kinds l) k : Int)) ∧ Below w.heap.size w w' := by
  have HR := Aside0.mk (And.intro hrow (And.intro hl hk))
  have HX0 : Aside0 ((0 : Int) = (leafN (kinds l) 0 : Int)) := ⟨rfl⟩
  clear hrow hc hl hk
  go_enter Try.func28, Try.ntmps28
  go_wp2_with fail
  go_loopg [5, 6] (k + 1) (fun kq v5 v6 W' => ∃ j : Nat, v6 = .int .i64 (j : Int) ∧ v5 = .int .i64 (leafN (kinds l) j : Int) ∧ Aside0 (kq + j = k + 1 ∧ j ≤ k) ∧ Aside0 (Below w.heap.size w W'))
  case atStart => exact ⟨0, rfl, congrArg (Value.int .i64) HX0.out, ⟨by omega, Nat.zero_le _⟩, ⟨Below.refl _ _⟩⟩
  case round =>
    obtain ⟨j, rfl, rfl, HJ, HB⟩ := hrel
    cases gk with
    | zero => exact absurd HJ.out.1 (by have := HJ.out.2; omega)
    | succ k1 =>
      by_cases hj : j < k
      · have hjl : j < l.length := by have := HR.out.2.2; omega
        obtain ⟨y, hy⟩ : ∃ y, l[j]? = some y := ⟨_, List.getElem?_eq_getElem hjl⟩
        obtain ⟨ad, ead, x0, x1, x2⟩ := at44 (Kd.C_below HR.out.1 HB.out) j y hy
        subst ead
        have c1 : decide ((j : Int) < (k : Int)) = true := decide_eq_true (by omega)
        have c2 : decide (j < k) = true := decide_eq_true hj
        have q1 : ((0 : Int) ≤ (j : Int)) = True := eq_true (by omega)
        have q2 : ((j : Int) < (l.length : Int)) = True := eq_true (by omega)
        have q3 : (j < l.length) = True := eq_true hjl
        have hsz : leafN (kinds l) j ≤ j := leafN_le _ _
        have hlen := HR.out.2
        have HW1 : Aside0 (wrap64 ((j : Int) + 1) = ((j + 1 : Nat) : Int)) := ⟨by unfold wrap64; omega⟩
        have HW2 : Aside0 (wrap64 ((leafN (kinds l) j : Int) + 1) = ((leafN (kinds l) j + 1 : Nat) : Int)) := ⟨by unfold wrap64; omega⟩
        have HN : Aside0 (leafN (kinds l) (j + 1) = if ar y.f0 = 0 then leafN (kinds l) j + 1 else leafN (kinds l) j) := ⟨by
          show (if ar ((kinds l).getD j 0) = 0 then _ else _) = _
          rw [kinds_at hy]⟩
        obtain ⟨nl, hnl⟩ : ∃ nl : Int, nl = (leafN (kinds l) j : Int) := ⟨_, rfl⟩
        have HNL := Aside0.mk hnl
        have HJ2 := Aside0.mk hj
        rw [← hnl] at HW2 ⊢
        clear hj hjl hy hsz hlen hnl
        obtain ⟨av, hav⟩ : ∃ av, av = ar y.f0 := ⟨_, rfl⟩
        have HAR := Aside0.mk (fun w => (hav ▸ RefArity y.f0 w : Calls Try.prog 35 #[.int .i64 y.f0] w fun e w' => e = .returned (.int .i64 av) ∧ Drawn0 w w'))
        rw [← hav] at HN
        clear hav
        by_cases hz : av = 0
        · have HZ : Aside0 (leafN (kinds l) (j + 1) = leafN (kinds l) j + 1) := ⟨by rw [HN.out, if_pos hz]⟩
          subst hz
          go_wp2_with fail
          refine (HAR.out _).mono ?_; rintro e w6 ⟨rfl, hd6⟩
          have HB6 := Aside0.mk (HB.out.trans (hd6.below.mono HB.out.size))
          clear hd6 HB
          go_wp2_with fail
          go_roundg k1
          · exact ⟨j + 1, congrArg (Value.int .i64) HW1.out, by rw [HZ.out]; exact congrArg (Value.int .i64) HW2.out, ⟨by have := HJ.out; omega, HJ2.out⟩, HB6⟩
          · exact Nat.lt_succ_self _
        · have f1 : (av == 0) = false := beq_eq_false_iff_ne.2 hz
          have HZ : Aside0 (leafN (kinds l) (j + 1) = leafN (kinds l) j) := ⟨by rw [HN.out, if_neg hz]⟩
          clear hz
          go_wp2_with fail
          refine (HAR.out _).mono ?_; rintro e w6 ⟨rfl, hd6⟩
          have HB6 := Aside0.mk (HB.out.trans (hd6.below.mono HB.out.size))
          clear hd6 HB
          go_wp2_with fail
          go_roundg k1
          · exact ⟨j + 1, congrArg (Value.int .i64) HW1.out, by rw [HZ.out, HNL.out], ⟨by have := HJ.out; omega, HJ2.out⟩, HB6⟩
          · exact Nat.lt_succ_self _
      · have c1 : decide ((j : Int) < (k : Int)) = false := decide_eq_false (by omega)
        have c2 : decide (j < k) = false := decide_eq_false hj
        have HE := Aside0.mk (show j = k by have := HJ.out; omega)
        clear hj
        go_wp2_with fail
        go_ret
        exact ⟨by rw [HE.out]; rfl, HB.out⟩
theorem wadd1 (j : Nat) (h : j < 4611686018427387904) : wrap64 ((j : Int) + 1) = ((j + 1 : Nat) : Int) := by unfold wrap64; omega
theorem waddn (j s : Nat) (h : j + s < 4611686018427387904) : wrap64 ((j : Int) + (s : Int)) = ((j + s : Nat) : Int) := by unfold wrap64; omega
theorem info44 : (Try.prog.info? 44).map (fun i => (i.zero, i.size, i.bytes)) = some (some (.agg #[.int .i64 0, .string ⟨#[]⟩, .int .i64 0]), 3, 32) := by kernel_rfl
/-- The nodes above node k, by sizes. -/
def ovl (l : List S44) (k : Nat) (m : Nat) : List Int := ((List.range m).filter fun j => decide (k < j + size S44.f0 (l.drop j))).map fun j : Nat => (j : Int)
theorem ovl_succ (l : List S44) (k m : Nat) : ovl l k (m + 1) = ovl l k m ++ if k < m + size S44.f0 (l.drop m) then [(m : Int)] else [] := by
  unfold ovl
  rw [List.range_succ, List.filter_append, List.map_append]
  congr 1
  by_cases h : k < m + size S44.f0 (l.drop m)
  · rw [if_pos h]; simp [h]
  · rw [if_neg h]; simp [h]
theorem ovl_len (l : List S44) (k m : Nat) : (ovl l k m).length ≤ m := by
  unfold ovl
  rw [List.length_map]
  have := List.length_filter_le (fun j => decide (k < j + size S44.f0 (l.drop j))) (List.range m)
  rw [List.length_range] at this; exact this
/-- What the reference's Over tells. -/
def refOver (l : List S44) (kv : Int) : List Int := if oneB l = true ∧ 0 ≤ kv ∧ kv < (l.length : Int) then ovl l kv.toNat kv.toNat else []
theorem RefOver (A : Option Addr) (c : Nat) (l : List S44) (kv : Int) (w : World) (hrow : Kd.C k44 w A l.length l) (hc : l.length ≤ c) (hl : l.length < 4398046511104) :
    Calls Try.prog 20 #[.slice A l.length c, .int .i64 kv] w fun e w' => ∃ v, e = .returned v ∧ w'.ownsRow w.heap.size 3 1 v (refOver l kv).length (nums .i64 (refOver l kv)) ∧ Below w.heap.size w w' := by
  have HR := Aside0.mk (And.intro hrow (And.intro hl hc))
  have HS := Aside0.mk (RefSize A c l w hrow hc (by omega))
  by_cases h0 : l.length = 0
  · have HE : Aside0 (refOver l kv = []) := ⟨by unfold refOver; rw [if_neg (fun h => by omega)]⟩
    rw [h0] at HS ⊢
    clear hrow hc hl h0
    go_enter Try.func20, Try.ntmps20
    go_wp2_with fail
    go_ret
    exact ⟨_, rfl, by rw [HE.out]; exact World.ownsRow_nil _ _ _ _, Below.refl _ _⟩
  have g0 : ((l.length : Int) == 0) = false := beq_eq_false_iff_ne.2 (by omega)
  have g1 : (l.length == 0) = false := beq_eq_false_iff_ne.2 h0
  by_cases h1 : size S44.f0 l = l.length
  · rw [h1] at HS
    by_cases h2 : kv < 0
    · have HE : Aside0 (refOver l kv = []) := ⟨by unfold refOver; rw [if_neg (fun h => by omega)]⟩
      have d2 : decide (kv < 0) = true := decide_eq_true h2
      clear hrow hc hl h0 h1 h2
      go_enter Try.func20, Try.ntmps20
      go_wp2_with fail
      refine HS.out.mono ?_; rintro e w1 ⟨rfl, hd⟩
      go_wp2_with fail
      go_ret
      exact ⟨_, rfl, by rw [HE.out]; exact World.ownsRow_nil _ _ _ _, hd.below⟩
    have d2 : decide (kv < 0) = false := decide_eq_false h2
    by_cases h3 : kv < (l.length : Int)
    · have d3 : decide (kv ≥ (l.length : Int)) = false := decide_eq_false (by omega)
      have d4 : decide ((l.length : Int) ≤ kv) = false := decide_eq_false (by omega)
      have HE : Aside0 (refOver l kv = ovl l kv.toNat kv.toNat) := ⟨by unfold refOver; rw [if_pos ⟨by unfold oneB; simp [h1]; omega, by omega, h3⟩]⟩
      obtain ⟨k, rfl⟩ : ∃ k : Nat, kv = (k : Int) := ⟨kv.toNat, by omega⟩
      rw [Int.toNat_natCast] at HE
      have HK : Aside0 (k < l.length) := ⟨by omega⟩
      have d5 : decide (l.length ≤ k) = false := decide_eq_false (by omega)
      have d6 : decide (k ≥ l.length) = false := decide_eq_false (by omega)
      clear hrow hc hl h0 h1 h2 h3
      go_enter Try.func20, Try.ntmps20
      go_wp2_with fail
      refine HS.out.mono ?_; rintro e w1 ⟨rfl, hd⟩
      have HB1 := Aside0.mk hd.below
      clear hd
      go_wp2_with fail
      clear g0 g1 d2 d3 d4 d5 d6
      go_loopg [5, 6] (k + 1) (fun kq v5 v6 W' => ∃ j : Nat, v6 = .int .i64 (j : Int) ∧ Aside0 (W'.ownsRow w.heap.size 3 1 v5 (ovl l k j).length (nums .i64 (ovl l k j))) ∧ Aside0 (kq + j = k + 1 ∧ j ≤ k) ∧ Aside0 (Below w.heap.size w W'))
      case atStart => exact ⟨0, rfl, ⟨World.ownsRow_nil _ _ _ _⟩, ⟨by omega, Nat.zero_le _⟩, HB1⟩
      case round =>
        obtain ⟨j, rfl, HO, HJ, HB⟩ := hrel
        cases gk with
        | zero => exact absurd HJ.out.1 (by have := HJ.out.2; omega)
        | succ k1 =>
          by_cases hj : j < k
          · obtain ⟨i0, hi, hz0, hz1, hz2⟩ := info_parts info44
            have hjl : j < l.length := by have := HK.out; omega
            have hcut := cut_from (P := Try.prog) 22 44 .i64 Try.underlying22 hi 3 hz1 A l.length c (j : Int) (by omega) (by omega)
            rw [Int.toNat_natCast] at hcut
            have hdrop := Kd.C_drop (Kd.C_below HR.out.1 HB.out) (m := j) (by omega) HR.out.2.2
            obtain ⟨dl, hdl⟩ : ∃ dl, dl = l.drop j := ⟨_, rfl⟩
            rw [← hdl] at hdrop
            have hdlen : l.length - j = dl.length := by rw [hdl, List.length_drop]
            obtain ⟨A', hA'⟩ : ∃ A', A' = (if c = j then A else A.map (·.add (j * 3))) := ⟨_, rfl⟩
            obtain ⟨c', hc'⟩ : ∃ c', c' = c - j := ⟨_, rfl⟩
            have hcc : dl.length ≤ c' := by rw [← hdlen, hc']; have := HR.out.2.2; omega
            rw [show (if c = j then A else A.map (·.add (j * k44.sz))) = A' from hA'.symm] at hdrop
            rw [← hA', hdlen, ← hc'] at hcut
            obtain ⟨sz, hsz⟩ : ∃ sz, sz = size S44.f0 dl := ⟨_, rfl⟩
            have HRS := RefSize A' c' dl wr hdrop hcc (by have := HR.out.2.1; omega)
            rw [← hsz] at HRS
            have HRS := Aside0.mk HRS
            have hszl : sz ≤ dl.length := by rw [hsz]; exact size_le _ _
            have hlen := HR.out.2.1
            have HSU : Aside0 (ovl l k (j + 1) = ovl l k j ++ if k < j + sz then [(j : Int)] else []) := ⟨by rw [ovl_succ, hsz, hdl]⟩
            have hw1 : wrap64 ((j : Int) + (sz : Int)) = ((j + sz : Nat) : Int) := waddn j sz (by omega)
            have HW2 : Aside0 (wrap64 ((j : Int) + 1) = ((j + 1 : Nat) : Int)) := ⟨wadd1 j (Nat.lt_trans (Nat.lt_trans hjl HR.out.2.1) (by decide))⟩
            obtain ⟨sm, hsm⟩ : ∃ sm : Nat, sm = j + sz := ⟨_, rfl⟩
            rw [← hsm] at hw1 HSU
            have c1 : decide ((j : Int) < (k : Int)) = true := decide_eq_true (by omega)
            have c2 : decide (j < k) = true := decide_eq_true hj
            have HJ2 := Aside0.mk hj
            have HNN : Aside0 ((ovl l k j).length < 4398046511104) := ⟨by have := ovl_len l k j; omega⟩
            clear hj hjl hi hz0 hz1 hz2 hdrop hdl hdlen hA' hc' hcc hsz hszl hlen hsm
            by_cases ht : k < sm
            · have d1 : decide ((sm : Int) > (k : Int)) = true := decide_eq_true (by omega)
              have d2 : decide ((k : Int) < (sm : Int)) = true := decide_eq_true (by omega)
              have d3 : decide (k < sm) = true := decide_eq_true ht
              have HSV : Aside0 (ovl l k (j + 1) = ovl l k j ++ [(j : Int)]) := ⟨by rw [HSU.out, if_pos ht]⟩
              clear ht
              go_wp2_with fail
              refine HRS.out.mono ?_; rintro e w6 ⟨rfl, hd6⟩
              have HB6 := Aside0.mk (HB.out.trans (hd6.below.mono HB.out.size))
              have HO6 := Aside0.mk (pw_own_below HO.out hd6.below)
              clear hd6 HB HO
              go_wp2_with (at_builtin; refine print_append_num (w0 := w) w.heap.size rfl (.tmp 40) (.tmp 42) 37 3 .i64 8 rfl Try.underlying37 (by kernel_rfl) (by decide) u5 (ovl l k j) (j : Int) (by rfl) (by rfl) HO6.out HB6.out HB6.out.size (by have := HNN.out; omega) ?_; intro v9 w9 hown9 hbel9 hgrow9 hat9; have HW9 := Aside0.mk (And.intro hown9 hbel9); clear hown9 hbel9 hgrow9 hat9)
              go_roundg k1
              · exact ⟨j + 1, congrArg (Value.int .i64) HW2.out, ⟨by rw [HSV.out]; exact HW9.out.1⟩, ⟨by have := HJ.out; omega, HJ2.out⟩, ⟨HW9.out.2⟩⟩
              · exact Nat.lt_succ_self _
            · have d1 : decide ((sm : Int) > (k : Int)) = false := decide_eq_false (by omega)
              have d2 : decide ((k : Int) < (sm : Int)) = false := decide_eq_false (by omega)
              have d3 : decide (k < sm) = false := decide_eq_false ht
              have HSV : Aside0 (ovl l k (j + 1) = ovl l k j) := ⟨by rw [HSU.out, if_neg ht, List.append_nil]⟩
              clear ht
              go_wp2_with fail
              refine HRS.out.mono ?_; rintro e w6 ⟨rfl, hd6⟩
              have HB6 := Aside0.mk (HB.out.trans (hd6.below.mono HB.out.size))
              have HO6 := Aside0.mk (pw_own_below HO.out hd6.below)
              clear hd6 HB HO
              go_wp2_with fail
              go_roundg k1
              · exact ⟨j + 1, congrArg (Value.int .i64) HW2.out, ⟨by rw [HSV.out]; exact HO6.out⟩, ⟨by have := HJ.out; omega, HJ2.out⟩, HB6⟩
              · exact Nat.lt_succ_self _
          · have c1 : decide ((j : Int) < (k : Int)) = false := decide_eq_false (by omega)
            have c2 : decide (j < k) = false := decide_eq_false hj
            have HF := Aside0.mk (show j = k by have := HJ.out; omega)
            clear hj
            go_wp2_with fail
            go_ret
            have e := HF.out
            subst e
            exact ⟨_, rfl, by rw [HE.out]; exact HO.out, HB.out⟩
    · have d3 : decide (kv ≥ (l.length : Int)) = true := decide_eq_true (by omega)
      have d4 : decide ((l.length : Int) ≤ kv) = true := decide_eq_true (by omega)
      have HE : Aside0 (refOver l kv = []) := ⟨by unfold refOver; rw [if_neg (fun h => by omega)]⟩
      clear hrow hc hl h0 h1 h2 h3
      go_enter Try.func20, Try.ntmps20
      go_wp2_with fail
      refine HS.out.mono ?_; rintro e w1 ⟨rfl, hd⟩
      go_wp2_with fail
      go_ret
      exact ⟨_, rfl, by rw [HE.out]; exact World.ownsRow_nil _ _ _ _, hd.below⟩
  · have HE : Aside0 (refOver l kv = []) := ⟨by unfold refOver; rw [if_neg (fun h => by have := h.1; unfold oneB at this; simp at this; omega)]⟩
    have g2 : (((size S44.f0 l : Nat) : Int) == (l.length : Int)) = false := beq_eq_false_iff_ne.2 (by omega)
    have g3 : (size S44.f0 l == l.length) = false := beq_eq_false_iff_ne.2 h1
    have g4 : (((size S44.f0 l : Nat) : Int) != (l.length : Int)) = true := by simp [bne, g2]
    have g5 : (size S44.f0 l != l.length) = true := by simp [bne, g3]
    obtain ⟨z, hz⟩ : ∃ z, z = size S44.f0 l := ⟨_, rfl⟩
    rw [← hz] at HS g2 g3 g4 g5
    clear hrow hc hl h0 h1 hz
    go_enter Try.func20, Try.ntmps20
    go_wp2_with fail
    refine HS.out.mono ?_; rintro e w1 ⟨rfl, hd⟩
    go_wp2_with fail
    go_ret
    exact ⟨_, rfl, by rw [HE.out]; exact World.ownsRow_nil _ _ _ _, hd.below⟩
end Go.Proofs.Ytcbemeooeecboaa.Rng
