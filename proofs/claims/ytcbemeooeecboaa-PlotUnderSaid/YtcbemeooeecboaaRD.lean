/- The iterator of plot.spots: its contract. -/
import Derived.Test.YtcbemeooeecboaaRC
import Derived.Deep.AppendLies
namespace Go.Proofs.Ytcbemeooeecboaa.Rng
open Go Go.RowKit Go.Shelf Go.Proofs.Tree Go.Proofs.YtcbemeooeecboaaW.PrintWords Go.Proofs.YtcbemeooeecboaaW.PrintLast Go.Proofs.YtcbemeooeecboaaW.PrintMore Go.Proofs.Ytcbemeooeecboaa.PK
set_option linter.unusedVariables false
set_option linter.unusedSimpArgs false
set_option maxHeartbeats 4000000
set_option maxRecDepth 100000
attribute [local go_sem] run_store_complex run_store_float
theorem stkCells_cons (p le : Int) (r : Stk) : stkCells ((p, le) :: r) = stkCells r ++ [.int .i64 p, .int .i64 le] := by
  unfold stkCells
  rw [List.reverse_cons, List.flatMap_append]
  rfl
theorem stkCells_len (s : Stk) : (stkCells s).length = s.length * 2 := by
  induction s with
  | nil => rfl
  | cons x r ih => obtain ⟨p, le⟩ := x; rw [stkCells_cons, List.length_append, ih]; simp only [List.length_cons, List.length_nil]; omega
/-- The last open node, as it lies. -/
theorem own_top {W : World} {base : Nat} {V : Option Addr} {D cv : Nat} {p le : Int} {r : Stk} (hD : D = r.length + 1) (h : W.ownsRow base 62 2 (.slice V D cv) ((p, le) :: r).length (stkCells ((p, le) :: r))) (mi : Int) (hmi : mi = (r.length : Int)) :
    ∃ gd : Addr, V = some gd ∧ base ≤ gd.block ∧ W.cell? (gd.add (mi.toNat * 2)) = some (.int .i64 p) ∧ W.cell? ⟨(gd.add (mi.toNat * 2)).block, (gd.add (mi.toNat * 2)).off + 1, none⟩ = some (.int .i64 le) ∧
      W.frozen? ⟨(gd.add (mi.toNat * 2)).block, (gd.add (mi.toNat * 2)).off + 1, none⟩ = false ∧ (gd.add (mi.toNat * 2)).block = gd.block ∧
      ∀ u, (W.setCell ⟨(gd.add (mi.toNat * 2)).block, (gd.add (mi.toNat * 2)).off + 1, none⟩ (.int .i64 u)).ownsRow base 62 2 (.slice V D cv) ((p, u) :: r).length (stkCells ((p, u) :: r)) := by
  subst hmi
  subst hD
  rcases h.2 with ⟨_, h0⟩ | ⟨g, cap, cur, ev, hb, hg, hn, hc, hsz, ht⟩
  · simp at h0
  · injection ev with ev1 ev2 ev3
    subst ev1
    subst ev3
    have hl := stkCells_len r
    have ea : (⟨g, 0, none⟩ : Addr).add (((r.length : Int)).toNat * 2) = ⟨g, r.length * 2, none⟩ := by rw [Int.toNat_natCast, add_plain]
    rw [stkCells_cons] at ht
    have hcur : ∀ i u, (stkCells r ++ [.int .i64 p, .int .i64 le])[i]? = some u → cur[i]? = some u := fun i u hu => by
      rw [← ht] at hu
      have hi : i < (((p, le) :: r).length * 2) := by
        have := (List.getElem?_eq_some_iff.1 hu).1
        rw [List.length_take] at this
        omega
      rw [List.getElem?_take_of_lt hi] at hu
      simpa using hu
    have c0 : cur[r.length * 2]? = some (.int .i64 p) := hcur _ _ (by rw [List.getElem?_append_right (by omega), hl, Nat.sub_self]; rfl)
    have c1 : cur[r.length * 2 + 1]? = some (.int .i64 le) := hcur _ _ (by rw [List.getElem?_append_right (by omega), hl]; simp)
    refine ⟨⟨g, 0, none⟩, rfl, hb, ?_, ?_, ?_, ?_, fun u => ⟨?_, .inr ⟨g, cv, cur.setIfInBounds (r.length * 2 + 1) (.int .i64 u), rfl, hb, ?_, hn, hc, by rw [Array.size_setIfInBounds]; exact hsz, ?_⟩⟩⟩
    · rw [ea, blk_cell hg]; exact c0
    · rw [ea]; exact (blk_cell hg _).trans c1
    · rw [ea]; exact blk_frozen hg _
    · rw [ea]
    · rw [stkCells_len]
    · rw [ea]; exact blk_set hg _ _
    · rw [Array.toList_setIfInBounds, List.take_set]
      have e2 : ((p, u) :: r).length * 2 = ((p, le) :: r).length * 2 := rfl
      rw [e2, ht, stkCells_cons, List.set_append_right _ _ (by omega), hl]
      have e3 : r.length * 2 + 1 - r.length * 2 = 1 := by omega
      rw [e3]
      rfl
theorem size_setCell (W : World) (a : Addr) (v : Value) : (W.setCell a v).heap.size = W.heap.size := by simp [World.setCell]
/-- A store into a block of the iterator's own. -/
theorem Sy.set {w W0 W : World} {Bl : Nat} {A : Option Addr} {c : Nat} {l : List S44} {B0 B : Nat → Prop} {J : (Nat → Prop) → List Nat → World → Prop} {q : List Nat} {y : S44} {nb : Nat} {v : Value} {s : Stk} (h : Sy w W0 W Bl A c l B0 B (J B q W) y nb v s) (hJ : Owns J) (hW : Below w.heap.size w W0) (a : Addr) (x : Value) (hB : ¬ B a.block) (hn : nb ≠ a.block) (hge : W0.heap.size ≤ a.block) (s' : Stk)
    (hown : (W.setCell a x).ownsRow W0.heap.size 62 2 v s'.length (stkCells s')) : Sy w W0 (W.setCell a x) Bl A c l B0 B (J B q (W.setCell a x)) y nb v s' := by
  have hs := size_setCell W a x
  have keep : ∀ k, k ≠ a.block → (W.setCell a x).heap[k]? = W.heap[k]? := fun k hk => Below.heap_setCell W a x k hk
  exact ⟨⟨h.cap.row, h.cap.b.setCell (by have := hW.size; omega) _⟩, hJ _ _ _ _ h.jj (by omega) (fun k hk => keep k (fun e => hB (by rw [← e]; exact hk))), fun k hk => by have := h.lie k hk; omega, h.more,
    h.apart.trans (Apart.setCell (B := fun k => k = a.block) W a x (.inl rfl)) (fun i hi => .inr (by omega)), hown, h.out, (keep nb hn).trans h.node, h.nb⟩
theorem info62 : (Try.prog.info? 62).map (fun i => (i.zero, i.size, i.bytes)) = some (some (.agg #[(.int .i64 0), (.int .i64 0)]), 2, 16) := by kernel_rfl
/-- What an append to the stack leaves. -/
theorem Sy.push {w W0 W X W' : World} {Bl : Nat} {A : Option Addr} {c : Nat} {l : List S44} {B0 B : Nat → Prop} {J : (Nat → Prop) → List Nat → World → Prop} {q : List Nat} {y : S44} {nb : Nat} {v v' : Value} {s s' : Stk} (h : Sy w W0 W Bl A c l B0 B (J B q W) y nb v s) (hJ : Owns J) (hW : Below w.heap.size w W0) (hX : Below W.heap.size W X) (hnb : ∀ k, v.ownBlock = some k → nb ≠ k) (hg : X.grownBy W' v.ownBlock) (hat : ∀ k, v'.ownBlock = some k → v.ownBlock = some k ∨ W.heap.size ≤ k)
    (hown : W'.ownsRow W0.heap.size 62 2 v' s'.length (stkCells s')) : Sy w W0 W' Bl A c l B0 B (J B q W') y nb v' s' := by
  have h2 := h.below hJ hX
  have hs := hg.size
  have hsX := hX.size
  have hlt : ∀ k, v.ownBlock = some k → W0.heap.size ≤ k := fun k hk => (h.own.lt k hk).1
  have keep : ∀ k, k < X.heap.size → v.ownBlock ≠ some k → W'.heap[k]? = X.heap[k]? := fun k hk he => hg.block k hk (fun e => he e.symm)
  have keepB : ∀ k, B k → W'.heap[k]? = X.heap[k]? := fun k hk => keep k (h2.lie k hk) (fun e => h.out k e hk)
  have hapX : Apart (fun k => v.ownBlock = some k) X W' := ⟨hg.os, hg.tape, hg.output, hg.size, fun k hk he => keep k hk he⟩
  exact ⟨⟨h.cap.row, h2.cap.b.trans (hapX.below h2.cap.b.size (fun k hk => Nat.le_trans hW.size (hlt k hk)))⟩, hJ _ _ _ _ h2.jj hs keepB, fun k hk => Nat.lt_of_lt_of_le (h2.lie k hk) hs, h.more, h2.apart.trans hapX (fun i hi => .inr (hlt i hi)), hown,
    fun k hk e => by
      rcases hat k hk with h1 | h1
      · exact h.out k h1 e
      · have := h.lie k e; omega,
    (keep nb (blk_lt h2.node) (fun e => hnb nb e rfl)).trans h2.node, h.nb⟩
theorem own_cap {W : World} {base : Nat} {gd : Addr} {D cv : Nat} {s : Stk} (h : W.ownsRow base 62 2 (.slice (some gd) D cv) s.length (stkCells s)) : D ≤ cv := by
  rcases h.2 with ⟨h0, _⟩ | ⟨g, cap, cur, ev, hb, hg, hn, _⟩
  · cases h0
  · injection ev with e1 e2 e3; omega
theorem own_pop {W : World} {base : Nat} {gd : Addr} {D cv : Nat} {p le : Int} {r : Stk} (hD : D = r.length + 1) (h : W.ownsRow base 62 2 (.slice (some gd) D cv) ((p, le) :: r).length (stkCells ((p, le) :: r))) : W.ownsRow base 62 2 (.slice (some gd) r.length cv) r.length (stkCells r) := by
  subst hD
  rcases h.2 with ⟨h0, _⟩ | ⟨g, cap, cur, ev, hb, hg, hn, _⟩
  · cases h0
  · injection ev with e1 e2 e3
    injection e1 with e1
    subst e1
    rw [stkCells_cons] at h
    exact ownsRow_pop (stkCells_len r) h
theorem Sy.next {w W0 W : World} {Bl : Nat} {A : Option Addr} {c : Nat} {l : List S44} {B0 B : Nat → Prop} {J : (Nat → Prop) → List Nat → World → Prop} {j : Nat} {y : S44} {nb : Nat} {v : Value} {s : Stk} (h : Sy w W0 W Bl A c l B0 B (J B (List.range j ++ [j]) W) y nb v s) (hs : s = (st (kinds l) (j + 1)).1) : Sq w W0 W Bl A c l B0 B J (j + 1) v :=
  ⟨h.cap, by rw [List.range_succ]; exact h.jj, h.lie, h.more, h.apart, by rw [← hs]; exact h.own, h.out⟩
theorem kinds_at {l : List S44} {j : Nat} {y : S44} (h : l[j]? = some y) : (kinds l).getD j 0 = y.f0 := by
  unfold kinds
  rw [List.getD_eq_getElem?_getD, List.getElem?_map, h]
  rfl
theorem st_next {l : List S44} {j : Nat} {y : S44} {av : Int} {s s1 s' : Stk} (hy : l[j]? = some y) (hs : s = (st (kinds l) j).1) (ha : av = ar y.f0) (h1 : s1 = if 0 < av then ((j : Int), av) :: dec s else dec s) (hA : av = 0 → popz s' = popz s1) (hB : av ≠ 0 → s' = s1) (hx : av = 0 → popz s' = s') : s' = (st (kinds l) (j + 1)).1 := by
  show s' = stepS j _ _
  rw [kinds_at hy, ← hs]
  unfold stepS
  rw [← ha]
  by_cases h : 0 < av
  · rw [if_pos h]; rw [if_pos h] at h1; rw [hB (by omega), h1]
  · rw [if_neg h]; rw [if_neg h] at h1
    by_cases h0 : av = 0
    · rw [if_pos h0, ← hx h0, hA h0, h1]
    · rw [if_neg h0, hB h0, h1]
theorem x_next {l : List S44} {j : Nat} {y : S44} {av : Int} {xl : Nat} (hy : l[j]? = some y) (hs : xl = (st (kinds l) j).2) (ha : av = ar y.f0) : (if 0 < av then xl else xl + 1) = (st (kinds l) (j + 1)).2 := by
  show _ = stepX _ _
  rw [kinds_at hy, ← hs]
  unfold stepX
  rw [← ha]
theorem spots_seq (n : Nat) (Bl : Nat) (A : Option Addr) (c : Nat) (l : List S44) (w : World) (hc : l.length ≤ c) (hl : l.length < 4398046511104) (hrow : Kd.C k44 w A l.length l) :
    SeqB Fence.wide n Try.prog 33 #[.pointer (some ⟨Bl, 0, none⟩)] (spotE l) (fun xs => xs = List.range (many l)) (fun pre => ∃ m, m ≤ many l ∧ pre = List.range m) (fun pre x => pre = List.range x ∧ x < many l) w (fun W => W.cell? ⟨Bl, 0, none⟩ = some (.slice A l.length c)) := by
  intro lp B0 J Jx W hW z0 hB0 hLie hJ hJx hY h0
  have HCap := Aside0.mk (show Cap w W Bl A c l from ⟨hrow, hW⟩)
  have HLN := Aside0.mk hl
  have HLC := Aside0.mk hc
  have HB0 := Aside0.mk (And.intro hW hB0)
  have HOne := Aside0.mk (fun W h => One A c l W h hc (by omega))
  refine callsIn_wide.2 ?_
  cases hone : oneB l with
  | false =>
    have HM := Aside0.mk (show many l = 0 by unfold many; rw [hone]; rfl)
    rw [hone] at HOne
    clear hrow hone hc hl
    go_enter Try.func33, Try.ntmps33
    go_wp2_with fail
    refine (HOne.out _ HCap.out.C).mono ?_; rintro e w1 ⟨rfl, hb⟩
    go_wp2_with fail
    refine bodyPost_ret (results_none rfl _ _ _) rfl ?_
    exact ⟨⟨_, rfl⟩, B0, fun k hk => .inl hk, fun k hk => Nat.lt_of_lt_of_le (hLie k hk) hb.size, .of_below hb, .inl ⟨[], by rw [HM.out]; rfl, hJ _ _ _ _ h0 hb.size (fun k hk => hb.block k (hLie k hk))⟩⟩
  | true =>
    have HM := Aside0.mk (show many l = l.length by unfold many; rw [hone]; rfl)
    rw [hone] at HOne
    clear hrow hone hc hl
    go_enter Try.func33, Try.ntmps33
    go_wp2_with fail
    refine (HOne.out _ HCap.out.C).mono ?_; rintro e w1 ⟨rfl, hb⟩
    have z1 := pw_cell_below hb z0
    have HW1 := Aside0.mk (show Sq w W w1 Bl A c l B0 B0 J 0 (.slice none 0 0) from ⟨⟨HCap.out.row, bthen HCap.out.b hb⟩, hJ _ _ _ _ h0 hb.size (fun k hk => hb.block k (hLie k hk)), fun k hk => Nat.lt_of_lt_of_le (hLie k hk) hb.size, fun k hk => .inl hk, .of_below hb, World.ownsRow_nil _ _ _ _, fun k hk => by simp [Value.ownBlock] at hk⟩)
    have HJ := Aside0.mk hJ
    have HYY := Aside0.mk hY
    clear hb z0 hJ hY h0 hJx hW hB0 hLie
    go_wp2_with fail
    clear z1
    go_loopg [3, 4, 15] (l.length + 1) (fun kq v3 v4 v15 W' => ∃ (j : Nat) (B : Nat → Prop), v15 = .int .i64 (j : Int) ∧ v4 = .int .i64 ((st (kinds l) j).2 : Int) ∧ Aside0 (kq + j = l.length + 1 ∧ j ≤ l.length) ∧ Aside0 (Sq w W W' Bl A c l B0 B J j v3))
    case atStart => exact ⟨0, B0, rfl, rfl, ⟨by omega, Nat.zero_le _⟩, HW1⟩
    case round =>
      clear HW1
      obtain ⟨j, B, rfl, rfl, HJL, HS⟩ := hrel
      cases gk with
      | zero => exact absurd HJL.out.1 (by have := HJL.out.2; omega)
      | succ k1 =>
        by_cases hj : j < l.length
        · obtain ⟨y, hy⟩ : ∃ y, l[j]? = some y := ⟨_, List.getElem?_eq_getElem hj⟩
          obtain ⟨ad, ead, x0, x1, x2⟩ := at44 HS.out.cap.C j y hy
          subst ead
          have c1 : decide ((j : Int) < (l.length : Int)) = true := decide_eq_true (by omega)
          have c2 : decide (j < l.length) = true := decide_eq_true hj
          have q1 : ((0 : Int) ≤ (j : Int)) = True := eq_true (by omega)
          have q2 : ((j : Int) < (l.length : Int)) = True := eq_true (by omega)
          have q3 : (j < l.length) = True := eq_true hj
          have HYN := Aside0.mk hy
          have HJ2 := Aside0.mk hj
          obtain ⟨s, hs⟩ : ∃ s, s = (st (kinds l) j).1 := ⟨_, rfl⟩
          obtain ⟨xl, hxl⟩ : ∃ xl, xl = (st (kinds l) j).2 := ⟨_, rfl⟩
          have HSS := Aside0.mk (And.intro hs hxl)
          have HOWN := Aside0.mk (show wr.ownsRow W.heap.size 62 2 u3 s.length (stkCells s) by rw [hs]; exact HS.out.own)
          rw [← hxl]
          clear hy hj hs hxl
          obtain ⟨V, cv, ev⟩ := own_form HOWN.out
          subst ev
          obtain ⟨D, hD⟩ : ∃ D : Nat, D = s.length := ⟨_, rfl⟩
          have HD := Aside0.mk hD
          have HS2 : Aside0 (Sq w W wr Bl (some ad) c l B0 B J j (.slice V D cv)) := by rw [hD]; exact HS
          have HOWN2 : Aside0 (wr.ownsRow W.heap.size 62 2 (.slice V D cv) s.length (stkCells s)) := by rw [hD]; exact HOWN
          rw [← hD]
          clear hD HS HOWN
          obtain ⟨bz, hbz⟩ : ∃ bz, bz = decide (0 < D) := ⟨_, rfl⟩
          have g1 : decide ((D : Int) > 0) = bz := by rw [hbz, decide_eq_decide]; omega
          have g2 : decide ((0 : Int) < (D : Int)) = bz := by rw [hbz, decide_eq_decide]; omega
          have g3 : decide (0 < D) = bz := hbz.symm
          have HBZ := Aside0.mk hbz
          clear hbz
          go_upto_if 29 with (fail)
          clear g1 g2 g3
          have hb2 : Below wr.heap.size wr ((wr.alloc (.cells #[.int .i64 y.f0, .string y.f1, .int .i64 y.f2] 44)).alloc (.cells #[.complex .f64 (floatOfInt .f64 (xl : Int)) (floatOfInt .f64 (D : Int)), .int .i64 (-1)] 49)) := below_alloc (below_alloc (Below.refl _ _) _) _
          have hsy := HS2.out.lay HJ.out y (.cells #[.complex .f64 (floatOfInt .f64 (xl : Int)) (floatOfInt .f64 (D : Int)), .int .i64 (-1)] 49) s HSS.out.1
          have hsb := heap_new (wr.alloc (.cells #[.int .i64 y.f0, .string y.f1, .int .i64 y.f2] 44)) (.cells #[.complex .f64 (floatOfInt .f64 (xl : Int)) (floatOfInt .f64 (D : Int)), .int .i64 (-1)] 49)
          rw [World.size_alloc] at hsb
          have hnB : ¬ B (wr.heap.size + 1) := fun e => by have := HS2.out.lie _ e; omega
          have hown2 : ∀ k, (Value.slice V D cv).ownBlock = some k → k < wr.heap.size := fun k hk => (HOWN2.out.lt k hk).2
          obtain ⟨nb, hnb⟩ : ∃ nb, nb = wr.heap.size := ⟨_, rfl⟩
          obtain ⟨W2, hW2⟩ : ∃ W2, W2 = (wr.alloc (.cells #[.int .i64 y.f0, .string y.f1, .int .i64 y.f2] 44)).alloc (.cells #[.complex .f64 (floatOfInt .f64 (xl : Int)) (floatOfInt .f64 (D : Int)), .int .i64 (-1)] 49) := ⟨_, rfl⟩
          rw [← hW2] at hsy hsb ⊢
          rw [← hnb] at hsy hsb hnB hown2 ⊢
          have HSy := Aside0.mk hsy
          have HSB := Aside0.mk (And.intro hsb hnB)
          have HOB := Aside0.mk hown2
          clear hW2 hnb hb2 hsy hsb hnB hown2 HS2 HOWN2 x0 x1 x2
          go_cut [8] from 30 to 46 (fun v8 wc => Aside0 (Sy w W wc Bl (some ad) c l B0 B (J B (List.range j) wc) y nb (.slice V D cv) (dec s)) ∧ Aside0 (wc.heap[nb + 1]? = some (.cells #[.complex .f64 (floatOfInt .f64 (xl : Int)) (floatOfInt .f64 (D : Int)), .int .i64 (topOf s)] 49 (0, 0)) ∧ ¬ B (nb + 1)))
          case first =>
            cases s with
            | nil =>
              obtain rfl : bz = false := by rw [HBZ.out, HD.out]; rfl
              go_wp2_with fail
              go_meet
              exact ⟨HSy, HSB⟩
            | cons t r =>
              obtain ⟨p, le⟩ := t
              have hsm := st_small (kinds l) j (p, le) (by rw [← HSS.out.1]; exact List.mem_cons_self)
              simp only at hsm
              obtain ⟨mi, hmi⟩ : ∃ mi : Int, mi = (r.length : Int) := ⟨_, rfl⟩
              have hDr : D = r.length + 1 := HD.out
              have hrj : r.length < j := by
                have := st_len (kinds l) j
                rw [← HSS.out.1] at this
                exact this
              have hj61 := HLN.out
              have hjl := HJ2.out
              obtain rfl : bz = true := by rw [HBZ.out, hDr]; exact decide_eq_true (by omega)
              obtain ⟨gd, hV, hgb, t0, t1, tf, tb, tset⟩ := own_top hDr HSy.out.own mi hmi
              subst hV
              have k1 : wrap64 ((D : Int) - 1) = mi := by rw [hDr, hmi]; unfold wrap64; omega
              have k2 : IntKind.i64.wrap ((D : Int) - 1) = mi := (i64_w _).trans k1
              have k3 : ((0 : Int) ≤ mi) = True := eq_true (by omega)
              have k4 : (mi < (D : Int)) = True := eq_true (by omega)
              have k5 : wrap64 (le - 1) = le - 1 := by unfold wrap64; omega
              have k6 : IntKind.i64.wrap (le - 1) = le - 1 := (i64_w _).trans k5
              have d1 : decide ((D : Int) > 0) = true := decide_eq_true (by omega)
              have d2 : decide ((0 : Int) < (D : Int)) = true := decide_eq_true (by omega)
              have d3 : decide (0 < D) = true := decide_eq_true (by omega)
              have hgn : gd.block < nb := HOB.out _ rfl
              have HMI := Aside0.mk hmi
              have HDR := Aside0.mk hDr
              have HT := Aside0.mk tset
              have HGB := Aside0.mk (And.intro hgb (And.intro tb hgn))
              have u1 := (blk_cell HSB.out.1 1).trans rfl
              have uf := blk_frozen HSB.out.1 1
              clear hsm hmi hDr hrj hj61 hjl tset hgb tb hgn
              go_upto_region 10 with fail
              obtain ⟨W3, hW3⟩ : ∃ W3, W3 = W2.setCell ⟨nb + 1, 1, none⟩ (.int .i64 p) := ⟨_, rfl⟩
              have hs3 : Sy w W W3 Bl (some ad) c l B0 B (J B (List.range j) W3) y nb (.slice (some gd) D cv) ((p, le) :: r) := by
                rw [hW3]
                refine HSy.out.set HJ.out HB0.out.1 ⟨nb + 1, 1, none⟩ _ HSB.out.2 (by simp) (by have := HGB.out; simp only; omega) _ (own_at HSy.out.own (fun k hk => Below.heap_setCell _ _ _ k (fun e => by have := HOB.out k hk; simp only at e; omega)))
              have hsb3 : W3.heap[nb + 1]? = some (.cells #[.complex .f64 (floatOfInt .f64 (xl : Int)) (floatOfInt .f64 (D : Int)), .int .i64 p] 49 (0, 0)) := by
                rw [hW3]; exact blk_put HSB.out.1 1 _ rfl
              rw [← hW3]
              clear hW3 t0 t1 tf u1 uf HT
              obtain ⟨gd2, hV2, hgb, t0, t1, tf, tb, tset⟩ := own_top HDR.out hs3.own mi HMI.out
              obtain rfl := Option.some.inj hV2
              have HS3 := Aside0.mk hs3
              have HSB3 := Aside0.mk hsb3
              have HT := Aside0.mk tset
              have HTB := Aside0.mk tb
              clear hV2 hgb tb tset hs3 hsb3
              go_wp2_with fail
              go_meet
              refine ⟨⟨?_⟩, ⟨?_⟩⟩
              · exact HS3.out.set HJ.out HB0.out.1 _ _ (by rw [HTB.out]; exact HSy.out.out _ rfl) (by rw [HTB.out]; have := HGB.out.2.2; omega) (by rw [HTB.out]; exact HGB.out.1) _ (HT.out (le - 1))
              · exact ⟨(Below.heap_setCell _ _ _ _ (by rw [HTB.out]; have := HGB.out.2.2; omega)).trans HSB3.out, HSB.out.2⟩
          case rest =>
            obtain ⟨HC, HB⟩ := hcut
            have b0 := (blk_cell HB.out.1 0).trans rfl
            have b1 := (blk_cell HB.out.1 1).trans rfl
            obtain ⟨tp, htp⟩ : ∃ tp, tp = topOf s := ⟨_, rfl⟩
            rw [← htp] at b1
            have he : spotE l j = #[.int .i64 (j : Int), .agg #[.complex .f64 (floatOfInt .f64 (xl : Int)) (floatOfInt .f64 (D : Int)), .int .i64 tp]] := by
              unfold spotE spotV; rw [← HSS.out.1, ← HSS.out.2, ← HD.out, ← htp]
            obtain ⟨fn, tmps, assign, body, hyd, hR⟩ := HYY.out B (List.range j) j _ HC.out.jj HC.out.lie ⟨rfl, by rw [HM.out]; exact HJ2.out⟩
            rw [he] at hyd
            clear he htp
            go_upto_region 11 with fail
            refine (wpIn_wide (n := n)).1 ?_
            gi_wp2_with fail
            refine ⟨fun h => absurd h (by decide), hR.mono ?_⟩
            rintro e W5 ⟨B', hm, hli, hap, (⟨rfl, hj3⟩ | ⟨rfl, hjx⟩)⟩
            · have H5 := Aside0.mk (HC.out.round HB0.out.1 HB0.out.2 hm hli hap hj3)
              clear hm hli hap hj3 hyd hR HC HB b0 b1
              gi_wp2_with fail
              have n0 := (blk_cell H5.out.node 0).trans rfl
              obtain ⟨av, hav⟩ : ∃ av, av = ar y.f0 := ⟨_, rfl⟩
              have HAV := Aside0.mk hav
              have HAR := Aside0.mk (fun w => hav ▸ Arity y.f0 w)
              obtain ⟨bv, hbv⟩ : ∃ bv, bv = decide (0 < av) := ⟨_, rfl⟩
              have g1 : decide (av > 0) = bv := hbv.symm
              have g3 : decide (0 < av) = bv := hbv.symm
              have HBV := Aside0.mk hbv
              clear hav hbv
              go_upto_if 56 with fail
              refine (HAR.out _).mono ?_; rintro e w6 ⟨rfl, hd6⟩
              have H6 := Aside0.mk (H5.out.below HJ.out (hd6.below))
              go_upto_if 56 with fail
              go_cut [3, 4] from 57 to 64 (fun v3 v4 wc => v4 = .int .i64 ((if 0 < av then xl else xl + 1 : Nat) : Int) ∧ Aside0 (Sy w W wc Bl (some ad) c l B0 B' (J B' (List.range j ++ [j]) wc) y nb v3 (if 0 < av then ((j : Int), av) :: dec s else dec s)))
              case first =>
                cases bv with
                | true =>
                  have e1 : 0 < av := of_decide_eq_true HBV.out.symm
                  obtain ⟨i0, hi, hz0, hz1, hz2⟩ := info_parts info62
                  have hown := H6.out.own
                  rw [show (dec s).length = D by rw [dec_len]; exact HD.out.symm] at hown
                  have hsz : W.heap.size ≤ w6.heap.size := H6.out.apart.size
                  have hD61 : D < 4398046511104 := by
                    have h1 := st_len (kinds l) j
                    rw [← HSS.out.1, ← HD.out] at h1
                    have := HJ2.out
                    have := HLN.out
                    omega
                  have HOW := Aside0.mk hown
                  have HHI := Aside0.mk (And.intro hi (And.intro hz0 (And.intro hz1 hz2)))
                  have HSZ := Aside0.mk (And.intro hsz hD61)
                  have HE1 := Aside0.mk e1
                  clear hown hi hz0 hz1 hz2 hsz hD61 e1
                  go_wp2_with (at_builtin; refine wpList_append_lies _ rfl (.tmp 57) (.tmp 61) 59 rfl W.heap.size 62 i0 _ 2 16 Try.underlying59 HHI.out.1 HHI.out.2.1 HHI.out.2.2.1 HHI.out.2.2.2 (by rfl) (by decide) (.slice V D cv) D (stkCells (dec s)) (by rfl) (HOW.out.alloc _) ⟨w6.heap.size, 0, none⟩ 1 1 [.int .i64 (j : Int), .int .i64 av] (by rfl) (by rfl) (World.news_of_block (heap_new _ _)) (by simp [Value.oneCell']) (by decide) (by have := HSZ.out.2; unfold maxLen; omega) (by have := HSZ.out.2; omega) (by have := HSZ.out.1; simp; omega) (w6.heap.size + 1) (by simp) ?_; intro g cap w7 hown7 hgrow hat hlt7)
                  go_meet
                  refine ⟨by rw [if_pos HE1.out], ⟨?_⟩⟩
                  rw [if_pos HE1.out]
                  have hdl : (dec s).length = D := by rw [dec_len]; exact HD.out.symm
                  refine H6.out.push HJ.out HB0.out.1 (below_alloc (Below.refl _ _) _) (fun k hk => by have := HOB.out k hk; omega) hgrow (fun k hk => ?_) ?_
                  · have hgk : g = k := Option.some.inj hk
                    rcases hat with h1 | h1
                    · exact .inl (hgk ▸ h1)
                    · exact .inr (by omega)
                  · rw [stkCells_cons, List.length_cons, hdl]; exact hown7
                | false =>
                  have HE1 : Aside0 (¬ 0 < av) := ⟨of_decide_eq_false HBV.out.symm⟩
                  have e2 : wrap64 ((xl : Int) + 1) = ((xl + 1 : Nat) : Int) := by
                    have := st_leaves (kinds l) j
                    rw [← HSS.out.2] at this
                    have := HJ2.out
                    have := HLN.out
                    unfold wrap64; omega
                  have e3 : IntKind.i64.wrap ((xl : Int) + 1) = ((xl + 1 : Nat) : Int) := (i64_w _).trans e2
                  obtain ⟨xm, hxm⟩ : ∃ xm : Int, xm = ((xl + 1 : Nat) : Int) := ⟨_, rfl⟩
                  rw [← hxm] at e2 e3
                  have HXM := Aside0.mk hxm
                  clear hxm
                  go_wp2_with fail
                  go_meet
                  exact ⟨by rw [if_neg (Int.not_lt.2 HE1.out), HXM.out], ⟨by rw [if_neg (Int.not_lt.2 HE1.out)]; exact H6.out⟩⟩
              case rest =>
                obtain ⟨rfl, H7⟩ := hcut
                obtain ⟨s1, hs1⟩ : ∃ s1, s1 = (if 0 < av then ((j : Int), av) :: dec s else dec s) := ⟨_, rfl⟩
                rw [← hs1] at H7
                have HS1 := Aside0.mk hs1
                clear hs1 H6 HSy HSB HOB g1 g3 HBV H5
                obtain ⟨xl2, hxl2⟩ : ∃ xl2 : Nat, xl2 = (if 0 < av then xl else xl + 1) := ⟨_, rfl⟩
                rw [← hxl2]
                have HX2 := Aside0.mk hxl2
                clear hxl2
                have HAR := Aside0.mk (fun w => (HAV.out ▸ Arity y.f0 w : Calls Try.prog 31 #[.int .i64 y.f0] w fun e w' => e = .returned (.int .i64 av) ∧ Drawn0 w w'))
                go_wp2_with fail
                go_loopg [3] (s1.length + 1) (fun kq v3 W' => ∃ s' : Stk, Aside0 (kq = s'.length + 1 ∧ s'.length ≤ l.length + 1) ∧ Aside0 (Sy w W W' Bl (some ad) c l B0 B' (J B' (List.range j ++ [j]) W') y nb v3 s') ∧ Aside0 ((av = 0 → popz s' = popz s1) ∧ (av ≠ 0 → s' = s1)))
                case atStart =>
                  refine ⟨s1, ⟨rfl, ?_⟩, H7, ⟨fun _ => rfl, fun _ => rfl⟩⟩
                  have h1 := st_len (kinds l) j
                  rw [← HSS.out.1] at h1
                  have h2 := dec_len s
                  have h3 := HJ2.out
                  rw [HS1.out]
                  split
                  · simp only [List.length_cons]; omega
                  · omega
                case round =>
                  clear H7
                  obtain ⟨s', HK, H8, HPZ⟩ := hrel
                  cases gk with
                  | zero => exact absurd HK.out.1 (by omega)
                  | succ k2 =>
                    obtain ⟨V', cv', ev⟩ := own_form H8.out.own
                    subst ev
                    have n8 := (blk_cell H8.out.node 0).trans rfl
                    have HWJ : Aside0 (wrap64 ((j : Int) + 1) = ((j + 1 : Nat) : Int)) := ⟨by have := HJ2.out; have := HLN.out; unfold wrap64; omega⟩
                    cases s' with
                    | nil =>
                      have HFIN := Aside0.mk (st_next HYN.out HSS.out.1 HAV.out HS1.out HPZ.out.1 HPZ.out.2 (fun _ => rfl))
                      simp only [List.length_nil] at H8 ⊢
                      go_wp2_with fail
                      go_roundg k1
                      · exact ⟨j + 1, B', congrArg (Value.int .i64) HWJ.out, by rw [HX2.out, x_next HYN.out HSS.out.2 HAV.out], ⟨by have := HJL.out; omega, HJ2.out⟩, ⟨H8.out.next HFIN.out⟩⟩
                      · exact Nat.lt_succ_self _
                    | cons t r =>
                      obtain ⟨p, le⟩ := t
                      obtain ⟨D', hD'⟩ : ∃ D' : Nat, D' = r.length + 1 := ⟨_, rfl⟩
                      have H9 : Aside0 (Sy w W wr Bl (some ad) c l B0 B' (J B' (List.range j ++ [j]) wr) y nb (.slice V' D' cv') ((p, le) :: r)) := by rw [hD']; exact H8
                      have HD9 := Aside0.mk hD'
                      rw [show ((p, le) :: r).length = D' from hD'.symm]
                      obtain ⟨mi, hmi⟩ : ∃ mi : Int, mi = (r.length : Int) := ⟨_, rfl⟩
                      obtain ⟨gd, hV, hgb, t0, t1, tf, tb, tset⟩ := own_top hD' H9.out.own mi hmi
                      subst hV
                      have hcap := own_cap H9.out.own
                      have hk := HK.out.2
                      simp only [List.length_cons] at hk
                      have hll := HLN.out
                      have r1 : wrap64 ((D' : Int) - 1) = mi := by rw [hD', hmi]; unfold wrap64; omega
                      have r2 : IntKind.i64.wrap ((D' : Int) - 1) = mi := (i64_w _).trans r1
                      have r3 : ((0 : Int) ≤ mi) = True := eq_true (by omega)
                      have r4 : (mi < (D' : Int)) = True := eq_true (by omega)
                      have r5 : (mi ≤ (cv' : Int)) = True := eq_true (by omega)
                      have d1 : decide ((D' : Int) > 0) = true := decide_eq_true (by omega)
                      have d2 : decide ((0 : Int) < (D' : Int)) = true := decide_eq_true (by omega)
                      have d3 : decide (0 < D') = true := decide_eq_true (by omega)
                      have HMI := Aside0.mk hmi
                      clear hD' hmi H8 hgb t0 tf tb tset hcap hk hll
                      by_cases hle : le = 0
                      · subst hle
                        go_wp2_with fail
                        refine (HAR.out _).mono ?_; rintro e wa ⟨rfl, hda⟩
                        have H10 := Aside0.mk (H9.out.below HJ.out hda.below)
                        clear H9 n8 t1
                        by_cases hav : av = 0
                        · have HP1 : Aside0 (popz r = popz s1) := ⟨by rw [← HPZ.out.1 hav, popz, if_pos rfl]⟩
                          subst hav
                          go_wp2_with fail
                          go_roundg k2
                          · refine ⟨r, ⟨by have := HK.out.1; simp only [List.length_cons] at this; omega, by have := HK.out.2; simp only [List.length_cons] at this; omega⟩, ⟨?_⟩, ⟨fun _ => HP1.out, fun h => absurd rfl h⟩⟩
                            have e : mi.toNat = r.length := by rw [HMI.out, Int.toNat_natCast]
                            rw [e]
                            exact ⟨H10.out.cap, H10.out.jj, H10.out.lie, H10.out.more, H10.out.apart, own_pop HD9.out H10.out.own, fun k hk => H10.out.out k hk, H10.out.node, H10.out.nb⟩
                          · exact Nat.lt_succ_self _
                        · have f2 : (av == 0) = false := beq_eq_false_iff_ne.2 hav
                          have HFIN := Aside0.mk (st_next HYN.out HSS.out.1 HAV.out HS1.out HPZ.out.1 HPZ.out.2 (fun h => absurd h hav))
                          clear hav
                          go_wp2_with fail
                          go_roundg k1
                          · exact ⟨j + 1, B', congrArg (Value.int .i64) HWJ.out, by rw [HX2.out, x_next HYN.out HSS.out.2 HAV.out], ⟨by have := HJL.out; omega, HJ2.out⟩, ⟨H10.out.next HFIN.out⟩⟩
                          · exact Nat.lt_succ_self _
                      · have f1 : (le == 0) = false := beq_eq_false_iff_ne.2 hle
                        have HFIN := Aside0.mk (st_next HYN.out HSS.out.1 HAV.out HS1.out HPZ.out.1 HPZ.out.2 (fun _ => by rw [popz, if_neg hle]))
                        clear hle
                        go_wp2_with fail
                        go_roundg k1
                        · exact ⟨j + 1, B', congrArg (Value.int .i64) HWJ.out, by rw [HX2.out, x_next HYN.out HSS.out.2 HAV.out], ⟨by have := HJL.out; omega, HJ2.out⟩, ⟨H9.out.next HFIN.out⟩⟩
                        · exact Nat.lt_succ_self _
            · have H5 := Aside0.mk (HC.out.round HB0.out.1 HB0.out.2 hm hli hap hjx)
              clear hm hli hap hjx hyd hR HC HB b0 b1
              gi_wp2_with fail
              go_wp2_with fail
              refine bodyPost_ret (results_none rfl _ _ _) rfl ?_
              exact ⟨⟨_, rfl⟩, B', H5.out.more, H5.out.lie, H5.out.apart, .inr ⟨_, ⟨j + 1, by rw [HM.out]; exact HJ2.out, List.range_succ.symm⟩, H5.out.jj⟩⟩
        · have c1 : decide ((j : Int) < (l.length : Int)) = false := decide_eq_false (by omega)
          have c2 : decide (j < l.length) = false := decide_eq_false hj
          have HE := Aside0.mk (show j = l.length by have := HJL.out; omega)
          clear hj
          go_wp2_with fail
          refine bodyPost_end (results_none rfl _ _ _) rfl ?_
          exact ⟨⟨_, rfl⟩, B, HS.out.more, HS.out.lie, HS.out.apart, .inl ⟨_, by rw [HM.out, ← HE.out], HS.out.jj⟩⟩
end Go.Proofs.Ytcbemeooeecboaa.Rng
