/- plot.Lines: its contract. -/
import Derived.Test.YtcbemeooeecboaaRG
namespace Go.Proofs.Ytcbemeooeecboaa.Rng
open Go Go.RowKit Go.Shelf Go.Proofs.Tree Go.Proofs.YtcbemeooeecboaaW.PrintWords Go.Proofs.YtcbemeooeecboaaW.PrintLast Go.Proofs.YtcbemeooeecboaaW.PrintMore Go.Proofs.Ytcbemeooeecboaa.PK
set_option linter.unusedVariables false
set_option linter.unusedSimpArgs false
set_option maxHeartbeats 4000000
set_option maxRecDepth 100000
attribute [local go_sem] Oper.semAt_some run_store_complex run_store_float
theorem info31 : (Try.prog.info? 31).map (fun i => (i.zero, i.size, i.bytes)) = some (some (.agg #[.complex .f64 0 0, .complex .f64 0 0]), 2, 32) := by kernel_rfl
/-- Of the first m nodes those that have one above. -/
def lin (l : List S44) (m : Nat) : List Nat := (List.range m).filter fun j => decide (0 ≤ topOf (st (kinds l) j).1)
def linC (l : List S44) (m : Nat) : List Value := (lin l m).flatMap fun j => [ptV l (topOf (st (kinds l) j).1).toNat, ptV l j]
theorem linC_len (l : List S44) (m : Nat) : (linC l m).length = (lin l m).length * 2 := by
  unfold linC
  induction lin l m with
  | nil => rfl
  | cons x r ih => rw [List.flatMap_cons, List.length_append, ih]; simp only [List.length_cons, List.length_nil]; omega
theorem lin_succ (l : List S44) (m : Nat) : lin l (m + 1) = lin l m ++ if 0 ≤ topOf (st (kinds l) m).1 then [m] else [] := by
  unfold lin
  rw [List.range_succ, List.filter_append]
  congr 1
  by_cases h : 0 ≤ topOf (st (kinds l) m).1
  · rw [if_pos h]; simp [h]
  · rw [if_neg h]; simp [h]
/-- What Lines has while it goes: the box PB of the points, the box O of its result. -/
def LK (l : List S44) (b PB : Nat) (V : Option Addr) (N cv : Nat) (v : Value) (m : Nat) (W : World) : Prop :=
  W.heap[PB + 1]? = some (.cells #[v] 29 (0, 0)) ∧ W.ownsRow (PB + 2) 31 2 v (lin l m).length (linC l m) ∧ W.heap[PB]? = some (.cells #[.slice V N cv] 25 (0, 0)) ∧ W.ownsRow b 27 1 (.slice V N cv) N ((List.range N).map (ptV l))
theorem LK.same {l : List S44} {b PB : Nat} {V : Option Addr} {N cv : Nat} {v : Value} {m : Nat} {W W' : World} (h : LK l b PB V N cv v m W) (B : Nat → Prop) (hB : ∀ k, k = PB + 1 ∨ v.ownBlock = some k ∨ k = PB ∨ (Value.slice V N cv).ownBlock = some k → B k) (hk : ∀ k, B k → W'.heap[k]? = W.heap[k]?) : LK l b PB V N cv v m W' :=
  ⟨(hk _ (hB _ (.inl rfl))).trans h.1, own_at h.2.1 (fun k e => hk k (hB k (.inr (.inl e)))), (hk _ (hB _ (.inr (.inr (.inl rfl))))).trans h.2.2.1, own_at h.2.2.2 (fun k e => hk k (hB k (.inr (.inr (.inr e)))))⟩
def LI (l : List S44) (b PB : Nat) (V : Option Addr) (N cv : Nat) (B : Nat → Prop) (pre : List Nat) (W : World) : Prop :=
  ∃ v, LK l b PB V N cv v pre.length W ∧ (∀ k, B k ↔ k = PB + 1 ∨ v.ownBlock = some k ∨ k = PB ∨ (Value.slice V N cv).ownBlock = some k)
theorem LI_owns (l : List S44) (b PB : Nat) (V : Option Addr) (N cv : Nat) : Owns (LI l b PB V N cv) := by
  rintro B s W W' ⟨v, h1, h3⟩ hsz hk
  exact ⟨v, h1.same B (fun k h => (h3 k).2 h) hk, h3⟩
def LA (A : Option Addr) (c : Nat) (l : List S44) (b PB : Nat) (V : Option Addr) (N cv : Nat) (B : Nat → Prop) (pre : List Nat) (x : Nat) (a : Act) (W : World) : Prop :=
  ∃ v sb, LK l b PB V N cv v pre.length W ∧ (∀ k, B k ↔ (k = PB + 1 ∨ v.ownBlock = some k ∨ k = PB ∨ (Value.slice V N cv).ownBlock = some k) ∨ k = sb) ∧ W.heap[sb]? = some (.cells #[ptV l x, .int .i64 (topOf (st (kinds l) x).1)] 49 (0, 0)) ∧ PB + 1 < sb ∧ (v.ownBlock ≠ some sb ∧ (Value.slice V N cv).ownBlock ≠ some sb) ∧
    a = { tmps := #[.slice A l.length c, undef, .slice none 0 0, .pointer (some ⟨PB, 0, none⟩), .pointer (some ⟨PB + 1, 0, none⟩), undef, .pointer (some ⟨sb, 0, none⟩), .slice A l.length c, .slice V N cv, .slice A l.length c, .func (.func 33) #[] #[.pointer (some ⟨PB + 1 + 1, 0, none⟩)], .int .i64 (x : Int), .agg #[ptV l x, .int .i64 (topOf (st (kinds l) x).1)], undef, undef, undef, undef, undef, undef, undef, undef, undef, undef, undef, undef, undef, undef, undef], defers := [] }
theorem LA_owns (A : Option Addr) (c : Nat) (l : List S44) (b PB : Nat) (V : Option Addr) (N cv : Nat) (x : Nat) (a : Act) : Owns (fun B s W => LA A c l b PB V N cv B s x a W) := by
  rintro B s W W' ⟨v, sb, h1, h3, h4, h5⟩ hsz hk
  exact ⟨v, sb, h1.same B (fun k h => (h3 k).2 (.inl h)) hk, h3, (hk sb ((h3 sb).2 (.inr rfl))).trans h4, h5⟩
theorem Lines (A : Option Addr) (c : Nat) (l : List S44) (w : World) (hrow : Kd.C k44 w A l.length l) (hc : l.length ≤ c) (hl : l.length < 4398046511104) :
    Calls Try.prog 15 #[.slice A l.length c] w fun e w' => ∃ v, e = .returned v ∧ w'.ownsRow w.heap.size 31 2 v (lin l (many l)).length (linC l (many l)) ∧ Below w.heap.size w w' := by
  obtain ⟨i0, hi, hz0, hz1, hz2⟩ := info_parts info31
  have HHI := Aside0.mk (And.intro hi (And.intro hz0 (And.intro hz1 hz2)))
  have HR := Aside0.mk (And.intro hrow (And.intro hc hl))
  have HP := Aside0.mk (Points A c l w hrow hc hl)
  clear hi hz0 hz1 hz2 hrow hc hl
  refine (callsIn_wide (n := 10)).1 ?_
  refine callsIn_of_wp_marks Try.func15 rfl trivial ?_ rfl
  simp only [Try.ntmps15, List.size_toArray, List.length_cons, List.length_nil, Nat.reduceAdd, Nat.reduceSub, Array.replicate_succ, Array.replicate_zero, List.push_toArray, List.append_toArray, List.nil_append, List.cons_append]
  gi_wp2_with fail
  refine ⟨trivial, (callsIn_wide.2 HP.out).mono ?_⟩; rintro e w1 ⟨pv, rfl, hown, hb⟩
  obtain ⟨N, hN⟩ : ∃ N, N = many l := ⟨_, rfl⟩
  obtain ⟨V, cv, ev⟩ : ∃ V cv, pv = .slice V N cv := by
    rcases hown.2 with ⟨e1, e2⟩ | ⟨g, cap, cur, e1, _⟩
    · exact ⟨_, _, by rw [e1, hN, e2]⟩
    · exact ⟨_, _, by rw [e1, hN]⟩
  subst ev
  rw [← hN] at hown
  have HOW := Aside0.mk hown
  have HB := Aside0.mk hb
  have HN := Aside0.mk hN
  clear hown hb hN
  gi_wp2_with fail
  refine ⟨trivial, (callsIn_wide.2 (Spots _ _ _ _)).mono ?_⟩; rintro e w' ⟨rfl, rfl⟩
  gi_wp2_with fail
  obtain ⟨PB, hPB⟩ : ∃ PB, PB = w1.heap.size := ⟨_, rfl⟩
  obtain ⟨W, hW⟩ : ∃ W, W = ((w1.alloc (.cells #[.slice V N cv] 25)).alloc (.cells #[.slice none 0 0] 29)).alloc (.cells #[.slice A l.length c] 22) := ⟨_, rfl⟩
  have hb : Below w1.heap.size w1 W := by rw [hW]; exact below_alloc (below_alloc (below_alloc (Below.refl _ _) _) _) _
  have hO1 : W.heap[PB]? = some (.cells #[.slice V N cv] 25 (0, 0)) := by rw [hW, hPB]; exact blk_alloc (blk_alloc (heap_new _ _) _) _
  have hO2 : W.heap[PB + 1]? = some (.cells #[.slice none 0 0] 29 (0, 0)) := by
    have := heap_new (w1.alloc (.cells #[.slice V N cv] 25)) (.cells #[.slice none 0 0] 29)
    rw [World.size_alloc] at this; rw [hW, hPB]; exact blk_alloc this _
  have hO3 : W.heap[PB + 1 + 1]? = some (.cells #[.slice A l.length c] 22 (0, 0)) := by
    have := heap_new ((w1.alloc (.cells #[.slice V N cv] 25)).alloc (.cells #[.slice none 0 0] 29)) (.cells #[.slice A l.length c] 22)
    rw [World.size_alloc, World.size_alloc] at this; rw [hW, hPB]; exact this
  have hsz : W.heap.size = PB + 3 := by rw [hW, hPB]; simp
  have hown : W.ownsRow w.heap.size 27 1 (.slice V N cv) N ((List.range N).map (ptV l)) := pw_own_below HOW.out hb
  have hwP : w.heap.size ≤ PB := by rw [hPB]; exact HB.out.size
  have hVP : ∀ k, (Value.slice V N cv).ownBlock = some k → w.heap.size ≤ k ∧ k < PB := fun k hk => by rw [hPB]; exact HOW.out.lt k hk
  rw [← hW, ← hPB]
  rw [← hPB] at hb
  have hbW : Below w.heap.size w W := HB.out.trans (hb.mono hwP)
  have HW := Aside0.mk (And.intro hbW (And.intro hwP hVP))
  clear hPB hW hb
  refine wpIn_rangeFunc_B rfl (by decide) (gf := 33) (lb := #[.pointer (some ⟨PB + 1 + 1, 0, none⟩)]) rfl trivial (enters_of Try.func33 (by kernel_rfl) rfl)
    (spots_seq 9 (PB + 1 + 1) A c l w HR.out.2.1 HR.out.2.2 HR.out.1) (fun W1 h1 => (blk_cell (blk_below hO3 h1) 0).trans rfl) hbW (fun x => rfl) (fun k => k = PB + 1 ∨ k = PB ∨ (Value.slice V N cv).ownBlock = some k)
    (fun k e => by rcases e with e | e | e; omega; omega; exact (hVP k e).1) (fun k e => by rcases e with e | e | e; omega; omega; have := hVP k e; omega)
    (LI l w.heap.size PB V N cv) (fun _ _ _ _ => False) (LA A c l w.heap.size PB V N cv) (LI_owns l w.heap.size PB V N cv) (fun _ _ _ _ _ h => h.elim) (LA_owns A c l w.heap.size PB V N cv)
    ⟨_, ⟨hO2, World.ownsRow_nil _ _ _ _, hO1, hown⟩, fun k => by simp [Value.ownBlock]⟩ ?assign ?body ?done ?stop
  case assign =>
    rintro lp B pre x X K ⟨v, h1, h3⟩ hlie hlen hK
    have hfr : ((#[11, 12] : Array Tmp).zip (spotE l x)) = #[(11, .int .i64 (x : Int)), (12, spotV l x)] := by simp [spotE]
    rw [hfr]
    have hsv : spotV l x = .agg #[ptV l x, .int .i64 (topOf (st (kinds l) x).1)] := rfl
    rw [hsv]
    have HK := Aside0.mk hK
    obtain ⟨pv, hpv⟩ : ∃ pv, pv = ptV l x := ⟨_, rfl⟩
    obtain ⟨tv, htv⟩ : ∃ tv, tv = topOf (st (kinds l) x).1 := ⟨_, rfl⟩
    rw [← hpv, ← htv]
    have hpv1 : ∃ a b, pv = .complex .f64 a b := ⟨_, _, hpv⟩
    obtain ⟨pa, pb, rfl⟩ := hpv1
    have HPV := Aside0.mk hpv
    have HTV := Aside0.mk htv
    clear hK hpv htv hfr hsv
    gi_wp2_with fail
    have hsub : ∀ k, k = PB + 1 ∨ v.ownBlock = some k ∨ k = PB ∨ (Value.slice V N cv).ownBlock = some k → B k := fun k h => (h3 k).2 h
    have hlt : ∀ k, k = PB + 1 ∨ v.ownBlock = some k ∨ k = PB ∨ (Value.slice V N cv).ownBlock = some k → k < X.heap.size := fun k h => hlie k (hsub k h)
    refine HK.out (fun k => B k ∨ k = X.heap.size) _ _ (fun k hk => hk.imp id (fun e => by omega)) (fun k hk => by
      rw [World.size_alloc]
      rcases hk with hk | hk
      · have := hlie k hk; omega
      · omega) (.of_below (below_alloc (Below.refl _ _) _)) ?_
    refine ⟨v, X.heap.size, h1.same B hsub (fun k hk => (below_alloc (Below.refl X.heap.size X) _).block k (hlie k hk)), fun k => or_congr_left (h3 k), ?_, hlt _ (.inl rfl), ⟨fun e => by have := hlt _ (.inr (.inl e)); omega, fun e => by have := hlt _ (.inr (.inr (.inr e))); omega⟩, ?_⟩
    · rw [← HPV.out, ← HTV.out]; exact heap_new _ _
    · rw [← HPV.out, ← HTV.out]
  case body =>
    rintro lp B pre x a X ⟨v, sb, h1, h3, h4, h5, h6, rfl⟩ hlie hlen
    obtain ⟨hpre, hxN⟩ := hlen
    have hxl : pre.length = x := by rw [hpre, List.length_range]
    rw [hxl] at h1
    have s0 := (blk_cell h4 0).trans rfl
    have s1 := (blk_cell h4 1).trans rfl
    obtain ⟨pv, hpv⟩ : ∃ pv, pv = ptV l x := ⟨_, rfl⟩
    obtain ⟨tv, htv⟩ : ∃ tv, tv = topOf (st (kinds l) x).1 := ⟨_, rfl⟩
    have htx : 0 ≤ tv → tv.toNat < x := fun h => by
      rw [htv] at h ⊢
      have hs := st_small (kinds l) x
      cases e : (st (kinds l) x).1 with
      | nil => rw [e] at h; exact absurd h (by decide)
      | cons y r => obtain ⟨p, le⟩ := y; have := hs (p, le) (by rw [e]; exact List.mem_cons_self); rw [e] at h; simp only [topOf] at h ⊢; simp only at this; omega
    have hlsucc := lin_succ l x
    rw [← htv] at hlsucc
    rw [← hpv, ← htv] at s0 s1 ⊢
    have hpv1 : ∃ a b, pv = .complex .f64 a b := ⟨_, _, hpv⟩
    obtain ⟨pa, pb, rfl⟩ := hpv1
    have HPV := Aside0.mk (And.intro hpv htv)
    have HLS := Aside0.mk hlsucc
    have HV := Aside0.mk (And.intro h1 (And.intro h3 (And.intro h4 (And.intro h5 h6))))
    have HLE := Aside0.mk (And.intro hlie (And.intro hpre (And.intro hxl hxN)))
    by_cases ht0 : 0 ≤ tv
    · have d1 : decide (tv ≥ 0) = true := decide_eq_true ht0
      have d2 : decide (0 ≤ tv) = true := decide_eq_true ht0
      have hlt := htx ht0
      obtain ⟨ad, hV, x0⟩ := own_cell1 h1.2.2.2 tv.toNat (ptV l tv.toNat) (by rw [List.getElem?_map, List.getElem?_range (by have := HN.out; omega)]; rfl)
      subst hV
      have q1 : ((0 : Int) ≤ tv) = True := eq_true ht0
      have q2 : (tv < (N : Int)) = True := eq_true (by have := HN.out; omega)
      obtain ⟨qv, hqv⟩ : ∃ qv, qv = ptV l tv.toNat := ⟨_, rfl⟩
      rw [← hqv] at x0
      have hqv1 : ∃ a b, qv = .complex .f64 a b := ⟨_, _, hqv⟩
      obtain ⟨qa, qb, rfl⟩ := hqv1
      have HQ := Aside0.mk (And.intro hqv (And.intro ht0 hlt))
      have hlieX : ∀ k, B k → k < X.heap.size := hlie
      have hvP : ∀ k, v.ownBlock = some k → PB + 2 ≤ k := fun k hk => (h1.2.1.lt k hk).1
      have HSk : Aside0 (∀ Y : World, (∀ k, k < X.heap.size → v.ownBlock ≠ some k → k ≠ PB + 1 → Y.heap[k]? = X.heap[k]?) → (Y.cell? ⟨PB, 0, none⟩ = some (.slice (some ad) N cv) ∧ Y.cell? ⟨sb, 1, none⟩ = some (.int .i64 tv) ∧ Y.cell? ⟨sb, 0, none⟩ = some (.complex .f64 pa pb) ∧ Y.cell? (ad.add tv.toNat) = some (.complex .f64 qa qb))) := ⟨by
        intro Y hY
        have e1 : Y.heap[PB]? = X.heap[PB]? := hY PB (blk_lt h1.2.2.1) (fun e => by have := hvP _ e; omega) (by omega)
        have e2 : Y.heap[sb]? = X.heap[sb]? := hY sb (blk_lt h4) h6.1 (by omega)
        have e3 : Y.ownsRow w.heap.size 27 1 (.slice (some ad) N cv) N ((List.range N).map (ptV l)) := own_at h1.2.2.2 (fun k hk => hY k (h1.2.2.2.lt k hk).2 (fun e => by have := hvP _ e; have := (HW.out.2.2 k hk).2; omega) (by have := (HW.out.2.2 k hk).2; omega))
        obtain ⟨ad2, hV2, y0⟩ := own_cell1 e3 tv.toNat (ptV l tv.toNat) (by rw [List.getElem?_map, List.getElem?_range (by have := HN.out; omega)]; rfl)
        obtain rfl := Option.some.inj hV2
        rw [← hqv] at y0
        have e4 := h4
        rw [← hpv, ← htv] at e4
        exact ⟨(blk_cell (e1.trans h1.2.2.1) 0).trans rfl, (blk_cell (e2.trans e4) 1).trans rfl, (blk_cell (e2.trans e4) 0).trans rfl, y0⟩⟩
      have HNN : Aside0 ((lin l x).length < 4398046511104) := ⟨by
        have h7 := HR.out.2.2
        have h8 := many_le l
        have h9 : (lin l x).length ≤ x := by unfold lin; have := List.length_filter_le (fun j => decide (0 ≤ topOf (st (kinds l) j).1)) (List.range x); rw [List.length_range] at this; exact this
        omega⟩
      obtain ⟨Y, hY⟩ : ∃ Y, Y = X.drew := ⟨_, rfl⟩
      obtain ⟨Z, hZ⟩ : ∃ Z, Z = Y.alloc (.cells #[.complex .f64 qa qb, .complex .f64 pa pb] 31) := ⟨_, rfl⟩
      have HYX : Aside0 (∀ k : Nat, Y.heap[k]? = X.heap[k]?) := ⟨fun k => by rw [hY]; rfl⟩
      have hys : Y.heap.size = X.heap.size := by rw [hY]; rfl
      have HYS := Aside0.mk hys
      have HPX : Aside0 (PB + 1 < X.heap.size) := ⟨blk_lt h1.1⟩
      have HX2 : Aside0 (∀ k, k < X.heap.size → Z.heap[k]? = X.heap[k]?) := ⟨fun k hk => by rw [hZ]; exact (Below.heap_alloc _ _ _ (by omega)).trans (HYX.out k)⟩
      have HSZ2 : Aside0 (Z.heap.size = X.heap.size + 1) := ⟨by rw [hZ, World.size_alloc, hys]⟩
      have HNEW : Aside0 (Z.heap[X.heap.size]? = some (.cells #[.complex .f64 qa qb, .complex .f64 pa pb] 31 (0, 0))) := ⟨by rw [hZ, ← hys]; exact heap_new Y _⟩
      have HSX : Aside0 (PB + 2 ≤ Z.heap.size) := ⟨by have := blk_lt h1.1; have := HSZ2.out; omega⟩
      have HOWN2 : Aside0 (Z.ownsRow (PB + 2) 31 2 v (lin l x).length (linC l x)) := ⟨own_at h1.2.1 (fun k hk => HX2.out k (h1.2.1.lt k hk).2)⟩
      have HFIN : Aside0 (∀ (g cap : Nat) (w7 : World) (a' : Act), w7.ownsRow (PB + 2) 31 2 (.slice (some ⟨g, 0, none⟩) ((lin l x).length + 1) cap) ((lin l x).length + 1) (linC l x ++ [.complex .f64 qa qb, .complex .f64 pa pb]) → Z.grownBy w7 v.ownBlock → (v.ownBlock = some g ∨ g = X.heap.size + 1) → g < w7.heap.size → w7.heap[PB + 1]? = some (.cells #[v] 29 (0, 0)) →
          postB B (LI l w.heap.size PB (some ad) N cv) (fun _ _ _ _ => False) (pre ++ [x]) X .normal a' (w7.setCell ⟨PB + 1, 0, none⟩ (.slice (some ⟨g, 0, none⟩) ((lin l x).length + 1) cap))) := ⟨by
        intro g cap w7 a' hown7 hgrow hat hlt7 hO7
        have hg7 := hgrow.size
        rw [HSZ2.out] at hg7
        have keep : ∀ k, k < X.heap.size → v.ownBlock ≠ some k → k ≠ PB + 1 → (w7.setCell ⟨PB + 1, 0, none⟩ (.slice (some ⟨g, 0, none⟩) ((lin l x).length + 1) cap)).heap[k]? = X.heap[k]? := fun k h1 h2 h3 => (Below.heap_setCell _ _ _ k h3).trans ((hgrow.block k (by have := HSZ2.out; omega) (fun e => h2 e.symm)).trans (HX2.out k h1))
        have e1 : lin l (x + 1) = lin l x ++ [x] := by rw [hlsucc, if_pos ht0]
        have e2 : linC l (x + 1) = linC l x ++ [.complex .f64 qa qb, .complex .f64 pa pb] := by
          unfold linC
          rw [e1, List.flatMap_append]
          congr 1
          rw [List.flatMap_cons, List.flatMap_nil, List.append_nil, ← htv, ← hqv, ← hpv]
        refine ⟨fun k => k = PB + 1 ∨ k = g ∨ k = PB ∨ (Value.slice (some ad) N cv).ownBlock = some k, fun k hk => ?_, fun k hk => ?_, ?_, .slice (some ⟨g, 0, none⟩) ((lin l x).length + 1) cap, ?_, fun k => ?_⟩
        · rcases hk with hk | hk | hk | hk
          · exact .inl ((h3 k).2 (.inl (.inl hk)))
          · rcases hat with h1 | h1
            · exact .inl ((h3 k).2 (.inl (.inr (.inl (hk ▸ h1)))))
            · exact .inr (by omega)
          · exact .inl ((h3 k).2 (.inl (.inr (.inr (.inl hk)))))
          · exact .inl ((h3 k).2 (.inl (.inr (.inr (.inr hk)))))
        · rw [size_setCell]
          have hsub : ∀ k, k = PB + 1 ∨ v.ownBlock = some k ∨ k = PB ∨ (Value.slice (some ad) N cv).ownBlock = some k → k < X.heap.size := fun k h => hlieX k ((h3 k).2 (.inl h))
          rcases hk with hk | hk | hk | hk
          · have := hsub k (.inl hk); omega
          · omega
          · have := hsub k (.inr (.inr (.inl hk))); omega
          · have := hsub k (.inr (.inr (.inr hk))); omega
        · have a1 : Apart B X Z := ⟨by rw [hZ, hY]; rfl, by rw [hZ, hY]; rfl, by rw [hZ, hY]; rfl, by rw [HSZ2.out]; omega, fun k hk _ => HX2.out k hk⟩
          have a2 : Apart B Z w7 := Apart.grown hgrow (fun j hj => .inl ((h3 j).2 (.inl (.inr (.inl hj)))))
          have a3 := Apart.setCell (B := fun k => k = PB + 1) w7 ⟨PB + 1, 0, none⟩ (.slice (some ⟨g, 0, none⟩) ((lin l x).length + 1) cap) (.inl rfl)
          exact a1.trans (a2.trans a3 (fun i hi => .inl ((h3 i).2 (.inl (.inl hi))))) (fun i hi => .inl hi)
        · rw [List.length_append, hxl]
          show LK l w.heap.size PB (some ad) N cv _ (x + 1) _
          unfold LK
          rw [e1, e2, List.length_append]
          refine ⟨blk_put hO7 0 _ rfl, ownsRow_setCell_below hown7 (by simp) _, ?_, ?_⟩
          · exact (keep PB (blk_lt h1.2.2.1) (fun e => by have := hvP _ e; omega) (by omega)).trans h1.2.2.1
          · exact own_at h1.2.2.2 (fun k hk => keep k (h1.2.2.2.lt k hk).2 (fun e => by have := hvP _ e; have := (HW.out.2.2 k hk).2; omega) (by have := (HW.out.2.2 k hk).2; omega))
        · constructor
          · rintro (h | h | h | h)
            · exact .inl h
            · exact .inr (.inl (by rw [h]; rfl))
            · exact .inr (.inr (.inl h))
            · exact .inr (.inr (.inr h))
          · rintro (h | h | h | h)
            · exact .inl h
            · exact .inr (.inl (Option.some.inj h).symm)
            · exact .inr (.inr (.inl h))
            · exact .inr (.inr (.inr h))⟩
      have o0 := (blk_cell ((HYX.out _).trans h1.1) 0).trans rfl
      have oz := (blk_cell ((HX2.out _ HPX.out).trans h1.1) 0).trans rfl
      have of := blk_frozen h1.1 0
      have p0 := (blk_cell h1.2.2.1 0).trans rfl
      clear hpv htv hlsucc h1 h3 h4 h5 h6 hlie hpre hxl hxN hqv ht0 hlt htx hlieX hvP
      have HYY := Aside0.mk hY
      have HZZ := Aside0.mk hZ
      clear hY hZ
      gi_wp2_with fail
      refine wpIn_region_held 12 (by rfl) (S := fun W' => W'.cell? ⟨PB, 0, none⟩ = some (.slice (some ad) N cv) ∧ W'.cell? ⟨sb, 1, none⟩ = some (.int .i64 tv) ∧ W'.cell? ⟨sb, 0, none⟩ = some (.complex .f64 pa pb) ∧ W'.cell? (ad.add tv.toNat) = some (.complex .f64 qa qb)) (by kernel_rfl) (by kernel_rfl) (fun a w h => h) ⟨p0, s1, s0, x0⟩ ?_
      rw [← HYY.out]
      intro hHeld
      refine take_first 1 17 ?_ rfl rfl (by kernel_rfl) (by kernel_rfl) (by kernel_rfl) (fun _ _ _ h => h) (by rfl) hHeld ?_ ?_
      rotate_left
      · intro w hSw
        obtain ⟨y0, y1, y2, y3⟩ := hSw
        go_simp
        with_reducible rfl
      simp only [List.setIfInBounds_toArray, List.set_cons_zero, List.set_cons_succ]
      refine take_first 2 18 ?_ rfl rfl (by kernel_rfl) (by kernel_rfl) (by kernel_rfl) (fun _ _ _ h => h) (by rfl) hHeld ?_ ?_
      rotate_left
      · intro w hSw
        obtain ⟨y0, y1, y2, y3⟩ := hSw
        go_simp
        with_reducible rfl
      simp only [List.setIfInBounds_toArray, List.set_cons_zero, List.set_cons_succ]
      refine take_first 3 19 ?_ rfl rfl (by kernel_rfl) (by kernel_rfl) (by kernel_rfl) (fun _ _ _ h => h) (by rfl) hHeld ?_ ?_
      rotate_left
      · intro w hSw
        obtain ⟨y0, y1, y2, y3⟩ := hSw
        go_simp
        with_reducible rfl
      simp only [List.setIfInBounds_toArray, List.set_cons_zero, List.set_cons_succ]
      refine take_first 4 20 ?_ rfl rfl (by kernel_rfl) (by kernel_rfl) (by kernel_rfl) (fun _ _ _ h => h) (by rfl) hHeld ?_ ?_
      rotate_left
      · intro w hSw
        obtain ⟨y0, y1, y2, y3⟩ := hSw
        go_simp
        with_reducible rfl
      simp only [List.setIfInBounds_toArray, List.set_cons_zero, List.set_cons_succ]
      refine take_first 5 21 ?_ rfl rfl (by kernel_rfl) (by kernel_rfl) (by kernel_rfl) (fun _ _ _ h => h) (by rfl) hHeld ?_ ?_
      rotate_left
      · intro w hSw
        obtain ⟨y0, y1, y2, y3⟩ := hSw
        go_simp
        with_reducible rfl
      simp only [List.setIfInBounds_toArray, List.set_cons_zero, List.set_cons_succ]
      refine take_first 6 22 ?_ rfl rfl (by kernel_rfl) (by kernel_rfl) (by kernel_rfl) (fun _ _ _ h => h) (by rfl) hHeld ?_ ?_
      rotate_left
      · intro w hSw
        obtain ⟨y0, y1, y2, y3⟩ := hSw
        go_simp
        with_reducible rfl
      simp only [List.setIfInBounds_toArray, List.set_cons_zero, List.set_cons_succ]
      refine take_first 7 23 ?_ rfl rfl (by kernel_rfl) (by kernel_rfl) (by kernel_rfl) (fun _ _ _ h => h) (by rfl) hHeld ?_ ?_
      rotate_left
      · intro w hSw
        obtain ⟨y0, y1, y2, y3⟩ := hSw
        go_simp
        with_reducible rfl
      simp only [List.setIfInBounds_toArray, List.set_cons_zero, List.set_cons_succ]
      refine take_first 8 24 ?_ rfl rfl (by kernel_rfl) (by kernel_rfl) (by kernel_rfl) (fun _ _ _ h => h) (by rfl) hHeld ?_ ?_
      rotate_left
      · intro w hSw
        obtain ⟨y0, y1, y2, y3⟩ := hSw
        go_simp
        with_reducible rfl
      simp only [List.setIfInBounds_toArray, List.set_cons_zero, List.set_cons_succ]
      refine wpAnyH_all (rs := [0, 9]) (by kernel_rfl) (by simp) ?_
      intro i hi
      rcases List.mem_cons.1 hi with rfl | hi
      · clear hi
        refine op_value 0 16 v Y rfl rfl (by rfl) (by go_simp) ⟨HSk.out _ (fun k h1 h2 h3 => HYX.out k), ?_⟩
        simp only [List.setIfInBounds_toArray, List.set_cons_zero, List.set_cons_succ]
        refine wpAnyH_all (rs := [9]) (by kernel_rfl) (by simp) ?_
        intro i hi
        obtain rfl : i = 9 := by simpa using hi
        refine op_value 9 25 (.slice (some ⟨X.heap.size, 0, none⟩) 1 1) Z rfl rfl (by rfl) (by rw [HZZ.out, ← HYS.out]; go_simp) ⟨HSk.out _ (fun k h1 h2 h3 => HX2.out k h1), ?_⟩
        simp only [List.setIfInBounds_toArray, List.set_cons_zero, List.set_cons_succ]
        refine wpAnyH_all (rs := [10]) (by kernel_rfl) (by simp) ?_
        intro i hi
        obtain rfl : i = 10 := by simpa using hi
        refine op_append _ 10 26 rfl rfl (by rfl) (.tmp 16) (.tmp 25) 29 rfl (PB + 2) 31 i0 _ 2 32 Try.underlying29 HHI.out.1 HHI.out.2.1 HHI.out.2.2.1 HHI.out.2.2.2 (by rfl) (by decide) v (lin l x).length (linC l x) (by rfl) HOWN2.out ⟨X.heap.size, 0, none⟩ 1 1 [.complex .f64 qa qb, .complex .f64 pa pb] (by rfl) (by rfl) (World.news_of_block HNEW.out) (by simp [Value.oneCell']) (by decide) (by have := HNN.out; unfold maxLen; omega) (by have := HNN.out; omega) HSX.out (X.heap.size + 1) HSZ2.out ?_
        intro g cap w7 hown7 hgrow hat hlt7
        simp only [List.setIfInBounds_toArray, List.set_cons_zero, List.set_cons_succ]
        refine ⟨HSk.out w7 (fun k h1 h2 h3 => (hgrow.block k (by have := HSZ2.out; omega) (fun e => h2 e.symm)).trans (HX2.out k h1)), ?_⟩
        refine wpAnyH_all (rs := [11]) (by kernel_rfl) (by simp) ?_
        intro i hi
        obtain rfl : i = 11 := by simpa using hi
        have hO7 : w7.heap[PB + 1]? = some (.cells #[v] 29 (0, 0)) := (hgrow.block (PB + 1) (by have := HSZ2.out; have := HSX.out; omega) (fun e => by have := (HOWN2.out.lt (PB + 1) e.symm).1; omega)).trans ((HX2.out _ HPX.out).trans HV.out.1.1)
        have c7 := (blk_cell hO7 0).trans rfl
        have f7 := blk_frozen hO7 0
        have HO7 := Aside0.mk hO7
        clear hO7
        refine op_skip 11 (w7.setCell ⟨PB + 1, 0, none⟩ (.slice (some ⟨g, 0, none⟩) ((lin l x).length + 1) cap)) rfl rfl (by rfl) (by go_simp) ⟨HSk.out _ (fun k h1 h2 h3 => (Below.heap_setCell _ _ _ k h3).trans ((hgrow.block k (by have := HSZ2.out; omega) (fun e => h2 e.symm)).trans (HX2.out k h1))), ?_⟩
        refine wpAnyH_done (by kernel_rfl) ?_ _
        exact HFIN.out g cap w7 { tmps := #[], defers := [] } hown7 hgrow hat hlt7 HO7.out
      · obtain rfl : i = 9 := by simpa using hi
        clear hi
        refine op_value 9 25 (.slice (some ⟨X.heap.size, 0, none⟩) 1 1) Z rfl rfl (by rfl) (by rw [HZZ.out, ← HYS.out]; go_simp) ⟨HSk.out _ (fun k h1 h2 h3 => HX2.out k h1), ?_⟩
        simp only [List.setIfInBounds_toArray, List.set_cons_zero, List.set_cons_succ]
        refine wpAnyH_all (rs := [0]) (by kernel_rfl) (by simp) ?_
        intro i hi
        obtain rfl : i = 0 := by simpa using hi
        refine op_value 0 16 v Z rfl rfl (by rfl) (by go_simp) ⟨HSk.out _ (fun k h1 h2 h3 => HX2.out k h1), ?_⟩
        simp only [List.setIfInBounds_toArray, List.set_cons_zero, List.set_cons_succ]
        refine wpAnyH_all (rs := [10]) (by kernel_rfl) (by simp) ?_
        intro i hi
        obtain rfl : i = 10 := by simpa using hi
        refine op_append _ 10 26 rfl rfl (by rfl) (.tmp 16) (.tmp 25) 29 rfl (PB + 2) 31 i0 _ 2 32 Try.underlying29 HHI.out.1 HHI.out.2.1 HHI.out.2.2.1 HHI.out.2.2.2 (by rfl) (by decide) v (lin l x).length (linC l x) (by rfl) HOWN2.out ⟨X.heap.size, 0, none⟩ 1 1 [.complex .f64 qa qb, .complex .f64 pa pb] (by rfl) (by rfl) (World.news_of_block HNEW.out) (by simp [Value.oneCell']) (by decide) (by have := HNN.out; unfold maxLen; omega) (by have := HNN.out; omega) HSX.out (X.heap.size + 1) HSZ2.out ?_
        intro g cap w7 hown7 hgrow hat hlt7
        simp only [List.setIfInBounds_toArray, List.set_cons_zero, List.set_cons_succ]
        refine ⟨HSk.out w7 (fun k h1 h2 h3 => (hgrow.block k (by have := HSZ2.out; omega) (fun e => h2 e.symm)).trans (HX2.out k h1)), ?_⟩
        refine wpAnyH_all (rs := [11]) (by kernel_rfl) (by simp) ?_
        intro i hi
        obtain rfl : i = 11 := by simpa using hi
        have hO7 : w7.heap[PB + 1]? = some (.cells #[v] 29 (0, 0)) := (hgrow.block (PB + 1) (by have := HSZ2.out; have := HSX.out; omega) (fun e => by have := (HOWN2.out.lt (PB + 1) e.symm).1; omega)).trans ((HX2.out _ HPX.out).trans HV.out.1.1)
        have c7 := (blk_cell hO7 0).trans rfl
        have f7 := blk_frozen hO7 0
        have HO7 := Aside0.mk hO7
        clear hO7
        refine op_skip 11 (w7.setCell ⟨PB + 1, 0, none⟩ (.slice (some ⟨g, 0, none⟩) ((lin l x).length + 1) cap)) rfl rfl (by rfl) (by go_simp) ⟨HSk.out _ (fun k h1 h2 h3 => (Below.heap_setCell _ _ _ k h3).trans ((hgrow.block k (by have := HSZ2.out; omega) (fun e => h2 e.symm)).trans (HX2.out k h1))), ?_⟩
        refine wpAnyH_done (by kernel_rfl) ?_ _
        exact HFIN.out g cap w7 { tmps := #[], defers := [] } hown7 hgrow hat hlt7 HO7.out
    · have d1 : decide (tv ≥ 0) = false := decide_eq_false ht0
      have d2 : decide (0 ≤ tv) = false := decide_eq_false ht0
      have HT : Aside0 (lin l (x + 1) = lin l x) := ⟨by rw [hlsucc, if_neg ht0, List.append_nil]⟩
      clear hpv htv hlsucc h1 h3 h4 h5 h6 hlie hpre hxl hxN ht0 htx
      gi_wp2_with fail
      obtain ⟨h1, h3, h4, h5, h6⟩ := HV.out
      have e1 := HT.out
      refine ⟨fun k => k = PB + 1 ∨ v.ownBlock = some k ∨ k = PB ∨ (Value.slice V N cv).ownBlock = some k, fun k hk => .inl ((h3 k).2 (.inl hk)), fun k hk => HLE.out.1 k ((h3 k).2 (.inl hk)), Apart.refl _ _, v, ?_, fun k => Iff.rfl⟩
      rw [List.length_append, HLE.out.2.2.1]
      show LK l w.heap.size PB V N cv v (x + 1) X
      have e2 : linC l (x + 1) = linC l x := by unfold linC; rw [e1]
      unfold LK
      rw [e1, e2]
      exact h1
  case done =>
    rintro D B xs X hD rfl ⟨v, h1, h3⟩ hm ha hK
    have u0 := (blk_cell h1.1 0).trans rfl
    have HV := Aside0.mk (And.intro h1 (And.intro h3 (And.intro hm (And.intro ha (And.intro hD hK)))))
    clear h1 h3 hm ha hD hK
    gi_wp2_with fail
    obtain ⟨⟨_, h2, _, _⟩, _, _, ha, hD, hK⟩ := HV.out
    refine ⟨by simp, .inl ⟨_, _, rfl, run_takeDeferred hK, ?_⟩⟩
    refine ⟨_, results_tmp rfl _ _ _, v, rfl, ?_, ?_⟩
    · rw [List.length_range] at h2
      exact own_le (ownsRow_putObj h2 _ hK rfl) (by have := HW.out.2.1; omega)
    · exact HW.out.1.trans ((ha.trans (Apart.putObj (B := fun k => k = D) X D _ (.inl rfl)) (fun i hi => .inr (by omega))).below HW.out.1.size (fun k hk => by
        have h7 := HW.out.2
        rcases hk with e | e | e
        · omega
        · omega
        · exact (h7.2 k e).1))
  case stop =>
    rintro D c B pre X _ _ h
    exact h.elim
end Go.Proofs.Ytcbemeooeecboaa.Rng
