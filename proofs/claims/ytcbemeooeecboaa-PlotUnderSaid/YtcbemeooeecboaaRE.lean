/- plot.Points: its contract. -/
import Derived.Test.YtcbemeooeecboaaRD
import Derived.RangeFuncBox
import Derived.RangeFuncLeaves
namespace Go.Proofs.Ytcbemeooeecboaa.Rng
open Go Go.RowKit Go.Shelf Go.Proofs.Tree Go.Proofs.YtcbemeooeecboaaW.PrintWords Go.Proofs.YtcbemeooeecboaaW.PrintLast Go.Proofs.YtcbemeooeecboaaW.PrintMore Go.Proofs.Ytcbemeooeecboaa.PK
set_option linter.unusedVariables false
set_option linter.unusedSimpArgs false
set_option maxHeartbeats 4000000
set_option maxRecDepth 100000
attribute [local go_sem] Oper.semAt_some run_store_complex run_store_float
theorem info27 : (Try.prog.info? 27).map (fun i => (i.zero, i.size, i.bytes)) = some (some (.complex .f64 0 0), 1, 16) := by kernel_rfl
/-- An append in a fenced walk, and where the new slice lies. -/
theorem listIn_append {F : Fence} {n : Nat} {P : Program} (w : World) {ops : Array Oper} {rest : List Oper} {o : Oper} {a : Act} {Q : Exit → Act → World → Prop}
    (hgd : o.guard = none) (s x : Operand) (t : TypeId) (ho : o.op = Op.call { callee := Callee.builtin Builtin.append, args := #[s, x], argTypes := #[t, t] })
    (base : Nat) (e : TypeId) (i : TypeInfo) (z : Value) (size bytes : Nat) (ht : P.underlying t = some (.slice e)) (hi : P.info? e = some i) (hz : i.zero = some z) (hsize : i.size = size) (hby : i.bytes = bytes) (hzs : z.cells.size = size) (hsz : 0 < size)
    (v : Value) (k : Nat) (xs : List Value) (hs : a.eval s = v) (hown : w.ownsRow base e size v k xs) (ad : Addr) (m c : Nat) (news : List Value) (hx : a.eval x = .slice (some ad) m c) (hl : news.length = m * size)
    (hnews : ∀ j u, news[j]? = some u → w.cell? (ad.add j) = some u) (h1 : ∀ u ∈ news, u.oneCell' = true) (hm : 0 < m) (h63 : k + m ≤ maxLen) (hbytes : (k + m) * bytes ≤ 140737488355328) (hbase : base ≤ w.heap.size) (H : Nat) (hH : w.heap.size = H)
    (h : ∀ g cap w', w'.ownsRow base e size (.slice (some ⟨g, 0, none⟩) (k + m) cap) (k + m) (xs ++ news) → w.grownBy w' v.ownBlock → (v.ownBlock = some g ∨ g = H) → g < w'.heap.size → wpListIn F n P ops Q rest (a.put o.dst (.slice (some ⟨g, 0, none⟩) (k + m) cap)) w') :
    wpListIn F n P ops Q (o :: rest) a w := by
  refine wpListIn_plain hgd fun K hK' => ?_
  obtain ⟨g, cap, w', hr, h2, h3, h4, h5⟩ := run_append_lies (P := P) w t o.type base e i z size bytes ht hi hz hsize hby hzs hsz v k xs hown ad m c news hl hnews h1 hm h63 hbytes hbase H hH
  unfold Oper.wpIn
  refine ⟨?_, ?_⟩
  · simp [Oper.about, ho, resolve, Target.leads, Sem.run_pure]
  · rw [Oper.semAt_plain F _ _ (by rw [ho]; intro c hc'; cases hc')]
    simp [execOp, ho, resolve, invoke, builtin, hs, hx, hr, Result.andThen]
    exact hK' _ _ (h g cap w' h2 h3 h4 h5)
def ptV (l : List S44) (j : Nat) : Value := .complex .f64 (floatOfInt .f64 ((st (kinds l) j).2 : Int)) (floatOfInt .f64 ((st (kinds l) j).1.length : Int))
/-- What Points has while it goes: the box O of its result. -/
def PI (l : List S44) (O : Nat) (B : Nat → Prop) (pre : List Nat) (W : World) : Prop :=
  ∃ v, W.heap[O]? = some (.cells #[v] 25 (0, 0)) ∧ W.ownsRow (O + 1) 27 1 v pre.length (pre.map (ptV l)) ∧ (∀ k, B k ↔ k = O ∨ v.ownBlock = some k)
theorem PI_owns (l : List S44) (O : Nat) : Owns (PI l O) := by
  rintro B s W W' ⟨v, h1, h2, h3⟩ hsz hk
  exact ⟨v, (hk O ((h3 O).2 (.inl rfl))).trans h1, own_at h2 (fun k e => hk k ((h3 k).2 (.inr e))), h3⟩
def PA (A : Option Addr) (c : Nat) (l : List S44) (O : Nat) (B : Nat → Prop) (pre : List Nat) (x : Nat) (a : Act) (W : World) : Prop :=
  ∃ v sb, W.heap[O]? = some (.cells #[v] 25 (0, 0)) ∧ W.ownsRow (O + 1) 27 1 v pre.length (pre.map (ptV l)) ∧ (∀ k, B k ↔ k = O ∨ v.ownBlock = some k ∨ k = sb) ∧ W.heap[sb]? = some (.cells #[ptV l x, .int .i64 (topOf (st (kinds l) x).1)] 49 (0, 0)) ∧ O < sb ∧ v.ownBlock ≠ some sb ∧
    a = { tmps := #[.slice A l.length c, undef, .slice none 0 0, .pointer (some ⟨O, 0, none⟩), undef, .pointer (some ⟨sb, 0, none⟩), .slice A l.length c, .func (.func 33) #[] #[.pointer (some ⟨O + 1, 0, none⟩)], .int .i64 (x : Int), .agg #[ptV l x, .int .i64 (topOf (st (kinds l) x).1)], undef, undef, undef, undef, undef, undef], defers := [] }
theorem PA_owns (A : Option Addr) (c : Nat) (l : List S44) (O : Nat) (x : Nat) (a : Act) : Owns (fun B s W => PA A c l O B s x a W) := by
  rintro B s W W' ⟨v, sb, h1, h2, h3, h4, h5⟩ hsz hk
  exact ⟨v, sb, (hk O ((h3 O).2 (.inl rfl))).trans h1, own_at h2 (fun k e => hk k ((h3 k).2 (.inr (.inl e)))), h3, (hk sb ((h3 sb).2 (.inr (.inr rfl)))).trans h4, h5⟩
theorem own_le {w : World} {base base' size n : Nat} {e : TypeId} {v : Value} {xs : List Value} (h : w.ownsRow base e size v n xs) (hb : base' ≤ base) : w.ownsRow base' e size v n xs := by
  refine ⟨h.1, ?_⟩
  rcases h.2 with h2 | ⟨g, cap, cur, e1, hbg, h3⟩
  · exact .inl h2
  · exact .inr ⟨g, cap, cur, e1, Nat.le_trans hb hbg, h3⟩
theorem Points (A : Option Addr) (c : Nat) (l : List S44) (w : World) (hrow : Kd.C k44 w A l.length l) (hc : l.length ≤ c) (hl : l.length < 4398046511104) :
    Calls Try.prog 11 #[.slice A l.length c] w fun e w' => ∃ v, e = .returned v ∧ w'.ownsRow w.heap.size 27 1 v (many l) ((List.range (many l)).map (ptV l)) ∧ Below w.heap.size w w' := by
  obtain ⟨i0, hi, hz0, hz1, hz2⟩ := info_parts info27
  have HHI := Aside0.mk (And.intro hi (And.intro hz0 (And.intro hz1 hz2)))
  have HR := Aside0.mk (And.intro hrow (And.intro hc hl))
  clear hi hz0 hz1 hz2 hrow hc hl
  refine (callsIn_wide (n := 10)).1 ?_
  refine callsIn_of_wp_marks Try.func11 rfl trivial ?_ rfl
  simp only [Try.ntmps11, List.size_toArray, List.length_cons, List.length_nil, Nat.reduceAdd, Nat.reduceSub, Array.replicate_succ, Array.replicate_zero, List.push_toArray, List.append_toArray, List.nil_append, List.cons_append]
  gi_wp2_with fail
  refine ⟨trivial, (callsIn_wide.2 (Spots _ _ _ _)).mono ?_⟩; rintro e w' ⟨rfl, rfl⟩
  gi_wp2_with fail
  obtain ⟨O, hO⟩ : ∃ O, O = w.heap.size := ⟨_, rfl⟩
  obtain ⟨W, hW⟩ : ∃ W, W = (w.alloc (.cells #[.slice none 0 0] 25)).alloc (.cells #[.slice A l.length c] 22) := ⟨_, rfl⟩
  have hb : Below w.heap.size w W := by rw [hW]; exact below_alloc (below_alloc (Below.refl _ _) _) _
  have hO1 : W.heap[O]? = some (.cells #[.slice none 0 0] 25 (0, 0)) := by rw [hW, hO]; exact blk_alloc (heap_new _ _) _
  have hO2 : W.heap[O + 1]? = some (.cells #[.slice A l.length c] 22 (0, 0)) := by
    have := heap_new (w.alloc (.cells #[.slice none 0 0] 25)) (.cells #[.slice A l.length c] 22)
    rw [World.size_alloc] at this; rw [hW, hO]; exact this
  have hsz : W.heap.size = O + 2 := by rw [hW, hO]; simp
  rw [← hW, ← hO]
  rw [← hO] at hb
  have HO := Aside0.mk hO
  have HW := Aside0.mk hW
  clear hO hW
  refine wpIn_rangeFunc_B rfl (by decide) (gf := 33) (lb := #[.pointer (some ⟨O + 1, 0, none⟩)]) rfl trivial (enters_of Try.func33 (by kernel_rfl) rfl)
    (spots_seq 9 (O + 1) A c l w HR.out.2.1 HR.out.2.2 HR.out.1) (fun W1 h1 => (blk_cell (blk_below hO2 h1) 0).trans rfl) (HO.out ▸ hb) (fun x => rfl) (fun k => k = O) (fun k e => by have := HO.out; omega) (fun k e => by omega)
    (PI l O) (fun _ _ _ _ => False) (PA A c l O) (PI_owns l O) (fun _ _ _ _ _ h => h.elim) (PA_owns A c l O) ⟨_, hO1, World.ownsRow_nil _ _ _ _, fun k => by simp [Value.ownBlock]⟩ ?assign ?body ?done ?stop
  case assign =>
    rintro lp B pre x X K ⟨v, h1, h2, h3⟩ hlie hlen hK
    have hfr : ((#[8, 9] : Array Tmp).zip (spotE l x)) = #[(8, .int .i64 (x : Int)), (9, spotV l x)] := by simp [spotE]
    rw [hfr]
    have hsv : spotV l x = .agg #[ptV l x, .int .i64 (topOf (st (kinds l) x).1)] := rfl
    rw [hsv]
    have HK := Aside0.mk hK
    obtain ⟨pv, hpv⟩ : ∃ pv, pv = ptV l x := ⟨_, rfl⟩
    obtain ⟨tv, htv⟩ : ∃ tv, tv = topOf (st (kinds l) x).1 := ⟨_, rfl⟩
    rw [← hpv, ← htv]
    have hpv1 : ∃ a b, pv = .complex .f64 a b := ⟨_, _, hpv⟩
    obtain ⟨pa, pb, rfl⟩ := hpv1
    have HPV := Aside0.mk hpv
    have HTV := Aside0.mk htv
    clear hK hpv htv hfr hsv
    gi_wp2_with fail
    refine HK.out (fun k => B k ∨ k = X.heap.size) _ _ (fun k hk => hk.imp id (fun e => by omega)) (fun k hk => by
      rw [World.size_alloc]
      rcases hk with hk | hk
      · have := hlie k hk; omega
      · omega) (.of_below (below_alloc (Below.refl _ _) _)) ?_
    refine ⟨v, X.heap.size, blk_alloc h1 _, h2.alloc _, fun k => (or_congr_left (h3 k)).trans or_assoc, ?_, blk_lt h1, fun e => by have := (h2.lt _ e).2; omega, ?_⟩
    · rw [← HPV.out, ← HTV.out]; exact heap_new _ _
    · rw [← HPV.out, ← HTV.out]
  case body =>
    rintro lp B pre x a X ⟨v, sb, h1, h2, h3, h4, h5, h6, rfl⟩ hlie hlen
    have u0 := (blk_cell h1 0).trans rfl
    have uf := blk_frozen h1 0
    have s0 := (blk_cell h4 0).trans rfl
    obtain ⟨pv, hpv⟩ : ∃ pv, pv = ptV l x := ⟨_, rfl⟩
    have HV := Aside0.mk (And.intro h1 (And.intro h2 (And.intro h3 (And.intro h4 (And.intro h5 h6)))))
    have HPV := Aside0.mk hpv
    have HLE := Aside0.mk (And.intro hlie hlen)
    rw [← hpv] at s0 ⊢
    obtain ⟨tv, htv⟩ : ∃ tv, tv = topOf (st (kinds l) x).1 := ⟨_, rfl⟩
    rw [← htv]
    have hpv1 : ∃ a b, pv = .complex .f64 a b := ⟨_, _, hpv⟩
    obtain ⟨pa, pb, rfl⟩ := hpv1
    have HPV := Aside0.mk hpv
    have HNN : Aside0 (pre.length < 4398046511104) := ⟨by
      have h7 := HR.out.2.2
      have h8 : many l ≤ l.length := by unfold many; split <;> omega
      have h9 := HLE.out.2
      rw [h9.1, List.length_range]
      omega⟩
    have HOX : Aside0 (O < X.heap.size) := ⟨blk_lt h1⟩
    clear hpv h1 h2 h3 h4 h5 h6 htv hlie hlen
    gi_wp2_with (gi_at_builtin; refine listIn_append _ rfl (.tmp 10) (.tmp 13) 25 rfl (O + 1) 27 i0 _ 1 16 Try.underlying25 HHI.out.1 HHI.out.2.1 HHI.out.2.2.1 HHI.out.2.2.2 (by rfl) (by decide) v pre.length (pre.map (ptV l)) (by rfl) (HV.out.2.1.alloc _) ⟨X.heap.size, 0, none⟩ 1 1 [.complex .f64 pa pb] (by rfl) (by rfl) (World.news_of_block (heap_new _ _)) (by simp [Value.oneCell']) (by decide) (by have := HNN.out; unfold maxLen; omega) (by have := HNN.out; omega) (by have := HOX.out; simp; omega) (X.heap.size + 1) (by simp) ?_; intro g cap w7 hown7 hgrow hat hlt7; have hO7 : w7.heap[O]? = some (.cells #[v] 25 (0, 0)) := (hgrow.block O (by have := HOX.out; simp; omega) (fun e => by have := (HV.out.2.1.lt O e.symm).1; omega)).trans (blk_alloc HV.out.1 _); have c7 := (blk_cell hO7 0).trans rfl; have f7 := blk_frozen hO7 0; have HO7 := Aside0.mk hO7; clear hO7)
    have hB := HV.out.2.2.1
    have hg7 := hgrow.size
    rw [World.size_alloc] at hg7
    have hOX := HOX.out
    refine ⟨fun k => k = O ∨ k = g, fun k hk => ?_, fun k hk => ?_, ?_, .slice (some ⟨g, 0, none⟩) (pre.length + 1) cap, blk_put HO7.out 0 _ rfl, ?_, fun k => ?_⟩
    · rcases hk with hk | hk
      · exact .inl ((hB k).2 (.inl hk))
      · rcases hat with h1 | h1
        · exact .inl ((hB k).2 (.inr (.inl (hk ▸ h1))))
        · exact .inr (by omega)
    · rw [size_setCell]
      rcases hk with hk | hk <;> omega
    · have e1 : Apart B X (X.alloc (.cells #[.complex .f64 pa pb] 27)) := .of_below (below_alloc (Below.refl _ _) _)
      have e2 : Apart B (X.alloc (.cells #[.complex .f64 pa pb] 27)) w7 := Apart.grown hgrow (fun j hj => .inl ((hB j).2 (.inr (.inl hj))))
      have e3 := Apart.setCell (B := fun k => k = O) w7 ⟨O, 0, none⟩ (.slice (some ⟨g, 0, none⟩) (pre.length + 1) cap) (.inl rfl)
      exact e1.trans (e2.trans e3 (fun i hi => .inl ((hB i).2 (.inl hi)))) (fun i hi => .inl hi)
    · rw [List.length_append, List.map_append, List.map_cons, List.map_nil, ← HPV.out]
      exact ownsRow_setCell_below hown7 (by simp) _
    · constructor
      · rintro (h | h)
        · exact .inl h
        · exact .inr (by rw [h]; rfl)
      · rintro (h | h)
        · exact .inl h
        · exact .inr (Option.some.inj h).symm
  case done =>
    rintro D B xs X hD rfl ⟨v, h1, h2, h3⟩ hm ha hK
    have u0 := (blk_cell h1 0).trans rfl
    have HV := Aside0.mk (And.intro h1 (And.intro h2 (And.intro h3 (And.intro hm (And.intro ha (And.intro hD hK))))))
    clear h1 h2 h3 hm ha hD hK
    gi_wp2_with fail
    obtain ⟨_, h2, _, _, ha, hD, hK⟩ := HV.out
    refine ⟨by simp, .inl ⟨_, _, rfl, run_takeDeferred hK, ?_⟩⟩
    refine ⟨_, results_tmp rfl _ _ _, v, rfl, ?_, ?_⟩
    · rw [List.length_range] at h2
      exact own_le (ownsRow_putObj h2 _ hK rfl) (by have := HO.out; omega)
    · have hb' : Below w.heap.size w W := by rw [← HO.out]; exact hb
      exact hb'.trans ((ha.trans (Apart.putObj (B := fun k => k = D) X D _ (.inl rfl)) (fun i hi => .inr (by omega))).below hb'.size (fun k hk => by have := HO.out; omega))
  case stop =>
    rintro D c B pre X _ _ h
    exact h.elim
end Go.Proofs.Ytcbemeooeecboaa.Rng
