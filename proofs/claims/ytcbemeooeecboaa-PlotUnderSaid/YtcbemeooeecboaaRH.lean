/- plot.At: its contract. -/
import Derived.Test.YtcbemeooeecboaaRG
namespace Go.Proofs.Ytcbemeooeecboaa.Rng
open Go Go.RowKit Go.Shelf Go.Proofs.Tree Go.Proofs.YtcbemeooeecboaaW.PrintWords Go.Proofs.YtcbemeooeecboaaW.PrintLast Go.Proofs.YtcbemeooeecboaaW.PrintMore Go.Proofs.Ytcbemeooeecboaa.PK
set_option linter.unusedVariables false
set_option linter.unusedSimpArgs false
set_option maxHeartbeats 4000000
set_option maxRecDepth 100000
attribute [local go_sem] Oper.semAt_some run_store_complex run_store_float
def rowT : TypeDesc → Bool
  | .struct _ => true
  | .array _ _ => true
  | _ => false
theorem run_loadVar_one {P : Program} (w : World) (ty : TypeId) (a : Addr) (v : Value) (d : TypeDesc) (hu : P.underlying ty = some d) (hd : rowT d = false) (hc : w.cell? a = some v) : (loadVar ty a).run P w = .ok v w := by
  have hagg : (isAgg ty).run P w = .ok false w := by
    unfold isAgg
    rw [Sem.run_bind, run_underlying hu w]
    cases d <;> simp_all [rowT]
  simp [loadVar, Sem.run_bind, hagg, go_sem, hc]
theorem results_c2 {P : Program} {fn : Func} {p p' : Tmp} {ty ty' : TypeId} (h : fn.results = #[.cell p ty, .cell p' ty']) (tmps : Array Value) (w : World) (g g' : Nat) (v v' : Value) (d d' : TypeDesc)
    (hp : tmps.getD p undef = .pointer (some ⟨g, 0, none⟩)) (hp' : tmps.getD p' undef = .pointer (some ⟨g', 0, none⟩))
    (hu : P.underlying ty = some d) (hd : rowT d = false) (hu' : P.underlying ty' = some d') (hd' : rowT d' = false)
    (hc : w.cell? ⟨g, 0, none⟩ = some v) (hc' : w.cell? ⟨g', 0, none⟩ = some v') :
    (results fn tmps).run P w = .ok (.tuple #[v, v']) w := by
  have h1 : tmps[p]?.getD undef = .pointer (some ⟨g, 0, none⟩) := by simpa using hp
  have h2 : tmps[p']?.getD undef = .pointer (some ⟨g', 0, none⟩) := by simpa using hp'
  simp [results, h, h1, h2, asAddr, run_loadVar_one w ty _ _ d hu hd hc, run_loadVar_one w ty' _ _ d' hu' hd' hc']
/-- Is a complex number that one? -/
def ceq (v : Value) (pa pb : Nat) : Bool := match v with
  | .complex k a b => (k.format.order a pa == some .eq) && (k.format.order b pb == some .eq)
  | _ => false
def atR (l : List S44) (pa pb : Nat) (n : Nat) : Int × Bool := match (List.range n).find? (fun k => ceq (ptV l k) pa pb) with
  | some k => ((k : Int), true)
  | none => (0, false)
theorem atR_none {l : List S44} {pa pb n : Nat} (h : ∀ k, k < n → ceq (ptV l k) pa pb = false) : atR l pa pb n = (0, false) := by
  unfold atR
  have : (List.range n).find? (fun k => ceq (ptV l k) pa pb) = none := by
    rw [List.find?_eq_none]; intro k hk; rw [h k (List.mem_range.1 hk)]; decide
  rw [this]
theorem atR_some {l : List S44} {pa pb n k : Nat} (hk : k < n) (h1 : ceq (ptV l k) pa pb = true) (h : ∀ j, j < k → ceq (ptV l j) pa pb = false) : atR l pa pb n = ((k : Int), true) := by
  unfold atR
  have : (List.range n).find? (fun k => ceq (ptV l k) pa pb) = some k := by
    rw [List.find?_range_eq_some]
    exact ⟨h1, List.mem_range.2 hk, fun j hj => by rw [h j hj]; rfl⟩
  rw [this]
/-- The boxes: the point, and the two results. -/
def HK (pa pb : Nat) (b : Nat) (r : Int) (t : Bool) (W : World) : Prop :=
  W.heap[b]? = some (.cells #[.complex .f64 pa pb] 27 (0, 0)) ∧ W.heap[b + 1]? = some (.cells #[.int .i64 r] 3 (0, 0)) ∧ W.heap[b + 1 + 1]? = some (.cells #[.bool t] 4 (0, 0))
def HI (l : List S44) (pa pb : Nat) (b : Nat) (B : Nat → Prop) (pre : List Nat) (W : World) : Prop :=
  HK pa pb b 0 false W ∧ (∀ k ∈ pre, ceq (ptV l k) pa pb = false) ∧ (∀ k, B k ↔ k = b ∨ k = b + 1 ∨ k = b + 1 + 1)
def HX (l : List S44) (pa pb : Nat) (b : Nat) (c : Code) (B : Nat → Prop) (pre : List Nat) (W : World) : Prop :=
  c = .ret ∧ ∃ k : Nat, pre = List.range (k + 1) ∧ HK pa pb b (k : Int) true W ∧ ceq (ptV l k) pa pb = true ∧ (∀ j, j < k → ceq (ptV l j) pa pb = false) ∧ (∀ k, B k ↔ k = b ∨ k = b + 1 ∨ k = b + 1 + 1)
theorem HK.same {pa pb b : Nat} {r : Int} {t : Bool} {W W' : World} (h : HK pa pb b r t W) (B : Nat → Prop) (hB : ∀ k, k = b ∨ k = b + 1 ∨ k = b + 1 + 1 → B k) (hk : ∀ k, B k → W'.heap[k]? = W.heap[k]?) : HK pa pb b r t W' :=
  ⟨(hk _ (hB _ (.inl rfl))).trans h.1, (hk _ (hB _ (.inr (.inl rfl)))).trans h.2.1, (hk _ (hB _ (.inr (.inr rfl)))).trans h.2.2⟩
theorem HI_owns (l : List S44) (pa pb b : Nat) : Owns (HI l pa pb b) := by
  rintro B s W W' ⟨h1, h2, h3⟩ hsz hk
  exact ⟨h1.same B (fun k h => (h3 k).2 h) hk, h2, h3⟩
theorem HX_owns (l : List S44) (pa pb b : Nat) (c : Code) : Owns (HX l pa pb b c) := by
  rintro B s W W' ⟨h0, k, e, h1, h2, h4, h3⟩ hsz hk
  exact ⟨h0, k, e, h1.same B (fun k h => (h3 k).2 h) hk, h2, h4, h3⟩
def HA (A : Option Addr) (c : Nat) (l : List S44) (pa pb : Nat) (b : Nat) (B : Nat → Prop) (pre : List Nat) (x : Nat) (a : Act) (W : World) : Prop :=
  ∃ sb, HK pa pb b 0 false W ∧ (∀ k ∈ pre, ceq (ptV l k) pa pb = false) ∧ (∀ k, B k ↔ (k = b ∨ k = b + 1 ∨ k = b + 1 + 1) ∨ k = sb) ∧ W.heap[sb]? = some (.cells #[ptV l x, .int .i64 (topOf (st (kinds l) x).1)] 49 (0, 0)) ∧ b + 1 + 1 < sb ∧
    a = { tmps := #[.slice A l.length c, .complex .f64 pa pb, undef, .pointer (some ⟨b, 0, none⟩), .pointer (some ⟨b + 1, 0, none⟩), .pointer (some ⟨b + 1 + 1, 0, none⟩), .int .i64 (x : Int), .pointer (some ⟨sb, 0, none⟩), .slice A l.length c, .func (.func 33) #[] #[.pointer (some ⟨b + 1 + 1 + 1, 0, none⟩)], .int .i64 (x : Int), .agg #[ptV l x, .int .i64 (topOf (st (kinds l) x).1)], undef, undef, undef, undef, undef], defers := [] }
theorem HA_owns (A : Option Addr) (c : Nat) (l : List S44) (pa pb b : Nat) (x : Nat) (a : Act) : Owns (fun B s W => HA A c l pa pb b B s x a W) := by
  rintro B s W W' ⟨sb, h1, h2, h3, h4, h5⟩ hsz hk
  exact ⟨sb, h1.same B (fun k h => (h3 k).2 (.inl h)) hk, h2, h3, (hk sb ((h3 sb).2 (.inr rfl))).trans h4, h5⟩
theorem AtC (A : Option Addr) (c : Nat) (l : List S44) (pa pb : Nat) (w : World) (hrow : Kd.C k44 w A l.length l) (hc : l.length ≤ c) (hl : l.length < 4398046511104) :
    Calls Try.prog 17 #[.slice A l.length c, .complex .f64 pa pb] w fun e w' => e = .returned (.tuple #[.int .i64 (atR l pa pb (many l)).1, .bool (atR l pa pb (many l)).2]) ∧ Below w.heap.size w w' := by
  have HR := Aside0.mk (And.intro hrow (And.intro hc hl))
  clear hrow hc hl
  refine (callsIn_wide (n := 10)).1 ?_
  refine callsIn_of_wp_marks Try.func17 rfl trivial ?_ rfl
  simp only [Try.ntmps17, List.size_toArray, List.length_cons, List.length_nil, Nat.reduceAdd, Nat.reduceSub, Array.replicate_succ, Array.replicate_zero, List.push_toArray, List.append_toArray, List.nil_append, List.cons_append]
  gi_wp2_with fail
  refine ⟨trivial, (callsIn_wide.2 (Spots _ _ _ _)).mono ?_⟩; rintro e w' ⟨rfl, rfl⟩
  gi_wp2_with fail
  obtain ⟨b, hb0⟩ : ∃ b, b = w.heap.size := ⟨_, rfl⟩
  obtain ⟨W, hW⟩ : ∃ W, W = (((w.alloc (.cells #[.complex .f64 pa pb] 27)).alloc (.cells #[.int .i64 0] 3)).alloc (.cells #[.bool false] 4)).alloc (.cells #[.slice A l.length c] 22) := ⟨_, rfl⟩
  have hb : Below w.heap.size w W := by rw [hW]; exact below_alloc (below_alloc (below_alloc (below_alloc (Below.refl _ _) _) _) _) _
  have hO1 : W.heap[b]? = some (.cells #[.complex .f64 pa pb] 27 (0, 0)) := by rw [hW, hb0]; exact blk_alloc (blk_alloc (blk_alloc (heap_new _ _) _) _) _
  have hO2 : W.heap[b + 1]? = some (.cells #[.int .i64 0] 3 (0, 0)) := by
    have := heap_new (w.alloc (.cells #[.complex .f64 pa pb] 27)) (.cells #[.int .i64 0] 3)
    rw [World.size_alloc] at this; rw [hW, hb0]; exact blk_alloc (blk_alloc this _) _
  have hO3 : W.heap[b + 1 + 1]? = some (.cells #[.bool false] 4 (0, 0)) := by
    have := heap_new ((w.alloc (.cells #[.complex .f64 pa pb] 27)).alloc (.cells #[.int .i64 0] 3)) (.cells #[.bool false] 4)
    rw [World.size_alloc, World.size_alloc] at this; rw [hW, hb0]; exact blk_alloc this _
  have hO4 : W.heap[b + 1 + 1 + 1]? = some (.cells #[.slice A l.length c] 22 (0, 0)) := by
    have := heap_new (((w.alloc (.cells #[.complex .f64 pa pb] 27)).alloc (.cells #[.int .i64 0] 3)).alloc (.cells #[.bool false] 4)) (.cells #[.slice A l.length c] 22)
    rw [World.size_alloc, World.size_alloc, World.size_alloc] at this; rw [hW, hb0]; exact this
  have hsz : W.heap.size = b + 4 := by rw [hW, hb0]; simp
  rw [← hW, ← hb0]
  rw [← hb0] at hb
  have HB0 := Aside0.mk hb0
  have HBW := Aside0.mk (And.intro hb hsz)
  have hbB := hb0 ▸ hb
  clear hW hb0
  refine wpIn_rangeFunc_B rfl (by decide) (gf := 33) (lb := #[.pointer (some ⟨b + 1 + 1 + 1, 0, none⟩)]) rfl trivial (enters_of Try.func33 (by kernel_rfl) rfl)
    (spots_seq 9 (b + 1 + 1 + 1) A c l w HR.out.2.1 HR.out.2.2 HR.out.1) (fun W1 h1 => (blk_cell (blk_below hO4 h1) 0).trans rfl) hbB (fun x => rfl) (fun k => k = b ∨ k = b + 1 ∨ k = b + 1 + 1)
    (fun k e => by have := HB0.out; omega) (fun k e => by omega)
    (HI l pa pb b) (HX l pa pb b) (HA A c l pa pb b) (HI_owns l pa pb b) (HX_owns l pa pb b) (HA_owns A c l pa pb b)
    ⟨⟨hO1, hO2, hO3⟩, by simp, fun k => Iff.rfl⟩ ?assign ?body ?done ?stop
  case assign =>
    rintro lp B pre x X K ⟨h1, h2, h3⟩ hlie hlen hK
    have hfr : ((#[10, 11] : Array Tmp).zip (spotE l x)) = #[(10, .int .i64 (x : Int)), (11, spotV l x)] := by simp [spotE]
    rw [hfr]
    have hsv : spotV l x = .agg #[ptV l x, .int .i64 (topOf (st (kinds l) x).1)] := rfl
    rw [hsv]
    have HK := Aside0.mk hK
    obtain ⟨pv, hpv⟩ : ∃ pv, pv = ptV l x := ⟨_, rfl⟩
    obtain ⟨tv, htv⟩ : ∃ tv, tv = topOf (st (kinds l) x).1 := ⟨_, rfl⟩
    rw [← hpv, ← htv]
    have hpv1 : ∃ a b, pv = .complex .f64 a b := ⟨_, _, hpv⟩
    obtain ⟨qa, qb, rfl⟩ := hpv1
    have HPV := Aside0.mk hpv
    have HTV := Aside0.mk htv
    clear hK hpv htv hfr hsv
    gi_wp2_with fail
    have hlt : ∀ k, k = b ∨ k = b + 1 ∨ k = b + 1 + 1 → k < X.heap.size := fun k h => hlie k ((h3 k).2 h)
    refine HK.out (fun k => B k ∨ k = X.heap.size) _ _ (fun k hk => hk.imp id (fun e => by omega)) (fun k hk => by
      rw [World.size_alloc]
      rcases hk with hk | hk
      · have := hlie k hk; omega
      · omega) (.of_below (below_alloc (Below.refl _ _) _)) ?_
    refine ⟨X.heap.size, h1.same B (fun k h => (h3 k).2 h) (fun k hk => (below_alloc (Below.refl X.heap.size X) _).block k (hlie k hk)), h2, fun k => or_congr_left (h3 k), ?_, hlt _ (.inr (.inr rfl)), ?_⟩
    · rw [← HPV.out, ← HTV.out]; exact heap_new _ _
    · rw [← HPV.out, ← HTV.out]
  case body =>
    rintro lp B pre x a X ⟨sb, h1, h2, h3, h4, h5, rfl⟩ hlie hlen
    have s0 := (blk_cell h4 0).trans rfl
    obtain ⟨pv, hpv⟩ : ∃ pv, pv = ptV l x := ⟨_, rfl⟩
    obtain ⟨tv, htv⟩ : ∃ tv, tv = topOf (st (kinds l) x).1 := ⟨_, rfl⟩
    rw [← hpv, ← htv] at s0 ⊢
    have hpv1 : ∃ a b, pv = .complex .f64 a b := ⟨_, _, hpv⟩
    obtain ⟨qa, qb, rfl⟩ := hpv1
    have p0 := (blk_cell h1.1 0).trans rfl
    have r0 := (blk_cell h1.2.1 0).trans rfl
    have rf := blk_frozen h1.2.1 0
    have t0 := (blk_cell h1.2.2 0).trans rfl
    have tf := blk_frozen h1.2.2 0
    obtain ⟨bo, hbo⟩ : ∃ bo, bo = ((FloatKind.f64.format.order qa pa == some .eq) && (FloatKind.f64.format.order qb pb == some .eq)) := ⟨_, rfl⟩
    have hr := fun w t => (run_eql_complex (P := Try.prog) w t .f64 qa qb pa pb)
    rw [← hbo] at hr
    have hce : ceq (ptV l x) pa pb = bo := by rw [← hpv, hbo]; rfl
    have HV := Aside0.mk (And.intro h1 (And.intro h2 (And.intro h3 (And.intro h4 h5))))
    have HC := Aside0.mk hce
    have HLE := Aside0.mk (And.intro hlie hlen)
    clear hpv htv h1 h2 h3 h4 h5 hlie hlen hbo hce
    have hBk : ∀ k, k = b ∨ k = b + 1 ∨ k = b + 1 + 1 → B k := fun k h => (HV.out.2.2.1 k).2 (.inl h)
    have HBk := Aside0.mk hBk
    clear hBk
    cases bo with
    | true =>
      gi_wp2_with fail
      have hpre := HLE.out.2.1
      refine ⟨fun k => k = b ∨ k = b + 1 ∨ k = b + 1 + 1, fun k hk => .inl (HBk.out k hk), fun k hk => ?_, ?_, rfl, x, ?_, ?_, HC.out, ?_, fun k => Iff.rfl⟩
      · rw [size_setCell, size_setCell]; exact HLE.out.1 k (HBk.out k hk)
      · exact (Apart.setCell X ⟨b + 1, 0, none⟩ _ (.inl (HBk.out _ (.inr (.inl rfl))))).trans (Apart.setCell (B := B) _ ⟨b + 1 + 1, 0, none⟩ _ (.inl (HBk.out _ (.inr (.inr rfl))))) (fun i hi => .inl hi)
      · rw [hpre, List.range_succ]
      · obtain ⟨⟨e1, e2, e3⟩, _⟩ := HV.out
        refine ⟨?_, ?_, ?_⟩
        · exact (Below.heap_setCell _ _ _ b (by simp only; omega)).trans ((Below.heap_setCell _ _ _ b (by simp only; omega)).trans e1)
        · exact (Below.heap_setCell _ _ _ (b + 1) (by simp)).trans (blk_put e2 0 _ rfl)
        · exact blk_put ((Below.heap_setCell _ _ _ (b + 1 + 1) (by simp)).trans e3) 0 _ rfl
      · intro j hj; exact HV.out.2.1 j (by rw [hpre]; exact List.mem_range.2 hj)
    | false =>
      gi_wp2_with fail
      refine ⟨fun k => k = b ∨ k = b + 1 ∨ k = b + 1 + 1, fun k hk => .inl (HBk.out k hk), fun k hk => HLE.out.1 k (HBk.out k hk), Apart.refl _ _, HV.out.1, ?_, fun k => Iff.rfl⟩
      intro k hk
      rcases List.mem_append.1 hk with hk | hk
      · exact HV.out.2.1 k hk
      · rw [List.mem_singleton.1 hk]; exact HC.out
  case done =>
    rintro D B xs X hD rfl ⟨h1, h2, h3⟩ hm ha hK
    have r0 := (blk_cell h1.2.1 0).trans rfl
    have rf := blk_frozen h1.2.1 0
    have t0 := (blk_cell h1.2.2 0).trans rfl
    have tf := blk_frozen h1.2.2 0
    have HV := Aside0.mk (And.intro h1 (And.intro h2 (And.intro h3 (And.intro hm (And.intro ha (And.intro hD hK))))))
    clear h1 h2 h3 hm ha hD hK
    gi_wp2_with fail
    obtain ⟨h1, h2, h3, _, ha, hD, hK⟩ := HV.out
    obtain ⟨X2, hX2⟩ : ∃ X2, X2 = (X.setCell ⟨b + 1, 0, none⟩ (.int .i64 0)).setCell ⟨b + 1 + 1, 0, none⟩ (.bool false) := ⟨_, rfl⟩
    have hs := HBW.out.2
    have hK2 : X2.heap[D]? = some (.deferred (some [])) := by rw [hX2]; exact (Below.heap_setCell _ _ _ D (by simp only; omega)).trans ((Below.heap_setCell _ _ _ D (by simp only; omega)).trans hK)
    have c1 : X2.heap[b + 1]? = some (.cells #[.int .i64 0] 3 (0, 0)) := by rw [hX2]; exact (Below.heap_setCell _ _ _ (b + 1) (by simp)).trans (blk_put h1.2.1 0 _ rfl)
    have c2 : X2.heap[b + 1 + 1]? = some (.cells #[.bool false] 4 (0, 0)) := by rw [hX2]; exact blk_put ((Below.heap_setCell _ _ _ (b + 1 + 1) (by simp)).trans h1.2.2) 0 _ rfl
    have hap : Apart (fun k => k = b ∨ k = b + 1 ∨ k = b + 1 + 1) W X2 := by
      rw [hX2]
      exact (ha.trans (Apart.setCell (B := fun k => k = b + 1) X ⟨b + 1, 0, none⟩ _ (.inl rfl)) (fun i hi => .inl (.inr (.inl hi)))).trans (Apart.setCell (B := fun k => k = b + 1 + 1) _ ⟨b + 1 + 1, 0, none⟩ _ (.inl rfl)) (fun i hi => .inl (.inr (.inr hi)))
    rw [← hX2]
    refine ⟨by simp, .inl ⟨_, _, rfl, run_takeDeferred hK2, ?_⟩⟩
    have hput : ∀ k, k ≠ D → (X2.putObj D (.deferred none)).heap[k]? = X2.heap[k]? := fun k hk => World.putObj_heap_other (by omega)
    refine ⟨_, results_c2 rfl _ _ (b + 1) (b + 1 + 1) (.int .i64 0) (.bool false) _ _ rfl rfl Try.underlying3 rfl Try.underlying4 rfl ((blk_cell ((hput _ (by omega)).trans c1) 0).trans rfl) ((blk_cell ((hput _ (by omega)).trans c2) 0).trans rfl), ?_, ?_⟩
    · rw [atR_none (fun k hk => h2 k (List.mem_range.2 hk))]
    · exact (HB0.out ▸ HBW.out.1).trans ((hap.trans (Apart.putObj (B := fun k => k = D) X2 D _ (.inl rfl)) (fun i hi => .inr (by omega))).below (HB0.out ▸ HBW.out.1.size) (fun k hk => by have := HB0.out; omega))
  case stop =>
    rintro D c B pre X hD hSp ⟨rfl, k, hpre, h1, h2, h4, h3⟩ hm ha hK
    have HV := Aside0.mk (And.intro hSp (And.intro h1 (And.intro h2 (And.intro h3 (And.intro h4 (And.intro ha (And.intro hD (And.intro hK hpre))))))))
    clear hSp h1 h2 h3 h4 hm ha hD hK hpre
    gi_wp2_with fail
    obtain ⟨⟨m, hm, hpm⟩, h1, h2, h3, h4, ha, hD, hK, hpre⟩ := HV.out
    have hkm : k < many l := by
      have := congrArg List.length (hpre.symm.trans hpm)
      rw [List.length_range, List.length_range] at this
      omega
    have hs := HBW.out.2
    refine ⟨by simp, .inl ⟨_, _, rfl, run_takeDeferred hK, ?_⟩⟩
    have hput : ∀ k, k ≠ D → (X.putObj D (.deferred none)).heap[k]? = X.heap[k]? := fun k hk => World.putObj_heap_other (by omega)
    refine ⟨_, results_c2 rfl _ _ (b + 1) (b + 1 + 1) (.int .i64 (k : Int)) (.bool true) _ _ rfl rfl Try.underlying3 rfl Try.underlying4 rfl ((blk_cell ((hput _ (by omega)).trans h1.2.1) 0).trans rfl) ((blk_cell ((hput _ (by omega)).trans h1.2.2) 0).trans rfl), ?_, ?_⟩
    · rw [atR_some hkm h2 h4]
    · exact (HB0.out ▸ HBW.out.1).trans ((ha.trans (Apart.putObj (B := fun k => k = D) X D _ (.inl rfl)) (fun i hi => .inr (by omega))).below (HB0.out ▸ HBW.out.1.size) (fun k hk => by have := HB0.out; omega))
end Go.Proofs.Ytcbemeooeecboaa.Rng
