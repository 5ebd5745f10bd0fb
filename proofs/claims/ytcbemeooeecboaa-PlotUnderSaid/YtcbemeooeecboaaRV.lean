/- plot.Over: its contract. -/
import Derived.Test.YtcbemeooeecboaaRH
import Derived.Maps.OwnIn
import Derived.Maps.Views
import Derived.Laws.AppendOwnNone
import Derived.Deep.AppendSrc
namespace Go.Proofs.Ytcbemeooeecboaa.Rng
open Go Go.RowKit Go.Shelf Go.Proofs.Tree Go.Proofs.YtcbemeooeecboaaW.PrintWords Go.Proofs.YtcbemeooeecboaaW.PrintLast Go.Proofs.YtcbemeooeecboaaW.PrintMore Go.Proofs.Ytcbemeooeecboaa.PK
set_option linter.unusedVariables false
set_option linter.unusedSimpArgs false
set_option maxHeartbeats 4000000
set_option maxRecDepth 100000
attribute [local go_sem] Oper.semAt_some run_store_complex run_store_float
/-- What lies above the first m nodes. -/
def mp (l : List S44) : Nat → DataW Unit
  | 0 => .map []
  | j + 1 => (mp l j).put (.int .i64 (j : Int)) (.lit (.int .i64 (topOf (st (kinds l) j).1)))
theorem mp_isMap (l : List S44) (m : Nat) : Maps.IsMap (mp l m) := by
  induction m with
  | zero => exact ⟨_, rfl⟩
  | succ m ih => exact ih.put _ _
theorem mp_at (l : List S44) (m : Nat) (k : Int) (z : DataW Unit) : (mp l m).atKey (.int .i64 k) z = if 0 ≤ k ∧ k < (m : Int) then .lit (.int .i64 (topOf (st (kinds l) k.toNat).1)) else z := by
  induction m with
  | zero => rw [if_neg (by omega)]; rfl
  | succ m ih =>
    unfold mp
    by_cases h : k = (m : Int)
    · subst h
      rw [Maps.atKey_put_same (mp_isMap l m) (by simp [WideAt.IsKeyLit]), if_pos (by omega), Int.toNat_natCast]
    · rw [Maps.atKey_put_other (fun e => by injection e with e1 e2; exact h e2), ih]
      by_cases h2 : 0 ≤ k ∧ k < (m : Int)
      · rw [if_pos h2, if_pos (by omega)]
      · rw [if_neg h2, if_neg (by omega)]
theorem mp_has (l : List S44) (m : Nat) (k : Int) : Maps.has (mp l m) (.int .i64 k) = decide (0 ≤ k ∧ k < (m : Int)) := by
  induction m with
  | zero => rw [decide_eq_false (by omega)]; rfl
  | succ m ih =>
    unfold mp
    by_cases h : k = (m : Int)
    · subst h
      rw [Maps.has_put_same (mp_isMap l m) (by simp [WideAt.IsKeyLit]), decide_eq_true (by omega)]
    · rw [Maps.has_put_other (fun e => by injection e with e1 e2; exact h e2), ih, decide_eq_decide]
      omega
theorem wf64 (n : Int) (h0 : -9223372036854775808 ≤ n) (h1 : n ≤ 9223372036854775807) : (Lit.int .i64 n).wf = true := by
  have e1 : IntKind.i64.min = -9223372036854775808 := by decide
  have e2 : IntKind.i64.max = 9223372036854775807 := by decide
  simp [Lit.wf, e1, e2]; omega
theorem top_lt (l : List Int) (x : Nat) : topOf (st l x).1 < (x : Int) ∧ -1 ≤ topOf (st l x).1 := by
  have hs := st_small l x
  cases e : (st l x).1 with
  | nil => simp only [topOf]; omega
  | cons y r => obtain ⟨p, le⟩ := y; have := hs (p, le) (by rw [e]; exact List.mem_cons_self); simp only [topOf]; simp only at this; omega
/-- The way up from a node (it is on it), the last one first; in f steps. -/
def up (l : List Int) : Nat → Int → List Int
  | 0, _ => []
  | f + 1, k => if k < 0 then [] else up l f (topOf (st l k.toNat).1) ++ [k]
theorem up_neg (l : List Int) (f : Nat) {k : Int} (h : k < 0) : up l f k = [] := by
  cases f with
  | zero => rfl
  | succ f => unfold up; rw [if_pos h]
/-- The nodes above node k. -/
def overL (l : List S44) (n : Nat) (k : Int) : List Int := if 0 ≤ k ∧ k < (n : Int) then up (kinds l) k.toNat (topOf (st (kinds l) k.toNat).1) else []
theorem own_one {W : World} {base : Nat} (hb : base ≤ W.heap.size) (x : Int) : (W.alloc (.cells #[.int .i64 x] 3)).ownsRow base 3 1 (.slice (some ⟨W.heap.size, 0, none⟩) 1 1) [x].length (nums .i64 [x]) :=
  ⟨rfl, .inr ⟨W.heap.size, 1, #[.int .i64 x], rfl, hb, heap_new W _, Nat.le_refl _, by unfold maxLen; omega, rfl, rfl⟩⟩
theorem nums_map (s : List Int) : nums .i64 s = s.map (.int .i64) := rfl
def VI (l : List S44) (b : Nat) (B : Nat → Prop) (pre : List Nat) (W : World) : Prop :=
  W.heap[b + 1]? = some (.cells #[.map (some b)] 52 (0, 0)) ∧ W.ownsMap Try.prog 3 (plainElem (H := Unit) Try.prog 3) b pre.length (mp l pre.length) ∧ (∀ k, B k ↔ k = b ∨ k = b + 1)
theorem map_same {W W' : World} {b n : Nat} {R : Value → Option (DataW Unit × List MemPlace)} {D : DataW Unit} (h : W.ownsMap Try.prog 3 R b n D) (hk : W'.heap[b]? = W.heap[b]?) : W'.ownsMap Try.prog 3 R b n D := by
  obtain ⟨es, c, h1, h2⟩ := h
  exact ⟨es, c, hk.trans h1, h2⟩
theorem VI_owns (l : List S44) (b : Nat) : Owns (VI l b) := by
  rintro B s W W' ⟨h1, h2, h3⟩ hsz hk
  exact ⟨(hk _ ((h3 _).2 (.inr rfl))).trans h1, map_same h2 (hk _ ((h3 _).2 (.inl rfl))), h3⟩
def VA (A : Option Addr) (c : Nat) (l : List S44) (kv : Int) (b : Nat) (B : Nat → Prop) (pre : List Nat) (x : Nat) (a : Act) (W : World) : Prop :=
  ∃ sb, W.heap[b + 1]? = some (.cells #[.map (some b)] 52 (0, 0)) ∧ W.ownsMap Try.prog 3 (plainElem (H := Unit) Try.prog 3) b pre.length (mp l pre.length) ∧ (∀ k, B k ↔ (k = b ∨ k = b + 1) ∨ k = sb) ∧ W.heap[sb]? = some (.cells #[ptV l x, .int .i64 (topOf (st (kinds l) x).1)] 49 (0, 0)) ∧ b + 1 < sb ∧
    a = { tmps := #[.slice A l.length c, .int .i64 kv, undef, undef, .slice none 0 0, .pointer (some ⟨b + 1, 0, none⟩), .int .i64 (x : Int), .pointer (some ⟨sb, 0, none⟩), undef, undef, undef, .map (some b), .slice A l.length c, .func (.func 33) #[] #[.pointer (some ⟨b + 1 + 1, 0, none⟩)], .int .i64 (x : Int), .agg #[ptV l x, .int .i64 (topOf (st (kinds l) x).1)], undef, undef, undef, undef, undef, undef, undef, undef, undef, undef, undef, undef, undef, undef, undef, undef, undef, undef, undef, undef, undef, undef, undef, undef, undef], defers := [] }
theorem VA_owns (A : Option Addr) (c : Nat) (l : List S44) (kv : Int) (b : Nat) (x : Nat) (a : Act) : Owns (fun B s W => VA A c l kv b B s x a W) := by
  rintro B s W W' ⟨sb, h1, h2, h3, h4, h5⟩ hsz hk
  exact ⟨sb, (hk _ ((h3 _).2 (.inl (.inr rfl)))).trans h1, map_same h2 (hk _ ((h3 _).2 (.inl (.inl rfl)))), h3, (hk sb ((h3 sb).2 (.inr rfl))).trans h4, h5⟩
theorem OverC (A : Option Addr) (c : Nat) (l : List S44) (kv : Int) (w : World) (hrow : Kd.C k44 w A l.length l) (hc : l.length ≤ c) (hl : l.length < 4398046511104) (hkv : (Lit.int .i64 kv).wf = true) :
    Calls Try.prog 19 #[.slice A l.length c, .int .i64 kv] w fun e w' => ∃ v, e = .returned v ∧ w'.ownsRow w.heap.size 3 1 v (overL l (many l) kv).length ((overL l (many l) kv).map (.int .i64)) ∧ Below w.heap.size w w' := by
  have HR := Aside0.mk (And.intro hrow (And.intro hc hl))
  have HKV := Aside0.mk hkv
  clear hrow hc hl hkv
  have hmm := @run_makeMap Try.prog
  refine (callsIn_wide (n := 10)).1 ?_
  refine callsIn_of_wp_marks Try.func19 rfl trivial ?_ rfl
  simp only [Try.ntmps19, List.size_toArray, List.length_cons, List.length_nil, Nat.reduceAdd, Nat.reduceSub, Array.replicate_succ, Array.replicate_zero, List.push_toArray, List.append_toArray, List.nil_append, List.cons_append]
  gi_wp2_with fail
  refine ⟨trivial, (callsIn_wide.2 (Spots _ _ _ _)).mono ?_⟩; rintro e w' ⟨rfl, rfl⟩
  gi_wp2_with fail
  obtain ⟨b, hb0⟩ : ∃ b, b = w.heap.size := ⟨_, rfl⟩
  obtain ⟨W, hW⟩ : ∃ W, W = ((w.alloc (.map #[] 0)).alloc (.cells #[.map (some b)] 52)).alloc (.cells #[.slice A l.length c] 22) := ⟨_, rfl⟩
  have hb : Below w.heap.size w W := by rw [hW]; exact below_alloc (below_alloc (below_alloc (Below.refl _ _) _) _) _
  have hO1 : W.ownsMap Try.prog 3 (plainElem (H := Unit) Try.prog 3) b 0 (mp l 0) := by rw [hW, hb0]; exact ((World.ownsMap_made w Try.prog 3 _).alloc _).alloc _
  have hO2 : W.heap[b + 1]? = some (.cells #[.map (some b)] 52 (0, 0)) := by
    have := heap_new (w.alloc (.map #[] 0)) (.cells #[.map (some b)] 52)
    rw [World.size_alloc, ← hb0] at this; rw [hW]; exact blk_alloc this _
  have hO3 : W.heap[b + 1 + 1]? = some (.cells #[.slice A l.length c] 22 (0, 0)) := by
    have := heap_new ((w.alloc (.map #[] 0)).alloc (.cells #[.map (some b)] 52)) (.cells #[.slice A l.length c] 22)
    rw [World.size_alloc, World.size_alloc, ← hb0] at this; rw [hW]; exact this
  have hsz : W.heap.size = b + 3 := by rw [hW, hb0]; simp
  rw [← hb0, ← hW]
  rw [← hb0] at hb
  have HB0 := Aside0.mk hb0
  have HBW := Aside0.mk (And.intro hb hsz)
  have hbB := hb0 ▸ hb
  clear hW hb0 hmm
  refine wpIn_rangeFunc_B rfl (by decide) (gf := 33) (lb := #[.pointer (some ⟨b + 1 + 1, 0, none⟩)]) rfl trivial (enters_of Try.func33 (by kernel_rfl) rfl)
    (spots_seq 9 (b + 1 + 1) A c l w HR.out.2.1 HR.out.2.2 HR.out.1) (fun W1 h1 => (blk_cell (blk_below hO3 h1) 0).trans rfl) hbB (fun x => rfl) (fun k => k = b ∨ k = b + 1)
    (fun k e => by have := HB0.out; omega) (fun k e => by omega)
    (VI l b) (fun _ _ _ _ => False) (VA A c l kv b) (VI_owns l b) (fun _ _ _ _ _ h => h.elim) (VA_owns A c l kv b)
    ⟨hO2, hO1, fun k => Iff.rfl⟩ ?assign ?body ?done ?stop
  case assign =>
    rintro lp B pre x X K ⟨h1, h2, h3⟩ hlie hlen hK
    have hfr : ((#[14, 15] : Array Tmp).zip (spotE l x)) = #[(14, .int .i64 (x : Int)), (15, spotV l x)] := by simp [spotE]
    rw [hfr]
    have hsv : spotV l x = .agg #[ptV l x, .int .i64 (topOf (st (kinds l) x).1)] := rfl
    rw [hsv]
    have HK := Aside0.mk hK
    obtain ⟨pv, hpv⟩ : ∃ pv, pv = ptV l x := ⟨_, rfl⟩
    obtain ⟨tv, htv⟩ : ∃ tv, tv = topOf (st (kinds l) x).1 := ⟨_, rfl⟩
    rw [← hpv, ← htv]
    have hpv1 : ∃ a b, pv = .complex .f64 a b := ⟨_, _, hpv⟩
    obtain ⟨qa, qb, rfl⟩ := hpv1
    have HPV := Aside0.mk hpv
    have HTV := Aside0.mk htv
    clear hK hpv htv hfr hsv
    gi_wp2_with fail
    have hlt : ∀ k, k = b ∨ k = b + 1 → k < X.heap.size := fun k h => hlie k ((h3 k).2 h)
    have keep := fun k hk => (below_alloc (Below.refl X.heap.size X) (.cells #[.complex .f64 qa qb, .int .i64 tv] 49)).block k (hlie k hk)
    refine HK.out (fun k => B k ∨ k = X.heap.size) _ _ (fun k hk => hk.imp id (fun e => by omega)) (fun k hk => by
      rw [World.size_alloc]
      rcases hk with hk | hk
      · have := hlie k hk; omega
      · omega) (.of_below (below_alloc (Below.refl _ _) _)) ?_
    refine ⟨X.heap.size, (keep _ ((h3 _).2 (.inr rfl))).trans h1, map_same h2 (keep _ ((h3 _).2 (.inl rfl))), fun k => or_congr_left (h3 k), ?_, hlt _ (.inr rfl), ?_⟩
    · rw [← HPV.out, ← HTV.out]; exact heap_new _ _
    · rw [← HPV.out, ← HTV.out]
  case body =>
    rintro lp B pre x a X ⟨sb, h1, h2, h3, h4, h5, h6⟩ hlie hlen
    dsimp only at h6
    subst h6
    obtain ⟨hpre, hxN⟩ := hlen
    have hxl : pre.length = x := by rw [hpre, List.length_range]
    rw [hxl] at h2
    have hxb : x < 4398046511104 := by have := many_le l; have := HR.out.2.2; omega
    have m0 := (blk_cell h1 0).trans rfl
    have s0 := (blk_cell h4 0).trans rfl
    have s1 := (blk_cell h4 1).trans rfl
    obtain ⟨pv, hpv⟩ : ∃ pv, pv = ptV l x := ⟨_, rfl⟩
    obtain ⟨tv, htv⟩ : ∃ tv, tv = topOf (st (kinds l) x).1 := ⟨_, rfl⟩
    rw [← hpv, ← htv] at s0 s1 ⊢
    have hpv1 : ∃ a b, pv = .complex .f64 a b := ⟨_, _, hpv⟩
    obtain ⟨qa, qb, rfl⟩ := hpv1
    have htw : (Lit.int .i64 tv).wf = true := wf64 _ (by have := top_lt (kinds l) x; omega) (by have := top_lt (kinds l) x; omega)
    have hkey := Maps.keyOf_int_mk Try.underlying3 (wf64 (x : Int) (by omega) (by omega))
    have HV := Aside0.mk (And.intro h1 (And.intro h2 (And.intro h3 (And.intro h4 h5))))
    have HT := Aside0.mk (And.intro htv hxl)
    have HLE := Aside0.mk (And.intro hlie (And.intro hpre hxN))
    have HTW := Aside0.mk htw
    have HKY := Aside0.mk hkey
    have HXB := Aside0.mk hxb
    clear hpv htv h1 h2 h3 h4 h5 hlie hpre hxN htw hkey hxl hxb
    gi_wp2_with (gi_at_mapUpdate; refine wpListIn_mapUpdate_own _ rfl _ _ _ 52 rfl 3 3 (Maps.int_keyed Try.underlying3) Try.underlying52 _ b x _ rfl HV.out.2.1 (by have := HXB.out; unfold maxLen; omega) _ _ _ rfl rfl HKY.out _ [] (plainElem_int Try.underlying3 HTW.out) ?_; intro w1 hown1 hgrow1)
    obtain ⟨h1, h2, h3, h4, h5⟩ := HV.out
    have hB : ∀ k, k = b ∨ k = b + 1 → B k := fun k h => (h3 k).2 (.inl h)
    have hbl := (h2.lt)
    refine ⟨fun k => k = b ∨ k = b + 1, fun k hk => .inl (hB k hk), fun k hk => Nat.lt_of_lt_of_le (HLE.out.1 k (hB k hk)) hgrow1.size, Apart.grown hgrow1 (fun j e => .inl (hB j (.inl (Option.some.inj e).symm))), ?_, ?_, fun k => Iff.rfl⟩
    · exact (hgrow1.block (b + 1) (HLE.out.1 _ (hB _ (.inr rfl))) (fun e => by have := Option.some.inj e; omega)).trans h1
    · rw [List.length_append, HT.out.2]
      show w1.ownsMap Try.prog 3 _ b (x + 1) (mp l (x + 1))
      unfold mp
      rw [← HT.out.1]
      exact hown1
  case done =>
    rintro D B xs X hD rfl ⟨h1, h2, h3⟩ hm ha hK
    rw [List.length_range] at h2
    have m0 := (blk_cell h1 0).trans rfl
    have HV := Aside0.mk (And.intro h1 (And.intro h2 (And.intro h3 (And.intro hm (And.intro ha (And.intro hD hK))))))
    have HKY := Aside0.mk (Maps.keyOf_int_mk Try.underlying3 HKV.out)
    clear h1 h2 h3 hm ha hD hK
    refine (‹∀ (a : Act) (w : World), Code.wpIn _ _ _ _ _ a w → _›) _ _ ?_
    refine wpIn_wide.2 ?_
    by_cases hin : 0 ≤ kv ∧ kv < (many l : Int)
    · have hhas : Maps.has (mp l (many l)) (.int .i64 kv) = true := by rw [mp_has, decide_eq_true hin]
      obtain ⟨tk, htk⟩ : ∃ tk, tk = topOf (st (kinds l) kv.toNat).1 := ⟨_, rfl⟩
      have HTK : Aside0 (∀ c : Int, (mp l (many l)).atKey (.int .i64 kv) (.lit (.int .i64 0)) = .lit (.int .i64 c) → c = tk) := ⟨fun c h => by
        rw [mp_at, if_pos hin, ← htk] at h
        injection h with h; injection h with h h2; exact h2.symm⟩
      have HR2 : Aside0 (overL l (many l) kv = up (kinds l) kv.toNat tk) := ⟨by unfold overL; rw [if_pos hin, htk]⟩
      have HTB : Aside0 (-1 ≤ tk ∧ tk < (kv.toNat : Int) ∧ kv < (many l : Int)) := ⟨by have := top_lt (kinds l) kv.toNat; rw [← htk] at this; omega⟩
      clear hin htk
      go_wp2_with (first | (at_lookup; refine wpList_lookup_own_ok_int _ rfl _ _ 52 rfl 3 3 .i64 (Maps.int_keyed Try.underlying3) Try.underlying52 Try.underlying3 (Try.zeroValue3 _) b (many l) _ rfl HV.out.2.1 _ _ rfl HKY.out ?_; intro c1 hat1 hwc1; rw [hhas]) | (at_lookup; refine wpList_lookup_own_int _ rfl _ _ 52 rfl 3 3 .i64 (Maps.int_keyed Try.underlying3) Try.underlying52 Try.underlying3 (Try.zeroValue3 _) b (many l) _ rfl HV.out.2.1 _ _ rfl HKY.out ?_; intro c2 hat2 hwc2; obtain rfl : c2 = tk := HTK.out c2 hat2))
      have HXb : Aside0 (X.heap[b + 1]? = some (.cells #[.map (some b)] 52 (0, 0)) ∧ X.ownsMap Try.prog 3 (plainElem (H := Unit) Try.prog 3) b (many l) (mp l (many l))) := ⟨⟨HV.out.1, HV.out.2.1⟩⟩
      clear m0 hhas hat1 hwc1 hat2 hwc2
      go_loopg [1, 8] ((c2 + 1).toNat + 1) (fun kq v1 v8 W' => ∃ (f : Nat) (cur : Int) (s : List Int), v1 = .int .i64 cur ∧ Aside0 ((cur + 1).toNat < kq ∧ -1 ≤ cur ∧ cur < (f : Int) ∧ (s.length : Int) + cur < (kv.toNat : Int) ∧ cur < (many l : Int)) ∧ Aside0 (W'.ownsRow X.heap.size 3 1 v8 s.length (nums .i64 s)) ∧ Aside0 (up (kinds l) f cur ++ s = overL l (many l) kv) ∧ Aside0 (Below X.heap.size X W'))
      case atStart => exact ⟨kv.toNat, c2, [], rfl, ⟨Nat.lt_succ_self _, HTB.out.1, HTB.out.2.1, by have := HTB.out.2.1; simp; omega, by have := HTB.out; omega⟩, ⟨World.ownsRow_nil _ _ _ _⟩, ⟨by rw [HR2.out, List.append_nil]⟩, ⟨Below.refl _ _⟩⟩
      case round =>
        obtain ⟨f, cur, s, rfl, HJ, HO, HU, HB⟩ := hrel
        cases gk with
        | zero => exact absurd HJ.out.1 (by omega)
        | succ k1 =>
          have hm0 : wr.heap[b + 1]? = some (.cells #[.map (some b)] 52 (0, 0)) := blk_below HXb.out.1 HB.out
          have m0 := (blk_cell hm0 0).trans rfl
          have HM0 := Aside0.mk hm0
          clear hm0
          by_cases hcur : 0 ≤ cur
          · have d1 : decide (cur ≥ 0) = true := decide_eq_true hcur
            have d2 : decide (0 ≤ cur) = true := decide_eq_true hcur
            obtain ⟨A8, c8, e8, hread⟩ := own_reads HO.out
            subst e8
            obtain ⟨f1, rfl⟩ : ∃ f1, f = f1 + 1 := ⟨f - 1, by have := HJ.out; omega⟩
            obtain ⟨tn, htn⟩ : ∃ tn, tn = topOf (st (kinds l) cur.toNat).1 := ⟨_, rfl⟩
            have htl := top_lt (kinds l) cur.toNat
            rw [← htn] at htl
            have HTN : Aside0 (∀ c : Int, (mp l (many l)).atKey (.int .i64 cur) (.lit (.int .i64 0)) = .lit (.int .i64 c) → c = tn) := ⟨fun c h => by
              rw [mp_at, if_pos ⟨hcur, HJ.out.2.2.2.2⟩, ← htn] at h
              injection h with h; injection h with h h2; exact h2.symm⟩
            have HK2 := Aside0.mk (Maps.keyOf_int_mk Try.underlying3 (wf64 cur (by omega) (by have := HJ.out.2.2.2.2; have := many_le l; have := HR.out.2.2; omega)))
            have HU2 : Aside0 (up (kinds l) f1 tn ++ (cur :: s) = overL l (many l) kv) := ⟨by
              rw [← HU.out]
              conv => rhs; unfold up
              rw [if_neg (by omega), ← htn, List.append_assoc]; rfl⟩
            have HO2 : Aside0 ((wr.alloc (.cells #[.int .i64 cur] 3)).ownsRow X.heap.size 3 1 (.slice (some ⟨wr.heap.size, 0, none⟩) 1 1) [cur].length (nums .i64 [cur])) := ⟨own_one HB.out.size cur⟩
            have HB2 : Aside0 (Below X.heap.size X (wr.alloc (.cells #[.int .i64 cur] 3))) := ⟨HB.out.alloc HB.out.size _⟩
            have HRd : Aside0 (ReadsInt (wr.alloc (.cells #[.int .i64 cur] 3)) .i64 A8 s.length s) := ⟨hread.below (below_alloc (Below.refl _ _) _)⟩
            have HLN : Aside0 (([cur].length + s.length) * 8 ≤ 140737488355328) := ⟨by have := HJ.out.2.2.2.1; have := many_le l; have := HR.out.2.2; have := HTB.out; simp only [List.length_cons, List.length_nil]; omega⟩
            have HMX : Aside0 (∀ Y : World, Below X.heap.size X Y → Y.ownsMap Try.prog 3 (plainElem (H := Unit) Try.prog 3) b (many l) (mp l (many l)) ∧ Y.heap[b + 1]? = some (.cells #[.map (some b)] 52 (0, 0))) := ⟨fun Y hY => ⟨map_same HXb.out.2 (hY.block b HXb.out.2.lt), blk_below HXb.out.1 hY⟩⟩
            have HC := Aside0.mk (And.intro hcur htl)
            clear hcur htn htl hread HXb
            go_wp2_with (first | (at_builtin; refine print_append_row (w0 := X) X.heap.size rfl (.tmp 37) (.tmp 38) 37 3 .i64 8 rfl Try.underlying37 (by kernel_rfl) (by decide) _ [cur] s A8 s.length c8 (by rfl) (by rfl) HO2.out HRd.out HB2.out (by rw [World.size_alloc]; have := HB.out.size; omega) HLN.out ?_; intro v9 w9 hown9 hbel9 hgrow9 hat9; have HW9 := Aside0.mk (And.intro hown9 hbel9); have m9 := (blk_cell (HMX.out w9 hbel9).2 0).trans rfl; clear hown9 hbel9 hgrow9 hat9) | (at_lookup; refine wpList_lookup_own_int _ rfl _ _ 52 rfl 3 3 .i64 (Maps.int_keyed Try.underlying3) Try.underlying52 Try.underlying3 (Try.zeroValue3 _) b (many l) _ rfl (HMX.out _ HW9.out.2).1 _ _ rfl HK2.out ?_; intro c3 hat3 hwc3; obtain rfl : c3 = tn := HTN.out c3 hat3; clear hat3 hwc3))
            go_roundg k1
            · refine ⟨f1, c3, cur :: s, rfl, ⟨?_, HC.out.2.2, ?_, ?_, ?_⟩, ⟨HW9.out.1⟩, HU2, ⟨HW9.out.2⟩⟩
              · have := HJ.out.1; have := HC.out; omega
              · have := HJ.out.2.2.1; have := HC.out; omega
              · have := HJ.out.2.2.2.1; have := HC.out; simp only [List.length_cons]; omega
              · have := HJ.out.2.2.2.2; have := HC.out; omega
            · exact Nat.lt_succ_self _
          · have d1 : decide (cur ≥ 0) = false := decide_eq_false hcur
            have d2 : decide (0 ≤ cur) = false := decide_eq_false hcur
            have HU3 : Aside0 (s = overL l (many l) kv) := ⟨by rw [← HU.out, up_neg _ _ (by omega), List.nil_append]⟩
            clear hcur
            go_wp2_with fail
            obtain ⟨_, _, _, _, ha, hD, hK⟩ := HV.out
            have hK2 : wr.heap[D]? = some (.deferred (some [])) := (HB.out.block D (Array.getElem?_eq_some_iff.1 hK).1).trans hK
            refine ⟨by simp, .inl ⟨_, _, rfl, run_takeDeferred hK2, ?_⟩⟩
            refine ⟨_, results_tmp rfl _ _ _, _, rfl, ?_, ?_⟩
            · rw [← HU3.out]
              exact own_le (base := X.heap.size) (ownsRow_putObj HO.out _ hK2 rfl) (by have := ha.size; have := HBW.out.2; have := HB0.out; omega)
            · have hXw : Below w.heap.size w X := (HB0.out ▸ HBW.out.1).trans (ha.below (HB0.out ▸ HBW.out.1.size) (fun k hk => by have := HB0.out; omega))
              exact (hXw.trans (HB.out.mono hXw.size)).trans ((Apart.putObj (B := fun k => k = D) wr D _ (.inl rfl)).below (by have := hXw.size; have := HB.out.size; omega) (fun k hk => by have := HB0.out; have := HBW.out.2; omega))
    · have hhas : Maps.has (mp l (many l)) (.int .i64 kv) = false := by rw [mp_has, decide_eq_false hin]
      have HR2 : Aside0 (overL l (many l) kv = []) := ⟨by unfold overL; rw [if_neg hin]⟩
      clear hin
      go_wp2_with (at_lookup; refine wpList_lookup_own_ok_int _ rfl _ _ 52 rfl 3 3 .i64 (Maps.int_keyed Try.underlying3) Try.underlying52 Try.underlying3 (Try.zeroValue3 _) b (many l) _ rfl HV.out.2.1 _ _ rfl HKY.out ?_; intro c1 hat1 hwc1; rw [hhas])
      obtain ⟨_, _, _, _, ha, hD, hK⟩ := HV.out
      refine ⟨by simp, .inl ⟨_, _, rfl, run_takeDeferred hK, ?_⟩⟩
      refine ⟨_, results_tmp rfl _ _ _, .slice none 0 0, rfl, ?_, ?_⟩
      · rw [HR2.out]; exact World.ownsRow_nil _ _ _ _
      · exact (HB0.out ▸ HBW.out.1).trans ((ha.trans (Apart.putObj (B := fun k => k = D) X D _ (.inl rfl)) (fun i hi => .inr (by have := HBW.out.2; omega))).below (HB0.out ▸ HBW.out.1.size) (fun k hk => by have := HB0.out; omega))
  case stop =>
    rintro D c B pre X _ _ h
    exact h.elim
end Go.Proofs.Ytcbemeooeecboaa.Rng
