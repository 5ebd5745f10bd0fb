/- Layer 5: the law TokenPrints. -/
import Derived.Test.YtefiadocljnpjaaDoorTI
namespace Go.Proofs.YtefiadocljnpjaaDoor.Row
open Go.Proofs.Tree Go.RowKit Go.Proofs.YtefiadocljnpjaaDoorW.PrintWords Go.Proofs.YtefiadocljnpjaaDoorW.PrintLast Go.Proofs.YtefiadocljnpjaaDoorW.PrintMore Go.Proofs.YtefiadocljnpjaaDoor.PK
set_option linter.unusedVariables false
set_option linter.unusedSimpArgs false
set_option maxHeartbeats 4000000
set_option maxRecDepth 100000
/-- A region that draws its order, whose operations read and whose callees read or make memory: one walk of the text's order, over every world in which what was there is as it was. -/
theorem wp_region_below_lit {P : Program} {id : Nat} {Q : Exit → Act → World → Prop} {a : Act} {w : World} {l : List Oper} (hm : P.follows .mixedOrders = true) (hB : Region.lexB .any l.toArray = true)
    (h : wpQuiet P l.toArray (fun w' => Below w.heap.size w w') (fun a' => ∀ w', Below w.heap.size w w' → Q .normal a' w') l a) : (Code.region id l.toArray true).wp P Q a w :=
  wp_region_quiet (C := fun w' => Below w.heap.size w w') hm hB (show Below w.heap.size w w.drew from (Below.refl _ _).drew) (by simpa using h)
theorem below_all (w : World) (p : Prop) : (∀ w', Below w.heap.size w w' → p) ↔ p := ⟨fun h => h w (Below.refl _ _), fun h _ _ => h⟩
theorem bquiet {P : Program} {f : FuncId} {args : Array Value} {w w1 : World} {v : Value} (hw : Below w.heap.size w w1) (h : Calls P f args w1 fun e w' => e = .returned v ∧ Below w1.heap.size w1 w') : Calls P f args w1 fun e w'' => e = .returned v ∧ Below w.heap.size w w'' :=
  h.mono fun _ _ ⟨he, hb⟩ => ⟨he, Aid_bthen hw hb⟩
theorem one_C34 (W : World) (t : S34) : Kd.C k34 (W.alloc (.cells #[.int .i64 t.f0, .int .i64 t.f1, .string t.f2] 34)) (some ⟨W.heap.size, 0, none⟩) 1 [t] := by
  have key : ∀ i, (W.alloc (.cells #[.int .i64 t.f0, .int .i64 t.f1, .string t.f2] 34)).cell? ⟨W.heap.size, i, none⟩ = (#[.int .i64 t.f0, .int .i64 t.f1, .string t.f2] : Array Value)[i]? := fun i => cell_of_row _ _ _ _ _ _ (heap_new W _)
  refine ⟨rfl, by decide, fun _ => ⟨_, rfl, fun j p hj => ?_⟩⟩
  match j, hj with
  | 0, hj =>
    injection hj with hj; subst hj
    refine ⟨[.int .i64 t.f0, .int .i64 t.f1, .string t.f2], rfl, k34_mk _ t, fun i u hu => ?_⟩
    show (W.alloc _).cell? (Addr.add ⟨W.heap.size, 0, none⟩ (0 * 3 + i)) = _
    rw [add_plain, key]
    rw [Nat.zero_mul, Nat.zero_add]
    match i, hu with
    | 0, hu => exact hu
    | 1, hu => exact hu
    | 2, hu => exact hu
/-- The token of the law in its block, and what is kept. -/
structure Tk (w W : World) (x : Nat) (k at_ : Int) (n : ByteArray) : Prop where
  h : W.heap[x]? = some (.cells #[.int .i64 k, .int .i64 at_, .string n] 34 (0, 0))
  b : Below w.heap.size w W
  g : w.heap.size ≤ x
  l : Laid5 W
theorem Tk.below {w W W' : World} {x : Nat} {k at_ : Int} {n : ByteArray} (h : Tk w W x k at_ n) (hb : Below W.heap.size W W') : Tk w W' x k at_ n := ⟨blk_below h.h hb, Aid_bthen h.b hb, h.g, h.l.below hb⟩
theorem Tk.z0 {w W : World} {x : Nat} {k at_ : Int} {n : ByteArray} (h : Tk w W x k at_ n) : W.cell? ⟨x, 0, none⟩ = some (.int .i64 k) := (blk_cell h.h 0).trans rfl
theorem Tk.z1 {w W : World} {x : Nat} {k at_ : Int} {n : ByteArray} (h : Tk w W x k at_ n) : W.cell? ⟨x, 1, none⟩ = some (.int .i64 at_) := (blk_cell h.h 1).trans rfl
theorem Tk.z2 {w W : World} {x : Nat} {k at_ : Int} {n : ByteArray} (h : Tk w W x k at_ n) : W.cell? ⟨x, 2, none⟩ = some (.string n) := (blk_cell h.h 2).trans rfl
theorem laid_set {w W : World} {x i : Nat} {v : Value} (hw : Laid5 w) (hb : Below w.heap.size w W) (hg : w.heap.size ≤ x) : Laid5 (W.setCell ⟨x, i, none⟩ v) := hw.below (below_set hb hg)
theorem Tk.set {w W : World} {x : Nat} {k at_ : Int} {n : ByteArray} (h : Tk w W x k at_ n) (hw : Laid5 w) (v : Int) : Tk w (W.setCell ⟨x, 1, none⟩ (.int .i64 v)) x k v n := ⟨blk_put h.h 1 _ rfl, below_set h.b h.g, h.g, laid_set hw h.b h.g⟩
theorem Tk.new (w : World) (k at_ : Int) (n : ByteArray) (hw : Laid5 w) : Tk w (w.alloc (.cells #[.int .i64 k, .int .i64 at_, .string n] 34)) w.heap.size k at_ n :=
  ⟨heap_new w _, below_alloc (Below.refl _ _) _, Nat.le_refl _, hw.below (below_alloc (Below.refl _ _) _)⟩
theorem OldsOne (A : Option Addr) (c : Nat) (t : S34) (w : World) (hC : Kd.C k37 w A 1 ([t].map t37)) (hc : 1 ≤ c) : Calls Tryd.prog 25 #[.slice A 1 c] w fun e w' => ∃ A' c', e = .returned (.slice A' 1 c') ∧ 1 ≤ c' ∧ Kd.C k34 w' A' 1 [t] ∧ Below w.heap.size w w' := OldsC A c [t] w hC hc (by simp)
theorem SameOne (A : Option Addr) (c : Nat) (A' : Option Addr) (c' : Nat) (t : S34) (w : World) (h1 : Kd.C k34 w A 1 [t]) (hc : 1 ≤ c) (h2 : Kd.C k34 w A' 1 [t]) (hc' : 1 ≤ c') : Calls Tryd.prog 24 #[.slice A 1 c, .slice A' 1 c'] w fun e w' => e = .returned (.bool true) ∧ Below w.heap.size w w' := SameC A c A' c' [t] w h1 hc h2 hc' (by simp)
attribute [local go_sem] below_all
theorem TokenPrints (t : S34) (w : World) (hL : Laid5 w) (hs : t.f2.size ≤ maxLen) : Calls Tryd.prog 4 #[.agg #[.int .i64 t.f0, .int .i64 t.f1, .string t.f2]] w fun e w' => e = .returned (.bool true) ∧ Below w.heap.size w w' := by
  unfold maxLen at hs
  have HL := Aside0.mk hL
  have h0 := Tk.new w t.f0 t.f1 t.f2 hL
  clear hL
  obtain ⟨x, hx⟩ : ∃ x, x = w.heap.size := ⟨_, rfl⟩
  obtain ⟨w0, hw0⟩ : ∃ w0, w0 = w.alloc (.cells #[.int .i64 t.f0, .int .i64 t.f1, .string t.f2] 34) := ⟨_, rfl⟩
  rw [← hw0, ← hx] at h0
  have HX := Aside0.mk (And.intro hx hw0)
  clear hx hw0
  have z2 := h0.z2
  have H0 := Aside0.mk h0
  clear h0
  by_cases h1 : t.f2.size ≤ 100
  · have c1 : decide ((t.f2.size : Int) > 100) = false := decide_eq_false (by omega)
    have c2 : decide (100 < t.f2.size) = false := decide_eq_false (by omega)
    have c3 : decide ((100 : Int) < (t.f2.size : Int)) = false := decide_eq_false (by omega)
    obtain ⟨u, b, hub⟩ : ∃ u b, tprint t.f0 t.f2 = (u, b) := ⟨_, _, rfl⟩
    have HU := Aside0.mk (And.intro hub (show t.f2.size ≤ 1000000 by omega))
    have huu : (u.toList != u.toList) = false := by simp
    rcases tprint_cases t.f0 t.f2 with ⟨hc, hp⟩ | hp
    · rw [hub] at hp
      obtain ⟨rfl, rfl⟩ := Prod.mk.inj hp
      have HC := Aside0.mk hc
      have HLX := Aside0.mk (lex_one t.f0 t.f2 hc)
      clear hub hp hc h1
      go_enter Tryd.func4, Tryd.ntmps4
      go_upto_region 1 with fail
      rw [← HX.out.2, ← HX.out.1]
      have z0 := H0.out.z0
      have z1 := H0.out.z1
      go_wp2_with fail
      refine (Print t.f0 t.f1 t.f2 _ _ HU.out.2 HU.out.1 _).mono ?_; rintro e w1 ⟨rfl, hb⟩
      have H1 := Aside0.mk (H0.out.below hb)
      clear hb H0 z0 z1 z2
      have z0 := H1.out.z0
      have z1 := H1.out.z1
      have z2 := H1.out.z2
      go_wp2_with fail
      refine (RefPrintC t.f0 t.f1 t.f2 _ _ (Nat.le_trans HU.out.2 (by decide)) HU.out.1 _).mono ?_; rintro e w2 ⟨rfl, hb⟩
      have H2 := Aside0.mk (H1.out.below hb)
      clear hb H1 z0 z1 z2
      go_wp2_with fail
      refine (LexR _ _ HLX.out _).mono ?_; rintro e w3 ⟨v3, rfl, hR, hb⟩
      have H3 := Aside0.mk (H2.out.below hb)
      have HR := Aside0.mk (Kd.R_bound hR)
      have HX2 := Aside0.mk (blk_lt H2.out.h)
      clear hb H2 hR
      have z0 := H3.out.z0
      have z1 := H3.out.z1
      have z2 := H3.out.z2
      have f1 := blk_frozen H3.out.h 1
      go_upto_region 9 with fail
      obtain ⟨w4, hw4⟩ : ∃ w4, w4 = w3.setCell ⟨x, 1, none⟩ (.int .i64 0) := ⟨_, rfl⟩
      rw [← hw4]
      have H4 := Aside0.mk (show Tk w w4 x t.f0 0 t.f2 by rw [hw4]; exact H3.out.set HL.out 0)
      have hR4 : Kd.R k37 37 w4 w2.heap.size (fun _ => True) v3 (([⟨t.f0, 0, t.f2⟩] : List S34).map t37) := by
        rw [hw4]
        exact Kd.R_mono (Kd.R_far HR.out (fun q hq e => by have := hq.2.1; have := HX2.out; rw [e] at *; simp only at *; omega) _) (fun _ _ => trivial)
      obtain ⟨A3, c3', rfl, hc3, hC3⟩ := Kd.R_reads hR4
      have HC3 := Aside0.mk (show Kd.C k37 w4 A3 1 (([⟨t.f0, 0, t.f2⟩] : List S34).map t37) from hC3)
      have HK3 := Aside0.mk (show 1 ≤ c3' from hc3)
      have z0 := H4.out.z0
      have z1 := H4.out.z1
      have z2 := H4.out.z2
      have keepS : ∀ W W', (Below w4.heap.size w4 W ∧ W.cell? ⟨x, 0, none⟩ = some (.int .i64 t.f0) ∧ W.cell? ⟨x, 1, none⟩ = some (.int .i64 0) ∧ W.cell? ⟨x, 2, none⟩ = some (.string t.f2)) → Below W.heap.size W W' →
          (Below w4.heap.size w4 W' ∧ W'.cell? ⟨x, 0, none⟩ = some (.int .i64 t.f0) ∧ W'.cell? ⟨x, 1, none⟩ = some (.int .i64 0) ∧ W'.cell? ⟨x, 2, none⟩ = some (.string t.f2)) := fun W W' hS hb =>
        ⟨Aid_bthen hS.1 hb, pw_cell_below hb hS.2.1, pw_cell_below hb hS.2.2.1, pw_cell_below hb hS.2.2.2⟩
      have KS := Aside0.mk keepS
      clear keepS hw4 H3 f1 HR hR4 hc3 hC3
      go_region_held3 (fun W => Below w4.heap.size w4 W ∧ W.cell? ⟨x, 0, none⟩ = some (.int .i64 t.f0) ∧ W.cell? ⟨x, 1, none⟩ = some (.int .i64 0) ∧ W.cell? ⟨x, 2, none⟩ = some (.string t.f2))
        (first | assumption | exact ⟨Below.refl _ _, z0, z1, z2⟩ | exact ⟨(Below.refl _ _).drew, z0, z1, z2⟩ | exact KS.out _ _ ⟨Below.refl _ _, z0, z1, z2⟩ (below_alloc (Below.refl _ _) _) | exact KS.out _ _ ‹Below w4.heap.size w4 _ ∧ _› (below_alloc (Below.refl _ _) _) | exact KS.out _ _ ‹Below w4.heap.size w4 _ ∧ _› (below_drew (below_alloc (Below.refl _ _) _)) | exact KS.out _ _ ⟨Below.refl _ _, z0, z1, z2⟩ (below_drew (below_alloc (Below.refl _ _) _)))
        (first
          | (go_simp; go_at_call 21; have hS_ := ‹Below w4.heap.size w4 _ ∧ _›; refine (Alive5 _ (H4.out.below hS_.1).l).mono ?_; rintro e w' ⟨rfl, hB⟩; have hS2_ := KS.out _ _ hS_ hB)
          | (go_simp; go_at_call 25; have hS_ := ‹Below w4.heap.size w4 _ ∧ _›; refine (OldsOne A3 c3' ⟨t.f0, 0, t.f2⟩ _ (Kd.C_below HC3.out hS_.1) HK3.out).mono ?_; rintro e w' ⟨A25, c25, rfl, hc25, hC25, hB⟩; have hS2_ := KS.out _ _ hS_ hB; have HC25 := Aside0.mk hC25; have HK25 := Aside0.mk hc25; clear hC25 hc25; (first | (have HQ := Aside0.mk (Kd.C_below (one_C34 _ ⟨t.f0, 0, t.f2⟩) hB)) | (have HQ := Aside0.mk (Kd.C_below (Kd.C_drew (one_C34 _ ⟨t.f0, 0, t.f2⟩)) hB)) | skip))
          | (go_simp; go_at_call 24; have hS_ := ‹Below w4.heap.size w4 _ ∧ _›; ((with_reducible refine (SameOne A25 c25 _ 1 ⟨t.f0, 0, t.f2⟩ _ ?_ HK25.out ?_ (Nat.le_refl _)).mono ?_); (first | exact HC25.out | exact Kd.C_below HC25.out (below_alloc (Below.refl _ _) _) | exact Kd.C_drew (Kd.C_below HC25.out (below_alloc (Below.refl _ _) _))); (first | exact HQ.out | exact one_C34 _ ⟨t.f0, 0, t.f2⟩ | exact Kd.C_drew (one_C34 _ ⟨t.f0, 0, t.f2⟩)); rintro e w' ⟨rfl, hB⟩; have hS2_ := KS.out _ _ hS_ hB))
          | fail)
      all_goals
        have hS_ := ‹Below w4.heap.size w4 _ ∧ _›
        have HF := Aside0.mk (H4.out.below hS_.1).b
        clear hS_
        go_wp2_with fail
        go_ret
        exact ⟨by simp, HF.out⟩
    · rw [hub] at hp
      obtain ⟨rfl, rfl⟩ := Prod.mk.inj hp
      clear hub hp h1
      go_enter Tryd.func4, Tryd.ntmps4
      go_upto_region 1 with fail
      rw [← HX.out.2, ← HX.out.1]
      have z0 := H0.out.z0
      have z1 := H0.out.z1
      go_wp2_with fail
      refine (Print t.f0 t.f1 t.f2 _ _ HU.out.2 HU.out.1 _).mono ?_; rintro e w1 ⟨rfl, hb⟩
      have H1 := Aside0.mk (H0.out.below hb)
      clear hb H0 z0 z1 z2
      have z0 := H1.out.z0
      have z1 := H1.out.z1
      have z2 := H1.out.z2
      go_wp2_with fail
      refine (RefPrintC t.f0 t.f1 t.f2 _ _ (Nat.le_trans HU.out.2 (by decide)) HU.out.1 _).mono ?_; rintro e w2 ⟨rfl, hb⟩
      have H2 := Aside0.mk (H1.out.below hb)
      clear hb H1 z0 z1 z2
      go_wp2_with fail
      refine (LexR ⟨#[]⟩ _ lex_nil _).mono ?_; rintro e w3 ⟨v3, rfl, hR, hb⟩
      have H3 := Aside0.mk (H2.out.below hb)
      clear hb H2 hR
      have z0 := H3.out.z0
      have z1 := H3.out.z1
      have z2 := H3.out.z2
      have f1 := blk_frozen H3.out.h 1
      go_upto_region 9 with fail
      obtain ⟨w4, hw4⟩ : ∃ w4, w4 = w3.setCell ⟨x, 1, none⟩ (.int .i64 0) := ⟨_, rfl⟩
      rw [← hw4]
      have H4 := Aside0.mk (show Tk w w4 x t.f0 0 t.f2 by rw [hw4]; exact H3.out.set HL.out 0)
      clear hw4 H3 z0 z1 z2 f1
      refine wp_region_below_lit (by kernel_rfl) (by kernel_rfl) ?_
      repeat (first | go_big_quiet_skip | (refine wpQuiet_step (fun K hK => ?_); go_simp; first | (refine hK _ ?_; clear hK K) | (apply Exists.intro; refine ⟨fun w_ hw_ => ?_, hK _ ?_⟩; (go_at_call 21; exact bquiet hw_ (Alive5 _ (H4.out.below hw_).l)); clear hK K)))
      refine wpQuiet_nil ?_
      intro w5 hb5
      have HF := Aside0.mk (H4.out.below hb5).b
      clear hb5
      go_wp2_with fail
      go_ret
      exact ⟨by simp, HF.out⟩
  · have c1 : decide ((t.f2.size : Int) > 100) = true := decide_eq_true (by omega)
    have c2 : decide (100 < t.f2.size) = true := decide_eq_true (by omega)
    have c3 : decide ((100 : Int) < (t.f2.size : Int)) = true := decide_eq_true (by omega)
    clear h1
    go_enter Tryd.func4, Tryd.ntmps4
    go_upto_region 1 with fail
    rw [← HX.out.2, ← HX.out.1]
    go_wp2_with fail
    refine (Alive5 _ H0.out.l).mono ?_; rintro e w3 ⟨rfl, h3⟩
    go_wp2_with fail
    go_ret
    exact ⟨rfl, Aid_bthen H0.out.b h3⟩
end Go.Proofs.YtefiadocljnpjaaDoor.Row
