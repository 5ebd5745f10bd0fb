/- The law package's alive: walked by hand. -/
import Derived.Test.YtcbemeooeecboaaSE
namespace Go.Proofs.Ytcbemeooeecboaa.Rng
open Go Go.RowKit Go.Proofs.Tree Go.Proofs.Flt Go.Proofs.YtcbemeooeecboaaW.PrintWords Go.Proofs.YtcbemeooeecboaaW.PrintLast Go.Proofs.YtcbemeooeecboaaW.PrintMore Go.Proofs.Ytcbemeooeecboaa.PK
set_option linter.unusedVariables false
set_option linter.unusedSimpArgs false
set_option maxHeartbeats 4000000
set_option maxRecDepth 100000
def cellsN (n : S44) : List Value := [.int .i64 n.f0, .string n.f1, .int .i64 n.f2]
theorem reps_lits (W : World) (base : Nat) (ok : Nat → Prop) (l : List S44) : Reps (k44.M W base ok) k44.sz l (l.flatMap cellsN) := by
  have h : ∀ (l acc : List S44), Reps (k44.M W base ok) k44.sz acc (acc.flatMap cellsN) → Reps (k44.M W base ok) k44.sz (acc ++ l) ((acc ++ l).flatMap cellsN) := by
    intro l
    induction l with
    | nil => intro acc h; rw [List.append_nil]; exact h
    | cons x l ih =>
      intro acc h
      have h2 := ih (acc ++ [x]) (by
        rw [List.flatMap_append]
        have := h.snoc (k44_mkM W base ok x) rfl
        simpa [cellsN] using this)
      rwa [List.append_assoc] at h2
  exact h l [] (Reps.none _ _)
theorem R_lits (W : World) (l : List S44) (base : Nat) (hb : base ≤ W.heap.size) (hl : l.length ≤ 1000000) (cs : Array Value) (hcs : cs = (l.flatMap cellsN).toArray) :
    Kd.R k44 44 (W.alloc (.cells cs 44)) base (fun _ => True) (.slice (some ⟨W.heap.size, 0, none⟩) l.length l.length) l := by
  subst hcs
  have hlen : (l.flatMap cellsN).length = l.length * 3 := by
    clear hb hl
    induction l with
    | nil => rfl
    | cons x l ih => rw [List.flatMap_cons, List.length_append, ih, List.length_cons]; simp [cellsN]; omega
  refine ⟨fun _ _ => trivial, l.flatMap cellsN, ?_, ?_⟩
  · have h2 := World.ownsRow_lit (base := base) (e := 44) (size := 3) W (l.flatMap cellsN).toArray l.length hb (by unfold maxLen; omega) (by simpa using hlen)
    exact h2
  · exact (reps_lits _ _ _ l)
def nd (a : Int) : S44 := ⟨a, ⟨#[]⟩, 0⟩
def nA : S44 := ⟨1, ⟨#[97]⟩, 0⟩
def L5 : List S44 := [nd 5, nA, nd 6, nA, nA]
def b1 : Nat := 4607182418800017408
def b2 : Nat := 4611686018427387904
def b3 : Nat := 4613937818241073152
theorem flt_1 : flt 1 = 4607182418800017408 := by decide +kernel
theorem flt_2 : flt 2 = 4611686018427387904 := by decide +kernel
theorem flt_3 : flt 3 = 4613937818241073152 := by decide +kernel
theorem many5 : many L5 = 5 := by decide +kernel
theorem many4 : many (L5.drop 1) = 0 := by decide +kernel
def pts5 : List Value := [.complex .f64 0 0, .complex .f64 0 4607182418800017408, .complex .f64 4607182418800017408 4607182418800017408, .complex .f64 4607182418800017408 4611686018427387904, .complex .f64 4611686018427387904 4611686018427387904]
theorem pts_5 : (List.range 5).map (ptV L5) = pts5 := by kernel_rfl
theorem lin_5 : lin L5 5 = [1, 2, 3, 4] := by decide +kernel
def lns5 : List Value := [.complex .f64 0 0, .complex .f64 0 4607182418800017408, .complex .f64 0 0, .complex .f64 4607182418800017408 4607182418800017408, .complex .f64 4607182418800017408 4607182418800017408, .complex .f64 4607182418800017408 4611686018427387904, .complex .f64 4607182418800017408 4607182418800017408, .complex .f64 4611686018427387904 4611686018427387904]
theorem lns_5 : linC L5 5 = lns5 := by kernel_rfl
theorem at_5 : atR L5 4607182418800017408 4611686018427387904 5 = (3, true) := by decide +kernel
theorem at_5' : atR L5 4611686018427387904 4607182418800017408 5 = (0, false) := by decide +kernel
theorem over_5 : overL L5 5 3 = [0, 2] := by decide +kernel
theorem boxX_5 : boxX (kinds L5) 5 = 3 := by decide +kernel
theorem boxY_5 : boxY (kinds L5) 5 = 3 := by decide +kernel
/-- The row of five nodes, and what was told of it. -/
structure Al (w W : World) (g : Nat) : Prop where
  c : Kd.C k44 W (some ⟨g, 0, none⟩) 5 L5
  b : Below w.heap.size w W
theorem Al.below {w W W' : World} {g : Nat} (h : Al w W g) (hb : Below W.heap.size W W') : Al w W' g := ⟨Kd.C_below h.c hb, bthen h.b hb⟩
theorem own_at0 {W : World} {base n size : Nat} {e : TypeId} {v : Value} {xs : List Value} (h : W.ownsRow base e size v n xs) (hn : 0 < n) : ∃ g cap, v = .slice (some ⟨g, 0, none⟩) n cap ∧ ∀ (k : Nat) (u : Value), xs[k]? = some u → W.cell? ⟨g, k, none⟩ = some u := by
  obtain ⟨g, cap, rfl, _, _⟩ := h.form hn
  refine ⟨g, cap, rfl, fun k u hk => ?_⟩
  have := h.cells (g := g) rfl k u hk
  rwa [add_plain] at this
theorem a11 {w W : World} {g : Nat} (h : Al w W g) : Calls Try.prog 11 #[.slice (some ⟨g, 0, none⟩) 5 5] W fun e W' => ∃ gp cp, e = .returned (.slice (some ⟨gp, 0, none⟩) 5 cp) ∧ W'.ownsRow w.heap.size 27 1 (.slice (some ⟨gp, 0, none⟩) 5 cp) 5 pts5 ∧ Al w W' g ∧ Below W.heap.size W W' := by
  refine (Points (some ⟨g, 0, none⟩) 5 L5 W h.c (by decide) (by decide)).mono ?_
  rintro e W' ⟨v, rfl, ho, hb⟩
  rw [many5, pts_5] at ho
  obtain ⟨gp, cp, rfl, _⟩ := own_at0 ho (by decide)
  exact ⟨gp, cp, rfl, own_le ho h.b.size, h.below hb, hb⟩
theorem a15 {w W : World} {g : Nat} (h : Al w W g) : Calls Try.prog 15 #[.slice (some ⟨g, 0, none⟩) 5 5] W fun e W' => ∃ gm cm, e = .returned (.slice (some ⟨gm, 0, none⟩) 4 cm) ∧ W'.ownsRow w.heap.size 31 2 (.slice (some ⟨gm, 0, none⟩) 4 cm) 4 lns5 ∧ Al w W' g ∧ Below W.heap.size W W' := by
  refine (Lines (some ⟨g, 0, none⟩) 5 L5 W h.c (by decide) (by decide)).mono ?_
  rintro e W' ⟨v, rfl, ho, hb⟩
  rw [many5, lin_5, lns_5] at ho
  obtain ⟨gp, cp, rfl, _⟩ := own_at0 ho (by decide)
  exact ⟨gp, cp, rfl, own_le ho h.b.size, h.below hb, hb⟩
theorem a17 {w W : World} {g : Nat} (h : Al w W g) : Calls Try.prog 17 #[.slice (some ⟨g, 0, none⟩) 5 5, .complex .f64 4607182418800017408 4611686018427387904] W fun e W' => e = .returned (.tuple #[.int .i64 3, .bool true]) ∧ Al w W' g ∧ Below W.heap.size W W' := by
  refine (AtC (some ⟨g, 0, none⟩) 5 L5 4607182418800017408 4611686018427387904 W h.c (by decide) (by decide)).mono ?_
  rintro e W' ⟨rfl, hb⟩
  rw [many5, at_5]
  exact ⟨rfl, h.below hb, hb⟩
theorem a17' {w W : World} {g : Nat} (h : Al w W g) : Calls Try.prog 17 #[.slice (some ⟨g, 0, none⟩) 5 5, .complex .f64 4611686018427387904 4607182418800017408] W fun e W' => e = .returned (.tuple #[.int .i64 0, .bool false]) ∧ Al w W' g ∧ Below W.heap.size W W' := by
  refine (AtC (some ⟨g, 0, none⟩) 5 L5 4611686018427387904 4607182418800017408 W h.c (by decide) (by decide)).mono ?_
  rintro e W' ⟨rfl, hb⟩
  rw [many5, at_5']
  exact ⟨rfl, h.below hb, hb⟩
theorem a19 {w W : World} {g : Nat} (h : Al w W g) : Calls Try.prog 19 #[.slice (some ⟨g, 0, none⟩) 5 5, .int .i64 3] W fun e W' => ∃ go co, e = .returned (.slice (some ⟨go, 0, none⟩) 2 co) ∧ W'.ownsRow w.heap.size 3 1 (.slice (some ⟨go, 0, none⟩) 2 co) 2 [.int .i64 0, .int .i64 2] ∧ Al w W' g ∧ Below W.heap.size W W' := by
  refine (OverC (some ⟨g, 0, none⟩) 5 L5 3 W h.c (by decide) (by decide) (by decide)).mono ?_
  rintro e W' ⟨v, rfl, ho, hb⟩
  rw [many5, over_5] at ho
  obtain ⟨gp, cp, rfl, _⟩ := own_at0 ho (by decide)
  exact ⟨gp, cp, rfl, own_le ho h.b.size, h.below hb, hb⟩
theorem a13 {w W : World} {g : Nat} (h : Al w W g) : Calls Try.prog 13 #[.slice (some ⟨g, 0, none⟩) 5 5] W fun e W' => e = .returned (.complex .f64 4613937818241073152 4613937818241073152) ∧ Al w W' g ∧ Below W.heap.size W W' := by
  refine (Box (some ⟨g, 0, none⟩) 5 L5 W h.c (by decide) (by decide)).mono ?_
  rintro e W' ⟨rfl, hb⟩
  rw [many5, boxX_5, boxY_5]
  exact ⟨by rw [show ((3 : Nat) : Int) = 3 from rfl, flt_3], h.below hb, hb⟩
theorem a22 {w W : World} {g : Nat} (h : Al w W g) : Calls Try.prog 22 #[.complex .f64 0 4607182418800017408, .complex .f64 4613937818241073152 4613937818241073152] W fun e W' => e = .returned (.complex .f64 4611686018427387904 4607182418800017408) ∧ Al w W' g ∧ Below W.heap.size W W' := by
  have := Turn 0 1 3 3 (by decide) (by decide) W
  rw [flt0, flt_1, flt_3, show (3 : Int) - 1 - 0 = 2 from rfl, flt_2] at this
  refine this.mono ?_
  rintro e W' ⟨rfl, hb⟩
  exact ⟨rfl, h.below hb, hb⟩
theorem a11d {w W : World} {g : Nat} (h : Al w W g) : Calls Try.prog 11 #[.slice (some ⟨g, 3, none⟩) 4 4] W fun e W' => ∃ A c, e = .returned (.slice A 0 c) ∧ Al w W' g := by
  have hd := Kd.C_drop h.c (m := 1) (by decide) (c := 5) (by decide)
  refine (Points (some ⟨g, 3, none⟩) 4 (L5.drop 1) W hd (by decide) (by decide)).mono ?_
  rintro e W' ⟨v, rfl, ho, hb⟩
  rw [many4] at ho
  obtain ⟨A, c, rfl⟩ := own_slice ho
  exact ⟨A, c, rfl, h.below hb⟩
theorem alive (w : World) : Calls Try.prog 10 #[] w fun e w' => e = .returned (.bool true) ∧ Below w.heap.size w w' := by
  go_enter Try.func10, Try.ntmps10
  go_upto_region 3 with fail
  obtain ⟨W0, hW0⟩ : ∃ W0, W0 = w.alloc (.cells #[.int .i64 1, .string ⟨#[97]⟩, .int .i64 0] 44) := ⟨_, rfl⟩
  have hs0 : W0.heap.size = w.heap.size + 1 := by rw [hW0]; simp
  have hb0 : Below w.heap.size w W0 := by rw [hW0]; exact below_alloc (Below.refl _ _) _
  obtain ⟨g, hg⟩ : ∃ g, g = w.heap.size + 1 := ⟨_, rfl⟩
  rw [← hW0, ← hg]
  obtain ⟨W1, hW1⟩ : ∃ W1, W1 = W0.alloc (.cells #[.int .i64 5, .string ⟨#[]⟩, .int .i64 0, .int .i64 1, .string ⟨#[97]⟩, .int .i64 0, .int .i64 6, .string ⟨#[]⟩, .int .i64 0, .int .i64 1, .string ⟨#[97]⟩, .int .i64 0, .int .i64 1, .string ⟨#[97]⟩, .int .i64 0] 44) := ⟨_, rfl⟩
  have H1 : Aside0 (Al w W1 g) := ⟨by
    have hR := R_lits W0 L5 w.heap.size hb0.size (by decide) #[.int .i64 5, .string ⟨#[]⟩, .int .i64 0, .int .i64 1, .string ⟨#[97]⟩, .int .i64 0, .int .i64 6, .string ⟨#[]⟩, .int .i64 0, .int .i64 1, .string ⟨#[97]⟩, .int .i64 0, .int .i64 1, .string ⟨#[97]⟩, .int .i64 0] rfl
    rw [hs0, ← hg] at hR
    refine ⟨?_, by rw [hW1]; exact below_alloc hb0 _⟩
    rw [hW1]
    exact (Kd.R_reads' hR).2.2⟩
  rw [← hW1]
  clear hW0 hs0 hb0 hg hW1
  go_wp2_with fail
  refine (a11 H1.out).mono ?_; rintro e W2 ⟨gp, cp, rfl, hop, h2, _⟩
  have H2 := Aside0.mk h2
  have HP := Aside0.mk hop
  clear hop h2 H1
  go_wp2_with fail
  refine (a15 H2.out).mono ?_; rintro e W3 ⟨gm, cm, rfl, hom, h3, hb⟩
  have H3 := Aside0.mk h3
  have HM := Aside0.mk hom
  have HP3 := Aside0.mk (pw_own_below HP.out hb)
  clear hom h3 H2 HP hb
  go_wp2_with fail
  refine (a17 H3.out).mono ?_; rintro e W4 ⟨rfl, h4, hb⟩
  have H4 := Aside0.mk h4
  have HM4 := Aside0.mk (pw_own_below HM.out hb)
  have HP4 := Aside0.mk (pw_own_below HP3.out hb)
  clear h4 H3 HM HP3 hb
  go_wp2_with fail
  refine (a17' H4.out).mono ?_; rintro e W5 ⟨rfl, h5, hb⟩
  have H5 := Aside0.mk h5
  have HM5 := Aside0.mk (pw_own_below HM4.out hb)
  have HP5 := Aside0.mk (pw_own_below HP4.out hb)
  clear h5 H4 HM4 HP4 hb
  go_wp2_with fail
  refine (a19 H5.out).mono ?_; rintro e W6 ⟨go, co, rfl, hoo, h6, hb⟩
  have H6 := Aside0.mk h6
  have HO6 := Aside0.mk hoo
  have hom := pw_own_below HM5.out hb
  have hop := pw_own_below HP5.out hb
  obtain ⟨g1, _, e1, c1⟩ := own_at0 hop (by decide)
  obtain ⟨g2, _, e2, c2⟩ := own_at0 hom (by decide)
  have f1 : g1 = gp := by injection e1 with e1 _ _; injection e1 with e1; injection e1 with e1; exact e1.symm
  have f2 : g2 = gm := by injection e2 with e2 _ _; injection e2 with e2; injection e2 with e2; exact e2.symm
  subst f1
  subst f2
  have p0 := c1 0 _ rfl
  have p2 := c1 2 _ rfl
  have p4 := c1 4 _ rfl
  have m6 := c2 6 _ rfl
  have m7 := c2 7 _ rfl
  have o0 : FloatKind.f64.format.order 0 0 = some .eq := by decide +kernel
  have o1 : FloatKind.f64.format.order 4607182418800017408 4607182418800017408 = some .eq := by decide +kernel
  have o2 : FloatKind.f64.format.order 4611686018427387904 4611686018427387904 = some .eq := by decide +kernel
  have o3 : FloatKind.f64.format.order 4613937818241073152 4613937818241073152 = some .eq := by decide +kernel
  have eqm : ∀ W : World, (Op.equalIn 10000 31 (.agg #[.complex .f64 4607182418800017408 4607182418800017408, .complex .f64 4611686018427387904 4611686018427387904]) (.agg #[.complex .f64 4607182418800017408 4607182418800017408, .complex .f64 4611686018427387904 4611686018427387904])).run Try.prog W = .ok true W := fun W => by
    rw [eqi31]; unfold fe; rw [o1, o2]; rfl
  clear hoo h6 hb hom hop c1 c2 e1 e2 H5 HM5 HP5
  go_wp2_with fail
  refine (a13 H6.out).mono ?_; rintro e W7 ⟨rfl, h7, hb⟩
  have H7 := Aside0.mk h7
  have hoo := pw_own_below HO6.out hb
  obtain ⟨g3, _, e3, c3⟩ := own_at0 hoo (by decide)
  have f3 : g3 = go := by injection e3 with e3 _ _; injection e3 with e3; injection e3 with e3; exact e3.symm
  subst f3
  have q1 := c3 1 _ rfl
  clear h7 H6 HO6 hb hoo c3 e3 p0 p2 p4 m6 m7
  go_wp2_with fail
  refine (a22 H7.out).mono ?_; rintro e W8 ⟨rfl, h8, hb⟩
  have H8 := Aside0.mk h8
  clear h8 hb H7 q1
  go_wp2_with fail
  refine (a11d H8.out).mono ?_; rintro e W9 ⟨A, c, rfl, h9⟩
  have H9 := Aside0.mk h9
  clear h9 H8
  go_wp2_with fail
  go_ret
  exact ⟨rfl, H9.out.b⟩
end Go.Proofs.Ytcbemeooeecboaa.Rng
