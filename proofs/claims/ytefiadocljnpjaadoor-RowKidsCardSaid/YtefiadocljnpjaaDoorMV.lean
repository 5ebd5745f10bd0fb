/- Layer 3's law package: alive and few, walked by hand. -/
import Derived.Test.YtefiadocljnpjaaDoorMU
import Derived.Test.YtefiadocljnpjaaDoorPKx21
namespace Go.Proofs.YtefiadocljnpjaaDoor.Row
open Go.Proofs.Tree Go.RowKit Go.Proofs.YtefiadocljnpjaaDoorW.PrintWords Go.Proofs.YtefiadocljnpjaaDoorW.PrintLast Go.Proofs.YtefiadocljnpjaaDoorW.PrintMore Go.Proofs.YtefiadocljnpjaaDoor.PK
set_option linter.unusedVariables false
set_option linter.unusedSimpArgs false
set_option maxHeartbeats 4000000
set_option maxRecDepth 100000
def cellsN (n : S48) : List Value := [.int .i64 n.f0, .string n.f1, .int .i64 n.f2]
theorem reps_lits (W : World) (base : Nat) (ok : Nat → Prop) (l : List S48) : Reps (k48.M W base ok) k48.sz l (l.flatMap cellsN) := by
  have h : ∀ (l acc : List S48), Reps (k48.M W base ok) k48.sz acc (acc.flatMap cellsN) → Reps (k48.M W base ok) k48.sz (acc ++ l) ((acc ++ l).flatMap cellsN) := by
    intro l
    induction l with
    | nil => intro acc h; rw [List.append_nil]; exact h
    | cons x l ih =>
      intro acc h
      have h2 := ih (acc ++ [x]) (by
        rw [List.flatMap_append]
        have := h.snoc (k48_mkM W base ok x) rfl
        simpa [cellsN] using this)
      rwa [List.append_assoc] at h2
  exact h l [] (Reps.none _ _)
theorem R_lits (W : World) (l : List S48) (base : Nat) (hb : base ≤ W.heap.size) (hl : l.length ≤ 1000000) (cs : Array Value) (hcs : cs = (l.flatMap cellsN).toArray) :
    Kd.R k48 48 (W.alloc (.cells cs 48)) base (fun _ => True) (.slice (some ⟨W.heap.size, 0, none⟩) l.length l.length) l := by
  subst hcs
  have hlen : (l.flatMap cellsN).length = l.length * 3 := by
    clear hb hl
    induction l with
    | nil => rfl
    | cons x l ih => rw [List.flatMap_cons, List.length_append, ih, List.length_cons]; simp [cellsN]; omega
  refine ⟨fun _ _ => trivial, l.flatMap cellsN, ?_, ?_⟩
  · have h2 := World.ownsRow_lit (base := base) (e := 48) (size := 3) W (l.flatMap cellsN).toArray l.length hb (by unfold maxLen; omega) (by simpa using hlen)
    exact h2
  · exact (reps_lits _ _ _ l)
def nd (a : Int) : S48 := ⟨a, ⟨#[]⟩, 0⟩
def nA : S48 := ⟨1, ⟨#[97]⟩, 0⟩
def L5 : List S48 := [nd 5, nA, nd 6, nd 2, nd 3]
theorem kids5 : kidsL L5 = [[nA], [nd 6, nd 2, nd 3]] := rfl
theorem size5 : size S48.f0 L5 = 5 := rfl
theorem dep5 : depth S48.f0 L5 = 3 := rfl
theorem size4 : size S48.f0 (L5.take 4) = 0 := rfl
theorem cnt5 : cntL L5 [2, 3] = 2 := by decide +kernel
theorem rtA : rt nA = true := by decide +kernel
theorem rt1 : rt (nd 1) = false := by decide +kernel
theorem rt2 : rt ⟨2, ⟨#[]⟩, 1⟩ = false := by decide +kernel
theorem wh5 : wh L5 = true := by decide +kernel
theorem wh4 : wh (L5.drop 1) = false := by decide +kernel
theorem same5 : same (nd 5 :: [[nA], [nd 6, nd 2, nd 3]].flatten) L5 = true := by decide +kernel
/-- The row of five nodes, in block g, and what lies as it was. -/
structure St (w W : World) (g : Nat) : Prop where
  c : Kd.C k48 W (some ⟨g, 0, none⟩) 5 L5
  l : Laid W
  b : Below w.heap.size w W
theorem St.below {w W W' : World} {g : Nat} (h : St w W g) (hb : Below W.heap.size W W') : St w W' g := ⟨Kd.C_below h.c hb, h.l.below hb, Aid_bthen h.b hb⟩
/-- The kids besides. -/
structure St2 (w W : World) (g : Nat) (A : Option Addr) (c : Nat) : Prop where
  s : St w W g
  k : Kd.C (Kd.slice 48 k48) W A 2 [[nA], [nd 6, nd 2, nd 3]]
  c : 2 ≤ c
theorem St2.below {w W W' : World} {g : Nat} {A : Option Addr} {c : Nat} (h : St2 w W g A c) (hb : Below W.heap.size W W') : St2 w W' g A c := ⟨h.s.below hb, Kd.C_below h.k hb, h.c⟩
section
variable {w W : World} {g : Nat} {A : Option Addr} {c : Nat}
theorem c42 (h : St w W g) : Calls Tryd.prog 42 #[.slice (some ⟨g, 0, none⟩) 5 5] W fun e W' => ∃ A c, e = .returned (.slice A 2 c) ∧ St2 w W' g A c := by
  refine (Kids (some ⟨g, 0, none⟩) 5 L5 W h.c (by decide) (by decide)).mono ?_
  rintro e W' ⟨A, c, rfl, hS, hB⟩
  have hr := Kd.S_reads' hS
  exact ⟨A, c, rfl, h.below hB, hr.2.2, hr.2.1⟩
theorem c36 (h : St2 w W g A c) : Calls Tryd.prog 36 #[.slice (some ⟨g, 0, none⟩) 5 5] W fun e W' => e = .returned (.int .i64 5) ∧ St2 w W' g A c := by
  refine (Size (some ⟨g, 0, none⟩) 5 L5 W h.s.c (by decide) (by decide)).mono ?_
  rintro e W' ⟨rfl, hB⟩
  exact ⟨by rw [size5]; rfl, h.below hB⟩
theorem c38 (h : St2 w W g A c) : Calls Tryd.prog 38 #[.slice (some ⟨g, 0, none⟩) 5 5] W fun e W' => e = .returned (.int .i64 3) ∧ St2 w W' g A c := by
  refine (Depth (some ⟨g, 0, none⟩) 5 L5 W h.s.c (by decide) (by decide)).mono ?_
  rintro e W' ⟨rfl, hB⟩
  exact ⟨by rw [dep5]; rfl, h.below hB⟩
theorem c40 (h : St2 w W g A c) : Calls Tryd.prog 40 #[.slice (some ⟨g, 0, none⟩) 5 5] W fun e W' => e = .returned (.bool true) ∧ St2 w W' g A c := by
  refine (Whole (some ⟨g, 0, none⟩) 5 L5 W h.s.l h.s.c (by decide)).mono ?_
  rintro e W' ⟨rfl, hB⟩
  exact ⟨by rw [wh5], h.below hB⟩
theorem c40d (h : St2 w W g A c) : Calls Tryd.prog 40 #[.slice (some ⟨g, 3, none⟩) 4 4] W fun e W' => e = .returned (.bool false) ∧ St2 w W' g A c := by
  have hd := Kd.C_drop h.s.c (m := 1) (by decide) (c := 5) (by decide)
  refine (Whole (some ⟨g, 3, none⟩) 4 (L5.drop 1) W h.s.l hd (by decide)).mono ?_
  rintro e W' ⟨rfl, hB⟩
  exact ⟨by rw [wh4], h.below hB⟩
theorem c36t (h : St2 w W g A c) : Calls Tryd.prog 36 #[.slice (some ⟨g, 0, none⟩) 4 5] W fun e W' => e = .returned (.int .i64 0) ∧ St2 w W' g A c := by
  have hd := Kd.C_take h.s.c (m := 4) (by decide)
  refine (Size (some ⟨g, 0, none⟩) 5 (L5.take 4) W hd (by decide) (by decide)).mono ?_
  rintro e W' ⟨rfl, hB⟩
  exact ⟨by rw [size4]; rfl, h.below hB⟩
theorem c45 (h : St2 w W g A c) : Calls Tryd.prog 45 #[.agg #[.int .i64 5, .string ⟨#[]⟩, .int .i64 0], .slice A 2 c] W fun e W' => ∃ A5 c5, e = .returned (.slice A5 5 c5) ∧ 5 ≤ c5 ∧ Kd.C k48 W' A5 5 (nd 5 :: [[nA], [nd 6, nd 2, nd 3]].flatten) ∧ St2 w W' g A c := by
  refine (Make (nd 5) A c [[nA], [nd 6, nd 2, nd 3]] W h.k h.c (by decide)).mono ?_
  rintro e W' ⟨v, rfl, hR, hB⟩
  obtain ⟨A5, c5, rfl⟩ := Kd.R_slice hR
  have hr := Kd.R_reads' hR
  exact ⟨A5, c5, rfl, hr.2.1, hr.2.2, h.below hB⟩
theorem c49 {A5 : Option Addr} {c5 : Nat} (h : St2 w W g A c) (h5 : 5 ≤ c5) (hC : Kd.C k48 W A5 5 (nd 5 :: [[nA], [nd 6, nd 2, nd 3]].flatten)) : Calls Tryd.prog 49 #[.slice A5 5 c5, .slice (some ⟨g, 0, none⟩) 5 5] W fun e W' => e = .returned (.bool true) ∧ St2 w W' g A c := by
  refine (Same A5 c5 _ (some ⟨g, 0, none⟩) 5 L5 W hC h5 h.s.c (by decide)).mono ?_
  rintro e W' ⟨rfl, hB⟩
  exact ⟨by rw [same5], h.below hB.below⟩
theorem c47 {A3 : Option Addr} {c3 : Nat} (h : St2 w W g A c) (h3 : 2 ≤ c3) (hC : Kd.C (Kd.int .i64) W A3 2 [2, 3]) : Calls Tryd.prog 47 #[.slice (some ⟨g, 0, none⟩) 5 5, .slice A3 2 c3] W fun e W' => e = .returned (.int .i64 2) ∧ St2 w W' g A c := by
  refine (Count (some ⟨g, 0, none⟩) 5 L5 A3 c3 [2, 3] W h.s.c (by decide) hC h3).mono ?_
  rintro e W' ⟨rfl, hB⟩
  exact ⟨by rw [cnt5]; rfl, h.below hB⟩
theorem c31 (h : St2 w W g A c) : Calls Tryd.prog 31 #[.int .i64 9] W fun e W' => e = .returned (.int .i64 1) ∧ St2 w W' g A c := by
  refine (Arity 9 W).mono ?_
  rintro e W' ⟨rfl, hB⟩
  exact ⟨rfl, h.below hB.below⟩
theorem c31z (h : St2 w W g A c) : Calls Tryd.prog 31 #[.int .i64 0] W fun e W' => e = .returned (.int .i64 (-1)) ∧ St2 w W' g A c := by
  refine (Arity 0 W).mono ?_
  rintro e W' ⟨rfl, hB⟩
  exact ⟨rfl, h.below hB.below⟩
theorem c33 (n : S48) (b : Bool) (hb : rt n = b) (h : St2 w W g A c) : Calls Tryd.prog 33 #[.agg #[.int .i64 n.f0, .string n.f1, .int .i64 n.f2]] W fun e W' => e = .returned (.bool b) ∧ St2 w W' g A c := by
  refine (Right n W h.s.l).mono ?_
  rintro e W' ⟨rfl, hB⟩
  exact ⟨by rw [hb], h.below hB⟩
theorem C_two (W : World) : Kd.C (Kd.int .i64) (W.alloc (.cells #[.int .i64 2, .int .i64 3] 3)) (some ⟨W.heap.size, 0, none⟩) 2 [2, 3] := by
  refine ⟨rfl, by decide, fun _ => ⟨_, rfl, fun j p hj => ?_⟩⟩
  match j, hj with
  | 0, hj => injection hj with hj; subst hj; exact ⟨[.int .i64 2], rfl, rfl, fun i u hu => by
      match i, hu with
      | 0, hu => injection hu with hu; subst hu; show (W.alloc _).cell? (Addr.add ⟨W.heap.size, 0, none⟩ 0) = _; rw [add_plain, cell_of_row _ _ _ _ _ _ (heap_new W _)]; rfl⟩
  | 1, hj => injection hj with hj; subst hj; exact ⟨[.int .i64 3], rfl, rfl, fun i u hu => by
      match i, hu with
      | 0, hu => injection hu with hu; subst hu; show (W.alloc _).cell? (Addr.add ⟨W.heap.size, 0, none⟩ 1) = _; rw [add_plain, cell_of_row _ _ _ _ _ _ (heap_new W _)]; rfl⟩
end
theorem kid_cells {w W : World} {g : Nat} {A : Option Addr} {c : Nat} (h : St2 w W g A c) : ∃ ad A0 c0, W.cell? ad = some (.slice A0 1 c0) ∧ ∃ A1 c1, W.cell? ⟨ad.block, ad.off + 1, none⟩ = some (.slice A1 3 c1) ∧ A = some ad := by
  obtain ⟨ad, A0, c0, e0, x0, _, _⟩ := at_L9 h.k 0 (by decide) (by decide)
  obtain ⟨ad1, A1, c1, e1, x1, _, _⟩ := at_L9 h.k 1 (by decide) (by decide)
  subst e0
  injection e1 with e1
  subst e1
  have h1 : ad.add (Int.toNat 1) = ⟨ad.block, ad.off + 1, none⟩ := by
    have := add_field ad 0 1 (by decide)
    rwa [Addr.add_zero'] at this
  rw [h1] at x1
  refine ⟨ad, A0, c0, ?_, A1, c1, x1, rfl⟩
  have : ad.add (Int.toNat 0) = ad := Addr.add_zero' ad
  rw [this] at x0
  exact x0
theorem node_cells {w W : World} {g : Nat} {A : Option Addr} {c : Nat} (h : St2 w W g A c) (j : Nat) (hj : j < 5) : W.cell? ⟨g, j * 3, none⟩ = some (.int .i64 (L5.getD j (nd 0)).f0) ∧ W.cell? ⟨g, j * 3 + 1, none⟩ = some (.string (L5.getD j (nd 0)).f1) ∧ W.cell? ⟨g, j * 3 + 2, none⟩ = some (.int .i64 (L5.getD j (nd 0)).f2) := by
  obtain ⟨ad2, e2, y0, y1, y2⟩ := at_T48 h.s.c (j : Int) (by omega) (by omega)
  injection e2 with e2
  subst e2
  rw [add_plain, Int.toNat_natCast] at y0 y1 y2
  have hr : rd_T48 L5 (j : Int) = L5.getD j (nd 0) := by unfold rd_T48; rw [Int.toNat_natCast]; rfl
  rw [hr] at y0 y1 y2
  exact ⟨y0, y1, y2⟩
theorem Alive (w : World) (h : Laid w) : Calls Tryd.prog 30 #[] w fun e w' => e = .returned (.bool true) ∧ Below w.heap.size w w' := by
  go_enter Tryd.func30, Tryd.ntmps30
  go_upto_region 2 with fail
  obtain ⟨g, hg⟩ : ∃ g, g = w.heap.size := ⟨_, rfl⟩
  obtain ⟨w1, hw1⟩ : ∃ w1, w1 = w.alloc (.cells #[.int .i64 5, .string ⟨#[]⟩, .int .i64 0, .int .i64 1, .string ⟨#[97]⟩, .int .i64 0, .int .i64 6, .string ⟨#[]⟩, .int .i64 0, .int .i64 2, .string ⟨#[]⟩, .int .i64 0, .int .i64 3, .string ⟨#[]⟩, .int .i64 0] 48) := ⟨_, rfl⟩
  have hS : St w w1 g := by
    have hr := R_lits w L5 w.heap.size (Nat.le_refl _) (by decide) #[.int .i64 5, .string ⟨#[]⟩, .int .i64 0, .int .i64 1, .string ⟨#[97]⟩, .int .i64 0, .int .i64 6, .string ⟨#[]⟩, .int .i64 0, .int .i64 2, .string ⟨#[]⟩, .int .i64 0, .int .i64 3, .string ⟨#[]⟩, .int .i64 0] rfl
    rw [← hw1, ← hg] at hr
    have hb : Below w.heap.size w w1 := by rw [hw1]; exact below_alloc (Below.refl _ _) _
    exact ⟨(Kd.R_reads' hr).2.2, h.below hb, hb⟩
  rw [← hw1, ← hg]
  clear hw1 hg h
  go_wp2_with fail
  refine (c42 hS).mono ?_; rintro e w2 ⟨A, c, rfl, hS2⟩
  clear hS
  go_wp2_with fail
  refine (c36 hS2).mono ?_; rintro e w3 ⟨rfl, hS3⟩
  clear hS2
  go_wp2_with fail
  refine (c38 hS3).mono ?_; rintro e w4 ⟨rfl, hS4⟩
  clear hS3
  go_wp2_with fail
  refine (c40 hS4).mono ?_; rintro e w5 ⟨rfl, hS5⟩
  clear hS4
  go_wp2_with fail
  refine (c40d hS5).mono ?_; rintro e w6 ⟨rfl, hS6⟩
  clear hS5
  go_wp2_with fail
  refine (c36t hS6).mono ?_; rintro e w7 ⟨rfl, hS7⟩
  clear hS6
  obtain ⟨ad, A0, c0, x0, A1, c1, x1, eA⟩ := kid_cells hS7
  subst eA
  have y0 : w7.cell? ⟨g, 0, none⟩ = some (.int .i64 5) := (node_cells hS7 0 (by decide)).1
  have y1 : w7.cell? ⟨g, 1, none⟩ = some (.string ⟨#[]⟩) := (node_cells hS7 0 (by decide)).2.1
  have y2 : w7.cell? ⟨g, 2, none⟩ = some (.int .i64 0) := (node_cells hS7 0 (by decide)).2.2
  go_wp2_with fail
  refine (c45 hS7).mono ?_; rintro e w8 ⟨A5, c5, rfl, h5, hC5, hS8⟩
  clear hS7 x0 x1 y0 y1 y2
  go_wp2_with fail
  refine (c49 hS8 h5 hC5).mono ?_; rintro e w9 ⟨rfl, hS9⟩
  clear hS8 hC5 h5
  go_wp2_with fail
  obtain ⟨x, hx⟩ : ∃ x, x = w9.heap.size := ⟨_, rfl⟩
  obtain ⟨w10, hw10⟩ : ∃ w10, w10 = w9.alloc (.cells #[.int .i64 2, .int .i64 3] 3) := ⟨_, rfl⟩
  have hC2 := C_two w9
  have hS10 := hS9.below (below_alloc (Below.refl _ _) (.cells #[.int .i64 2, .int .i64 3] 3))
  rw [← hw10] at hC2 hS10 ⊢
  rw [← hx] at hC2 ⊢
  clear hw10 hx hS9
  refine (c47 hS10 (by decide) hC2).mono ?_; rintro e w11 ⟨rfl, hS11⟩
  clear hS10 hC2
  go_wp2_with fail
  refine (c31 hS11).mono ?_; rintro e w12 ⟨rfl, hS12⟩
  clear hS11
  go_wp2_with fail
  refine (c31z hS12).mono ?_; rintro e w13 ⟨rfl, hS13⟩
  clear hS12
  have y0 : w13.cell? ⟨g, 3, none⟩ = some (.int .i64 1) := (node_cells hS13 1 (by decide)).1
  have y1 : w13.cell? ⟨g, 4, none⟩ = some (.string ⟨#[97]⟩) := (node_cells hS13 1 (by decide)).2.1
  have y2 : w13.cell? ⟨g, 5, none⟩ = some (.int .i64 0) := (node_cells hS13 1 (by decide)).2.2
  go_wp2_with fail
  refine (c33 nA _ rtA hS13).mono ?_; rintro e w14 ⟨rfl, hS14⟩
  clear hS13 y0 y1 y2
  go_wp2_with fail
  refine (c33 (nd 1) _ rt1 hS14).mono ?_; rintro e w15 ⟨rfl, hS15⟩
  clear hS14
  go_wp2_with fail
  refine (c33 ⟨2, ⟨#[]⟩, 1⟩ _ rt2 hS15).mono ?_; rintro e w16 ⟨rfl, hS16⟩
  clear hS15
  go_wp2_with fail
  go_ret
  exact ⟨rfl, hS16.s.b⟩
end Go.Proofs.YtefiadocljnpjaaDoor.Row
/- RowTrees: the law, walked by hand. -/
namespace Go.Proofs.YtefiadocljnpjaaDoor.Row
open Go.Proofs.Tree Go.RowKit Go.Proofs.YtefiadocljnpjaaDoorW.PrintWords Go.Proofs.YtefiadocljnpjaaDoorW.PrintLast Go.Proofs.YtefiadocljnpjaaDoorW.PrintMore Go.Proofs.YtefiadocljnpjaaDoor.PK
set_option linter.unusedVariables false
set_option linter.unusedSimpArgs false
set_option maxHeartbeats 4000000
set_option maxRecDepth 100000
theorem Few (A0 : Option Addr) (c0 : Nat) (l0 : List S48) (w : World) (hr0 : Kd.C k48 w A0 l0.length l0) (hc0 : l0.length ≤ c0) : Calls Tryd.prog 35 #[.slice A0 l0.length c0] w fun e w' => e = .returned (.bool (decide (l0.length ≤ 250))) ∧ Drawn0 w w' := by
  refine (redresslaw03_few.calls A0 c0 l0 _ w hr0 hc0 rfl).mono ?_
  rintro e w' ⟨rfl, hd⟩
  refine ⟨?_, hd⟩
  rw [show decide ((l0.length : Int) ≤ 250) = decide (l0.length ≤ 250) by
    by_cases h : l0.length ≤ 250
    · rw [decide_eq_true h, decide_eq_true (by omega)]
    · rw [decide_eq_false h, decide_eq_false (by omega)]]
/-- A row that came in, and what lies as it was. -/
structure In1 (w W : World) (A : Option Addr) (l : List S48) : Prop where
  c : Kd.C k48 W A l.length l
  l : Laid W
  b : Below w.heap.size w W
theorem In1.below {w W W' : World} {A : Option Addr} {l : List S48} (h : In1 w W A l) (hb : Below W.heap.size W W') : In1 w W' A l := ⟨Kd.C_below h.c hb, h.l.below hb, Aid_bthen h.b hb⟩
section
variable {w W : World} {A : Option Addr} {l : List S48} {c : Nat}
theorem d35 (hc : l.length ≤ c) (h : In1 w W A l) : Calls Tryd.prog 35 #[.slice A l.length c] W fun e W' => e = .returned (.bool (decide (l.length ≤ 250))) ∧ In1 w W' A l :=
  (Few A c l W h.c hc).mono fun e W' ⟨he, hd⟩ => ⟨he, h.below hd.below⟩
theorem d30 (h : In1 w W A l) : Calls Tryd.prog 30 #[] W fun e W' => e = .returned (.bool true) ∧ In1 w W' A l :=
  (Alive W h.l).mono fun e W' ⟨he, hd⟩ => ⟨he, h.below hd⟩
theorem d36 (hc : l.length ≤ c) (h : In1 w W A l) (hl : l.length ≤ 1000000) : Calls Tryd.prog 36 #[.slice A l.length c] W fun e W' => e = .returned (.int .i64 (size S48.f0 l : Int)) ∧ In1 w W' A l :=
  (Size A c l W h.c hc (by omega)).mono fun e W' ⟨he, hd⟩ => ⟨he, h.below hd⟩
theorem d37 (hc : l.length ≤ c) (h : In1 w W A l) (hl : l.length ≤ 1000000) : Calls Tryd.prog 37 #[.slice A l.length c] W fun e W' => e = .returned (.int .i64 (size S48.f0 l : Int)) ∧ In1 w W' A l :=
  (RefSize A c l W h.c hc (by omega)).mono fun e W' ⟨he, hd⟩ => ⟨he, h.below hd.below⟩
theorem d38 (hc : l.length ≤ c) (h : In1 w W A l) (hl : l.length ≤ 1000000) : Calls Tryd.prog 38 #[.slice A l.length c] W fun e W' => e = .returned (.int .i64 (depth S48.f0 l : Int)) ∧ In1 w W' A l :=
  (Depth A c l W h.c hc (by omega)).mono fun e W' ⟨he, hd⟩ => ⟨he, h.below hd⟩
theorem d39 (hc : l.length ≤ c) (h : In1 w W A l) (hl : l.length ≤ 1000000) : Calls Tryd.prog 39 #[.slice A l.length c] W fun e W' => e = .returned (.int .i64 (depth S48.f0 l : Int)) ∧ In1 w W' A l :=
  (RefDepth A c l W h.c hc (by omega)).mono fun e W' ⟨he, hd⟩ => ⟨he, h.below hd.below⟩
theorem d40 (hc : l.length ≤ c) (h : In1 w W A l) : Calls Tryd.prog 40 #[.slice A l.length c] W fun e W' => e = .returned (.bool (wh l)) ∧ In1 w W' A l :=
  (Whole A c l W h.l h.c hc).mono fun e W' ⟨he, hd⟩ => ⟨he, h.below hd⟩
theorem d41 (hc : l.length ≤ c) (h : In1 w W A l) (hl : l.length ≤ 1000000) (hs : ∀ n ∈ l, n.f1.size ≤ 9223372036854775807) : Calls Tryd.prog 41 #[.slice A l.length c] W fun e W' => e = .returned (.bool (wh l)) ∧ In1 w W' A l :=
  (RefWhole A c l W h.c hc (by omega) hs).mono fun e W' ⟨he, hd⟩ => ⟨he, h.below hd⟩
end
theorem RowTrees (A : Option Addr) (c : Nat) (l : List S48) (w : World) (hL : Laid w) (hC : Kd.C k48 w A l.length l) (hc : l.length ≤ c) (hs : ∀ n ∈ l, n.f1.size ≤ maxLen) :
    Calls Tryd.prog 10 #[.slice A l.length c] w fun e w' => e = .returned (.bool true) ∧ Below w.heap.size w w' := by
  have h0 : In1 w w A l := ⟨hC, hL, Below.refl _ _⟩
  have HS := Aside0.mk (show ∀ n ∈ l, n.f1.size ≤ 9223372036854775807 from hs)
  clear hL hC hs
  by_cases hf : l.length ≤ 250
  · have c1 : decide (l.length ≤ 250) = true := decide_eq_true hf
    have HF := Aside0.mk (show l.length ≤ 1000000 by omega)
    clear hf
    go_enter Tryd.func10, Tryd.ntmps10
    go_wp2_with fail
    refine (d35 hc h0).mono ?_; rintro e w1 ⟨rfl, h1⟩
    clear h0
    go_wp2_with fail
    refine (d30 h1).mono ?_; rintro e w2 ⟨rfl, h2⟩
    clear h1
    go_wp2_with fail
    refine (d36 hc h2 HF.out).mono ?_; rintro e w3 ⟨rfl, h3⟩
    clear h2
    go_wp2_with fail
    refine (d37 hc h3 HF.out).mono ?_; rintro e w4 ⟨rfl, h4⟩
    clear h3
    go_wp2_with fail
    refine (d38 hc h4 HF.out).mono ?_; rintro e w5 ⟨rfl, h5⟩
    clear h4
    go_wp2_with fail
    refine (d39 hc h5 HF.out).mono ?_; rintro e w6 ⟨rfl, h6⟩
    clear h5
    go_wp2_with fail
    refine (d40 hc h6).mono ?_; rintro e w7 ⟨rfl, h7⟩
    clear h6
    go_wp2_with fail
    refine (d41 hc h7 HF.out HS.out).mono ?_; rintro e w8 ⟨rfl, h8⟩
    clear h7
    go_wp2_with fail
    go_ret
    exact ⟨by simp, h8.b⟩
  · have c1 : decide (l.length ≤ 250) = false := decide_eq_false hf
    clear hf
    go_enter Tryd.func10, Tryd.ntmps10
    go_wp2_with fail
    refine (d35 hc h0).mono ?_; rintro e w1 ⟨rfl, h1⟩
    clear h0
    go_wp2_with fail
    refine (d30 h1).mono ?_; rintro e w2 ⟨rfl, h2⟩
    clear h1
    go_wp2_with fail
    go_ret
    exact ⟨rfl, h2.b⟩
end Go.Proofs.YtefiadocljnpjaaDoor.Row
