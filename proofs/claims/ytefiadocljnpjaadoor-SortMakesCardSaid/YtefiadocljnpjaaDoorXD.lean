/- Layer 4's law package: alive, walked by hand. -/
import Derived.Test.YtefiadocljnpjaaDoorXB
namespace Go.Proofs.YtefiadocljnpjaaDoor.Row
open Go.Proofs.Tree Go.RowKit Go.Proofs.YtefiadocljnpjaaDoorW.PrintWords Go.Proofs.YtefiadocljnpjaaDoorW.PrintLast Go.Proofs.YtefiadocljnpjaaDoorW.PrintMore Go.Proofs.YtefiadocljnpjaaDoor.PK
set_option linter.unusedVariables false
set_option linter.unusedSimpArgs false
set_option maxHeartbeats 4000000
set_option maxRecDepth 100000
def nB : S48 := ⟨1, ⟨#[98]⟩, 0⟩
def M4 : List S48 := [nd 9, nd 10, nA, nB]
def M3 : List S48 := [nd 5, ⟨11, ⟨#[]⟩, 1⟩, nA]
def M2 : List S48 := [⟨14, ⟨#[]⟩, 1⟩, nA]
def M5 : List S48 := [nd 5, nd 10, nA, nB, nA]
def M1 : List S48 := [nA]
theorem v4 : ofV M4 = 1 := by decide +kernel
theorem v4d : ofV (M4.drop 1) = 2 := by decide +kernel
theorem v3 : ofV M3 = 3 := by decide +kernel
theorem v2 : ofV M2 = 4 := by decide +kernel
theorem v5 : ofV M5 = 0 := by decide +kernel
theorem r4 : rtV M4 = true := by decide +kernel
theorem r0 : rtV [] = false := by decide +kernel
theorem aL : actsL (M4 ++ M1) [] = [⟨#[97]⟩, ⟨#[98]⟩] := by decide +kernel
/-- The two nodes, the two rows, and what lies as it was. -/
structure Sa (w W : World) (ga gb g4 g3 : Nat) : Prop where
  a : Kd.C k48 W (some ⟨ga, 0, none⟩) 1 [nA]
  b : Kd.C k48 W (some ⟨gb, 0, none⟩) 1 [nB]
  m4 : Kd.C k48 W (some ⟨g4, 0, none⟩) 4 M4
  m3 : Kd.C k48 W (some ⟨g3, 0, none⟩) 3 M3
  l : Laid W
  bl : Below w.heap.size w W
theorem Sa.below {w W W' : World} {ga gb g4 g3 : Nat} (h : Sa w W ga gb g4 g3) (hb : Below W.heap.size W W') : Sa w W' ga gb g4 g3 := ⟨Kd.C_below h.a hb, Kd.C_below h.b hb, Kd.C_below h.m4 hb, Kd.C_below h.m3 hb, h.l.below hb, Aid_bthen h.bl hb⟩
theorem lits (W : World) (l : List S48) (cs : Array Value) (n : Nat) (hn : n = l.length) (hl : l.length ≤ 1000000) (hcs : cs = (l.flatMap cellsN).toArray) : Kd.C k48 (W.alloc (.cells cs 48)) (some ⟨W.heap.size, 0, none⟩) n l := by
  subst hn
  exact (Kd.R_reads' (R_lits W l W.heap.size (Nat.le_refl _) hl cs hcs)).2.2
theorem al (W : World) (o : Obj) : Below W.heap.size W (W.alloc o) := below_alloc (Below.refl _ _) _
theorem Sa.start (w : World) (h : Laid w) : Sa w ((((w.alloc (.cells #[.int .i64 1, .string ⟨#[97]⟩, .int .i64 0] 48)).alloc (.cells #[.int .i64 1, .string ⟨#[98]⟩, .int .i64 0] 48)).alloc (.cells #[.int .i64 9, .string ⟨#[]⟩, .int .i64 0, .int .i64 10, .string ⟨#[]⟩, .int .i64 0, .int .i64 1, .string ⟨#[97]⟩, .int .i64 0, .int .i64 1, .string ⟨#[98]⟩, .int .i64 0] 48)).alloc (.cells #[.int .i64 5, .string ⟨#[]⟩, .int .i64 0, .int .i64 11, .string ⟨#[]⟩, .int .i64 1, .int .i64 1, .string ⟨#[97]⟩, .int .i64 0] 48)) w.heap.size (w.heap.size + 1) (w.heap.size + 1 + 1) (w.heap.size + 1 + 1 + 1) := by
  obtain ⟨w1, h1⟩ : ∃ w1, w1 = w.alloc (.cells #[.int .i64 1, .string ⟨#[97]⟩, .int .i64 0] 48) := ⟨_, rfl⟩
  have a1 := lits w [nA] #[.int .i64 1, .string ⟨#[97]⟩, .int .i64 0] 1 rfl (by decide) rfl
  have b1 := al w (.cells #[.int .i64 1, .string ⟨#[97]⟩, .int .i64 0] 48)
  have e1 : w1.heap.size = w.heap.size + 1 := by rw [h1]; exact Array.size_push _
  rw [← h1] at a1 b1 ⊢
  obtain ⟨w2, h2⟩ : ∃ w2, w2 = w1.alloc (.cells #[.int .i64 1, .string ⟨#[98]⟩, .int .i64 0] 48) := ⟨_, rfl⟩
  have a2 := lits w1 [nB] #[.int .i64 1, .string ⟨#[98]⟩, .int .i64 0] 1 rfl (by decide) rfl
  have b2 := al w1 (.cells #[.int .i64 1, .string ⟨#[98]⟩, .int .i64 0] 48)
  have e2 : w2.heap.size = w1.heap.size + 1 := by rw [h2]; exact Array.size_push _
  rw [← h2] at a2 b2 ⊢
  obtain ⟨w3, h3⟩ : ∃ w3, w3 = w2.alloc (.cells #[.int .i64 9, .string ⟨#[]⟩, .int .i64 0, .int .i64 10, .string ⟨#[]⟩, .int .i64 0, .int .i64 1, .string ⟨#[97]⟩, .int .i64 0, .int .i64 1, .string ⟨#[98]⟩, .int .i64 0] 48) := ⟨_, rfl⟩
  have a3 := lits w2 M4 #[.int .i64 9, .string ⟨#[]⟩, .int .i64 0, .int .i64 10, .string ⟨#[]⟩, .int .i64 0, .int .i64 1, .string ⟨#[97]⟩, .int .i64 0, .int .i64 1, .string ⟨#[98]⟩, .int .i64 0] 4 rfl (by decide) rfl
  have b3 := al w2 (.cells #[.int .i64 9, .string ⟨#[]⟩, .int .i64 0, .int .i64 10, .string ⟨#[]⟩, .int .i64 0, .int .i64 1, .string ⟨#[97]⟩, .int .i64 0, .int .i64 1, .string ⟨#[98]⟩, .int .i64 0] 48)
  have e3 : w3.heap.size = w2.heap.size + 1 := by rw [h3]; exact Array.size_push _
  rw [← h3] at a3 b3 ⊢
  obtain ⟨w4, h4⟩ : ∃ w4, w4 = w3.alloc (.cells #[.int .i64 5, .string ⟨#[]⟩, .int .i64 0, .int .i64 11, .string ⟨#[]⟩, .int .i64 1, .int .i64 1, .string ⟨#[97]⟩, .int .i64 0] 48) := ⟨_, rfl⟩
  have a4 := lits w3 M3 #[.int .i64 5, .string ⟨#[]⟩, .int .i64 0, .int .i64 11, .string ⟨#[]⟩, .int .i64 1, .int .i64 1, .string ⟨#[97]⟩, .int .i64 0] 3 rfl (by decide) rfl
  have b4 := al w3 (.cells #[.int .i64 5, .string ⟨#[]⟩, .int .i64 0, .int .i64 11, .string ⟨#[]⟩, .int .i64 1, .int .i64 1, .string ⟨#[97]⟩, .int .i64 0] 48)
  rw [← h4] at a4 b4 ⊢
  rw [← e1, ← e2, ← e3]
  have b14 := Aid_bthen (Aid_bthen (Aid_bthen b1 b2) b3) b4
  exact ⟨Kd.C_below (Kd.C_below (Kd.C_below a1 b2) b3) b4, Kd.C_below (Kd.C_below a2 b3) b4, Kd.C_below a3 b4, a4, h.below b14, b14⟩
section
variable {w W : World} {ga gb g4 g3 : Nat}
theorem k52 {A : Option Addr} {c n : Nat} (l : List S48) (v : Int) (hv : ofV l = v) (h : Sa w W ga gb g4 g3) (hC : Kd.C k48 W A n l) (hn : n = l.length) (hc : n ≤ c) : Calls Tryd.prog 52 #[.slice A n c] W fun e W' => e = .returned (.int .i64 v) ∧ Sa w W' ga gb g4 g3 := by
  subst hn hv
  exact (Of A c l W h.l hC hc).mono fun e W' ⟨he, hb⟩ => ⟨he, h.below hb⟩
theorem k54 {A : Option Addr} {c n : Nat} (l : List S48) (p r : Bool) (hv : onV p (ofV l) = r) (h : Sa w W ga gb g4 g3) (hC : Kd.C k48 W A n l) (hn : n = l.length) (hc : n ≤ c) : Calls Tryd.prog 54 #[.slice A n c, .bool p] W fun e W' => e = .returned (.bool r) ∧ Sa w W' ga gb g4 g3 := by
  subst hn hv
  exact (On p A c l W h.l hC hc).mono fun e W' ⟨he, hb⟩ => ⟨he, h.below hb⟩
theorem k56 {A : Option Addr} {c n : Nat} (l : List S48) (r : Bool) (hv : decide (ofV l = 1) = r) (h : Sa w W ga gb g4 g3) (hC : Kd.C k48 W A n l) (hn : n = l.length) (hc : n ≤ c) : Calls Tryd.prog 56 #[.slice A n c] W fun e W' => e = .returned (.bool r) ∧ Sa w W' ga gb g4 g3 := by
  subst hn hv
  exact (Term A c l W h.l hC hc).mono fun e W' ⟨he, hb⟩ => ⟨he, h.below hb⟩
theorem k57 {A : Option Addr} {c n : Nat} (l : List S48) (r : Bool) (hv : rtV l = r) (h : Sa w W ga gb g4 g3) (hC : Kd.C k48 W A n l) (hn : n = l.length) (hc : n ≤ c) (hl : l.length ≤ 1000000) : Calls Tryd.prog 57 #[.slice A n c] W fun e W' => e = .returned (.bool r) ∧ Sa w W' ga gb g4 g3 := by
  subst hn hv
  exact (SRight A c l W h.l hC hc hl).mono fun e W' ⟨he, hb⟩ => ⟨he, h.below hb⟩
theorem at1 {g : Nat} {n : S48} (h : Kd.C k48 W (some ⟨g, 0, none⟩) 1 [n]) : W.cell? ⟨g, 0, none⟩ = some (.int .i64 n.f0) ∧ W.cell? ⟨g, 1, none⟩ = some (.string n.f1) ∧ W.cell? ⟨g, 2, none⟩ = some (.int .i64 n.f2) := by
  obtain ⟨ad2, e2, y0, y1, y2⟩ := at_T48 h 0 (by omega) (by decide)
  injection e2 with e2
  subst e2
  exact ⟨y0, y1, y2⟩
theorem at4 {g : Nat} {l : List S48} {n : Nat} (h : Kd.C k48 W (some ⟨g, 0, none⟩) n l) (j : Nat) (hj : j < n) : W.cell? ⟨g, j * 3, none⟩ = some (.int .i64 (l.getD j (nd 0)).f0) ∧ W.cell? ⟨g, j * 3 + 1, none⟩ = some (.string (l.getD j (nd 0)).f1) ∧ W.cell? ⟨g, j * 3 + 2, none⟩ = some (.int .i64 (l.getD j (nd 0)).f2) := by
  have hn := h.1
  obtain ⟨ad2, e2, y0, y1, y2⟩ := at_T48 h (j : Int) (by omega) (by omega)
  injection e2 with e2
  subst e2
  rw [add_plain, Int.toNat_natCast] at y0 y1 y2
  have hr : rd_T48 l (j : Int) = l.getD j (nd 0) := by unfold rd_T48; rw [Int.toNat_natCast]; rfl
  rw [hr] at y0 y1 y2
  exact ⟨y0, y1, y2⟩
end
theorem lits_more (W : World) (l : List S48) (n : Nat) (hn : n = l.length) (hl : l.length ≤ 1000000) (rest a b : Array Value) (hcs : a ++ b = (l.flatMap cellsN).toArray) : Kd.C k48 (W.alloc (.cells (a ++ (b ++ rest)) 48)) (some ⟨W.heap.size, 0, none⟩) n l := by
  have h := lits W l _ n hn hl hcs
  refine ⟨h.1, h.2.1, fun hn => ?_⟩
  obtain ⟨ad, e, hc⟩ := h.2.2 hn
  injection e with e
  subst e
  refine ⟨_, rfl, fun j p hj => ?_⟩
  obtain ⟨c, hs, hr, hcell⟩ := hc j p hj
  refine ⟨c, hs, by rw [k48_open hr]; exact k48_mk _ p, fun i u hu => ?_⟩
  have hcu := hcell i u hu
  rw [add_plain, cell_of_row _ _ _ _ _ _ (heap_new W _)] at hcu ⊢
  rw [← Array.append_assoc]
  have hlt : _ < (a ++ b).size := (Array.getElem?_eq_some_iff.mp hcu).1
  rw [Array.getElem?_append_left hlt]
  exact hcu
theorem C_twoS (W : World) (a b : ByteArray) : Kd.C Kd.string (W.alloc (.cells #[.string a, .string b] 9)) (some ⟨W.heap.size, 0, none⟩) 2 [a, b] := by
  refine ⟨rfl, by decide, fun _ => ⟨_, rfl, fun j p hj => ?_⟩⟩
  match j, hj with
  | 0, hj => injection hj with hj; subst hj; exact ⟨[.string a], rfl, rfl, fun i u hu => by
      match i, hu with
      | 0, hu => injection hu with hu; subst hu; show (W.alloc _).cell? (Addr.add ⟨W.heap.size, 0, none⟩ 0) = _; rw [add_plain, cell_of_row _ _ _ _ _ _ (heap_new W _)]; rfl⟩
  | 1, hj => injection hj with hj; subst hj; exact ⟨[.string b], rfl, rfl, fun i u hu => by
      match i, hu with
      | 0, hu => injection hu with hu; subst hu; show (W.alloc _).cell? (Addr.add ⟨W.heap.size, 0, none⟩ 1) = _; rw [add_plain, cell_of_row _ _ _ _ _ _ (heap_new W _)]; rfl⟩
theorem cap_ge (n : Nat) : 5 ≤ (Question.appendCap 5 4 48).cut n := by
  unfold Question.cut; simp only []; omega
theorem Alive4 (w : World) (h : Laid w) : Calls Tryd.prog 51 #[] w fun e w' => e = .returned (.bool true) ∧ Below w.heap.size w w' := by
  have hS := Sa.start w h
  clear h
  go_enter Tryd.func51, Tryd.ntmps51
  go_upto_region 4 with fail
  obtain ⟨w4, hw4⟩ : ∃ w4, w4 = (((w.alloc (.cells #[.int .i64 1, .string ⟨#[97]⟩, .int .i64 0] 48)).alloc (.cells #[.int .i64 1, .string ⟨#[98]⟩, .int .i64 0] 48)).alloc (.cells #[.int .i64 9, .string ⟨#[]⟩, .int .i64 0, .int .i64 10, .string ⟨#[]⟩, .int .i64 0, .int .i64 1, .string ⟨#[97]⟩, .int .i64 0, .int .i64 1, .string ⟨#[98]⟩, .int .i64 0] 48)).alloc (.cells #[.int .i64 5, .string ⟨#[]⟩, .int .i64 0, .int .i64 11, .string ⟨#[]⟩, .int .i64 1, .int .i64 1, .string ⟨#[97]⟩, .int .i64 0] 48) := ⟨_, rfl⟩
  rw [← hw4] at hS ⊢
  obtain ⟨g3, eg3⟩ : ∃ g, g = w.heap.size + 1 + 1 + 1 := ⟨_, rfl⟩
  rw [← eg3] at hS ⊢
  obtain ⟨g4, eg4⟩ : ∃ g, g = w.heap.size + 1 + 1 := ⟨_, rfl⟩
  rw [← eg4] at hS ⊢
  obtain ⟨gb, egb⟩ : ∃ g, g = w.heap.size + 1 := ⟨_, rfl⟩
  rw [← egb] at hS ⊢
  obtain ⟨ga, ega⟩ : ∃ g, g = w.heap.size := ⟨_, rfl⟩
  rw [← ega] at hS ⊢
  clear hw4 eg3 eg4 egb ega
  go_wp2_with fail
  refine (k52 M4 1 v4 hS hS.m4 rfl (by decide)).mono ?_; rintro e w5 ⟨rfl, hS5⟩
  clear hS
  go_wp2_with fail
  refine (k52 (M4.drop 1) 2 v4d hS5 (Kd.C_drop hS5.m4 (m := 1) (by decide) (c := 4) (by decide)) rfl (by decide)).mono ?_; rintro e w6 ⟨rfl, hS6⟩
  clear hS5
  go_wp2_with fail
  refine (k52 M3 3 v3 hS6 hS6.m3 rfl (by decide)).mono ?_; rintro e w7 ⟨rfl, hS7⟩
  clear hS6
  obtain ⟨x0, x1, x2⟩ := at1 hS7.a
  go_wp2_with fail
  have hC := lits w7 M2 #[.int .i64 14, .string ⟨#[]⟩, .int .i64 1, .int .i64 1, .string ⟨#[97]⟩, .int .i64 0] 2 rfl (by decide) rfl
  have hT := hS7.below (al w7 (.cells #[.int .i64 14, .string ⟨#[]⟩, .int .i64 1, .int .i64 1, .string ⟨#[97]⟩, .int .i64 0] 48))
  refine (k52 M2 4 v2 hT hC rfl (by decide)).mono ?_; rintro e w8 ⟨rfl, hS8⟩
  clear hS7 hT hC x0 x1 x2
  obtain ⟨x0, x1, x2⟩ := at1 hS8.a
  obtain ⟨z0, z1, z2⟩ := at1 hS8.b
  go_wp2_with fail
  have hC := lits w8 M5 #[.int .i64 5, .string ⟨#[]⟩, .int .i64 0, .int .i64 10, .string ⟨#[]⟩, .int .i64 0, .int .i64 1, .string ⟨#[97]⟩, .int .i64 0, .int .i64 1, .string ⟨#[98]⟩, .int .i64 0, .int .i64 1, .string ⟨#[97]⟩, .int .i64 0] 5 rfl (by decide) rfl
  have hT := hS8.below (al w8 (.cells #[.int .i64 5, .string ⟨#[]⟩, .int .i64 0, .int .i64 10, .string ⟨#[]⟩, .int .i64 0, .int .i64 1, .string ⟨#[97]⟩, .int .i64 0, .int .i64 1, .string ⟨#[98]⟩, .int .i64 0, .int .i64 1, .string ⟨#[97]⟩, .int .i64 0] 48))
  refine (k52 M5 0 v5 hT hC rfl (by decide)).mono ?_; rintro e w9 ⟨rfl, hS9⟩
  clear hS8 hT hC x0 x1 x2 z0 z1 z2
  go_wp2_with fail
  refine (k56 M4 true (by rw [v4]; rfl) hS9 hS9.m4 rfl (by decide)).mono ?_; rintro e w10 ⟨rfl, hS10⟩
  clear hS9
  go_wp2_with fail
  refine (k56 M3 false (by rw [v3]; rfl) hS10 hS10.m3 rfl (by decide)).mono ?_; rintro e w11 ⟨rfl, hS11⟩
  clear hS10
  go_wp2_with fail
  refine (k54 M3 false true (by rw [v3]; rfl) hS11 hS11.m3 rfl (by decide)).mono ?_; rintro e w12 ⟨rfl, hS12⟩
  clear hS11
  go_wp2_with fail
  refine (k54 M3 true false (by rw [v3]; rfl) hS12 hS12.m3 rfl (by decide)).mono ?_; rintro e w13 ⟨rfl, hS13⟩
  clear hS12
  go_wp2_with fail
  refine (k54 (M4.drop 1) true true (by rw [v4d]; rfl) hS13 (Kd.C_drop hS13.m4 (m := 1) (by decide) (c := 4) (by decide)) rfl (by decide)).mono ?_; rintro e w14 ⟨rfl, hS14⟩
  clear hS13
  go_wp2_with fail
  refine (k57 M4 true r4 hS14 hS14.m4 rfl (by decide) (by decide)).mono ?_; rintro e w15 ⟨rfl, hS15⟩
  clear hS14
  go_wp2_with fail
  refine (k57 [] false r0 hS15 (Kd.C_nil _ _) rfl (by decide) (by decide)).mono ?_; rintro e w16 ⟨rfl, hS16⟩
  clear hS15
  have x0 : w16.cell? ⟨ga, 0, none⟩ = some (.int .i64 1) := (at1 hS16.a).1
  have x1 : w16.cell? ⟨ga, 1, none⟩ = some (.string ⟨#[97]⟩) := (at1 hS16.a).2.1
  have x2 : w16.cell? ⟨ga, 2, none⟩ = some (.int .i64 0) := (at1 hS16.a).2.2
  have hC := lits w16 M1 #[.int .i64 1, .string ⟨#[97]⟩, .int .i64 0] 1 rfl (by decide) rfl
  have hT := hS16.below (al w16 (.cells #[.int .i64 1, .string ⟨#[97]⟩, .int .i64 0] 48))
  obtain ⟨w17, hw17⟩ : ∃ w17, w17 = w16.alloc (.cells #[.int .i64 1, .string ⟨#[97]⟩, .int .i64 0] 48) := ⟨_, rfl⟩
  rw [← hw17] at hC hT
  have y0 : w17.cell? ⟨g4, 0, none⟩ = some (.int .i64 9) := (at4 hT.m4 0 (by decide)).1
  have y1 : w17.cell? ⟨g4, 1, none⟩ = some (.string ⟨#[]⟩) := (at4 hT.m4 0 (by decide)).2.1
  have y2 : w17.cell? ⟨g4, 2, none⟩ = some (.int .i64 0) := (at4 hT.m4 0 (by decide)).2.2
  have y3 : w17.cell? ⟨g4, 3, none⟩ = some (.int .i64 10) := (at4 hT.m4 1 (by decide)).1
  have y4 : w17.cell? ⟨g4, 4, none⟩ = some (.string ⟨#[]⟩) := (at4 hT.m4 1 (by decide)).2.1
  have y5 : w17.cell? ⟨g4, 5, none⟩ = some (.int .i64 0) := (at4 hT.m4 1 (by decide)).2.2
  have y6 : w17.cell? ⟨g4, 6, none⟩ = some (.int .i64 1) := (at4 hT.m4 2 (by decide)).1
  have y7 : w17.cell? ⟨g4, 7, none⟩ = some (.string ⟨#[97]⟩) := (at4 hT.m4 2 (by decide)).2.1
  have y8 : w17.cell? ⟨g4, 8, none⟩ = some (.int .i64 0) := (at4 hT.m4 2 (by decide)).2.2
  have y9 : w17.cell? ⟨g4, 9, none⟩ = some (.int .i64 1) := (at4 hT.m4 3 (by decide)).1
  have y10 : w17.cell? ⟨g4, 10, none⟩ = some (.string ⟨#[98]⟩) := (at4 hT.m4 3 (by decide)).2.1
  have y11 : w17.cell? ⟨g4, 11, none⟩ = some (.int .i64 0) := (at4 hT.m4 3 (by decide)).2.2
  rw [hw17] at y0 y1 y2 y3 y4 y5 y6 y7 y8 y9 y10 y11
  go_wp2_with fail
  obtain ⟨z, hz⟩ : ∃ z, z = (Question.appendCap 5 4 48).cut (w16.tape w16.drawn (Question.appendCap 5 4 48)) := ⟨_, rfl⟩
  have hz5 : 5 ≤ z := by rw [hz]; exact cap_ge _
  rw [← hz, ← hw17]
  have e17 : w16.heap.size + 1 = w17.heap.size := by rw [hw17]; exact (Array.size_push _).symm
  rw [e17]
  rw [← hw17] at y0 y1 y2 y3 y4 y5 y6 y7 y8 y9 y10 y11
  clear y0 y1 y2 y3 y4 y5 y6 y7 y8 y9 y10 y11 x0 x1 x2 hC hw17 hS16 e17 hz
  have hC5 := lits_more w17 (M4 ++ M1) 5 rfl (by decide) (Builtin.zeroCells #[.int .i64 0, .string ⟨#[]⟩, .int .i64 0] (z - 5)) #[.int .i64 9, .string ⟨#[]⟩, .int .i64 0, .int .i64 10, .string ⟨#[]⟩, .int .i64 0, .int .i64 1, .string ⟨#[97]⟩, .int .i64 0, .int .i64 1, .string ⟨#[98]⟩, .int .i64 0] #[.int .i64 1, .string ⟨#[97]⟩, .int .i64 0] rfl
  have hT5 := hT.below (al w17 (.cells (#[.int .i64 9, .string ⟨#[]⟩, .int .i64 0, .int .i64 10, .string ⟨#[]⟩, .int .i64 0, .int .i64 1, .string ⟨#[97]⟩, .int .i64 0, .int .i64 1, .string ⟨#[98]⟩, .int .i64 0] ++ (#[.int .i64 1, .string ⟨#[97]⟩, .int .i64 0] ++ Builtin.zeroCells #[.int .i64 0, .string ⟨#[]⟩, .int .i64 0] (z - 5))) 48))
  obtain ⟨w18, hw18⟩ : ∃ w18, w18 = w17.alloc (.cells (#[.int .i64 9, .string ⟨#[]⟩, .int .i64 0, .int .i64 10, .string ⟨#[]⟩, .int .i64 0, .int .i64 1, .string ⟨#[97]⟩, .int .i64 0, .int .i64 1, .string ⟨#[98]⟩, .int .i64 0] ++ (#[.int .i64 1, .string ⟨#[97]⟩, .int .i64 0] ++ Builtin.zeroCells #[.int .i64 0, .string ⟨#[]⟩, .int .i64 0] (z - 5))) 48) := ⟨_, rfl⟩
  rw [← hw18] at hC5 hT5 ⊢
  clear hw18 hT
  have hC6 := Kd.C_drew hC5
  have hT6 := hT5.below (Below.refl _ _).drew
  clear hC5 hT5
  refine (Acts _ z (M4 ++ M1) _ hC6 hz5 (by decide)).mono ?_; rintro e w19 ⟨A1, c1, rfl, hc1, hCa, hb⟩
  have hT7 := hT6.below hb
  rw [aL] at hc1 hCa ⊢
  clear hC6 hT6 hb
  go_wp2_with fail
  have hC8 := C_twoS w19 ⟨#[97]⟩ ⟨#[98]⟩
  have hT8 := hT7.below (al w19 (.cells #[.string ⟨#[97]⟩, .string ⟨#[98]⟩] 9))
  have hC9 := Kd.C_below hCa (al w19 (.cells #[.string ⟨#[97]⟩, .string ⟨#[98]⟩] 9))
  refine (Texts [⟨#[97]⟩, ⟨#[98]⟩] A1 c1 _ 2 _ hC9 hc1 hC8 (by decide)).mono ?_; rintro e w20 ⟨rfl, hb⟩
  have hT9 := hT8.below hb
  clear hT7 hT8 hC8 hC9 hb hCa
  go_wp2_with fail
  go_ret
  exact ⟨rfl, hT9.bl⟩
end Go.Proofs.YtefiadocljnpjaaDoor.Row
/- Layer 4: what the sorts of made rows are, and the calls at a row that came in. -/
namespace Go.Proofs.YtefiadocljnpjaaDoor.Row
open Go.Proofs.Tree Go.RowKit Go.Proofs.YtefiadocljnpjaaDoorW.PrintWords Go.Proofs.YtefiadocljnpjaaDoorW.PrintLast Go.Proofs.YtefiadocljnpjaaDoorW.PrintMore Go.Proofs.YtefiadocljnpjaaDoor.PK
set_option linter.unusedVariables false
set_option linter.unusedSimpArgs false
set_option maxHeartbeats 4000000
set_option maxRecDepth 100000
theorem sd_of (t : Tr S48) (h : t.ok S48.f0) : size S48.f0 t.flat = t.len ∧ depth S48.f0 t.flat = t.dep := by
  have := tree_of' S48.f0 t h
  unfold size depth; rw [this]; exact ⟨rfl, rfl⟩
theorem wh_of (t : Tr S48) (hok : t.ok S48.f0) (h200 : t.flat.length ≤ 200) (hr : rts t.flat = true) : wh t.flat = true ∧ ofV t.flat = t.srt S48.f0 := by
  have h1 : wh t.flat = true := by
    rw [wh_alt, hr, decide_eq_true (Tr.len_pos t), decide_eq_true h200]
    unfold sz
    rw [szw_size _ _ (by omega), (sd_of t hok).1]
    simp [Tr.len]
  refine ⟨h1, ?_⟩
  unfold ofV
  rw [if_pos h1, tree_of' _ t hok]
theorem wh_rts (l : List S48) (h : wh l = true) : rts l = true := by
  rw [wh_alt] at h; simp only [Bool.and_eq_true] at h; exact h.1
theorem of_pos (l : List S48) (h : ofV l ≠ 0) : wh l = true := by
  by_cases h2 : wh l = true
  · exact h2
  · exact absurd (by unfold ofV; rw [if_neg h2]) h
theorem of_zero (l : List S48) (h : ¬ wh l = true) : ofV l = 0 := by unfold ofV; rw [if_neg h]
theorem rts_cons (x : S48) (l : List S48) : rts (x :: l) = (rt x && rts l) := by unfold rts; rw [List.all_cons]
theorem rts_app (a b : List S48) : rts (a ++ b) = (rts a && rts b) := by unfold rts; rw [List.all_append]
theorem rt9 : rt (nd 9) = true := by decide +kernel
theorem of_block (l : List S48) (hl : l.length ≤ 120) : ofV (nd 9 :: l) = s1 9 (ofV l) := by
  by_cases h : wh l = true
  · obtain ⟨t, hok, e, h200, ev⟩ := wh_tree l h
    have hr := wh_rts l h
    rw [ev]
    subst e
    have := wh_of (Tr.n1 (nd 9) t) ⟨rfl, hok⟩ (by simp [Tr.flat]; omega) (by show rts (nd 9 :: t.flat) = true; rw [rts_cons, rt9, hr]; rfl)
    exact this.2
  · rw [of_zero l h]
    have h2 : ¬ wh (nd 9 :: l) = true := by
      intro h2
      obtain ⟨t, hok, e, h200, ev⟩ := wh_tree _ h2
      have hr := wh_rts _ h2
      cases t with
      | n0 x =>
        have e1 : nd 9 :: l = [x] := e
        injection e1 with e1 e2
        subst e1
        have : ar 9 = 0 := hok
        revert this; decide
      | n1 x a =>
        have e1 : nd 9 :: l = x :: a.flat := e
        injection e1 with e1 e2
        subst e2
        rw [rts_cons, Bool.and_eq_true] at hr
        exact h (wh_of a hok.2 (by omega) hr.2).1
      | n2 x a b =>
        have e1 : nd 9 :: l = x :: (a.flat ++ b.flat) := e
        injection e1 with e1 e2
        subst e1
        have : ar 9 = 2 := hok.1
        revert this; decide
    rw [of_zero _ h2]
    decide
theorem of_made (k : Int) (hk : ar k = 2) (hrt : rt (nd k) = true) (a b : List S48) (ha : wh a = true) (hb : wh b = true) (hl : a.length + b.length < 200) : ofV (nd k :: (a ++ b)) = s2 k (ofV a) (ofV b) := by
  obtain ⟨t, hok, e, h200, ev⟩ := wh_tree a ha
  obtain ⟨u, hok2, e2, h2002, ev2⟩ := wh_tree b hb
  have hr := wh_rts a ha
  have hr2 := wh_rts b hb
  rw [ev, ev2]
  subst e e2
  have := wh_of (Tr.n2 (nd k) t u) ⟨hk, hok, hok2⟩ (by simp [Tr.flat]; omega) (by show rts (nd k :: (t.flat ++ u.flat)) = true; rw [rts_cons, rts_app, hrt, hr, hr2]; rfl)
  exact this.2
theorem hk_goes (a : Int) : hasK [11, 12, 13, 14] a = goes a := by
  unfold hasK goes
  by_cases h1 : a = 11
  · subst h1; rfl
  by_cases h2 : a = 12
  · subst h2; rfl
  by_cases h3 : a = 13
  · subst h3; rfl
  by_cases h4 : a = 14
  · subst h4; rfl
  simp [h1, h2, h3, h4]
theorem cnt_goes (l : List S48) : (ofV l = 1 ∨ ofV l = 2 → cntL l [11, 12, 13, 14] = 0) ∧ (ofV l = 3 ∨ ofV l = 4 → 0 < cntL l [11, 12, 13, 14]) := by
  have hfun : (fun n : S48 => hasK [11, 12, 13, 14] n.f0) = fun n => goes n.f0 := by funext n; exact hk_goes _
  by_cases h : wh l = true
  · obtain ⟨t, hok, e, h200, ev⟩ := wh_tree l h
    have hg := t.goes_srt S48.f0 hok
    rw [← Tr.any_flat, ← e] at hg
    rw [ev]
    unfold cntL
    rw [hfun]
    refine ⟨fun hh => ?_, fun hh => ?_⟩
    · have h1 := hg.1 hh
      rw [List.countP_eq_zero]
      intro a ha
      rw [List.any_eq_false] at h1
      exact h1 a ha
    · have h1 := hg.2 hh
      rw [List.countP_pos_iff]
      rw [List.any_eq_true] at h1
      exact h1
  · rw [of_zero l h]
    exact ⟨fun hh => by omega, fun hh => by omega⟩
theorem kid_sorts (l : List S48) (h : ofV l = 1) : ∀ k ∈ kidsL l, ofV k = if (rd_T48 l 0).f0 = 9 then 2 else 1 := by
  obtain ⟨t, hok, e, h200, ev⟩ := wh_tree l (of_pos l (by omega))
  have hr := wh_rts l (of_pos l (by omega))
  rw [ev] at h
  subst e
  have hk : kidsL t.flat = t.kids.map Tr.flat := by have := kidsL_of t [] hok; rwa [List.append_nil] at this
  rw [hk]
  cases t with
  | n0 x => intro k hk; simp [Tr.kids] at hk
  | n1 x a =>
    intro k hk
    have hka : k = a.flat := by simpa [Tr.kids] using hk
    have hra : rts a.flat = true := by
      have : rts (x :: a.flat) = true := hr
      rw [rts_cons, Bool.and_eq_true] at this; exact this.2
    have hl : a.flat.length ≤ 200 := by have : (x :: a.flat).length ≤ 200 := h200; simp at this; omega
    rw [hka, (wh_of a hok.2 hl hra).2]
    have hx : (rd_T48 (Tr.n1 x a).flat 0).f0 = x.f0 := rfl
    rw [hx]
    have h1 : s1 x.f0 (a.srt S48.f0) = 1 := h
    have hin := a.srt_in S48.f0
    rcases ar1 hok.1 with h9 | h9 <;> rw [h9] at h1 ⊢ <;> rcases five _ hin with hv | hv | hv | hv | hv <;> rw [hv] at h1 ⊢ <;> first | rfl | (exfalso; revert h1; decide)
  | n2 x a b =>
    intro k hk
    have hr2 : rts a.flat = true ∧ rts b.flat = true := by
      have : rts (x :: (a.flat ++ b.flat)) = true := hr
      rw [rts_cons, rts_app, Bool.and_eq_true, Bool.and_eq_true] at this; exact this.2
    have hl : a.flat.length + b.flat.length ≤ 200 := by have : (x :: (a.flat ++ b.flat)).length ≤ 200 := h200; simp at this; omega
    have hx : (rd_T48 (Tr.n2 x a b).flat 0).f0 = x.f0 := rfl
    rw [hx]
    have h1 : s2 x.f0 (a.srt S48.f0) (b.srt S48.f0) = 1 := h
    have hin := a.srt_in S48.f0
    have hin2 := b.srt_in S48.f0
    have hka : k = a.flat ∨ k = b.flat := by simpa [Tr.kids] using hk
    have e1 := (wh_of a hok.2.1 (by omega) hr2.1).2
    have e2 := (wh_of b hok.2.2 (by omega) hr2.2).2
    rcases hka with rfl | rfl
    · rw [e1]
      clear e1 e2
      rcases ar2 hok.1 with h9 | h9 | h9 | h9 | h9 | h9 | h9 <;> rw [h9] at h1 ⊢ <;> rcases five _ hin with hv | hv | hv | hv | hv <;> rw [hv] at h1 ⊢ <;> rcases five _ hin2 with hu | hu | hu | hu | hu <;> rw [hu] at h1 <;> first | rfl | (exfalso; revert h1; decide)
    · rw [e2]
      clear e1 e2
      rcases ar2 hok.1 with h9 | h9 | h9 | h9 | h9 | h9 | h9 <;> rw [h9] at h1 ⊢ <;> rcases five _ hin with hv | hv | hv | hv | hv <;> rw [hv] at h1 <;> rcases five _ hin2 with hu | hu | hu | hu | hu <;> rw [hu] at h1 ⊢ <;> first | rfl | (exfalso; revert h1; decide)
section
variable {w W : World} {A : Option Addr} {l : List S48} {c : Nat}
theorem e50 (r : Bool) (hc : l.length ≤ c) (hr : few4 l = r) (h : In1 w W A l) : Calls Tryd.prog 50 #[.slice A l.length c] W fun e W' => e = .returned (.bool r) ∧ In1 w W' A l := by
  subst hr
  exact (Few4 A c l W h.c hc).mono fun e W' ⟨he, hb⟩ => ⟨he, h.below hb⟩
theorem e51 (h : In1 w W A l) : Calls Tryd.prog 51 #[] W fun e W' => e = .returned (.bool true) ∧ In1 w W' A l :=
  (Alive4 W h.l).mono fun e W' ⟨he, hb⟩ => ⟨he, h.below hb⟩
theorem e52 (v : Int) (hc : l.length ≤ c) (hv : ofV l = v) (h : In1 w W A l) : Calls Tryd.prog 52 #[.slice A l.length c] W fun e W' => e = .returned (.int .i64 v) ∧ In1 w W' A l := by
  subst hv
  exact (Of A c l W h.l h.c hc).mono fun e W' ⟨he, hb⟩ => ⟨he, h.below hb⟩
theorem e53 (v : Int) (hc : l.length ≤ c) (hv : ofV l = v) (hl : l.length ≤ 1000000) (hs : ∀ n ∈ l, n.f1.size ≤ maxLen) (h : In1 w W A l) : Calls Tryd.prog 53 #[.slice A l.length c] W fun e W' => e = .returned (.int .i64 v) ∧ In1 w W' A l := by
  subst hv
  exact (RefOf A c l W h.c hc hl (fun n hn => by have := hs n hn; unfold maxLen at this; omega)).mono fun e W' ⟨he, hb⟩ => ⟨he, h.below hb⟩
theorem e54 (p r : Bool) (hc : l.length ≤ c) (hr : onV p (ofV l) = r) (h : In1 w W A l) : Calls Tryd.prog 54 #[.slice A l.length c, .bool p] W fun e W' => e = .returned (.bool r) ∧ In1 w W' A l := by
  subst hr
  exact (On p A c l W h.l h.c hc).mono fun e W' ⟨he, hb⟩ => ⟨he, h.below hb⟩
theorem e55 (p r : Bool) (hc : l.length ≤ c) (hr : onV p (ofV l) = r) (hl : l.length ≤ 1000000) (hs : ∀ n ∈ l, n.f1.size ≤ maxLen) (h : In1 w W A l) : Calls Tryd.prog 55 #[.slice A l.length c, .bool p] W fun e W' => e = .returned (.bool r) ∧ In1 w W' A l := by
  subst hr
  exact (RefOn p A c l W h.c hc hl (fun n hn => by have := hs n hn; unfold maxLen at this; omega)).mono fun e W' ⟨he, hb⟩ => ⟨he, h.below hb⟩
theorem e56 (r : Bool) (hc : l.length ≤ c) (hr : decide (ofV l = 1) = r) (h : In1 w W A l) : Calls Tryd.prog 56 #[.slice A l.length c] W fun e W' => e = .returned (.bool r) ∧ In1 w W' A l := by
  subst hr
  exact (Term A c l W h.l h.c hc).mono fun e W' ⟨he, hb⟩ => ⟨he, h.below hb⟩
theorem e57 (r : Bool) (hc : l.length ≤ c) (hr : rtV l = r) (hl : l.length ≤ 1000000) (h : In1 w W A l) : Calls Tryd.prog 57 #[.slice A l.length c] W fun e W' => e = .returned (.bool r) ∧ In1 w W' A l := by
  subst hr
  exact (SRight A c l W h.l h.c hc hl).mono fun e W' ⟨he, hb⟩ => ⟨he, h.below hb⟩
theorem e58 (r : Bool) (hc : l.length ≤ c) (hr : rtV l = r) (hl : l.length ≤ 1000000) (hs : ∀ n ∈ l, n.f1.size ≤ maxLen) (h : In1 w W A l) : Calls Tryd.prog 58 #[.slice A l.length c] W fun e W' => e = .returned (.bool r) ∧ In1 w W' A l := by
  subst hr
  exact (RefSRight A c l W h.c hc hl (fun n hn => by have := hs n hn; unfold maxLen at this; omega)).mono fun e W' ⟨he, hb⟩ => ⟨he, h.below hb⟩
end
theorem ints_C (W : World) (l : List Int) (n : Nat) (hn : n = l.length) (hl : l.length ≤ maxLen) (cs : Array Value) (hcs : cs = (l.map (Value.int .i64)).toArray) : Kd.C (Kd.int .i64) (W.alloc (.cells cs 3)) (some ⟨W.heap.size, 0, none⟩) n l := by
  subst hn hcs
  refine ⟨rfl, hl, fun _ => ⟨_, rfl, fun j p hj => ⟨[.int .i64 p], rfl, rfl, fun i u hu => ?_⟩⟩⟩
  match i, hu with
  | 0, hu =>
    injection hu with hu; subst hu
    rw [add_plain, cell_of_row _ _ _ _ _ _ (heap_new W _)]
    show (l.map (Value.int .i64)).toArray[_]? = _
    rw [show j * (Kd.int .i64).sz + 0 = j from Nat.mul_one j]
    simp [hj]
theorem C_four (W : World) : Kd.C (Kd.int .i64) (W.alloc (.cells #[.int .i64 11, .int .i64 12, .int .i64 13, .int .i64 14] 3)) (some ⟨W.heap.size, 0, none⟩) 4 [11, 12, 13, 14] := ints_C W _ _ rfl (by decide) _ rfl
theorem C_sing (W : World) {A : Option Addr} {c : Nat} {a : List S48} (ha : Kd.C k48 W A a.length a) (hc : a.length ≤ c) :
    Kd.C (Kd.slice 48 k48) (W.alloc (.cells #[.slice A a.length c] 51)) (some ⟨W.heap.size, 0, none⟩) 1 [a] := by
  have hB : Below W.heap.size W (W.alloc (.cells #[.slice A a.length c] 51)) := below_alloc (Below.refl _ _) _
  refine ⟨rfl, by decide, fun _ => ⟨_, rfl, fun j p hj => ?_⟩⟩
  match j, hj with
  | 0, hj =>
    injection hj with hj; subst hj
    refine ⟨[.slice A a.length c], rfl, ⟨A, c, rfl, hc, Kd.C_below ha hB⟩, fun i u hu => ?_⟩
    match i, hu with
    | 0, hu => injection hu with hu; subst hu; show (W.alloc _).cell? (Addr.add ⟨W.heap.size, 0, none⟩ 0) = _; rw [add_plain, cell_of_row _ _ _ _ _ _ (heap_new W _)]; rfl
theorem Make1 (n : S48) (a : List S48) (q : Nat) (W : World) (hq : Kd.C (Kd.slice 48 k48) W (some ⟨q, 0, none⟩) 1 [a]) (ha : a.length ≤ 250) : Calls Tryd.prog 45 #[.agg #[.int .i64 n.f0, .string n.f1, .int .i64 n.f2], .slice (some ⟨q, 0, none⟩) 1 1] W fun e W' => ∃ A c, e = .returned (.slice A (n :: a).length c) ∧ (n :: a).length ≤ c ∧ Kd.C k48 W' A (n :: a).length (n :: a) ∧ Below W.heap.size W W' := by
  refine (Make n (some ⟨q, 0, none⟩) 1 [a] W hq (Nat.le_refl _) (by unfold tot; simp; omega)).mono ?_
  rintro e W' ⟨v, rfl, hR, hB⟩
  have e1 : n :: [a].flatten = n :: a := by simp
  rw [e1] at hR
  obtain ⟨A, c, rfl⟩ := Kd.R_slice hR
  have hr := Kd.R_reads' hR
  exact ⟨A, c, rfl, hr.2.1, hr.2.2, hB⟩
end Go.Proofs.YtefiadocljnpjaaDoor.Row
