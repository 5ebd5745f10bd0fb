/- RowMakes: the law, walked by hand. -/
import Derived.Test.YtefiadocljnpjaaDoorMV
namespace Go.Proofs.YtefiadocljnpjaaDoor.Row
open Go.Proofs.Tree Go.RowKit Go.Proofs.YtefiadocljnpjaaDoorW.PrintWords Go.Proofs.YtefiadocljnpjaaDoorW.PrintLast Go.Proofs.YtefiadocljnpjaaDoorW.PrintMore Go.Proofs.YtefiadocljnpjaaDoor.PK
set_option linter.unusedVariables false
set_option linter.unusedSimpArgs false
set_option maxHeartbeats 4000000
set_option maxRecDepth 100000
theorem C_pair (W : World) {A1 A2 : Option Addr} {c1 c2 : Nat} {a b : List S48} (ha : Kd.C k48 W A1 a.length a) (hc1 : a.length ≤ c1) (hb : Kd.C k48 W A2 b.length b) (hc2 : b.length ≤ c2) :
    Kd.C (Kd.slice 48 k48) (W.alloc (.cells #[.slice A1 a.length c1, .slice A2 b.length c2] 51)) (some ⟨W.heap.size, 0, none⟩) 2 [a, b] := by
  have hB : Below W.heap.size W (W.alloc (.cells #[.slice A1 a.length c1, .slice A2 b.length c2] 51)) := below_alloc (Below.refl _ _) _
  refine ⟨rfl, by decide, fun _ => ⟨_, rfl, fun j p hj => ?_⟩⟩
  match j, hj with
  | 0, hj =>
    injection hj with hj; subst hj
    refine ⟨[.slice A1 a.length c1], rfl, ⟨A1, c1, rfl, hc1, Kd.C_below ha hB⟩, fun i u hu => ?_⟩
    match i, hu with
    | 0, hu => injection hu with hu; subst hu; show (W.alloc _).cell? (Addr.add ⟨W.heap.size, 0, none⟩ 0) = _; rw [add_plain, cell_of_row _ _ _ _ _ _ (heap_new W _)]; rfl
  | 1, hj =>
    injection hj with hj; subst hj
    refine ⟨[.slice A2 b.length c2], rfl, ⟨A2, c2, rfl, hc2, Kd.C_below hb hB⟩, fun i u hu => ?_⟩
    match i, hu with
    | 0, hu => injection hu with hu; subst hu; show (W.alloc _).cell? (Addr.add ⟨W.heap.size, 0, none⟩ 1) = _; rw [add_plain, cell_of_row _ _ _ _ _ _ (heap_new W _)]; rfl
/-- A boxed node, and two rows that came in. -/
structure InM (w W : World) (x : Nat) (n : S48) (A1 : Option Addr) (a : List S48) (A2 : Option Addr) (b : List S48) : Prop where
  z0 : W.cell? ⟨x, 0, none⟩ = some (.int .i64 n.f0)
  z1 : W.cell? ⟨x, 1, none⟩ = some (.string n.f1)
  z2 : W.cell? ⟨x, 2, none⟩ = some (.int .i64 n.f2)
  c1 : Kd.C k48 W A1 a.length a
  c2 : Kd.C k48 W A2 b.length b
  l : Laid W
  b : Below w.heap.size w W
section
variable {w W : World} {x : Nat} {n : S48} {A1 A2 : Option Addr} {a b : List S48} {c1 c2 : Nat}
theorem InM.below {W' : World} (h : InM w W x n A1 a A2 b) (hb : Below W.heap.size W W') : InM w W' x n A1 a A2 b :=
  ⟨pw_cell_below hb h.z0, pw_cell_below hb h.z1, pw_cell_below hb h.z2, Kd.C_below h.c1 hb, Kd.C_below h.c2 hb, h.l.below hb, Aid_bthen h.b hb⟩
theorem g35 (hc : a.length ≤ c1) (h : InM w W x n A1 a A2 b) : Calls Tryd.prog 35 #[.slice A1 a.length c1] W fun e W' => e = .returned (.bool (decide (a.length ≤ 250))) ∧ InM w W' x n A1 a A2 b :=
  (Few A1 c1 a W h.c1 hc).mono fun e W' ⟨he, hd⟩ => ⟨he, h.below hd.below⟩
theorem g35b (hc : b.length ≤ c2) (h : InM w W x n A1 a A2 b) : Calls Tryd.prog 35 #[.slice A2 b.length c2] W fun e W' => e = .returned (.bool (decide (b.length ≤ 250))) ∧ InM w W' x n A1 a A2 b :=
  (Few A2 c2 b W h.c2 hc).mono fun e W' ⟨he, hd⟩ => ⟨he, h.below hd.below⟩
theorem g30 (h : InM w W x n A1 a A2 b) : Calls Tryd.prog 30 #[] W fun e W' => e = .returned (.bool true) ∧ InM w W' x n A1 a A2 b :=
  (Alive W h.l).mono fun e W' ⟨he, hd⟩ => ⟨he, h.below hd⟩
theorem g32 (h : InM w W x n A1 a A2 b) : Calls Tryd.prog 32 #[.int .i64 n.f0] W fun e W' => e = .returned (.int .i64 (ar n.f0)) ∧ InM w W' x n A1 a A2 b :=
  (RefArity n.f0 W).mono fun e W' ⟨he, hd⟩ => ⟨he, h.below hd.below⟩
theorem g37 (ha : a.length ≤ 250) (hc : a.length ≤ c1) (h : InM w W x n A1 a A2 b) : Calls Tryd.prog 37 #[.slice A1 a.length c1] W fun e W' => e = .returned (.int .i64 (size S48.f0 a : Int)) ∧ InM w W' x n A1 a A2 b :=
  (RefSize A1 c1 a W h.c1 hc (by omega)).mono fun e W' ⟨he, hd⟩ => ⟨he, h.below hd.below⟩
theorem g37b (hb : b.length ≤ 250) (hc : b.length ≤ c2) (h : InM w W x n A1 a A2 b) : Calls Tryd.prog 37 #[.slice A2 b.length c2] W fun e W' => e = .returned (.int .i64 (size S48.f0 b : Int)) ∧ InM w W' x n A1 a A2 b :=
  (RefSize A2 c2 b W h.c2 hc (by omega)).mono fun e W' ⟨he, hd⟩ => ⟨he, h.below hd.below⟩
/-- Make of both. -/
theorem g45 {q : Nat} (ha : a.length ≤ 250) (hb : b.length ≤ 250) (h : InM w W x n A1 a A2 b) (hq : Kd.C (Kd.slice 48 k48) W (some ⟨q, 0, none⟩) 2 [a, b]) : Calls Tryd.prog 45 #[.agg #[.int .i64 n.f0, .string n.f1, .int .i64 n.f2], .slice (some ⟨q, 0, none⟩) 2 2] W fun e W' => ∃ A c, e = .returned (.slice A (n :: (a ++ b)).length c) ∧ (n :: (a ++ b)).length ≤ c ∧ Kd.C k48 W' A (n :: (a ++ b)).length (n :: (a ++ b)) ∧ Below W.heap.size W W' := by
  refine (Make n (some ⟨q, 0, none⟩) 2 [a, b] W hq (Nat.le_refl _) (by unfold tot; simp; omega)).mono ?_
  rintro e W' ⟨v, rfl, hR, hB⟩
  have e1 : n :: [a, b].flatten = n :: (a ++ b) := by simp
  rw [e1] at hR
  obtain ⟨A, c, rfl⟩ := Kd.R_slice hR
  have hr := Kd.R_reads' hR
  exact ⟨A, c, rfl, hr.2.1, hr.2.2, hB⟩
theorem g45n (h : InM w W x n A1 a A2 b) : Calls Tryd.prog 45 #[.agg #[.int .i64 n.f0, .string n.f1, .int .i64 n.f2], .slice none 0 0] W fun e W' => ∃ A c, e = .returned (.slice A 1 c) ∧ 1 ≤ c ∧ Kd.C k48 W' A 1 [n] ∧ Below W.heap.size W W' := by
  refine (Make n none 0 [] W (Kd.C_nil _ _) (Nat.le_refl _) (by unfold tot; simp)).mono ?_
  rintro e W' ⟨v, rfl, hR, hB⟩
  have e1 : n :: ([] : List (List S48)).flatten = [n] := rfl
  rw [e1] at hR
  obtain ⟨A, c, rfl⟩ := Kd.R_slice hR
  have hr := Kd.R_reads' hR
  exact ⟨A, c, rfl, hr.2.1, hr.2.2, hB⟩
theorem g46 (ha : a.length ≤ 250) (hb : b.length ≤ 250) (hc1 : a.length ≤ c1) (hc2 : b.length ≤ c2) (h : InM w W x n A1 a A2 b) : Calls Tryd.prog 46 #[.agg #[.int .i64 n.f0, .string n.f1, .int .i64 n.f2], .slice A1 a.length c1, .slice A2 b.length c2] W fun e W' => ∃ A c, e = .returned (.slice A (n :: (a ++ b)).length c) ∧ (n :: (a ++ b)).length ≤ c ∧ Kd.C k48 W' A (n :: (a ++ b)).length (n :: (a ++ b)) ∧ Below W.heap.size W W' := by
  refine (Two n A1 c1 a A2 c2 b W h.c1 hc1 h.c2 hc2 (by omega) (by omega)).mono ?_
  rintro e W' ⟨v, rfl, hR, hB⟩
  obtain ⟨A, c, rfl⟩ := Kd.R_slice hR
  have hr := Kd.R_reads' hR
  exact ⟨A, c, rfl, hr.2.1, hr.2.2, hB⟩
end
theorem g44n {W : World} {n : S48} {A : Option Addr} {c q : Nat} (hC : Kd.C k48 W A 1 [n]) (hc : 1 ≤ c) (hq : Kd.C k48 W (some ⟨q, 0, none⟩) 1 [n]) : Calls Tryd.prog 44 #[.slice A 1 c, .slice (some ⟨q, 0, none⟩) 1 1] W fun e W' => e = .returned (.bool true) ∧ Below W.heap.size W W' :=
  (RefSame A c [n] (some ⟨q, 0, none⟩) 1 [n] W hC hc hq (Nat.le_refl _)).mono fun e W' ⟨he, hd⟩ => ⟨by rw [he, (same_iff [n] [n]).2 rfl], hd.below⟩
theorem one_C (W : World) (n : S48) : Kd.C k48 (W.alloc (.cells #[.int .i64 n.f0, .string n.f1, .int .i64 n.f2] 48)) (some ⟨W.heap.size, 0, none⟩) 1 [n] := (Kd.R_reads' (lit1 W n W.heap.size (Nat.le_refl _))).2.2
theorem whole_tree (a : List S48) (h : size S48.f0 a = a.length) (h0 : 0 < a.length) : ∃ t : Tr S48, t.ok S48.f0 ∧ a = t.flat := by
  unfold size at h
  cases e : tree S48.f0 a with
  | none => rw [e] at h; simp at h; omega
  | some p =>
    obtain ⟨t, r⟩ := p
    rw [e] at h
    obtain ⟨hok, h2⟩ := tree_some _ e
    have h3 : r = [] := by
      have := congrArg List.length h2
      rw [List.length_append] at this
      have h4 : t.len = t.flat.length := rfl
      exact List.eq_nil_of_length_eq_zero (by simp at h; omega)
    subst h3
    exact ⟨t, hok, by rw [h2, List.append_nil]⟩
theorem kids_make (n : S48) (a b : List S48) (hn : ar n.f0 = 2) (ha : size S48.f0 a = a.length) (ha0 : 0 < a.length) (hb : size S48.f0 b = b.length) (hb0 : 0 < b.length) : kidsL (n :: (a ++ b)) = [a, b] := by
  obtain ⟨ta, oka, rfl⟩ := whole_tree a ha ha0
  obtain ⟨tb, okb, rfl⟩ := whole_tree b hb hb0
  have h : (Tr.n2 n ta tb).ok S48.f0 := ⟨hn, oka, okb⟩
  have := kidsL_of (Tr.n2 n ta tb) [] h
  rw [List.append_nil] at this
  exact this
theorem two_cells {W : World} {A : Option Addr} {a b : List S48} (h : Kd.C (Kd.slice 48 k48) W A 2 [a, b]) : ∃ ad A0 c0 A1 c1, A = some ad ∧ W.cell? ad = some (.slice A0 a.length c0) ∧ a.length ≤ c0 ∧ Kd.C k48 W A0 a.length a ∧ W.cell? ⟨ad.block, ad.off + 1, none⟩ = some (.slice A1 b.length c1) ∧ b.length ≤ c1 ∧ Kd.C k48 W A1 b.length b := by
  obtain ⟨ad, A0, c0, e0, x0, l0, d0⟩ := at_L9 h 0 (by decide) (by decide)
  obtain ⟨ad1, A1, c1, e1, x1, l1, d1⟩ := at_L9 h 1 (by decide) (by decide)
  subst e0
  injection e1 with e1
  subst e1
  have h1 : ad.add (Int.toNat 1) = ⟨ad.block, ad.off + 1, none⟩ := by
    have := add_field ad 0 1 (by decide)
    rwa [Addr.add_zero'] at this
  rw [h1] at x1
  have h0 : ad.add (Int.toNat 0) = ad := Addr.add_zero' ad
  rw [h0] at x0
  exact ⟨ad, A0, c0, A1, c1, rfl, x0, l0, d0, x1, l1, d1⟩
theorem RowMakes (n : S48) (A1 : Option Addr) (c1 : Nat) (a : List S48) (A2 : Option Addr) (c2 : Nat) (b : List S48) (w : World) (hL : Laid w) (hC1 : Kd.C k48 w A1 a.length a) (hc1 : a.length ≤ c1) (hC2 : Kd.C k48 w A2 b.length b) (hc2 : b.length ≤ c2) :
    Calls Tryd.prog 12 #[.agg #[.int .i64 n.f0, .string n.f1, .int .i64 n.f2], .slice A1 a.length c1, .slice A2 b.length c2] w fun e w' => e = .returned (.bool true) ∧ Below w.heap.size w w' := by
  have start : InM w (w.alloc (.cells #[.int .i64 n.f0, .string n.f1, .int .i64 n.f2] 48)) w.heap.size n A1 a A2 b := by
    have hB : Below w.heap.size w (w.alloc (.cells #[.int .i64 n.f0, .string n.f1, .int .i64 n.f2] 48)) := below_alloc (Below.refl _ _) _
    have hx := heap_new w (.cells #[.int .i64 n.f0, .string n.f1, .int .i64 n.f2] 48)
    exact ⟨by rw [cell_of_row _ _ _ _ _ _ hx]; rfl, by rw [cell_of_row _ _ _ _ _ _ hx]; rfl, by rw [cell_of_row _ _ _ _ _ _ hx]; rfl, Kd.C_below hC1 hB, Kd.C_below hC2 hB, hL.below hB, hB⟩
  clear hL hC1 hC2
  by_cases hf : a.length ≤ 250
  · have e1 : decide (a.length ≤ 250) = true := decide_eq_true hf
    by_cases hg : b.length ≤ 250
    · have e2 : decide (b.length ≤ 250) = true := decide_eq_true hg
      have HFG := Aside0.mk (And.intro hf hg)
      clear hf hg
      go_enter Tryd.func12, Tryd.ntmps12
      go_upto_region 1 with fail
      obtain ⟨x, hx⟩ : ∃ x, x = w.heap.size := ⟨_, rfl⟩
      obtain ⟨w0, hw0⟩ : ∃ w0, w0 = w.alloc (.cells #[.int .i64 n.f0, .string n.f1, .int .i64 n.f2] 48) := ⟨_, rfl⟩
      rw [← hw0] at start ⊢
      have h0 : InM w w0 x n A1 a A2 b := by rw [hx]; exact start
      rw [← hx]
      clear start hw0 hx
      go_wp2_with fail
      refine (g35 hc1 h0).mono ?_; rintro e w1 ⟨rfl, h1⟩
      clear h0
      go_wp2_with fail
      refine (g35b hc2 h1).mono ?_; rintro e w2 ⟨rfl, h2⟩
      clear h1
      go_wp2_with fail
      have H2 := Aside0.mk h2
      clear h2
      obtain ⟨m, hm⟩ : ∃ m, m = n :: (a ++ b) := ⟨_, rfl⟩
      have KA := fun q W (h : InM w W x n A1 a A2 b) (hq : Kd.C (Kd.slice 48 k48) W (some ⟨q, 0, none⟩) 2 [a, b]) => g45 HFG.out.1 HFG.out.2 h hq
      have KB := fun W (h : InM w W x n A1 a A2 b) => g46 HFG.out.1 HFG.out.2 hc1 hc2 h
      rw [← hm] at KA KB
      have HKA := Aside0.mk KA
      have HKB := Aside0.mk KB
      have HM := Aside0.mk hm
      clear hm KA KB
      have keepS : ∀ W W', (Below w2.heap.size w2 W ∧ W.cell? ⟨x, 0, none⟩ = some (.int .i64 n.f0) ∧ W.cell? ⟨x, 1, none⟩ = some (.string n.f1) ∧ W.cell? ⟨x, 2, none⟩ = some (.int .i64 n.f2)) → Below W.heap.size W W' →
          (Below w2.heap.size w2 W' ∧ W'.cell? ⟨x, 0, none⟩ = some (.int .i64 n.f0) ∧ W'.cell? ⟨x, 1, none⟩ = some (.string n.f1) ∧ W'.cell? ⟨x, 2, none⟩ = some (.int .i64 n.f2)) := fun W W' hS hb =>
        ⟨Aid_bthen hS.1 hb, pw_cell_below hb hS.2.1, pw_cell_below hb hS.2.2.1, pw_cell_below hb hS.2.2.2⟩
      have KS := Aside0.mk keepS
      clear keepS
      have z0 := H2.out.z0
      have z1 := H2.out.z1
      have z2 := H2.out.z2
      go_cut [35] (fun v35 wc => v35 = .bool false ∧ Aside0 (InM w wc x n A1 a A2 b))
      case first =>
        go_region_held3 (fun W => Below w2.heap.size w2 W ∧ W.cell? ⟨x, 0, none⟩ = some (.int .i64 n.f0) ∧ W.cell? ⟨x, 1, none⟩ = some (.string n.f1) ∧ W.cell? ⟨x, 2, none⟩ = some (.int .i64 n.f2))
          (first | assumption | exact ⟨Below.refl _ _, z0, z1, z2⟩ | exact ⟨(Below.refl _ _).drew, z0, z1, z2⟩ | exact KS.out _ _ ⟨Below.refl _ _, z0, z1, z2⟩ (below_alloc (Below.refl _ _) _) | exact KS.out _ _ ‹Below w2.heap.size w2 _ ∧ _› (below_alloc (Below.refl _ _) _) | exact KS.out _ _ ‹Below w2.heap.size w2 _ ∧ _› (below_drew (below_alloc (Below.refl _ _) _)) | exact KS.out _ _ ⟨Below.refl _ _, z0, z1, z2⟩ (below_drew (below_alloc (Below.refl _ _) _)))
          (first
            | (go_simp; go_at_call 46; have hS_ := ‹Below w2.heap.size w2 _ ∧ _›; refine (HKB.out _ (H2.out.below hS_.1)).mono ?_; rintro e w' ⟨A46, c46, rfl, hc46, hC46, hB⟩; have hS2_ := KS.out _ _ hS_ hB; have HLB := Aside0.mk hS2_.1; have HC46 := Aside0.mk (And.intro hc46 hC46); clear hc46 hC46; (first | (have hm := Kd.C_below HC45.out.2 hB; have hn := HC45.out.1; clear HC45; have HC45 := Aside0.mk (And.intro hn hm); clear hm hn) | skip); (first | (have HQ := Aside0.mk (Kd.C_below (C_pair w2 H2.out.c1 hc1 H2.out.c2 hc2) hB)) | (have HQ := Aside0.mk (Kd.C_below (Kd.C_drew (C_pair w2 H2.out.c1 hc1 H2.out.c2 hc2)) hB)) | skip))
            | (go_simp; go_at_call 45; have hS_ := ‹Below w2.heap.size w2 _ ∧ _›; (first
                | ((with_reducible refine (g45n (H2.out.below hS_.1)).mono ?_); rintro e w' ⟨A5n, c5n, rfl, hc5n, hC5n, hB⟩; have hS2_ := KS.out _ _ hS_ hB; have HC5n := Aside0.mk (And.intro hc5n hC5n); clear hc5n hC5n; (first | (have HQ2 := Aside0.mk (Kd.C_below (one_C _ n) hB)) | (have HQ2 := Aside0.mk (Kd.C_below (Kd.C_drew (one_C _ n)) hB)) | skip))
                | ((with_reducible refine (HKA.out _ _ (H2.out.below hS_.1) ?_).mono ?_); (first | exact HQ.out | exact C_pair w2 H2.out.c1 hc1 H2.out.c2 hc2 | exact Kd.C_drew (C_pair w2 H2.out.c1 hc1 H2.out.c2 hc2) | (have hp := ‹Below w2.heap.size w2 _ ∧ _ ∧ _ ∧ _›; exact C_pair _ (Kd.C_below H2.out.c1 HLB.out) hc1 (Kd.C_below H2.out.c2 HLB.out) hc2) | exact Kd.C_drew (C_pair _ (Kd.C_below H2.out.c1 HLB.out) hc1 (Kd.C_below H2.out.c2 HLB.out) hc2)); rintro e w' ⟨A45, c45, rfl, hc45, hC45, hB⟩; have hS2_ := KS.out _ _ hS_ hB; have HC45 := Aside0.mk (And.intro hc45 hC45); clear hc45 hC45; (first | (have hm := Kd.C_below HC46.out.2 hB; have hn := HC46.out.1; clear HC46; have HC46 := Aside0.mk (And.intro hn hm); clear hm hn) | skip))))
            | (go_simp; go_at_call 44; have hS_ := ‹Below w2.heap.size w2 _ ∧ _›; (first
                | ((with_reducible refine (RefSame A45 c45 m A46 c46 m _ HC45.out.2 HC45.out.1 HC46.out.2 HC46.out.1).mono ?_); rintro e w' ⟨rfl, hd⟩; have hS2_ := KS.out _ _ hS_ hd.below; have hsm := (same_iff m m).2 rfl; clear HC45)
                | ((with_reducible refine (g44n (n := n) ?_ HC5n.out.1 ?_).mono ?_); (first | exact HC5n.out.2 | exact Kd.C_alloc HC5n.out.2 _ | exact Kd.C_drew (Kd.C_alloc HC5n.out.2 _)); (first | exact HQ2.out | exact one_C _ n | exact Kd.C_drew (one_C _ n)); rintro e w' ⟨rfl, hd⟩; have hS2_ := KS.out _ _ hS_ hd)))
            | fail)
        all_goals
          have hS_ := ‹Below w2.heap.size w2 _ ∧ _›
          have HI := Aside0.mk (H2.out.below hS_.1)
          clear hS_ KS HKA HKB
          go_wp2_with fail
          go_meet
          exact ⟨rfl, HI⟩
      case rest =>
        clear H2 KS z0 z1 z2
        obtain ⟨rfl, HI⟩ := hcut
        have h3 := HI.out
        clear HI
        have z0 := h3.z0
        obtain ⟨r, hr⟩ : ∃ r, r = ar n.f0 := ⟨_, rfl⟩
        obtain ⟨sa, hsa⟩ : ∃ s, s = size S48.f0 a := ⟨_, rfl⟩
        obtain ⟨sb, hsb⟩ : ∃ s, s = size S48.f0 b := ⟨_, rfl⟩
        have K32 := fun W (h : InM w W x n A1 a A2 b) => g32 h
        have K37 := fun W (h : InM w W x n A1 a A2 b) => g37 HFG.out.1 hc1 h
        have K37b := fun W (h : InM w W x n A1 a A2 b) => g37b HFG.out.2 hc2 h
        rw [← hr] at K32
        rw [← hsa] at K37
        rw [← hsb] at K37b
        have H32 := Aside0.mk K32
        have H37 := Aside0.mk K37
        have H37b := Aside0.mk K37b
        clear K32 K37 K37b
        by_cases k1 : r = 2
        · have t1 : (r != 2) = false := by rw [k1]; rfl
          by_cases k2 : sa = a.length
          · have t2 : (((sa : Nat) : Int) != (a.length : Int)) = false := by rw [k2]; simp
            by_cases k3 : sb = b.length
            · have t3 : (((sb : Nat) : Int) != (b.length : Int)) = false := by rw [k3]; simp
              by_cases k4 : a.length = 0
              · have t4 : ((a.length : Int) == 0) = true := by rw [k4]; rfl
                clear hr hsa hsb k1 k2 k3 k4
                go_wp2_with fail
                refine (H32.out _ h3).mono ?_; rintro e w3 ⟨rfl, h4⟩
                clear h3 z0
                go_wp2_with fail
                refine (H37.out _ h4).mono ?_; rintro e w4 ⟨rfl, h5⟩
                clear h4
                go_wp2_with fail
                refine (H37b.out _ h5).mono ?_; rintro e w5 ⟨rfl, h6⟩
                clear h5
                go_wp2_with fail
                refine (g30 h6).mono ?_; rintro e w6 ⟨rfl, h7⟩
                clear h6
                go_wp2_with fail
                go_ret
                exact ⟨rfl, h7.b⟩
              · have t4 : ((a.length : Int) == 0) = false := beq_eq_false_iff_ne.2 (by omega)
                by_cases k5 : b.length = 0
                · have t5 : ((b.length : Int) == 0) = true := by rw [k5]; rfl
                  clear hr hsa hsb k1 k2 k3 k4 k5
                  go_wp2_with fail
                  refine (H32.out _ h3).mono ?_; rintro e w3 ⟨rfl, h4⟩
                  clear h3 z0
                  go_wp2_with fail
                  refine (H37.out _ h4).mono ?_; rintro e w4 ⟨rfl, h5⟩
                  clear h4
                  go_wp2_with fail
                  refine (H37b.out _ h5).mono ?_; rintro e w5 ⟨rfl, h6⟩
                  clear h5
                  go_wp2_with fail
                  refine (g30 h6).mono ?_; rintro e w6 ⟨rfl, h7⟩
                  clear h6
                  go_wp2_with fail
                  go_ret
                  exact ⟨rfl, h7.b⟩
                · have t5 : ((b.length : Int) == 0) = false := beq_eq_false_iff_ne.2 (by omega)
                  have HKM := Aside0.mk (show kidsL m = [a, b] by rw [HM.out]; exact kids_make n a b (by rw [← hr]; exact k1) (by rw [← hsa]; exact k2) (by omega) (by rw [← hsb]; exact k3) (by omega))
                  have HML := Aside0.mk (show m.length ≤ 1000000 by rw [HM.out]; have := HFG.out; simp; omega)
                  clear hr hsa hsb k1 k2 k3 k4 k5
                  go_wp2_with fail
                  refine (H32.out _ h3).mono ?_; rintro e w3 ⟨rfl, h4⟩
                  clear h3 z0
                  go_wp2_with fail
                  refine (H37.out _ h4).mono ?_; rintro e w4 ⟨rfl, h5⟩
                  clear h4
                  go_wp2_with fail
                  refine (H37b.out _ h5).mono ?_; rintro e w5 ⟨rfl, h6⟩
                  clear h5
                  have z0 := h6.z0
                  have z1 := h6.z1
                  have z2 := h6.z2
                  go_wp2_with fail
                  obtain ⟨q, hq⟩ : ∃ q, q = w5.heap.size := ⟨_, rfl⟩
                  obtain ⟨w6, hw6⟩ : ∃ w6, w6 = w5.alloc (.cells #[.slice A1 a.length c1, .slice A2 b.length c2] 51) := ⟨_, rfl⟩
                  have hC6 := C_pair w5 h6.c1 hc1 h6.c2 hc2
                  have h7 := h6.below (below_alloc (Below.refl _ _) (.cells #[.slice A1 a.length c1, .slice A2 b.length c2] 51))
                  rw [← hw6] at hC6 h7 ⊢
                  rw [← hq] at hC6 ⊢
                  clear hw6 hq h6 z0 z1 z2
                  refine (HKA.out q _ h7 hC6).mono ?_; rintro e w7 ⟨AM, cM, rfl, hcM, hCM, hB7⟩
                  have h8 := h7.below hB7
                  have HCM := Aside0.mk (And.intro hcM hCM)
                  clear h7 hC6 hB7 hcM hCM
                  go_wp2_with fail
                  refine (Kids AM cM m _ HCM.out.2 HCM.out.1 HML.out).mono ?_; rintro e w8 ⟨AK, cK, rfl, hS8, hB8⟩
                  have h9 := h8.below hB8
                  have hK := (Kd.S_reads' hS8).2.2
                  rw [HKM.out] at hK ⊢
                  clear h8 hS8 hB8 HCM
                  go_wp2_with fail
                  refine (Alive _ h9.l).mono ?_; rintro e w9 ⟨rfl, hB9⟩
                  have h10 := h9.below hB9
                  have hK9 := Kd.C_below hK hB9
                  clear h9 hK hB9
                  obtain ⟨ad, A0, c0, A3, c3, rfl, x0, l0, d0, x1, l1, d1⟩ := two_cells hK9
                  have HT := Aside0.mk (show Kd.C (Kd.slice 48 k48) w9 (some ad) 2 [a, b] from hK9)
                  have HD0 := Aside0.mk (And.intro l0 d0)
                  have HH := Aside0.mk h10
                  clear hK9 l0 d0 l1 d1 h10
                  go_wp2_with fail
                  refine (RefSame A0 c0 a A1 c1 a _ HD0.out.2 HD0.out.1 HH.out.c1 hc1).mono ?_; rintro e w10 ⟨rfl, hd10⟩
                  have HH10 := Aside0.mk (HH.out.below hd10.below)
                  have hT10 := Kd.C_below HT.out hd10.below
                  rw [(same_iff a a).2 rfl]
                  obtain ⟨ad', A0', c0', A3', c3', e', x0', l0', d0', x1', l1', d1'⟩ := two_cells hT10
                  injection e' with e'
                  subst e'
                  have HD1 := Aside0.mk (And.intro l1' d1')
                  clear x0 x1 HD0 HT HH hd10 hT10 l0' d0' l1' d1' x0'
                  go_wp2_with fail
                  refine (RefSame A3' c3' b A2 c2 b _ HD1.out.2 HD1.out.1 HH10.out.c2 hc2).mono ?_; rintro e w11 ⟨rfl, hd11⟩
                  have HF := Aside0.mk (HH10.out.below hd11.below)
                  rw [(same_iff b b).2 rfl]
                  clear x1' HD1 HH10 hd11
                  go_wp2_with fail
                  go_ret
                  exact ⟨rfl, HF.out.b⟩
            · have t3 : (((sb : Nat) : Int) != (b.length : Int)) = true := by simp; omega
              clear hr hsa hsb k1 k2 k3
              go_wp2_with fail
              refine (H32.out _ h3).mono ?_; rintro e w3 ⟨rfl, h4⟩
              clear h3 z0
              go_wp2_with fail
              refine (H37.out _ h4).mono ?_; rintro e w4 ⟨rfl, h5⟩
              clear h4
              go_wp2_with fail
              refine (H37b.out _ h5).mono ?_; rintro e w5 ⟨rfl, h6⟩
              clear h5
              go_wp2_with fail
              refine (g30 h6).mono ?_; rintro e w6 ⟨rfl, h7⟩
              clear h6
              go_wp2_with fail
              go_ret
              exact ⟨rfl, h7.b⟩
          · have t2 : (((sa : Nat) : Int) != (a.length : Int)) = true := by simp; omega
            clear hr hsa hsb k1 k2
            go_wp2_with fail
            refine (H32.out _ h3).mono ?_; rintro e w3 ⟨rfl, h4⟩
            clear h3 z0
            go_wp2_with fail
            refine (H37.out _ h4).mono ?_; rintro e w4 ⟨rfl, h5⟩
            clear h4
            go_wp2_with fail
            refine (g30 h5).mono ?_; rintro e w6 ⟨rfl, h7⟩
            clear h5
            go_wp2_with fail
            go_ret
            exact ⟨rfl, h7.b⟩
        · have t1 : (r != 2) = true := by simp [k1]
          clear hr hsa hsb k1
          go_wp2_with fail
          refine (H32.out _ h3).mono ?_; rintro e w3 ⟨rfl, h4⟩
          clear h3 z0
          go_wp2_with fail
          refine (g30 h4).mono ?_; rintro e w6 ⟨rfl, h7⟩
          clear h4
          go_wp2_with fail
          go_ret
          exact ⟨rfl, h7.b⟩
    · have e2 : decide (b.length ≤ 250) = false := decide_eq_false hg
      clear hf hg
      go_enter Tryd.func12, Tryd.ntmps12
      go_upto_region 1 with fail
      obtain ⟨x, hx⟩ : ∃ x, x = w.heap.size := ⟨_, rfl⟩
      obtain ⟨w0, hw0⟩ : ∃ w0, w0 = w.alloc (.cells #[.int .i64 n.f0, .string n.f1, .int .i64 n.f2] 48) := ⟨_, rfl⟩
      rw [← hw0] at start ⊢
      have h0 : InM w w0 x n A1 a A2 b := by rw [hx]; exact start
      rw [← hx]
      clear start hw0 hx
      go_wp2_with fail
      refine (g35 hc1 h0).mono ?_; rintro e w1 ⟨rfl, h1⟩
      clear h0
      go_wp2_with fail
      refine (g35b hc2 h1).mono ?_; rintro e w2 ⟨rfl, h2⟩
      clear h1
      go_wp2_with fail
      refine (g30 h2).mono ?_; rintro e w3 ⟨rfl, h3⟩
      clear h2
      go_wp2_with fail
      go_ret
      exact ⟨rfl, h3.b⟩
  · have e1 : decide (a.length ≤ 250) = false := decide_eq_false hf
    clear hf
    go_enter Tryd.func12, Tryd.ntmps12
    go_upto_region 1 with fail
    obtain ⟨x, hx⟩ : ∃ x, x = w.heap.size := ⟨_, rfl⟩
    obtain ⟨w0, hw0⟩ : ∃ w0, w0 = w.alloc (.cells #[.int .i64 n.f0, .string n.f1, .int .i64 n.f2] 48) := ⟨_, rfl⟩
    rw [← hw0] at start ⊢
    have h0 : InM w w0 x n A1 a A2 b := by rw [hx]; exact start
    rw [← hx]
    clear start hw0 hx
    go_wp2_with fail
    refine (g35 hc1 h0).mono ?_; rintro e w1 ⟨rfl, h1⟩
    clear h0
    go_wp2_with fail
    refine (g30 h1).mono ?_; rintro e w3 ⟨rfl, h3⟩
    clear h1
    go_wp2_with fail
    go_ret
    exact ⟨rfl, h3.b⟩
end Go.Proofs.YtefiadocljnpjaaDoor.Row
