/- Rows that lie, and a row that came in: what layer 4 wants of the texts MV and VE. -/
import Derived.Test.YtefiadocljnpjaaDoorMU
import Derived.Test.YtefiadocljnpjaaDoorXA
namespace Go.Proofs.YtefiadocljnpjaaDoor.Row
open Go.Proofs.Tree Go.RowKit Go.Proofs.YtefiadocljnpjaaDoorW.PrintWords Go.Proofs.YtefiadocljnpjaaDoorW.PrintLast Go.Proofs.YtefiadocljnpjaaDoorW.PrintMore Go.Proofs.YtefiadocljnpjaaDoor.PK
set_option linter.unusedVariables false
set_option linter.unusedSimpArgs false
set_option maxHeartbeats 4000000
set_option maxRecDepth 100000
def cellsN (n : S48) : List Value := [.int .i64 n.f0, .string n.f1, .int .i64 n.f2]
theorem reps_lits (W : World) (base : Nat) (ok : Nat → Prop) (l : List S48) : Reps (k48.M W base ok) k48.sz l (l.flatMap cellsN) := by
  have h : ∀ (l acc : List S48), Reps (k48.M W base ok) k48.sz acc (acc.flatMap cellsN) → Reps (k48.M W base ok) k48.sz (acc ++ l) ((acc ++ l).flatMap cellsN) := by
    intro l
    induction l with
    | nil => intro acc h; rw [List.append_nil]; exact h
    | cons x l ih =>
      intro acc h
      have h2 := ih (acc ++ [x]) (by
        rw [List.flatMap_append]
        have := h.snoc (k48_mkM W base ok x) rfl
        simpa [cellsN] using this)
      rwa [List.append_assoc] at h2
  exact h l [] (Reps.none _ _)
theorem R_lits (W : World) (l : List S48) (base : Nat) (hb : base ≤ W.heap.size) (hl : l.length ≤ 1000000) (cs : Array Value) (hcs : cs = (l.flatMap cellsN).toArray) :
    Kd.R k48 48 (W.alloc (.cells cs 48)) base (fun _ => True) (.slice (some ⟨W.heap.size, 0, none⟩) l.length l.length) l := by
  subst hcs
  have hlen : (l.flatMap cellsN).length = l.length * 3 := by
    clear hb hl
    induction l with
    | nil => rfl
    | cons x l ih => rw [List.flatMap_cons, List.length_append, ih, List.length_cons]; simp [cellsN]; omega
  refine ⟨fun _ _ => trivial, l.flatMap cellsN, ?_, ?_⟩
  · have h2 := World.ownsRow_lit (base := base) (e := 48) (size := 3) W (l.flatMap cellsN).toArray l.length hb (by unfold maxLen; omega) (by simpa using hlen)
    exact h2
  · exact (reps_lits _ _ _ l)
def nd (a : Int) : S48 := ⟨a, ⟨#[]⟩, 0⟩
def nA : S48 := ⟨1, ⟨#[97]⟩, 0⟩
/-- A row that came in, and what lies as it was. -/
structure In1 (w W : World) (A : Option Addr) (l : List S48) : Prop where
  c : Kd.C k48 W A l.length l
  l : Laid W
  b : Below w.heap.size w W
theorem In1.below {w W W' : World} {A : Option Addr} {l : List S48} (h : In1 w W A l) (hb : Below W.heap.size W W') : In1 w W' A l := ⟨Kd.C_below h.c hb, h.l.below hb, Aid_bthen h.b hb⟩
theorem C_pair (W : World) {A1 A2 : Option Addr} {c1 c2 : Nat} {a b : List S48} (ha : Kd.C k48 W A1 a.length a) (hc1 : a.length ≤ c1) (hb : Kd.C k48 W A2 b.length b) (hc2 : b.length ≤ c2) :
    Kd.C (Kd.slice 48 k48) (W.alloc (.cells #[.slice A1 a.length c1, .slice A2 b.length c2] 51)) (some ⟨W.heap.size, 0, none⟩) 2 [a, b] := by
  have hB : Below W.heap.size W (W.alloc (.cells #[.slice A1 a.length c1, .slice A2 b.length c2] 51)) := below_alloc (Below.refl _ _) _
  refine ⟨rfl, by decide, fun _ => ⟨_, rfl, fun j p hj => ?_⟩⟩
  match j, hj with
  | 0, hj =>
    injection hj with hj; subst hj
    refine ⟨[.slice A1 a.length c1], rfl, ⟨A1, c1, rfl, hc1, Kd.C_below ha hB⟩, fun i u hu => ?_⟩
    match i, hu with
    | 0, hu => injection hu with hu; subst hu; show (W.alloc _).cell? (Addr.add ⟨W.heap.size, 0, none⟩ 0) = _; rw [add_plain, cell_of_row _ _ _ _ _ _ (heap_new W _)]; rfl
  | 1, hj =>
    injection hj with hj; subst hj
    refine ⟨[.slice A2 b.length c2], rfl, ⟨A2, c2, rfl, hc2, Kd.C_below hb hB⟩, fun i u hu => ?_⟩
    match i, hu with
    | 0, hu => injection hu with hu; subst hu; show (W.alloc _).cell? (Addr.add ⟨W.heap.size, 0, none⟩ 1) = _; rw [add_plain, cell_of_row _ _ _ _ _ _ (heap_new W _)]; rfl
theorem whole_tree (a : List S48) (h : size S48.f0 a = a.length) (h0 : 0 < a.length) : ∃ t : Tr S48, t.ok S48.f0 ∧ a = t.flat := by
  unfold size at h
  cases e : tree S48.f0 a with
  | none => rw [e] at h; simp at h; omega
  | some p =>
    obtain ⟨t, r⟩ := p
    rw [e] at h
    obtain ⟨hok, h2⟩ := tree_some _ e
    have h3 : r = [] := by
      have := congrArg List.length h2
      rw [List.length_append] at this
      have h4 : t.len = t.flat.length := rfl
      exact List.eq_nil_of_length_eq_zero (by simp at h; omega)
    subst h3
    exact ⟨t, hok, by rw [h2, List.append_nil]⟩
theorem kids_make (n : S48) (a b : List S48) (hn : ar n.f0 = 2) (ha : size S48.f0 a = a.length) (ha0 : 0 < a.length) (hb : size S48.f0 b = b.length) (hb0 : 0 < b.length) : kidsL (n :: (a ++ b)) = [a, b] := by
  obtain ⟨ta, oka, rfl⟩ := whole_tree a ha ha0
  obtain ⟨tb, okb, rfl⟩ := whole_tree b hb hb0
  have h : (Tr.n2 n ta tb).ok S48.f0 := ⟨hn, oka, okb⟩
  have := kidsL_of (Tr.n2 n ta tb) [] h
  rw [List.append_nil] at this
  exact this
theorem two_cells {W : World} {A : Option Addr} {a b : List S48} (h : Kd.C (Kd.slice 48 k48) W A 2 [a, b]) : ∃ ad A0 c0 A1 c1, A = some ad ∧ W.cell? ad = some (.slice A0 a.length c0) ∧ a.length ≤ c0 ∧ Kd.C k48 W A0 a.length a ∧ W.cell? ⟨ad.block, ad.off + 1, none⟩ = some (.slice A1 b.length c1) ∧ b.length ≤ c1 ∧ Kd.C k48 W A1 b.length b := by
  obtain ⟨ad, A0, c0, e0, x0, l0, d0⟩ := at_L9 h 0 (by decide) (by decide)
  obtain ⟨ad1, A1, c1, e1, x1, l1, d1⟩ := at_L9 h 1 (by decide) (by decide)
  subst e0
  injection e1 with e1
  subst e1
  have h1 : ad.add (Int.toNat 1) = ⟨ad.block, ad.off + 1, none⟩ := by
    have := add_field ad 0 1 (by decide)
    rwa [Addr.add_zero'] at this
  rw [h1] at x1
  have h0 : ad.add (Int.toNat 0) = ad := Addr.add_zero' ad
  rw [h0] at x0
  exact ⟨ad, A0, c0, A1, c1, rfl, x0, l0, d0, x1, l1, d1⟩
end Go.Proofs.YtefiadocljnpjaaDoor.Row
/- The reference's sorts of a tree with kids of known sorts: plain, paired, plainOn, pairedOn (printed by wip/row/genW.py). -/
namespace Go.Proofs.YtefiadocljnpjaaDoor.Row
open Go.Proofs.Tree Go.RowKit Go.Proofs.YtefiadocljnpjaaDoorW.PrintWords Go.Proofs.YtefiadocljnpjaaDoorW.PrintLast Go.Proofs.YtefiadocljnpjaaDoorW.PrintMore Go.Proofs.YtefiadocljnpjaaDoor.PK
set_option linter.unusedVariables false
set_option linter.unusedSimpArgs false
set_option maxHeartbeats 4000000
set_option maxRecDepth 100000
/-- The reference's Is at a row, and what it tells. -/
def IsC (a : List S48) (fa : Nat → Bool) : Prop := ∀ (s : Nat), 1 ≤ s → s ≤ 4 → ∀ (A : Option Addr) (c : Nat) (W : World), Kd.C k48 W A a.length a → a.length ≤ c → Calls Tryd.prog 81 #[.slice A a.length c, .int .i64 (s : Int)] W fun e W' => e = .returned (.bool (fa s)) ∧ Below W.heap.size W W'
theorem IsC.at1 {a : List S48} {fa : Nat → Bool} (h : IsC a fa) {A : Option Addr} {c : Nat} {W : World} (hC : Kd.C k48 W A a.length a) (hc : a.length ≤ c) : Calls Tryd.prog 81 #[.slice A a.length c, .int .i64 1] W fun e W' => e = .returned (.bool (fa 1)) ∧ Below W.heap.size W W' := h 1 (by decide) (by decide) A c W hC hc
theorem IsC.at2 {a : List S48} {fa : Nat → Bool} (h : IsC a fa) {A : Option Addr} {c : Nat} {W : World} (hC : Kd.C k48 W A a.length a) (hc : a.length ≤ c) : Calls Tryd.prog 81 #[.slice A a.length c, .int .i64 2] W fun e W' => e = .returned (.bool (fa 2)) ∧ Below W.heap.size W W' := h 2 (by decide) (by decide) A c W hC hc
theorem IsC.at3 {a : List S48} {fa : Nat → Bool} (h : IsC a fa) {A : Option Addr} {c : Nat} {W : World} (hC : Kd.C k48 W A a.length a) (hc : a.length ≤ c) : Calls Tryd.prog 81 #[.slice A a.length c, .int .i64 3] W fun e W' => e = .returned (.bool (fa 3)) ∧ Below W.heap.size W W' := h 3 (by decide) (by decide) A c W hC hc
theorem IsC.at4 {a : List S48} {fa : Nat → Bool} (h : IsC a fa) {A : Option Addr} {c : Nat} {W : World} (hC : Kd.C k48 W A a.length a) (hc : a.length ≤ c) : Calls Tryd.prog 81 #[.slice A a.length c, .int .i64 4] W fun e W' => e = .returned (.bool (fa 4)) ∧ Below W.heap.size W W' := h 4 (by decide) (by decide) A c W hC hc
def pl0 (c : Int) : Bool := decide (c = 1 ∨ c = 2 ∨ c = 3 ∨ c = 4)
def pa0 (_ : Int) : Bool := false
def plOn0 (c : Int) : Bool := decide (c = 11)
def paOn0 (_ : Int) : Bool := false
def pl1 (c : Int) (a : Nat → Bool) : Bool := decide (c = 9) && a 2
def pa1 (_ : Int) (_ : Nat → Bool) : Bool := false
def plOn1 (c : Int) (a : Nat → Bool) : Bool := decide (c = 9) && a 4
def paOn1 (c : Int) (a : Nat → Bool) : Bool := decide (c = 14) && a 1
def pl2 (c : Int) (a b : Nat → Bool) : Bool := decide (c = 5 ∨ c = 6 ∨ c = 7 ∨ c = 8) && (a 1 && b 1)
def pa2 (c : Int) (a b : Nat → Bool) : Bool := if c = 10 then a 1 && b 1 else decide (c = 5 ∨ c = 6 ∨ c = 7) && (a 2 && b 2)
def plOn2 (c : Int) (a b : Nat → Bool) : Bool := if c = 5 ∨ c = 8 then a 3 && b 1 else decide (c = 7) && (a 3 && b 3)
def paOn2 (c : Int) (a b : Nat → Bool) : Bool := if c = 12 then a 3 && b 1 else if c = 5 then a 4 && b 2 else if c = 7 then a 4 && b 4 else decide (c = 13) && (a 4 && b 1)
theorem head_cell {W : World} {A : Option Addr} {l : List S48} (h : Kd.C k48 W A l.length l) (h0 : 0 < l.length) : ∃ ad, A = some ad ∧ W.cell? ad = some (.int .i64 (rd_T48 l 0).f0) := by
  obtain ⟨ad, e, x0, _, _⟩ := at_T48 h 0 (by decide) (by omega)
  have ez : ad.add (Int.toNat 0 * 3) = ad := Addr.add_zero' ad
  rw [ez] at x0
  exact ⟨ad, e, x0⟩
theorem one_cell {W : World} {A : Option Addr} {a : List S48} (h : Kd.C (Kd.slice 48 k48) W A 1 [a]) : ∃ ad A0 c0, A = some ad ∧ W.cell? ad = some (.slice A0 a.length c0) ∧ a.length ≤ c0 ∧ Kd.C k48 W A0 a.length a := by
  obtain ⟨ad, A0, c0, e0, x0, l0, d0⟩ := at_L9 h 0 (by decide) (by decide)
  have h0 : ad.add (Int.toNat 0) = ad := Addr.add_zero' ad
  rw [h0] at x0
  exact ⟨ad, A0, c0, e0, x0, l0, d0⟩
theorem pl_n0 (x : S48) (l : List S48) (hx : rd_T48 l 0 = x) (h0 : 0 < l.length) (hk : ar x.f0 = 0) (A : Option Addr) (c : Nat) (v : Value) (W : World) (hC : Kd.C k48 W A l.length l) (hc : l.length ≤ c) :
    Calls Tryd.prog 97 #[.slice A l.length c, v] W fun e W' => e = .returned (.bool (pl0 x.f0)) ∧ Below W.heap.size W W' := by
  obtain ⟨ad, rfl, x0⟩ := head_cell hC h0
  rw [hx] at x0
  obtain ⟨k, hkk⟩ : ∃ k, k = x.f0 := ⟨_, rfl⟩
  rw [← hkk] at x0 hk ⊢
  clear hC hx hkk
  have hp : (0 : Int) < (l.length : Int) := by omega
  rcases ar0 hk with rfl | rfl | rfl | rfl | rfl
  · go_enter Tryd.func97, Tryd.ntmps97
    go_wp2_with fail
    (try rw [Exit.noGoto_ret])
    go_ret
    exact ⟨rfl, Below.refl _ _⟩
  · go_enter Tryd.func97, Tryd.ntmps97
    go_wp2_with fail
    (try rw [Exit.noGoto_ret])
    go_ret
    exact ⟨rfl, Below.refl _ _⟩
  · go_enter Tryd.func97, Tryd.ntmps97
    go_wp2_with fail
    (try rw [Exit.noGoto_ret])
    go_ret
    exact ⟨rfl, Below.refl _ _⟩
  · go_enter Tryd.func97, Tryd.ntmps97
    go_wp2_with fail
    (try rw [Exit.noGoto_ret])
    go_ret
    exact ⟨rfl, Below.refl _ _⟩
  · go_enter Tryd.func97, Tryd.ntmps97
    go_wp2_with fail
    (try rw [Exit.noGoto_ret])
    go_ret
    exact ⟨rfl, Below.refl _ _⟩
theorem pl_n1 (x : S48) (l a : List S48) (fa : Nat → Bool) (ha : IsC a fa) (hx : rd_T48 l 0 = x) (h0 : 0 < l.length) (hk : ar x.f0 = 1) (A : Option Addr) (c : Nat) (AK : Option Addr) (cK : Nat) (W : World) (hC : Kd.C k48 W A l.length l) (hc : l.length ≤ c) (hK : Kd.C (Kd.slice 48 k48) W AK 1 [a]) (hcK : 1 ≤ cK) :
    Calls Tryd.prog 97 #[.slice A l.length c, .slice AK 1 cK] W fun e W' => e = .returned (.bool (pl1 x.f0 fa)) ∧ Below W.heap.size W W' := by
  obtain ⟨ad, rfl, x0⟩ := head_cell hC h0
  obtain ⟨kd, A0, c0, rfl, y0, l0, d0⟩ := one_cell hK
  rw [hx] at x0
  obtain ⟨k, hkk⟩ : ∃ k, k = x.f0 := ⟨_, rfl⟩
  rw [← hkk] at x0 hk ⊢
  have HA := Aside0.mk ha
  have HD := Aside0.mk (And.intro l0 d0)
  clear hC hx hkk ha hK l0 d0
  have hp : (0 : Int) < (l.length : Int) := by omega
  rcases ar1 hk with rfl | rfl
  · have hres : pl1 9 fa = fa 2 := by simp [pl1]
    go_enter Tryd.func97, Tryd.ntmps97
    go_wp2_with fail
    refine (HA.out.at2 HD.out.2 HD.out.1).mono ?_; rintro e w1 ⟨rfl, hb1⟩
    have HB := Aside0.mk hb1
    clear hb1 x0 y0
    go_wp2_with fail
    (try rw [Exit.noGoto_ret])
    go_ret
    exact ⟨by rw [hres]; rfl, HB.out⟩
  · go_enter Tryd.func97, Tryd.ntmps97
    go_wp2_with fail
    (try rw [Exit.noGoto_ret])
    go_ret
    exact ⟨rfl, Below.refl _ _⟩
theorem pl_n2 (x : S48) (l a b : List S48) (fa fb : Nat → Bool) (ha : IsC a fa) (hb : IsC b fb) (hx : rd_T48 l 0 = x) (h0 : 0 < l.length) (hk : ar x.f0 = 2) (A : Option Addr) (c : Nat) (AK : Option Addr) (cK : Nat) (W : World) (hC : Kd.C k48 W A l.length l) (hc : l.length ≤ c) (hK : Kd.C (Kd.slice 48 k48) W AK 2 [a, b]) (hcK : 2 ≤ cK) :
    Calls Tryd.prog 97 #[.slice A l.length c, .slice AK 2 cK] W fun e W' => e = .returned (.bool (pl2 x.f0 fa fb)) ∧ Below W.heap.size W W' := by
  obtain ⟨ad, rfl, x0⟩ := head_cell hC h0
  obtain ⟨kd, A0, c0, A1, c1, rfl, y0, l0, d0, y1, l1, d1⟩ := two_cells hK
  rw [hx] at x0
  obtain ⟨k, hkk⟩ : ∃ k, k = x.f0 := ⟨_, rfl⟩
  rw [← hkk] at x0 hk ⊢
  have HA := Aside0.mk ha
  have HBB := Aside0.mk hb
  have HD := Aside0.mk (And.intro l0 d0)
  have HE := Aside0.mk (And.intro l1 d1)
  clear hC hx hkk ha hb hK l0 d0 l1 d1
  have hp : (0 : Int) < (l.length : Int) := by omega
  rcases ar2 hk with rfl | rfl | rfl | rfl | rfl | rfl | rfl
  · have hres : pl2 5 fa fb = (fa 1 && fb 1) := by simp [pl2]
    go_enter Tryd.func97, Tryd.ntmps97
    go_wp2_with fail
    refine (HA.out.at1 HD.out.2 HD.out.1).mono ?_; rintro e w1 ⟨rfl, hb1⟩
    have HB1 := Aside0.mk hb1
    have z1 := pw_cell_below hb1 y1
    clear hb1 x0 y0 y1
    cases e1 : fa 1 with
    | false => go_wp2_with fail; (try rw [Exit.noGoto_ret]); go_ret; exact ⟨by rw [hres, e1]; rfl, HB1.out⟩
    | true =>
      go_wp2_with fail
      refine (HBB.out.at1 (Kd.C_below HE.out.2 HB1.out) HE.out.1).mono ?_; rintro e w2 ⟨rfl, hb2⟩
      have HB2 := Aside0.mk (Aid_bthen HB1.out hb2)
      clear hb2 z1
      go_wp2_with fail
      (try rw [Exit.noGoto_ret])
      go_ret
      exact ⟨by rw [hres, e1]; rfl, HB2.out⟩
  · have hres : pl2 6 fa fb = (fa 1 && fb 1) := by simp [pl2]
    go_enter Tryd.func97, Tryd.ntmps97
    go_wp2_with fail
    refine (HA.out.at1 HD.out.2 HD.out.1).mono ?_; rintro e w1 ⟨rfl, hb1⟩
    have HB1 := Aside0.mk hb1
    have z1 := pw_cell_below hb1 y1
    clear hb1 x0 y0 y1
    cases e1 : fa 1 with
    | false => go_wp2_with fail; (try rw [Exit.noGoto_ret]); go_ret; exact ⟨by rw [hres, e1]; rfl, HB1.out⟩
    | true =>
      go_wp2_with fail
      refine (HBB.out.at1 (Kd.C_below HE.out.2 HB1.out) HE.out.1).mono ?_; rintro e w2 ⟨rfl, hb2⟩
      have HB2 := Aside0.mk (Aid_bthen HB1.out hb2)
      clear hb2 z1
      go_wp2_with fail
      (try rw [Exit.noGoto_ret])
      go_ret
      exact ⟨by rw [hres, e1]; rfl, HB2.out⟩
  · have hres : pl2 7 fa fb = (fa 1 && fb 1) := by simp [pl2]
    go_enter Tryd.func97, Tryd.ntmps97
    go_wp2_with fail
    refine (HA.out.at1 HD.out.2 HD.out.1).mono ?_; rintro e w1 ⟨rfl, hb1⟩
    have HB1 := Aside0.mk hb1
    have z1 := pw_cell_below hb1 y1
    clear hb1 x0 y0 y1
    cases e1 : fa 1 with
    | false => go_wp2_with fail; (try rw [Exit.noGoto_ret]); go_ret; exact ⟨by rw [hres, e1]; rfl, HB1.out⟩
    | true =>
      go_wp2_with fail
      refine (HBB.out.at1 (Kd.C_below HE.out.2 HB1.out) HE.out.1).mono ?_; rintro e w2 ⟨rfl, hb2⟩
      have HB2 := Aside0.mk (Aid_bthen HB1.out hb2)
      clear hb2 z1
      go_wp2_with fail
      (try rw [Exit.noGoto_ret])
      go_ret
      exact ⟨by rw [hres, e1]; rfl, HB2.out⟩
  · have hres : pl2 8 fa fb = (fa 1 && fb 1) := by simp [pl2]
    go_enter Tryd.func97, Tryd.ntmps97
    go_wp2_with fail
    refine (HA.out.at1 HD.out.2 HD.out.1).mono ?_; rintro e w1 ⟨rfl, hb1⟩
    have HB1 := Aside0.mk hb1
    have z1 := pw_cell_below hb1 y1
    clear hb1 x0 y0 y1
    cases e1 : fa 1 with
    | false => go_wp2_with fail; (try rw [Exit.noGoto_ret]); go_ret; exact ⟨by rw [hres, e1]; rfl, HB1.out⟩
    | true =>
      go_wp2_with fail
      refine (HBB.out.at1 (Kd.C_below HE.out.2 HB1.out) HE.out.1).mono ?_; rintro e w2 ⟨rfl, hb2⟩
      have HB2 := Aside0.mk (Aid_bthen HB1.out hb2)
      clear hb2 z1
      go_wp2_with fail
      (try rw [Exit.noGoto_ret])
      go_ret
      exact ⟨by rw [hres, e1]; rfl, HB2.out⟩
  · go_enter Tryd.func97, Tryd.ntmps97
    go_wp2_with fail
    (try rw [Exit.noGoto_ret])
    go_ret
    exact ⟨rfl, Below.refl _ _⟩
  · go_enter Tryd.func97, Tryd.ntmps97
    go_wp2_with fail
    (try rw [Exit.noGoto_ret])
    go_ret
    exact ⟨rfl, Below.refl _ _⟩
  · go_enter Tryd.func97, Tryd.ntmps97
    go_wp2_with fail
    (try rw [Exit.noGoto_ret])
    go_ret
    exact ⟨rfl, Below.refl _ _⟩
theorem pa_n0 (x : S48) (l : List S48) (hx : rd_T48 l 0 = x) (h0 : 0 < l.length) (hk : ar x.f0 = 0) (A : Option Addr) (c : Nat) (v : Value) (W : World) (hC : Kd.C k48 W A l.length l) (hc : l.length ≤ c) :
    Calls Tryd.prog 98 #[.slice A l.length c, v] W fun e W' => e = .returned (.bool (pa0 x.f0)) ∧ Below W.heap.size W W' := by
  obtain ⟨ad, rfl, x0⟩ := head_cell hC h0
  rw [hx] at x0
  obtain ⟨k, hkk⟩ : ∃ k, k = x.f0 := ⟨_, rfl⟩
  rw [← hkk] at x0 hk ⊢
  clear hC hx hkk
  have hp : (0 : Int) < (l.length : Int) := by omega
  rcases ar0 hk with rfl | rfl | rfl | rfl | rfl
  · go_enter Tryd.func98, Tryd.ntmps98
    go_wp2_with fail
    (try rw [Exit.noGoto_ret])
    go_ret
    exact ⟨rfl, Below.refl _ _⟩
  · go_enter Tryd.func98, Tryd.ntmps98
    go_wp2_with fail
    (try rw [Exit.noGoto_ret])
    go_ret
    exact ⟨rfl, Below.refl _ _⟩
  · go_enter Tryd.func98, Tryd.ntmps98
    go_wp2_with fail
    (try rw [Exit.noGoto_ret])
    go_ret
    exact ⟨rfl, Below.refl _ _⟩
  · go_enter Tryd.func98, Tryd.ntmps98
    go_wp2_with fail
    (try rw [Exit.noGoto_ret])
    go_ret
    exact ⟨rfl, Below.refl _ _⟩
  · go_enter Tryd.func98, Tryd.ntmps98
    go_wp2_with fail
    (try rw [Exit.noGoto_ret])
    go_ret
    exact ⟨rfl, Below.refl _ _⟩
theorem pa_n1 (x : S48) (l a : List S48) (fa : Nat → Bool) (ha : IsC a fa) (hx : rd_T48 l 0 = x) (h0 : 0 < l.length) (hk : ar x.f0 = 1) (A : Option Addr) (c : Nat) (AK : Option Addr) (cK : Nat) (W : World) (hC : Kd.C k48 W A l.length l) (hc : l.length ≤ c) (hK : Kd.C (Kd.slice 48 k48) W AK 1 [a]) (hcK : 1 ≤ cK) :
    Calls Tryd.prog 98 #[.slice A l.length c, .slice AK 1 cK] W fun e W' => e = .returned (.bool (pa1 x.f0 fa)) ∧ Below W.heap.size W W' := by
  obtain ⟨ad, rfl, x0⟩ := head_cell hC h0
  obtain ⟨kd, A0, c0, rfl, y0, l0, d0⟩ := one_cell hK
  rw [hx] at x0
  obtain ⟨k, hkk⟩ : ∃ k, k = x.f0 := ⟨_, rfl⟩
  rw [← hkk] at x0 hk ⊢
  have HA := Aside0.mk ha
  have HD := Aside0.mk (And.intro l0 d0)
  clear hC hx hkk ha hK l0 d0
  have hp : (0 : Int) < (l.length : Int) := by omega
  rcases ar1 hk with rfl | rfl
  · go_enter Tryd.func98, Tryd.ntmps98
    go_wp2_with fail
    (try rw [Exit.noGoto_ret])
    go_ret
    exact ⟨rfl, Below.refl _ _⟩
  · go_enter Tryd.func98, Tryd.ntmps98
    go_wp2_with fail
    (try rw [Exit.noGoto_ret])
    go_ret
    exact ⟨rfl, Below.refl _ _⟩
theorem pa_n2 (x : S48) (l a b : List S48) (fa fb : Nat → Bool) (ha : IsC a fa) (hb : IsC b fb) (hx : rd_T48 l 0 = x) (h0 : 0 < l.length) (hk : ar x.f0 = 2) (A : Option Addr) (c : Nat) (AK : Option Addr) (cK : Nat) (W : World) (hC : Kd.C k48 W A l.length l) (hc : l.length ≤ c) (hK : Kd.C (Kd.slice 48 k48) W AK 2 [a, b]) (hcK : 2 ≤ cK) :
    Calls Tryd.prog 98 #[.slice A l.length c, .slice AK 2 cK] W fun e W' => e = .returned (.bool (pa2 x.f0 fa fb)) ∧ Below W.heap.size W W' := by
  obtain ⟨ad, rfl, x0⟩ := head_cell hC h0
  obtain ⟨kd, A0, c0, A1, c1, rfl, y0, l0, d0, y1, l1, d1⟩ := two_cells hK
  rw [hx] at x0
  obtain ⟨k, hkk⟩ : ∃ k, k = x.f0 := ⟨_, rfl⟩
  rw [← hkk] at x0 hk ⊢
  have HA := Aside0.mk ha
  have HBB := Aside0.mk hb
  have HD := Aside0.mk (And.intro l0 d0)
  have HE := Aside0.mk (And.intro l1 d1)
  clear hC hx hkk ha hb hK l0 d0 l1 d1
  have hp : (0 : Int) < (l.length : Int) := by omega
  rcases ar2 hk with rfl | rfl | rfl | rfl | rfl | rfl | rfl
  · have hres : pa2 5 fa fb = (fa 2 && fb 2) := by simp [pa2]
    go_enter Tryd.func98, Tryd.ntmps98
    go_wp2_with fail
    refine (HA.out.at2 HD.out.2 HD.out.1).mono ?_; rintro e w1 ⟨rfl, hb1⟩
    have HB1 := Aside0.mk hb1
    have z1 := pw_cell_below hb1 y1
    clear hb1 x0 y0 y1
    cases e1 : fa 2 with
    | false => go_wp2_with fail; (try rw [Exit.noGoto_ret]); go_ret; exact ⟨by rw [hres, e1]; rfl, HB1.out⟩
    | true =>
      go_wp2_with fail
      refine (HBB.out.at2 (Kd.C_below HE.out.2 HB1.out) HE.out.1).mono ?_; rintro e w2 ⟨rfl, hb2⟩
      have HB2 := Aside0.mk (Aid_bthen HB1.out hb2)
      clear hb2 z1
      go_wp2_with fail
      (try rw [Exit.noGoto_ret])
      go_ret
      exact ⟨by rw [hres, e1]; rfl, HB2.out⟩
  · have hres : pa2 6 fa fb = (fa 2 && fb 2) := by simp [pa2]
    go_enter Tryd.func98, Tryd.ntmps98
    go_wp2_with fail
    refine (HA.out.at2 HD.out.2 HD.out.1).mono ?_; rintro e w1 ⟨rfl, hb1⟩
    have HB1 := Aside0.mk hb1
    have z1 := pw_cell_below hb1 y1
    clear hb1 x0 y0 y1
    cases e1 : fa 2 with
    | false => go_wp2_with fail; (try rw [Exit.noGoto_ret]); go_ret; exact ⟨by rw [hres, e1]; rfl, HB1.out⟩
    | true =>
      go_wp2_with fail
      refine (HBB.out.at2 (Kd.C_below HE.out.2 HB1.out) HE.out.1).mono ?_; rintro e w2 ⟨rfl, hb2⟩
      have HB2 := Aside0.mk (Aid_bthen HB1.out hb2)
      clear hb2 z1
      go_wp2_with fail
      (try rw [Exit.noGoto_ret])
      go_ret
      exact ⟨by rw [hres, e1]; rfl, HB2.out⟩
  · have hres : pa2 7 fa fb = (fa 2 && fb 2) := by simp [pa2]
    go_enter Tryd.func98, Tryd.ntmps98
    go_wp2_with fail
    refine (HA.out.at2 HD.out.2 HD.out.1).mono ?_; rintro e w1 ⟨rfl, hb1⟩
    have HB1 := Aside0.mk hb1
    have z1 := pw_cell_below hb1 y1
    clear hb1 x0 y0 y1
    cases e1 : fa 2 with
    | false => go_wp2_with fail; (try rw [Exit.noGoto_ret]); go_ret; exact ⟨by rw [hres, e1]; rfl, HB1.out⟩
    | true =>
      go_wp2_with fail
      refine (HBB.out.at2 (Kd.C_below HE.out.2 HB1.out) HE.out.1).mono ?_; rintro e w2 ⟨rfl, hb2⟩
      have HB2 := Aside0.mk (Aid_bthen HB1.out hb2)
      clear hb2 z1
      go_wp2_with fail
      (try rw [Exit.noGoto_ret])
      go_ret
      exact ⟨by rw [hres, e1]; rfl, HB2.out⟩
  · go_enter Tryd.func98, Tryd.ntmps98
    go_wp2_with fail
    (try rw [Exit.noGoto_ret])
    go_ret
    exact ⟨rfl, Below.refl _ _⟩
  · have hres : pa2 10 fa fb = (fa 1 && fb 1) := by simp [pa2]
    go_enter Tryd.func98, Tryd.ntmps98
    go_wp2_with fail
    refine (HA.out.at1 HD.out.2 HD.out.1).mono ?_; rintro e w1 ⟨rfl, hb1⟩
    have HB1 := Aside0.mk hb1
    have z1 := pw_cell_below hb1 y1
    clear hb1 x0 y0 y1
    cases e1 : fa 1 with
    | false => go_wp2_with fail; (try rw [Exit.noGoto_ret]); go_ret; exact ⟨by rw [hres, e1]; rfl, HB1.out⟩
    | true =>
      go_wp2_with fail
      refine (HBB.out.at1 (Kd.C_below HE.out.2 HB1.out) HE.out.1).mono ?_; rintro e w2 ⟨rfl, hb2⟩
      have HB2 := Aside0.mk (Aid_bthen HB1.out hb2)
      clear hb2 z1
      go_wp2_with fail
      (try rw [Exit.noGoto_ret])
      go_ret
      exact ⟨by rw [hres, e1]; rfl, HB2.out⟩
  · go_enter Tryd.func98, Tryd.ntmps98
    go_wp2_with fail
    (try rw [Exit.noGoto_ret])
    go_ret
    exact ⟨rfl, Below.refl _ _⟩
  · go_enter Tryd.func98, Tryd.ntmps98
    go_wp2_with fail
    (try rw [Exit.noGoto_ret])
    go_ret
    exact ⟨rfl, Below.refl _ _⟩
theorem plOn_n0 (x : S48) (l : List S48) (hx : rd_T48 l 0 = x) (h0 : 0 < l.length) (hk : ar x.f0 = 0) (A : Option Addr) (c : Nat) (v : Value) (W : World) (hC : Kd.C k48 W A l.length l) (hc : l.length ≤ c) :
    Calls Tryd.prog 99 #[.slice A l.length c, v] W fun e W' => e = .returned (.bool (plOn0 x.f0)) ∧ Below W.heap.size W W' := by
  obtain ⟨ad, rfl, x0⟩ := head_cell hC h0
  rw [hx] at x0
  obtain ⟨k, hkk⟩ : ∃ k, k = x.f0 := ⟨_, rfl⟩
  rw [← hkk] at x0 hk ⊢
  clear hC hx hkk
  have hp : (0 : Int) < (l.length : Int) := by omega
  rcases ar0 hk with rfl | rfl | rfl | rfl | rfl
  · go_enter Tryd.func99, Tryd.ntmps99
    go_wp2_with fail
    (try rw [Exit.noGoto_ret])
    go_ret
    exact ⟨rfl, Below.refl _ _⟩
  · go_enter Tryd.func99, Tryd.ntmps99
    go_wp2_with fail
    (try rw [Exit.noGoto_ret])
    go_ret
    exact ⟨rfl, Below.refl _ _⟩
  · go_enter Tryd.func99, Tryd.ntmps99
    go_wp2_with fail
    (try rw [Exit.noGoto_ret])
    go_ret
    exact ⟨rfl, Below.refl _ _⟩
  · go_enter Tryd.func99, Tryd.ntmps99
    go_wp2_with fail
    (try rw [Exit.noGoto_ret])
    go_ret
    exact ⟨rfl, Below.refl _ _⟩
  · go_enter Tryd.func99, Tryd.ntmps99
    go_wp2_with fail
    (try rw [Exit.noGoto_ret])
    go_ret
    exact ⟨rfl, Below.refl _ _⟩
theorem plOn_n1 (x : S48) (l a : List S48) (fa : Nat → Bool) (ha : IsC a fa) (hx : rd_T48 l 0 = x) (h0 : 0 < l.length) (hk : ar x.f0 = 1) (A : Option Addr) (c : Nat) (AK : Option Addr) (cK : Nat) (W : World) (hC : Kd.C k48 W A l.length l) (hc : l.length ≤ c) (hK : Kd.C (Kd.slice 48 k48) W AK 1 [a]) (hcK : 1 ≤ cK) :
    Calls Tryd.prog 99 #[.slice A l.length c, .slice AK 1 cK] W fun e W' => e = .returned (.bool (plOn1 x.f0 fa)) ∧ Below W.heap.size W W' := by
  obtain ⟨ad, rfl, x0⟩ := head_cell hC h0
  obtain ⟨kd, A0, c0, rfl, y0, l0, d0⟩ := one_cell hK
  rw [hx] at x0
  obtain ⟨k, hkk⟩ : ∃ k, k = x.f0 := ⟨_, rfl⟩
  rw [← hkk] at x0 hk ⊢
  have HA := Aside0.mk ha
  have HD := Aside0.mk (And.intro l0 d0)
  clear hC hx hkk ha hK l0 d0
  have hp : (0 : Int) < (l.length : Int) := by omega
  rcases ar1 hk with rfl | rfl
  · have hres : plOn1 9 fa = fa 4 := by simp [plOn1]
    go_enter Tryd.func99, Tryd.ntmps99
    go_wp2_with fail
    refine (HA.out.at4 HD.out.2 HD.out.1).mono ?_; rintro e w1 ⟨rfl, hb1⟩
    have HB := Aside0.mk hb1
    clear hb1 x0 y0
    go_wp2_with fail
    (try rw [Exit.noGoto_ret])
    go_ret
    exact ⟨by rw [hres]; rfl, HB.out⟩
  · go_enter Tryd.func99, Tryd.ntmps99
    go_wp2_with fail
    (try rw [Exit.noGoto_ret])
    go_ret
    exact ⟨rfl, Below.refl _ _⟩
theorem plOn_n2 (x : S48) (l a b : List S48) (fa fb : Nat → Bool) (ha : IsC a fa) (hb : IsC b fb) (hx : rd_T48 l 0 = x) (h0 : 0 < l.length) (hk : ar x.f0 = 2) (A : Option Addr) (c : Nat) (AK : Option Addr) (cK : Nat) (W : World) (hC : Kd.C k48 W A l.length l) (hc : l.length ≤ c) (hK : Kd.C (Kd.slice 48 k48) W AK 2 [a, b]) (hcK : 2 ≤ cK) :
    Calls Tryd.prog 99 #[.slice A l.length c, .slice AK 2 cK] W fun e W' => e = .returned (.bool (plOn2 x.f0 fa fb)) ∧ Below W.heap.size W W' := by
  obtain ⟨ad, rfl, x0⟩ := head_cell hC h0
  obtain ⟨kd, A0, c0, A1, c1, rfl, y0, l0, d0, y1, l1, d1⟩ := two_cells hK
  rw [hx] at x0
  obtain ⟨k, hkk⟩ : ∃ k, k = x.f0 := ⟨_, rfl⟩
  rw [← hkk] at x0 hk ⊢
  have HA := Aside0.mk ha
  have HBB := Aside0.mk hb
  have HD := Aside0.mk (And.intro l0 d0)
  have HE := Aside0.mk (And.intro l1 d1)
  clear hC hx hkk ha hb hK l0 d0 l1 d1
  have hp : (0 : Int) < (l.length : Int) := by omega
  rcases ar2 hk with rfl | rfl | rfl | rfl | rfl | rfl | rfl
  · have hres : plOn2 5 fa fb = (fa 3 && fb 1) := by simp [plOn2]
    go_enter Tryd.func99, Tryd.ntmps99
    go_wp2_with fail
    refine (HA.out.at3 HD.out.2 HD.out.1).mono ?_; rintro e w1 ⟨rfl, hb1⟩
    have HB1 := Aside0.mk hb1
    have z1 := pw_cell_below hb1 y1
    clear hb1 x0 y0 y1
    cases e1 : fa 3 with
    | false => go_wp2_with fail; (try rw [Exit.noGoto_ret]); go_ret; exact ⟨by rw [hres, e1]; rfl, HB1.out⟩
    | true =>
      go_wp2_with fail
      refine (HBB.out.at1 (Kd.C_below HE.out.2 HB1.out) HE.out.1).mono ?_; rintro e w2 ⟨rfl, hb2⟩
      have HB2 := Aside0.mk (Aid_bthen HB1.out hb2)
      clear hb2 z1
      go_wp2_with fail
      (try rw [Exit.noGoto_ret])
      go_ret
      exact ⟨by rw [hres, e1]; rfl, HB2.out⟩
  · go_enter Tryd.func99, Tryd.ntmps99
    go_wp2_with fail
    (try rw [Exit.noGoto_ret])
    go_ret
    exact ⟨rfl, Below.refl _ _⟩
  · have hres : plOn2 7 fa fb = (fa 3 && fb 3) := by simp [plOn2]
    go_enter Tryd.func99, Tryd.ntmps99
    go_wp2_with fail
    refine (HA.out.at3 HD.out.2 HD.out.1).mono ?_; rintro e w1 ⟨rfl, hb1⟩
    have HB1 := Aside0.mk hb1
    have z1 := pw_cell_below hb1 y1
    clear hb1 x0 y0 y1
    cases e1 : fa 3 with
    | false => go_wp2_with fail; (try rw [Exit.noGoto_ret]); go_ret; exact ⟨by rw [hres, e1]; rfl, HB1.out⟩
    | true =>
      go_wp2_with fail
      refine (HBB.out.at3 (Kd.C_below HE.out.2 HB1.out) HE.out.1).mono ?_; rintro e w2 ⟨rfl, hb2⟩
      have HB2 := Aside0.mk (Aid_bthen HB1.out hb2)
      clear hb2 z1
      go_wp2_with fail
      (try rw [Exit.noGoto_ret])
      go_ret
      exact ⟨by rw [hres, e1]; rfl, HB2.out⟩
  · have hres : plOn2 8 fa fb = (fa 3 && fb 1) := by simp [plOn2]
    go_enter Tryd.func99, Tryd.ntmps99
    go_wp2_with fail
    refine (HA.out.at3 HD.out.2 HD.out.1).mono ?_; rintro e w1 ⟨rfl, hb1⟩
    have HB1 := Aside0.mk hb1
    have z1 := pw_cell_below hb1 y1
    clear hb1 x0 y0 y1
    cases e1 : fa 3 with
    | false => go_wp2_with fail; (try rw [Exit.noGoto_ret]); go_ret; exact ⟨by rw [hres, e1]; rfl, HB1.out⟩
    | true =>
      go_wp2_with fail
      refine (HBB.out.at1 (Kd.C_below HE.out.2 HB1.out) HE.out.1).mono ?_; rintro e w2 ⟨rfl, hb2⟩
      have HB2 := Aside0.mk (Aid_bthen HB1.out hb2)
      clear hb2 z1
      go_wp2_with fail
      (try rw [Exit.noGoto_ret])
      go_ret
      exact ⟨by rw [hres, e1]; rfl, HB2.out⟩
  · go_enter Tryd.func99, Tryd.ntmps99
    go_wp2_with fail
    (try rw [Exit.noGoto_ret])
    go_ret
    exact ⟨rfl, Below.refl _ _⟩
  · go_enter Tryd.func99, Tryd.ntmps99
    go_wp2_with fail
    (try rw [Exit.noGoto_ret])
    go_ret
    exact ⟨rfl, Below.refl _ _⟩
  · go_enter Tryd.func99, Tryd.ntmps99
    go_wp2_with fail
    (try rw [Exit.noGoto_ret])
    go_ret
    exact ⟨rfl, Below.refl _ _⟩
theorem paOn_n0 (x : S48) (l : List S48) (hx : rd_T48 l 0 = x) (h0 : 0 < l.length) (hk : ar x.f0 = 0) (A : Option Addr) (c : Nat) (v : Value) (W : World) (hC : Kd.C k48 W A l.length l) (hc : l.length ≤ c) :
    Calls Tryd.prog 100 #[.slice A l.length c, v] W fun e W' => e = .returned (.bool (paOn0 x.f0)) ∧ Below W.heap.size W W' := by
  obtain ⟨ad, rfl, x0⟩ := head_cell hC h0
  rw [hx] at x0
  obtain ⟨k, hkk⟩ : ∃ k, k = x.f0 := ⟨_, rfl⟩
  rw [← hkk] at x0 hk ⊢
  clear hC hx hkk
  have hp : (0 : Int) < (l.length : Int) := by omega
  rcases ar0 hk with rfl | rfl | rfl | rfl | rfl
  · go_enter Tryd.func100, Tryd.ntmps100
    go_wp2_with fail
    (try rw [Exit.noGoto_ret])
    go_ret
    exact ⟨rfl, Below.refl _ _⟩
  · go_enter Tryd.func100, Tryd.ntmps100
    go_wp2_with fail
    (try rw [Exit.noGoto_ret])
    go_ret
    exact ⟨rfl, Below.refl _ _⟩
  · go_enter Tryd.func100, Tryd.ntmps100
    go_wp2_with fail
    (try rw [Exit.noGoto_ret])
    go_ret
    exact ⟨rfl, Below.refl _ _⟩
  · go_enter Tryd.func100, Tryd.ntmps100
    go_wp2_with fail
    (try rw [Exit.noGoto_ret])
    go_ret
    exact ⟨rfl, Below.refl _ _⟩
  · go_enter Tryd.func100, Tryd.ntmps100
    go_wp2_with fail
    (try rw [Exit.noGoto_ret])
    go_ret
    exact ⟨rfl, Below.refl _ _⟩
theorem paOn_n1 (x : S48) (l a : List S48) (fa : Nat → Bool) (ha : IsC a fa) (hx : rd_T48 l 0 = x) (h0 : 0 < l.length) (hk : ar x.f0 = 1) (A : Option Addr) (c : Nat) (AK : Option Addr) (cK : Nat) (W : World) (hC : Kd.C k48 W A l.length l) (hc : l.length ≤ c) (hK : Kd.C (Kd.slice 48 k48) W AK 1 [a]) (hcK : 1 ≤ cK) :
    Calls Tryd.prog 100 #[.slice A l.length c, .slice AK 1 cK] W fun e W' => e = .returned (.bool (paOn1 x.f0 fa)) ∧ Below W.heap.size W W' := by
  obtain ⟨ad, rfl, x0⟩ := head_cell hC h0
  obtain ⟨kd, A0, c0, rfl, y0, l0, d0⟩ := one_cell hK
  rw [hx] at x0
  obtain ⟨k, hkk⟩ : ∃ k, k = x.f0 := ⟨_, rfl⟩
  rw [← hkk] at x0 hk ⊢
  have HA := Aside0.mk ha
  have HD := Aside0.mk (And.intro l0 d0)
  clear hC hx hkk ha hK l0 d0
  have hp : (0 : Int) < (l.length : Int) := by omega
  rcases ar1 hk with rfl | rfl
  · go_enter Tryd.func100, Tryd.ntmps100
    go_wp2_with fail
    (try rw [Exit.noGoto_ret])
    go_ret
    exact ⟨rfl, Below.refl _ _⟩
  · have hres : paOn1 14 fa = fa 1 := by simp [paOn1]
    go_enter Tryd.func100, Tryd.ntmps100
    go_wp2_with fail
    refine (HA.out.at1 HD.out.2 HD.out.1).mono ?_; rintro e w1 ⟨rfl, hb1⟩
    have HB := Aside0.mk hb1
    clear hb1 x0 y0
    go_wp2_with fail
    (try rw [Exit.noGoto_ret])
    go_ret
    exact ⟨by rw [hres]; rfl, HB.out⟩
theorem paOn_n2 (x : S48) (l a b : List S48) (fa fb : Nat → Bool) (ha : IsC a fa) (hb : IsC b fb) (hx : rd_T48 l 0 = x) (h0 : 0 < l.length) (hk : ar x.f0 = 2) (A : Option Addr) (c : Nat) (AK : Option Addr) (cK : Nat) (W : World) (hC : Kd.C k48 W A l.length l) (hc : l.length ≤ c) (hK : Kd.C (Kd.slice 48 k48) W AK 2 [a, b]) (hcK : 2 ≤ cK) :
    Calls Tryd.prog 100 #[.slice A l.length c, .slice AK 2 cK] W fun e W' => e = .returned (.bool (paOn2 x.f0 fa fb)) ∧ Below W.heap.size W W' := by
  obtain ⟨ad, rfl, x0⟩ := head_cell hC h0
  obtain ⟨kd, A0, c0, A1, c1, rfl, y0, l0, d0, y1, l1, d1⟩ := two_cells hK
  rw [hx] at x0
  obtain ⟨k, hkk⟩ : ∃ k, k = x.f0 := ⟨_, rfl⟩
  rw [← hkk] at x0 hk ⊢
  have HA := Aside0.mk ha
  have HBB := Aside0.mk hb
  have HD := Aside0.mk (And.intro l0 d0)
  have HE := Aside0.mk (And.intro l1 d1)
  clear hC hx hkk ha hb hK l0 d0 l1 d1
  have hp : (0 : Int) < (l.length : Int) := by omega
  rcases ar2 hk with rfl | rfl | rfl | rfl | rfl | rfl | rfl
  · have hres : paOn2 5 fa fb = (fa 4 && fb 2) := by simp [paOn2]
    go_enter Tryd.func100, Tryd.ntmps100
    go_wp2_with fail
    refine (HA.out.at4 HD.out.2 HD.out.1).mono ?_; rintro e w1 ⟨rfl, hb1⟩
    have HB1 := Aside0.mk hb1
    have z1 := pw_cell_below hb1 y1
    clear hb1 x0 y0 y1
    cases e1 : fa 4 with
    | false => go_wp2_with fail; (try rw [Exit.noGoto_ret]); go_ret; exact ⟨by rw [hres, e1]; rfl, HB1.out⟩
    | true =>
      go_wp2_with fail
      refine (HBB.out.at2 (Kd.C_below HE.out.2 HB1.out) HE.out.1).mono ?_; rintro e w2 ⟨rfl, hb2⟩
      have HB2 := Aside0.mk (Aid_bthen HB1.out hb2)
      clear hb2 z1
      go_wp2_with fail
      (try rw [Exit.noGoto_ret])
      go_ret
      exact ⟨by rw [hres, e1]; rfl, HB2.out⟩
  · go_enter Tryd.func100, Tryd.ntmps100
    go_wp2_with fail
    (try rw [Exit.noGoto_ret])
    go_ret
    exact ⟨rfl, Below.refl _ _⟩
  · have hres : paOn2 7 fa fb = (fa 4 && fb 4) := by simp [paOn2]
    go_enter Tryd.func100, Tryd.ntmps100
    go_wp2_with fail
    refine (HA.out.at4 HD.out.2 HD.out.1).mono ?_; rintro e w1 ⟨rfl, hb1⟩
    have HB1 := Aside0.mk hb1
    have z1 := pw_cell_below hb1 y1
    clear hb1 x0 y0 y1
    cases e1 : fa 4 with
    | false => go_wp2_with fail; (try rw [Exit.noGoto_ret]); go_ret; exact ⟨by rw [hres, e1]; rfl, HB1.out⟩
    | true =>
      go_wp2_with fail
      refine (HBB.out.at4 (Kd.C_below HE.out.2 HB1.out) HE.out.1).mono ?_; rintro e w2 ⟨rfl, hb2⟩
      have HB2 := Aside0.mk (Aid_bthen HB1.out hb2)
      clear hb2 z1
      go_wp2_with fail
      (try rw [Exit.noGoto_ret])
      go_ret
      exact ⟨by rw [hres, e1]; rfl, HB2.out⟩
  · go_enter Tryd.func100, Tryd.ntmps100
    go_wp2_with fail
    (try rw [Exit.noGoto_ret])
    go_ret
    exact ⟨rfl, Below.refl _ _⟩
  · go_enter Tryd.func100, Tryd.ntmps100
    go_wp2_with fail
    (try rw [Exit.noGoto_ret])
    go_ret
    exact ⟨rfl, Below.refl _ _⟩
  · have hres : paOn2 12 fa fb = (fa 3 && fb 1) := by simp [paOn2]
    go_enter Tryd.func100, Tryd.ntmps100
    go_wp2_with fail
    refine (HA.out.at3 HD.out.2 HD.out.1).mono ?_; rintro e w1 ⟨rfl, hb1⟩
    have HB1 := Aside0.mk hb1
    have z1 := pw_cell_below hb1 y1
    clear hb1 x0 y0 y1
    cases e1 : fa 3 with
    | false => go_wp2_with fail; (try rw [Exit.noGoto_ret]); go_ret; exact ⟨by rw [hres, e1]; rfl, HB1.out⟩
    | true =>
      go_wp2_with fail
      refine (HBB.out.at1 (Kd.C_below HE.out.2 HB1.out) HE.out.1).mono ?_; rintro e w2 ⟨rfl, hb2⟩
      have HB2 := Aside0.mk (Aid_bthen HB1.out hb2)
      clear hb2 z1
      go_wp2_with fail
      (try rw [Exit.noGoto_ret])
      go_ret
      exact ⟨by rw [hres, e1]; rfl, HB2.out⟩
  · have hres : paOn2 13 fa fb = (fa 4 && fb 1) := by simp [paOn2]
    go_enter Tryd.func100, Tryd.ntmps100
    go_wp2_with fail
    refine (HA.out.at4 HD.out.2 HD.out.1).mono ?_; rintro e w1 ⟨rfl, hb1⟩
    have HB1 := Aside0.mk hb1
    have z1 := pw_cell_below hb1 y1
    clear hb1 x0 y0 y1
    cases e1 : fa 4 with
    | false => go_wp2_with fail; (try rw [Exit.noGoto_ret]); go_ret; exact ⟨by rw [hres, e1]; rfl, HB1.out⟩
    | true =>
      go_wp2_with fail
      refine (HBB.out.at1 (Kd.C_below HE.out.2 HB1.out) HE.out.1).mono ?_; rintro e w2 ⟨rfl, hb2⟩
      have HB2 := Aside0.mk (Aid_bthen HB1.out hb2)
      clear hb2 z1
      go_wp2_with fail
      (try rw [Exit.noGoto_ret])
      go_ret
      exact ⟨by rw [hres, e1]; rfl, HB2.out⟩
end Go.Proofs.YtefiadocljnpjaaDoor.Row
/- The reference's sort of a row: Is, Of, On, Right. -/
namespace Go.Proofs.YtefiadocljnpjaaDoor.Row
open Go.Proofs.Tree Go.RowKit Go.Proofs.YtefiadocljnpjaaDoorW.PrintWords Go.Proofs.YtefiadocljnpjaaDoorW.PrintLast Go.Proofs.YtefiadocljnpjaaDoorW.PrintMore Go.Proofs.YtefiadocljnpjaaDoor.PK
set_option linter.unusedVariables false
set_option linter.unusedSimpArgs false
set_option maxHeartbeats 4000000
set_option maxRecDepth 100000
/-- A function of a row and its kids tells a bool. -/
def TellsB (F : Nat) (l : List S48) (ks : List (List S48)) (p : Bool) : Prop := ∀ (A : Option Addr) (c : Nat) (AK : Option Addr) (cK : Nat) (W : World), Kd.C k48 W A l.length l → l.length ≤ c → Kd.C (Kd.slice 48 k48) W AK ks.length ks → ks.length ≤ cK → Calls Tryd.prog F #[.slice A l.length c, .slice AK ks.length cK] W fun e W' => e = .returned (.bool p) ∧ Below W.heap.size W W'
theorem is_walk (l : List S48) (ks : List (List S48)) (hk : kidsL l = ks) (hl : l.length ≤ 1000000) (p q r t : Bool) (h97 : TellsB 97 l ks p) (h98 : TellsB 98 l ks q) (h99 : TellsB 99 l ks r) (h100 : TellsB 100 l ks t)
    (s : Nat) (hs1 : 1 ≤ s) (hs4 : s ≤ 4) (A : Option Addr) (c : Nat) (W : World) (hC : Kd.C k48 W A l.length l) (hc : l.length ≤ c) :
    Calls Tryd.prog 81 #[.slice A l.length c, .int .i64 (s : Int)] W fun e W' => e = .returned (.bool (if s = 1 then p else if s = 2 then q else if s = 3 then p || r else q || t)) ∧ Below W.heap.size W W' := by
  have HC := Aside0.mk hC
  have HK := Aside0.mk (RefKids A c l W hC hc (by omega))
  rw [hk] at HK
  have H97 := Aside0.mk h97
  have H98 := Aside0.mk h98
  have H99 := Aside0.mk h99
  have H100 := Aside0.mk h100
  clear hk h97 h98 h99 h100 hC
  have hss : s = 1 ∨ s = 2 ∨ s = 3 ∨ s = 4 := by omega
  rcases hss with rfl | rfl | rfl | rfl
  · go_enter Tryd.func81, Tryd.ntmps81
    go_wp2_with fail
    refine HK.out.mono ?_; rintro e w1 ⟨AK, cK, rfl, hcK, hK1, hb1⟩
    have HB1 := Aside0.mk hb1
    have hC1 := Kd.C_below HC.out hb1
    clear hb1
    go_wp2_with fail
    refine (H97.out A c AK cK _ hC1 hc hK1 hcK).mono ?_; rintro e w2 ⟨rfl, hb2⟩
    have HB2 := Aside0.mk (Aid_bthen HB1.out hb2)
    clear hb2 hC1 hK1
    go_wp2_with fail
    (try rw [Exit.noGoto_ret])
    go_ret
    exact ⟨rfl, HB2.out⟩
  · go_enter Tryd.func81, Tryd.ntmps81
    go_wp2_with fail
    refine HK.out.mono ?_; rintro e w1 ⟨AK, cK, rfl, hcK, hK1, hb1⟩
    have HB1 := Aside0.mk hb1
    have hC1 := Kd.C_below HC.out hb1
    clear hb1
    go_wp2_with fail
    refine (H98.out A c AK cK _ hC1 hc hK1 hcK).mono ?_; rintro e w2 ⟨rfl, hb2⟩
    have HB2 := Aside0.mk (Aid_bthen HB1.out hb2)
    clear hb2 hC1 hK1
    go_wp2_with fail
    (try rw [Exit.noGoto_ret])
    go_ret
    exact ⟨rfl, HB2.out⟩
  · go_enter Tryd.func81, Tryd.ntmps81
    go_wp2_with fail
    refine HK.out.mono ?_; rintro e w1 ⟨AK, cK, rfl, hcK, hK1, hb1⟩
    have HB1 := Aside0.mk hb1
    have HC1 := Aside0.mk (And.intro (Kd.C_below HC.out hb1) hK1)
    clear hb1 hK1
    go_wp2_with fail
    refine (H97.out A c AK cK _ HC1.out.1 hc HC1.out.2 hcK).mono ?_; rintro e w2 ⟨rfl, hb2⟩
    have HC2 := Aside0.mk (And.intro (Kd.C_below HC1.out.1 hb2) (Kd.C_below HC1.out.2 hb2))
    have HB2 := Aside0.mk (Aid_bthen HB1.out hb2)
    clear hb2 HC1
    cases p with
    | true =>
      go_wp2_with fail
      (try rw [Exit.noGoto_ret])
      go_ret
      exact ⟨rfl, HB2.out⟩
    | false =>
      go_wp2_with fail
      refine (H99.out A c AK cK _ HC2.out.1 hc HC2.out.2 hcK).mono ?_; rintro e w3 ⟨rfl, hb3⟩
      have HB3 := Aside0.mk (Aid_bthen HB2.out hb3)
      clear hb3 HC2
      go_wp2_with fail
      (try rw [Exit.noGoto_ret])
      go_ret
      exact ⟨rfl, HB3.out⟩
  · go_enter Tryd.func81, Tryd.ntmps81
    go_wp2_with fail
    refine HK.out.mono ?_; rintro e w1 ⟨AK, cK, rfl, hcK, hK1, hb1⟩
    have HB1 := Aside0.mk hb1
    have HC1 := Aside0.mk (And.intro (Kd.C_below HC.out hb1) hK1)
    clear hb1 hK1
    go_wp2_with fail
    refine (H98.out A c AK cK _ HC1.out.1 hc HC1.out.2 hcK).mono ?_; rintro e w2 ⟨rfl, hb2⟩
    have HC2 := Aside0.mk (And.intro (Kd.C_below HC1.out.1 hb2) (Kd.C_below HC1.out.2 hb2))
    have HB2 := Aside0.mk (Aid_bthen HB1.out hb2)
    clear hb2 HC1
    cases q with
    | true =>
      go_wp2_with fail
      (try rw [Exit.noGoto_ret])
      go_ret
      exact ⟨rfl, HB2.out⟩
    | false =>
      go_wp2_with fail
      refine (H100.out A c AK cK _ HC2.out.1 hc HC2.out.2 hcK).mono ?_; rintro e w3 ⟨rfl, hb3⟩
      have HB3 := Aside0.mk (Aid_bthen HB2.out hb3)
      clear hb3 HC2
      go_wp2_with fail
      (try rw [Exit.noGoto_ret])
      go_ret
      exact ⟨rfl, HB3.out⟩
theorem is_tree (t : Tr S48) : t.ok S48.f0 → t.flat.length ≤ 1000000 → IsC t.flat (t.is S48.f0) := by
  induction t with
  | n0 x =>
    intro hok hl s hs1 hs4 A c W hC hc
    have hk : kidsL (Tr.n0 x).flat = [] := by have := kidsL_of (Tr.n0 x) [] hok; rw [List.append_nil] at this; exact this
    have h0 : 0 < (Tr.n0 x).flat.length := Tr.len_pos _
    have hx : rd_T48 (Tr.n0 x).flat 0 = x := rfl
    have hr : ar x.f0 = 0 := hok
    refine (is_walk (Tr.n0 x).flat [] hk hl (pl0 x.f0) (pa0 x.f0) (plOn0 x.f0) (paOn0 x.f0) (fun A c AK cK W h1 h2 h3 h4 => pl_n0 x _ hx h0 hr A c _ W h1 h2) (fun A c AK cK W h1 h2 h3 h4 => pa_n0 x _ hx h0 hr A c _ W h1 h2) (fun A c AK cK W h1 h2 h3 h4 => plOn_n0 x _ hx h0 hr A c _ W h1 h2) (fun A c AK cK W h1 h2 h3 h4 => paOn_n0 x _ hx h0 hr A c _ W h1 h2) s hs1 hs4 A c W hC hc).mono ?_
    rintro e W' ⟨rfl, hb⟩
    refine ⟨?_, hb⟩
    have hss : s = 1 ∨ s = 2 ∨ s = 3 ∨ s = 4 := by omega
    rcases hss with rfl | rfl | rfl | rfl <;> rfl
  | n1 x a ih =>
    intro hok hl s hs1 hs4 A c W hC hc
    have hk : kidsL (Tr.n1 x a).flat = [a.flat] := by have := kidsL_of (Tr.n1 x a) [] hok; rw [List.append_nil] at this; exact this
    have h0 : 0 < (Tr.n1 x a).flat.length := Tr.len_pos _
    have hx : rd_T48 (Tr.n1 x a).flat 0 = x := rfl
    have ha := ih hok.2 (by simp [Tr.flat] at hl; omega)
    have hr : ar x.f0 = 1 := hok.1
    refine (is_walk (Tr.n1 x a).flat [a.flat] hk hl (pl1 x.f0 (a.is S48.f0)) (pa1 x.f0 (a.is S48.f0)) (plOn1 x.f0 (a.is S48.f0)) (paOn1 x.f0 (a.is S48.f0)) (fun A c AK cK W h1 h2 h3 h4 => pl_n1 x _ _ _ ha hx h0 hr A c AK cK W h1 h2 h3 h4) (fun A c AK cK W h1 h2 h3 h4 => pa_n1 x _ _ _ ha hx h0 hr A c AK cK W h1 h2 h3 h4) (fun A c AK cK W h1 h2 h3 h4 => plOn_n1 x _ _ _ ha hx h0 hr A c AK cK W h1 h2 h3 h4) (fun A c AK cK W h1 h2 h3 h4 => paOn_n1 x _ _ _ ha hx h0 hr A c AK cK W h1 h2 h3 h4) s hs1 hs4 A c W hC hc).mono ?_
    rintro e W' ⟨rfl, hb⟩
    refine ⟨?_, hb⟩
    have hss : s = 1 ∨ s = 2 ∨ s = 3 ∨ s = 4 := by omega
    rcases hss with rfl | rfl | rfl | rfl <;> rfl
  | n2 x a b iha ihb =>
    intro hok hl s hs1 hs4 A c W hC hc
    have hk : kidsL (Tr.n2 x a b).flat = [a.flat, b.flat] := by have := kidsL_of (Tr.n2 x a b) [] hok; rw [List.append_nil] at this; exact this
    have h0 : 0 < (Tr.n2 x a b).flat.length := Tr.len_pos _
    have hx : rd_T48 (Tr.n2 x a b).flat 0 = x := rfl
    have ha := iha hok.2.1 (by simp [Tr.flat] at hl; omega)
    have hb' := ihb hok.2.2 (by simp [Tr.flat] at hl; omega)
    have hr : ar x.f0 = 2 := hok.1
    refine (is_walk (Tr.n2 x a b).flat [a.flat, b.flat] hk hl (pl2 x.f0 (a.is S48.f0) (b.is S48.f0)) (pa2 x.f0 (a.is S48.f0) (b.is S48.f0)) (plOn2 x.f0 (a.is S48.f0) (b.is S48.f0)) (paOn2 x.f0 (a.is S48.f0) (b.is S48.f0)) (fun A c AK cK W h1 h2 h3 h4 => pl_n2 x _ _ _ _ _ ha hb' hx h0 hr A c AK cK W h1 h2 h3 h4) (fun A c AK cK W h1 h2 h3 h4 => pa_n2 x _ _ _ _ _ ha hb' hx h0 hr A c AK cK W h1 h2 h3 h4) (fun A c AK cK W h1 h2 h3 h4 => plOn_n2 x _ _ _ _ _ ha hb' hx h0 hr A c AK cK W h1 h2 h3 h4) (fun A c AK cK W h1 h2 h3 h4 => paOn_n2 x _ _ _ _ _ ha hb' hx h0 hr A c AK cK W h1 h2 h3 h4) s hs1 hs4 A c W hC hc).mono ?_
    rintro e W' ⟨rfl, hb⟩
    refine ⟨?_, hb⟩
    have hss : s = 1 ∨ s = 2 ∨ s = 3 ∨ s = 4 := by omega
    rcases hss with rfl | rfl | rfl | rfl <;> rfl
/-- The sort of a row; 0: it is no tree that may be. -/
def ofV (l : List S48) : Int := if wh l = true then (match tree S48.f0 l with | some (t, _) => t.srt S48.f0 | none => 0) else 0
theorem wh_tree (l : List S48) (h : wh l = true) : ∃ t : Tr S48, t.ok S48.f0 ∧ l = t.flat ∧ l.length ≤ 200 ∧ ofV l = t.srt S48.f0 := by
  have h2 := h
  rw [wh_alt] at h2
  simp only [Bool.and_eq_true, decide_eq_true_eq] at h2
  obtain ⟨_, h0, h200, hs⟩ := h2
  unfold sz at hs
  rw [szw_size _ l (by omega)] at hs
  obtain ⟨t, hok, e⟩ := whole_tree l (by omega) h0
  refine ⟨t, hok, e, h200, ?_⟩
  unfold ofV
  rw [if_pos h, e, tree_of' _ t hok]
theorem ofV_in (l : List S48) : 0 ≤ ofV l ∧ ofV l ≤ 4 := by
  by_cases h : wh l = true
  · obtain ⟨t, _, _, _, e⟩ := wh_tree l h
    rw [e]; exact t.srt_in _
  · unfold ofV; rw [if_neg h]; decide
theorem RefOf (A : Option Addr) (c : Nat) (l : List S48) (w : World) (hC : Kd.C k48 w A l.length l) (hc : l.length ≤ c) (hl : l.length ≤ 1000000) (hs : ∀ n ∈ l, n.f1.size ≤ 9223372036854775807) :
    Calls Tryd.prog 53 #[.slice A l.length c] w fun e w' => e = .returned (.int .i64 (ofV l)) ∧ Below w.heap.size w w' := by
  have HW := Aside0.mk (RefWhole A c l w hC hc (by omega) hs)
  have HC := Aside0.mk hC
  clear hs hC
  by_cases hw : wh l = true
  · obtain ⟨t, hok, e, h200, ev⟩ := wh_tree l hw
    have HI := Aside0.mk (is_tree t hok (by rw [← e]; exact hl))
    rw [← e] at HI
    have HF := Aside0.mk (t.first_srt S48.f0 hok)
    rw [hw] at HW
    rw [ev]
    clear e ev hw
    obtain ⟨f, hf⟩ : ∃ f, f = t.is S48.f0 := ⟨_, rfl⟩
    rw [← hf] at HI HF
    obtain ⟨v, hv⟩ : ∃ v, v = t.srt S48.f0 := ⟨_, rfl⟩
    rw [← hv] at HF ⊢
    clear hf hv hok
    go_enter Tryd.func53, Tryd.ntmps53
    go_wp2_with fail
    refine HW.out.mono ?_; rintro e w1 ⟨rfl, hb1⟩
    have HB1 := Aside0.mk hb1
    clear hb1
    go_wp2_with fail
    go_loopg [3] 5 (fun kq v3 W => ∃ (j : Nat), v3 = .int .i64 ((j + 1 : Nat) : Int) ∧ Aside0 (kq + j = 5 ∧ j ≤ 4) ∧ Aside0 (∀ s, 1 ≤ s → s ≤ j → f s = false) ∧ Aside0 (Below w.heap.size w W))
    case atStart => exact ⟨0, rfl, ⟨by omega, by omega⟩, ⟨fun s h1 h2 => by omega⟩, HB1⟩
    case round =>
      clear HB1
      obtain ⟨j, rfl, HJ, HN, HB⟩ := hrel
      cases gk with
      | zero => exact absurd HJ.out (by omega)
      | succ k1 =>
        obtain ⟨sd, hsd⟩ : ∃ sd : Nat, sd = j + 1 := ⟨_, rfl⟩
        rw [← hsd]
        by_cases hj : j < 4
        · have c14 : decide ((sd : Int) ≤ 4) = true := decide_eq_true (by omega)
          have c14' : decide (sd ≤ 4) = true := decide_eq_true (by omega)
          have HSD := Aside0.mk (And.intro hsd hj)
          have KI := Aside0.mk (fun W (h : Below w.heap.size w W) => HI.out sd (by omega) (by omega) A c W (Kd.C_below HC.out h) hc)
          have KB := Aside0.mk (wsucc sd 5 (by omega) (by decide))
          clear hsd hj
          go_wp2_with fail
          refine (KI.out _ HB.out).mono ?_; rintro e w2 ⟨rfl, hb2⟩
          have HB2 := Aside0.mk (Aid_bthen HB.out hb2)
          clear hb2 HB KI
          cases ef : f sd with
          | true =>
            have hv : v = (sd : Int) := by
              rw [← HF.out]
              have hn := HN.out
              have hsd := HSD.out.1
              have hj4 := HSD.out.2
              unfold firstS
              have hss : sd = 1 ∨ sd = 2 ∨ sd = 3 ∨ sd = 4 := by omega
              rcases hss with rfl | rfl | rfl | rfl
              · rw [ef]; rfl
              · rw [hn 1 (by omega) (by omega), ef]; rfl
              · rw [hn 1 (by omega) (by omega), hn 2 (by omega) (by omega), ef]; rfl
              · rw [hn 1 (by omega) (by omega), hn 2 (by omega) (by omega), hn 3 (by omega) (by omega), ef]; rfl
            subst hv
            go_wp2_with fail
            (try rw [Exit.noGoto_ret])
            go_ret
            exact ⟨rfl, HB2.out⟩
          | false =>
            have HE := Aside0.mk ef
            clear ef
            go_wp2_with fail
            go_roundg k1
            case measure => omega
            case rel => exact ⟨j + 1, by rw [KB.out, HSD.out.1], ⟨by have := HJ.out; omega, by have := HSD.out.2; omega⟩, ⟨fun s h1 h2 => by
              by_cases h3 : s ≤ j
              · exact HN.out s h1 h3
              · have : s = sd := by have := HSD.out.1; omega
                rw [this]; exact HE.out⟩, HB2⟩
        · have c14 : decide ((sd : Int) ≤ 4) = false := decide_eq_false (by omega)
          have c14' : decide (sd ≤ 4) = false := decide_eq_false (by omega)
          have hv : v = 0 := by
            rw [← HF.out]
            have hn := HN.out
            have hj4 : j = 4 := by have := HJ.out; omega
            subst hj4
            unfold firstS
            rw [hn 1 (by omega) (by omega), hn 2 (by omega) (by omega), hn 3 (by omega) (by omega), hn 4 (by omega) (by omega)]; rfl
          subst hv
          clear hj hsd
          go_wp2_with fail
          (try rw [Exit.noGoto_ret])
          go_ret
          exact ⟨rfl, HB.out⟩
  · have hw2 : wh l = false := by simpa using hw
    have hv : ofV l = 0 := by unfold ofV; rw [if_neg hw]
    rw [hw2] at HW
    rw [hv]
    clear hw hw2 hv
    go_enter Tryd.func53, Tryd.ntmps53
    go_wp2_with fail
    refine HW.out.mono ?_; rintro e w1 ⟨rfl, hb1⟩
    have HB1 := Aside0.mk hb1
    clear hb1
    go_wp2_with fail
    (try rw [Exit.noGoto_ret])
    go_ret
    exact ⟨rfl, HB1.out⟩
end Go.Proofs.YtefiadocljnpjaaDoor.Row
/- The sort of a row, by the program: sort, Of, Term, On, Right. -/
namespace Go.Proofs.YtefiadocljnpjaaDoor.Row
open Go.Proofs.Tree Go.RowKit Go.Proofs.YtefiadocljnpjaaDoorW.PrintWords Go.Proofs.YtefiadocljnpjaaDoorW.PrintLast Go.Proofs.YtefiadocljnpjaaDoorW.PrintMore Go.Proofs.YtefiadocljnpjaaDoor.PK
set_option linter.unusedVariables false
set_option linter.unusedSimpArgs false
set_option maxHeartbeats 4000000
set_option maxRecDepth 100000
def tailS (k : Nat) (ss : List Int) (c : Int) : Option Int := if c = 1 then sort_sort.j1 k ss c (c == 1) else if c = 2 then sort_sort.j1 k ss c (c == 2) else if c = 3 then sort_sort.j1 k ss c (c == 3) else sort_sort.j1 k ss c (c == 4)
theorem tail0 (k : Nat) (c : Int) (h : ar c = 0) : tailS (k + 3) [] c = some (s0 c) := by
  rcases ar0 h with rfl | rfl | rfl | rfl | rfl <;> rfl
theorem wz0 : wrap64 0 = 0 := by decide +kernel
theorem wz1 : wrap64 1 = 1 := by decide +kernel
theorem wz3 : wrap64 3 = 3 := by decide +kernel
theorem wz4 : wrap64 4 = 4 := by decide +kernel
theorem wz5 : wrap64 5 = 5 := by decide +kernel
theorem tail1 (k : Nat) (c s : Int) (h : ar c = 1) (hs : 1 ≤ s ∧ s ≤ 4) : tailS (k + 3) [s] c = some (s1 c s) := by
  have h4 : s = 1 ∨ s = 2 ∨ s = 3 ∨ s = 4 := by omega
  have hg : ∀ (k : Nat), tailS (k + 3) [1] 9 = some (s1 9 1) ∧ tailS (k + 3) [2] 9 = some (s1 9 2) ∧ tailS (k + 3) [4] 9 = some (s1 9 4) := fun k => by
    have w0 : wrap64 0 = 0 := by decide +kernel
    have w1 : wrap64 1 = 1 := by decide +kernel
    have w2 : wrap64 3 = 3 := by decide +kernel
    have w3 : wrap64 4 = 4 := by decide +kernel
    have w4 : wrap64 5 = 5 := by decide +kernel
    have r1 : rd [1] 0 = 1 := rfl
    have r2 : rd [2] 0 = 2 := rfl
    have r4 : rd [4] 0 = 4 := rfl
    refine ⟨?_, ?_, ?_⟩ <;> simp [tailS, sort_sort.j1, sort_on.f, s1, onS, w0, w1, w2, w3, w4, r1, r2, r4]
  obtain ⟨g1, g2, g3⟩ := hg k
  rcases ar1 h with rfl | rfl <;> rcases h4 with rfl | rfl | rfl | rfl <;> first | exact g1 | exact g2 | exact g3 | rfl
theorem tail2 (k : Nat) (c s u : Int) (h : ar c = 2) (hs : 1 ≤ s ∧ s ≤ 4) (hu : 1 ≤ u ∧ u ≤ 4) : tailS (k + 3) [s, u] c = some (s2 c s u) := by
  have h4 : s = 1 ∨ s = 2 ∨ s = 3 ∨ s = 4 := by omega
  have h5 : u = 1 ∨ u = 2 ∨ u = 3 ∨ u = 4 := by omega
  rcases ar2 h with rfl | rfl | rfl | rfl | rfl | rfl | rfl <;> rcases h4 with rfl | rfl | rfl | rfl <;> rcases h5 with rfl | rfl | rfl | rfl <;> first | rfl | (simp [tailS, sort_sort.j1, sort_sort.j2, sort_sort.j3, sort_sort.j4, sort_on.f, sort_both.f, sort_behind.f, s2, bothS, behindS, onS, rd, mx, wz0, wz1, wz3, wz4, wz5]; done) | (simp [tailS, sort_sort.j1, sort_sort.j2, sort_sort.j3, sort_sort.j4, sort_on.f, sort_both.f, sort_behind.f, s2, bothS, behindS, onS, rd, mx, wz0, wz1, wz3, wz4, wz5] <;> decide)
theorem l0_end (k : Nat) (x : S48) (l : List S48) (hx : rd_T48 l 0 = x) (h0 : 0 < l.length) (ss : List Int) (ks : List (List S48)) (n j : Nat) (hj : ¬ j < n) : sort_sort.l0 (k + 1) l ss ks (n : Int) (j : Int) = tailS k ss x.f0 := by
  simp only [sort_sort.l0]
  rw [if_neg (by omega), if_pos (by omega), hx]
  rfl
theorem l0_zero (k : Nat) (l : List S48) (ss : List Int) (ks : List (List S48)) (n j : Nat) (m : List S48) (hj : j < n) (hn : n = ks.length) (hm : rd_L9 ks (j : Int) = m) (hs : sort_sort.f k m = some 0) : sort_sort.l0 (k + 1) l ss ks (n : Int) (j : Int) = some 0 := by
  have g1 : (j : Int) < (n : Int) := by omega
  have g2 : (0 : Int) ≤ (j : Int) := by omega
  have g3 : (j : Int) < (ks.length : Int) := by omega
  simp only [sort_sort.l0]
  rw [if_pos g1, if_pos g2, if_pos g3, hm, hs, Option.bind_some, if_pos rfl]
theorem l0_more (k : Nat) (l : List S48) (ss : List Int) (ks : List (List S48)) (n j : Nat) (m : List S48) (v : Int) (hj : j < n) (hn : n = ks.length) (h2 : n ≤ 2) (hm : rd_L9 ks (j : Int) = m) (hs : sort_sort.f k m = some v) (hv : v ≠ 0) (hl : ss.length ≤ 2) :
    sort_sort.l0 (k + 1) l ss ks (n : Int) (j : Int) = sort_sort.l0 k l (ss ++ [v]) ks (n : Int) ((j + 1 : Nat) : Int) := by
  have g1 : (j : Int) < (n : Int) := by omega
  have g2 : (0 : Int) ≤ (j : Int) := by omega
  have g3 : (j : Int) < (ks.length : Int) := by omega
  have g4 : ss.length < 17592186044416 := by omega
  have g5 := wsucc j n hj (by omega)
  simp only [sort_sort.l0]
  rw [if_pos g1, if_pos g2, if_pos g3, hm, hs, Option.bind_some, if_neg hv, if_pos g4, g5]
theorem sort_start (t : Tr S48) (h : t.ok S48.f0) (hl : t.flat.length ≤ 1000000) (r : Int) (hr : Ev (fun k => sort_sort.l0 k t.flat [] (t.kids.map Tr.flat) (((t.kids.map Tr.flat).length : Nat) : Int) ((0 : Nat) : Int)) r) : Ev (fun k => sort_sort.f k t.flat) r := by
  have hk := rowKids_ev t.flat (by omega) (by omega)
  have e : kidsL t.flat = t.kids.map Tr.flat := by have := kidsL_of t [] h; rw [List.append_nil] at this; exact this
  rw [e] at hk
  exact ev_step (f := fun k => (row_Kids.f k t.flat).bind fun t239 => sort_sort.l0 k t.flat ([] : List Int) t239 (t239.length : Int) 0) (Ev.bind hk hr) (fun k => by simp only [sort_sort.f])
theorem ev_tail {ss : List Int} {c r : Int} (h : ∀ k, tailS (k + 3) ss c = some r) : Ev (fun k => tailS k ss c) r := ⟨3, fun k hk => by
  obtain ⟨k, rfl⟩ : ∃ m, k = m + 3 := ⟨k - 3, by omega⟩
  exact h k⟩
theorem ev_end {x : S48} {l : List S48} {ss : List Int} {ks : List (List S48)} {n j : Nat} {r : Int} (hx : rd_T48 l 0 = x) (h0 : 0 < l.length) (hj : ¬ j < n) (h : ∀ k, tailS (k + 3) ss x.f0 = some r) : Ev (fun k => sort_sort.l0 k l ss ks (n : Int) (j : Int)) r :=
  ev_step (ev_tail h) (fun k => l0_end k x l hx h0 ss ks n j hj)
theorem ev_zero {l : List S48} {ss : List Int} {ks : List (List S48)} {n j : Nat} {m : List S48} (hj : j < n) (hn : n = ks.length) (hm : rd_L9 ks (j : Int) = m) (hs : Ev (fun k => sort_sort.f k m) 0) : Ev (fun k => sort_sort.l0 k l ss ks (n : Int) (j : Int)) 0 := by
  obtain ⟨K, hK⟩ := hs
  refine ⟨K + 1, fun k hk => ?_⟩
  obtain ⟨k, rfl⟩ : ∃ m, k = m + 1 := ⟨k - 1, by omega⟩
  exact l0_zero k l ss ks n j m hj hn hm (hK k (by omega))
theorem ev_more {l : List S48} {ss : List Int} {ks : List (List S48)} {n j : Nat} {m : List S48} {v r : Int} (hj : j < n) (hn : n = ks.length) (h2 : n ≤ 2) (hm : rd_L9 ks (j : Int) = m) (hs : Ev (fun k => sort_sort.f k m) v) (hv : v ≠ 0) (hl : ss.length ≤ 2)
    (h : Ev (fun k => sort_sort.l0 k l (ss ++ [v]) ks (n : Int) ((j + 1 : Nat) : Int)) r) : Ev (fun k => sort_sort.l0 k l ss ks (n : Int) (j : Int)) r := by
  obtain ⟨K, hK⟩ := hs
  obtain ⟨K2, hK2⟩ := h
  refine ⟨K + K2 + 1, fun k hk => ?_⟩
  obtain ⟨k, rfl⟩ : ∃ m, k = m + 1 := ⟨k - 1, by omega⟩
  show sort_sort.l0 (k + 1) l ss ks (n : Int) (j : Int) = some r
  rw [l0_more k l ss ks n j m v hj hn h2 hm (hK k (by omega)) hv hl]
  exact hK2 k (by omega)
theorem srt_ev (t : Tr S48) : t.ok S48.f0 → t.flat.length ≤ 1000000 → Ev (fun k => sort_sort.f k t.flat) (t.srt S48.f0) := by
  induction t with
  | n0 x =>
    intro hok hl
    refine sort_start _ hok hl _ ?_
    exact ev_end (x := x) (n := 0) (j := 0) rfl (Tr.len_pos _) (by omega) (fun k => tail0 k _ hok)
  | n1 x a ih =>
    intro hok hl
    have ia := ih hok.2 (by simp [Tr.flat] at hl; omega)
    have hin := a.srt_in S48.f0
    refine sort_start _ hok hl _ ?_
    show Ev _ (s1 x.f0 (a.srt S48.f0))
    obtain ⟨v, hv⟩ : ∃ v, v = a.srt S48.f0 := ⟨_, rfl⟩
    rw [← hv] at ia hin ⊢
    by_cases h0 : v = 0
    · subst h0
      have e : s1 x.f0 0 = 0 := by unfold s1; rw [if_pos rfl]
      rw [e]
      exact ev_zero (n := 1) (j := 0) (m := a.flat) (by omega) rfl rfl ia
    · refine ev_more (n := 1) (j := 0) (m := a.flat) (by omega) rfl (by omega) rfl ia h0 (by simp) ?_
      exact ev_end (x := x) (n := 1) (j := 1) rfl (Tr.len_pos _) (by omega) (fun k => tail1 k _ _ hok.1 (by omega))
  | n2 x a b iha ihb =>
    intro hok hl
    have ia := iha hok.2.1 (by simp [Tr.flat] at hl; omega)
    have ib := ihb hok.2.2 (by simp [Tr.flat] at hl; omega)
    have hina := a.srt_in S48.f0
    have hinb := b.srt_in S48.f0
    refine sort_start _ hok hl _ ?_
    show Ev _ (s2 x.f0 (a.srt S48.f0) (b.srt S48.f0))
    obtain ⟨v, hv⟩ : ∃ v, v = a.srt S48.f0 := ⟨_, rfl⟩
    obtain ⟨u, hu⟩ : ∃ u, u = b.srt S48.f0 := ⟨_, rfl⟩
    rw [← hv] at ia hina ⊢
    rw [← hu] at ib hinb ⊢
    by_cases h0 : v = 0
    · subst h0
      have e : s2 x.f0 0 u = 0 := by unfold s2; rw [if_pos (.inl rfl)]
      rw [e]
      exact ev_zero (n := 2) (j := 0) (m := a.flat) (by omega) rfl rfl ia
    · refine ev_more (n := 2) (j := 0) (m := a.flat) (by omega) rfl (by omega) rfl ia h0 (by simp) ?_
      by_cases h1 : u = 0
      · subst h1
        have e : s2 x.f0 v 0 = 0 := by unfold s2; rw [if_pos (.inr rfl)]
        rw [e]
        exact ev_zero (n := 2) (j := 1) (m := b.flat) (by omega) rfl rfl ib
      · refine ev_more (n := 2) (j := 1) (m := b.flat) (by omega) rfl (by omega) rfl ib h1 (by simp) ?_
        exact ev_end (x := x) (n := 2) (j := 2) rfl (Tr.len_pos _) (by omega) (fun k => tail2 k _ _ _ hok.1 (by omega) (by omega))
theorem SortIn (t : Tr S48) (hok : t.ok S48.f0) (hl : t.flat.length ≤ 1000000) (A : Option Addr) (c : Nat) (w : World) (hC : Kd.C k48 w A t.flat.length t.flat) (hc : t.flat.length ≤ c) :
    Calls Tryd.prog 80 #[.slice A t.flat.length c] w fun e w' => e = .returned (.int .i64 (t.srt S48.f0)) ∧ Below w.heap.size w w' := by
  obtain ⟨k, hk⟩ := (srt_ev t hok hl).rounds
  exact sort_sort.calls k A c t.flat _ w hC hc hk
theorem Of (A : Option Addr) (c : Nat) (l : List S48) (w : World) (hL : Laid w) (hC : Kd.C k48 w A l.length l) (hc : l.length ≤ c) :
    Calls Tryd.prog 52 #[.slice A l.length c] w fun e w' => e = .returned (.int .i64 (ofV l)) ∧ Below w.heap.size w w' := by
  have HW := Aside0.mk (Whole A c l w hL hC hc)
  have HC := Aside0.mk hC
  clear hL hC
  by_cases hw : wh l = true
  · obtain ⟨t, hok, e, h200, ev⟩ := wh_tree l hw
    have HS := Aside0.mk (fun W (h : Kd.C k48 W A l.length l) => SortIn t hok (by rw [← e]; omega) A c W (by rw [← e]; exact h) (by rw [← e]; exact hc))
    rw [← e] at HS
    rw [hw] at HW
    rw [ev]
    clear e ev hw
    obtain ⟨v, hv⟩ : ∃ v, v = t.srt S48.f0 := ⟨_, rfl⟩
    rw [← hv] at HS ⊢
    clear hv hok
    go_enter Tryd.func52, Tryd.ntmps52
    go_wp2_with fail
    refine HW.out.mono ?_; rintro e w1 ⟨rfl, hb1⟩
    have HB1 := Aside0.mk hb1
    clear hb1
    go_wp2_with fail
    refine (HS.out _ (Kd.C_below HC.out HB1.out)).mono ?_; rintro e w2 ⟨rfl, hb2⟩
    have HB2 := Aside0.mk (Aid_bthen HB1.out hb2)
    clear hb2
    go_wp2_with fail
    (try rw [Exit.noGoto_ret])
    go_ret
    exact ⟨rfl, HB2.out⟩
  · have hw2 : wh l = false := by simpa using hw
    have hv : ofV l = 0 := by unfold ofV; rw [if_neg hw]
    rw [hw2] at HW
    rw [hv]
    clear hw hw2 hv
    go_enter Tryd.func52, Tryd.ntmps52
    go_wp2_with fail
    refine HW.out.mono ?_; rintro e w1 ⟨rfl, hb1⟩
    have HB1 := Aside0.mk hb1
    clear hb1
    go_wp2_with fail
    (try rw [Exit.noGoto_ret])
    go_ret
    exact ⟨rfl, HB1.out⟩
end Go.Proofs.YtefiadocljnpjaaDoor.Row
/- Whether a row goes on, its term, its rightness, few of it: by the program and by the reference. -/
namespace Go.Proofs.YtefiadocljnpjaaDoor.Row
open Go.Proofs.Tree Go.RowKit Go.Proofs.YtefiadocljnpjaaDoorW.PrintWords Go.Proofs.YtefiadocljnpjaaDoorW.PrintLast Go.Proofs.YtefiadocljnpjaaDoorW.PrintMore Go.Proofs.YtefiadocljnpjaaDoor.PK
set_option linter.unusedVariables false
set_option linter.unusedSimpArgs false
set_option maxHeartbeats 4000000
set_option maxRecDepth 100000
def onV (p : Bool) (v : Int) : Bool := if p then decide (v = 2 ∨ v = 4) else decide (v = 1 ∨ v = 3)
theorem on_val (v : Int) (h : 0 ≤ v ∧ v ≤ 4) : sort_on.f v = some (onS v) := by
  rcases five v h with rfl | rfl | rfl | rfl | rfl <;> decide +kernel
theorem on_is (v : Int) (h : 0 ≤ v ∧ v ≤ 4) (p : Bool) : onV p v = decide (onS v = if p then 4 else 3) := by
  rcases five v h with rfl | rfl | rfl | rfl | rfl <;> cases p <;> decide +kernel
theorem On (p : Bool) (A : Option Addr) (c : Nat) (l : List S48) (w : World) (hL : Laid w) (hC : Kd.C k48 w A l.length l) (hc : l.length ≤ c) :
    Calls Tryd.prog 54 #[.slice A l.length c, .bool p] w fun e w' => e = .returned (.bool (onV p (ofV l))) ∧ Below w.heap.size w w' := by
  have HO := Aside0.mk (Of A c l w hL hC hc)
  have hv := ofV_in l
  obtain ⟨v, ev⟩ : ∃ v, v = ofV l := ⟨_, rfl⟩
  rw [← ev] at HO hv ⊢
  rw [on_is v hv]
  have HV := Aside0.mk (on_val v hv)
  obtain ⟨u, eu⟩ : ∃ u, u = onS v := ⟨_, rfl⟩
  rw [← eu] at HV ⊢
  clear ev hL hC hv eu
  cases p
  all_goals
    go_enter Tryd.func54, Tryd.ntmps54
    go_wp2_with fail
    refine HO.out.mono ?_; rintro e w1 ⟨rfl, hb1⟩
    have HB1 := Aside0.mk hb1
    clear hb1
    go_wp2_with fail
    refine (sort_on.calls v u _ HV.out).mono ?_; rintro e w2 ⟨rfl, hd⟩
    have HB2 := Aside0.mk (Aid_bthen HB1.out hd.below)
    clear hd
    go_wp2_with fail
    (try rw [Exit.noGoto_ret])
    go_ret
    exact ⟨rfl, HB2.out⟩
theorem Term (A : Option Addr) (c : Nat) (l : List S48) (w : World) (hL : Laid w) (hC : Kd.C k48 w A l.length l) (hc : l.length ≤ c) :
    Calls Tryd.prog 56 #[.slice A l.length c] w fun e w' => e = .returned (.bool (decide (ofV l = 1))) ∧ Below w.heap.size w w' := by
  have HO := Aside0.mk (Of A c l w hL hC hc)
  obtain ⟨v, ev⟩ : ∃ v, v = ofV l := ⟨_, rfl⟩
  rw [← ev] at HO ⊢
  clear ev hL hC
  go_enter Tryd.func56, Tryd.ntmps56
  go_wp2_with fail
  refine HO.out.mono ?_; rintro e w1 ⟨rfl, hb1⟩
  have HB1 := Aside0.mk hb1
  clear hb1
  go_wp2_with fail
  (try rw [Exit.noGoto_ret])
  go_ret
  exact ⟨rfl, HB1.out⟩
theorem RefOn (p : Bool) (A : Option Addr) (c : Nat) (l : List S48) (w : World) (hC : Kd.C k48 w A l.length l) (hc : l.length ≤ c) (hl : l.length ≤ 1000000) (hs : ∀ n ∈ l, n.f1.size ≤ 9223372036854775807) :
    Calls Tryd.prog 55 #[.slice A l.length c, .bool p] w fun e w' => e = .returned (.bool (onV p (ofV l))) ∧ Below w.heap.size w w' := by
  have HO := Aside0.mk (fun W (h : Below w.heap.size w W) => RefOf A c l W (Kd.C_below hC h) hc hl hs)
  have hv := ofV_in l
  obtain ⟨v, ev⟩ : ∃ v, v = ofV l := ⟨_, rfl⟩
  rw [← ev] at HO hv ⊢
  clear ev hC hs
  rcases five v hv with rfl | rfl | rfl | rfl | rfl
  all_goals
    clear hv
    cases p
    all_goals
      go_enter Tryd.func55, Tryd.ntmps55
      go_wp2_with fail
      refine (HO.out _ (Below.refl _ _)).mono ?_; rintro e w1 ⟨rfl, hb1⟩
      have HB1 := Aside0.mk hb1
      clear hb1
      go_wp2_with fail
      first
      | (refine (HO.out _ HB1.out).mono ?_; rintro e w2 ⟨rfl, hb2⟩
         have HB2 := Aside0.mk (Aid_bthen HB1.out hb2)
         clear hb2
         go_wp2_with fail
         (try rw [Exit.noGoto_ret])
         go_ret
         exact ⟨rfl, HB2.out⟩)
      | ((try rw [Exit.noGoto_ret])
         go_ret
         exact ⟨rfl, HB1.out⟩)
def rtV (l : List S48) : Bool := decide (ofV l = 1) && (decide (l.length ≤ 60) && decide (depth S48.f0 l ≤ 16))
theorem SRight (A : Option Addr) (c : Nat) (l : List S48) (w : World) (hL : Laid w) (hC : Kd.C k48 w A l.length l) (hc : l.length ≤ c) (hl : l.length ≤ 1000000) :
    Calls Tryd.prog 57 #[.slice A l.length c] w fun e w' => e = .returned (.bool (rtV l)) ∧ Below w.heap.size w w' := by
  have HO := Aside0.mk (Term A c l w hL hC hc)
  have HD := Aside0.mk (fun W (h : Below w.heap.size w W) => Depth A c l W (Kd.C_below hC h) hc hl)
  unfold rtV
  obtain ⟨v, ev⟩ : ∃ v, v = decide (ofV l = 1) := ⟨_, rfl⟩
  obtain ⟨d, ed⟩ : ∃ d, d = depth S48.f0 l := ⟨_, rfl⟩
  rw [← ev] at HO ⊢
  rw [← ed] at HD ⊢
  clear ev hL hC ed
  have c17 : decide ((d : Int) ≤ 16) = decide (d ≤ 16) := by
    by_cases h : d ≤ 16
    · rw [decide_eq_true h, decide_eq_true (by omega)]
    · rw [decide_eq_false h, decide_eq_false (by omega)]
  go_enter Tryd.func57, Tryd.ntmps57
  go_wp2_with fail
  refine HO.out.mono ?_; rintro e w1 ⟨rfl, hb1⟩
  have HB1 := Aside0.mk hb1
  clear hb1
  cases v
  · go_wp2_with fail
    (try rw [Exit.noGoto_ret])
    go_ret
    exact ⟨rfl, HB1.out⟩
  · by_cases h60 : l.length ≤ 60
    · have c60 : decide ((l.length : Int) ≤ 60) = true := decide_eq_true (by omega)
      have c60' : decide (l.length ≤ 60) = true := decide_eq_true h60
      clear h60
      go_wp2_with fail
      refine (HD.out _ HB1.out).mono ?_; rintro e w2 ⟨rfl, hb2⟩
      have HB2 := Aside0.mk (Aid_bthen HB1.out hb2)
      clear hb2
      go_wp2_with fail
      (try rw [Exit.noGoto_ret])
      go_ret
      exact ⟨by simp [c60'], HB2.out⟩
    · have c60 : decide ((l.length : Int) ≤ 60) = false := decide_eq_false (by omega)
      have c60' : decide (l.length ≤ 60) = false := decide_eq_false h60
      clear h60
      go_wp2_with fail
      (try rw [Exit.noGoto_ret])
      go_ret
      exact ⟨by simp [c60'], HB1.out⟩
theorem RefSRight (A : Option Addr) (c : Nat) (l : List S48) (w : World) (hC : Kd.C k48 w A l.length l) (hc : l.length ≤ c) (hl : l.length ≤ 1000000) (hs : ∀ n ∈ l, n.f1.size ≤ 9223372036854775807) :
    Calls Tryd.prog 58 #[.slice A l.length c] w fun e w' => e = .returned (.bool (rtV l)) ∧ Below w.heap.size w w' := by
  have HO := Aside0.mk (RefOf A c l w hC hc hl hs)
  have HD := Aside0.mk (fun W (h : Below w.heap.size w W) => RefDepth A c l W (Kd.C_below hC h) hc (by omega))
  unfold rtV
  have hv := ofV_in l
  obtain ⟨v, ev⟩ : ∃ v, v = ofV l := ⟨_, rfl⟩
  obtain ⟨d, ed⟩ : ∃ d, d = depth S48.f0 l := ⟨_, rfl⟩
  rw [← ev] at HO hv ⊢
  rw [← ed] at HD ⊢
  clear ev hC ed hs
  have c17 : decide ((d : Int) ≤ 16) = decide (d ≤ 16) := by
    by_cases h : d ≤ 16
    · rw [decide_eq_true h, decide_eq_true (by omega)]
    · rw [decide_eq_false h, decide_eq_false (by omega)]
  go_enter Tryd.func58, Tryd.ntmps58
  go_wp2_with fail
  refine HO.out.mono ?_; rintro e w1 ⟨rfl, hb1⟩
  have HB1 := Aside0.mk hb1
  clear hb1
  by_cases h1 : v = 1
  · subst h1
    clear hv
    by_cases h60 : l.length ≤ 60
    · have c60 : decide ((l.length : Int) ≤ 60) = true := decide_eq_true (by omega)
      have c60' : decide (l.length ≤ 60) = true := decide_eq_true h60
      clear h60
      go_wp2_with fail
      refine (HD.out _ HB1.out).mono ?_; rintro e w2 ⟨rfl, hb2⟩
      have HB2 := Aside0.mk (Aid_bthen HB1.out hb2.below)
      clear hb2
      go_wp2_with fail
      (try rw [Exit.noGoto_ret])
      go_ret
      exact ⟨by simp [c60', c17], HB2.out⟩
    · have c60 : decide ((l.length : Int) ≤ 60) = false := decide_eq_false (by omega)
      have c60' : decide (l.length ≤ 60) = false := decide_eq_false h60
      clear h60
      go_wp2_with fail
      (try rw [Exit.noGoto_ret])
      go_ret
      exact ⟨by simp [c60'], HB1.out⟩
  · have c1 : (v == 1) = false := by simpa using h1
    have c2 : decide (v = 1) = false := decide_eq_false h1
    clear hv h1
    go_wp2_with fail
    (try rw [Exit.noGoto_ret])
    go_ret
    exact ⟨by rw [c2]; rfl, HB1.out⟩
def few4 (l : List S48) : Bool := decide (l.length ≤ 120) && decide (depth S48.f0 l ≤ 24)
theorem Few4 (A : Option Addr) (c : Nat) (l : List S48) (w : World) (hC : Kd.C k48 w A l.length l) (hc : l.length ≤ c) :
    Calls Tryd.prog 50 #[.slice A l.length c] w fun e w' => e = .returned (.bool (few4 l)) ∧ Below w.heap.size w w' := by
  by_cases h : l.length ≤ 120
  · obtain ⟨k, hk⟩ := (refDepth_ev l (by omega)).rounds
    have hf : redresslaw04_few.f k l = some (few4 l) := by
      unfold redresslaw04_few.f few4
      rw [if_pos (by omega), hk, Option.bind_some, decide_eq_true h, Bool.true_and]
      congr 1
      by_cases h24 : depth S48.f0 l ≤ 24
      · rw [decide_eq_true h24, decide_eq_true (by omega)]
      · rw [decide_eq_false h24, decide_eq_false (by omega)]
    exact (redresslaw04_few.calls k A c l _ w hC hc hf).mono fun e W' ⟨he, hd⟩ => ⟨he, hd.below⟩
  · have hf : redresslaw04_few.f 0 l = some (few4 l) := by
      unfold redresslaw04_few.f few4
      rw [if_neg (by omega), decide_eq_false h, Bool.false_and]
    exact (redresslaw04_few.calls 0 A c l _ w hC hc hf).mono fun e W' ⟨he, hd⟩ => ⟨he, hd.below⟩
end Go.Proofs.YtefiadocljnpjaaDoor.Row
/- The names of a row's actions, by the program and by the reference, and that the rows of texts are the same. -/
namespace Go.Proofs.YtefiadocljnpjaaDoor.Row
open Go.Proofs.Tree Go.RowKit Go.Proofs.YtefiadocljnpjaaDoorW.PrintWords Go.Proofs.YtefiadocljnpjaaDoorW.PrintLast Go.Proofs.YtefiadocljnpjaaDoorW.PrintMore Go.Proofs.YtefiadocljnpjaaDoor.PK
set_option linter.unusedVariables false
set_option linter.unusedSimpArgs false
set_option maxHeartbeats 4000000
set_option maxRecDepth 100000
def hasS (ks : List ByteArray) (a : ByteArray) : Bool := ks.any fun x => decide (a.toList = x.toList)
theorem drop_rdOf (l : List ByteArray) (j : Nat) (h : j < l.length) : l.drop j = rdOf ByteArray.empty l (j : Int) :: l.drop (j + 1) := by
  rw [List.drop_eq_getElem_cons h]; unfold rdOf; simp [List.getD_eq_getElem?_getD, List.getElem?_eq_getElem h]
theorem indexS_ev (ks : List ByteArray) (a : ByteArray) (hn : ks.length ≤ 9223372036854775807) (d : Nat) : ∀ j : Nat, ks.length - j ≤ d → j ≤ ks.length →
    ∃ r, Ev (fun k => slices_Index_string_string.l0 k ks a (ks.length : Int) (j : Int)) r ∧ decide (r ≥ 0) = hasS (ks.drop j) a := by
  induction d with
  | zero =>
    intro j h h2
    refine ⟨-1, ev_step (f := _) (Ev.now _) (fun k => by simp only [slices_Index_string_string.l0]; rw [if_neg (by omega)]), ?_⟩
    rw [List.drop_eq_nil_of_le (by omega)]; rfl
  | succ d ih =>
    intro j h h2
    by_cases hj : j < ks.length
    · rw [drop_rdOf ks j hj]
      by_cases e : a.toList = (rdOf ByteArray.empty ks (j : Int)).toList
      · refine ⟨(j : Int), ev_step (f := _) (Ev.now _) (fun k => by simp only [slices_Index_string_string.l0]; rw [if_pos (by omega), if_pos (by omega), if_pos (by omega), if_pos e]), ?_⟩
        unfold hasS; rw [List.any_cons, decide_eq_true e]; simp
      · obtain ⟨r, hr, hd⟩ := ih (j + 1) (by omega) (by omega)
        refine ⟨r, ev_step (f := _) hr (fun k => by simp only [slices_Index_string_string.l0]; rw [if_pos (by omega), if_pos (by omega), if_pos (by omega), if_neg e, wsucc j _ hj hn]), ?_⟩
        rw [hd]; unfold hasS; rw [List.any_cons, decide_eq_false e, Bool.false_or]
    · refine ⟨-1, ev_step (f := _) (Ev.now _) (fun k => by simp only [slices_Index_string_string.l0]; rw [if_neg (by omega)]), ?_⟩
      rw [List.drop_eq_nil_of_le (by omega)]; rfl
theorem containsS_ev (ks : List ByteArray) (a : ByteArray) (hn : ks.length ≤ 9223372036854775807) : Ev (fun k => slices_Contains_string_string.f k ks a) (hasS ks a) := by
  obtain ⟨r, hr, hd⟩ := indexS_ev ks a hn _ 0 (Nat.le_refl _) (Nat.zero_le _)
  rw [List.drop_zero] at hd
  unfold slices_Contains_string_string.f slices_Index_string_string.f
  refine Ev.bind hr ?_
  rw [hd]; exact Ev.now _
/-- The names of the actions of a row, each once. -/
def actsL : List S48 → List ByteArray → List ByteArray
  | [], out => out
  | n :: l, out => actsL l (if n.f0 = 1 then (if hasS out n.f1 = true then out else out ++ [n.f1]) else out)
theorem acts_ev (l : List S48) (hl : l.length ≤ 1000000) (d : Nat) : ∀ (j : Nat) (out : List ByteArray), l.length - j ≤ d → j ≤ l.length → out.length ≤ j → Ev (fun k => sort_Acts.l0 k out l (l.length : Int) (j : Int)) (actsL (l.drop j) out) := by
  induction d with
  | zero =>
    intro j out h h2 h3
    rw [List.drop_eq_nil_of_le (by omega)]
    exact ev_step (f := _) (Ev.now _) (fun k => by simp only [sort_Acts.l0]; rw [if_neg (by omega)]; rfl)
  | succ d ih =>
    intro j out h h2 h3
    by_cases hj : j < l.length
    · rw [drop_rd l j hj]
      unfold actsL
      have hw := wsucc j l.length hj (by omega)
      by_cases h1 : (rd_T48 l (j : Int)).f0 = 1
      · rw [if_pos h1]
        refine ev_step (f := fun k => (slices_Contains_string_string.f k out ((rd_T48 l (j : Int)).f1)).bind fun t281 => (if t281 = true then (sort_Acts.l0 k out l (l.length : Int) (wrap64 ((j : Int) + 1))) else (if out.length < 8796093022208 then (sort_Acts.l0 k (out ++ [(rd_T48 l (j : Int)).f1]) l (l.length : Int) (wrap64 ((j : Int) + 1))) else (none)))) ?_ (fun k => by simp only [sort_Acts.l0]; rw [if_pos (by omega), if_pos (by omega), if_pos (by omega), if_pos h1])
        refine Ev.bind (containsS_ev out _ (by omega)) ?_
        rw [hw]
        by_cases hk : hasS out (rd_T48 l (j : Int)).f1 = true
        · rw [if_pos hk]
          refine ev_if hk ?_
          exact ih (j + 1) out (by omega) (by omega) (by omega)
        · rw [if_neg hk]
          refine ev_else hk ?_
          refine ev_if (by omega) ?_
          exact ih (j + 1) _ (by omega) (by omega) (by simp; omega)
      · rw [if_neg h1]
        refine ev_step (f := fun k => sort_Acts.l0 k out l (l.length : Int) (wrap64 ((j : Int) + 1))) ?_ (fun k => by simp only [sort_Acts.l0]; rw [if_pos (by omega), if_pos (by omega), if_pos (by omega), if_neg h1])
        rw [hw]
        exact ih (j + 1) out (by omega) (by omega) (by omega)
    · rw [List.drop_eq_nil_of_le (by omega)]
      exact ev_step (f := _) (Ev.now _) (fun k => by simp only [sort_Acts.l0]; rw [if_neg (by omega)]; rfl)
theorem refIn_ev (l : List S48) (hl : l.length ≤ 1000000) (i : Nat) (hi : i < l.length) (out : List ByteArray) (ho : out.length ≤ i) (r : List ByteArray) (d : Nat) : ∀ (j : Nat) (met : Bool), out.length - j ≤ d → j ≤ out.length →
    Ev (fun k => redressref04_Acts.l0 k l (if (met || hasS (out.drop j) (rd_T48 l (i : Int)).f1) = true then out else out ++ [(rd_T48 l (i : Int)).f1]) ((i + 1 : Nat) : Int)) r →
    Ev (fun k => redressref04_Acts.l1 k l out (i : Int) met (j : Int)) r := by
  have hw := wsucc i l.length hi (by omega)
  have hend : ∀ (j : Nat) (met : Bool), ¬ j < out.length →
    Ev (fun k => redressref04_Acts.l0 k l (if (met || hasS (out.drop j) (rd_T48 l (i : Int)).f1) = true then out else out ++ [(rd_T48 l (i : Int)).f1]) ((i + 1 : Nat) : Int)) r →
    Ev (fun k => redressref04_Acts.l1 k l out (i : Int) met (j : Int)) r := by
    intro j met hj h
    rw [List.drop_eq_nil_of_le (by omega)] at h
    have e0 : hasS [] (rd_T48 l (i : Int)).f1 = false := rfl
    rw [e0, Bool.or_false] at h
    refine ev_step (f := _) h (fun k => ?_)
    simp only [redressref04_Acts.l1]
    rw [if_neg (by omega), hw]
    cases met
    · rw [if_neg (by decide), if_pos (by omega), if_pos (by omega), if_pos (by omega), if_neg (by decide)]
    · rw [if_pos rfl, if_pos rfl]
  induction d with
  | zero => intro j met h h2; exact hend j met (by omega)
  | succ d ih =>
    intro j met h h2 hr
    by_cases hj : j < out.length
    · have hw2 := wsucc j out.length hj (by omega)
      rw [drop_rdOf out j hj] at hr
      have e1 : hasS (rdOf ByteArray.empty out (j : Int) :: out.drop (j + 1)) (rd_T48 l (i : Int)).f1 = (decide ((rd_T48 l (i : Int)).f1.toList = (rdOf ByteArray.empty out (j : Int)).toList) || hasS (out.drop (j + 1)) (rd_T48 l (i : Int)).f1) := by unfold hasS; rw [List.any_cons]
      rw [e1] at hr
      cases met
      · rw [Bool.false_or] at hr
        refine ev_step (f := fun k => redressref04_Acts.l1 k l out (i : Int) ((rdOf ByteArray.empty out (j : Int)).toList == ((rd_T48 l (i : Int)).f1).toList) (wrap64 ((j : Int) + 1))) ?_ (fun k => by simp only [redressref04_Acts.l1]; rw [if_pos (by omega), if_neg (by decide), if_pos (by omega), if_pos (by omega), if_pos (by omega)])
        rw [hw2]
        refine ih (j + 1) _ (by omega) (by omega) ?_
        have e2 : ((rdOf ByteArray.empty out (j : Int)).toList == ((rd_T48 l (i : Int)).f1).toList) = decide ((rd_T48 l (i : Int)).f1.toList = (rdOf ByteArray.empty out (j : Int)).toList) := by
          by_cases e : (rd_T48 l (i : Int)).f1.toList = (rdOf ByteArray.empty out (j : Int)).toList
          · rw [decide_eq_true e, e]; simp
          · rw [decide_eq_false e]; exact beq_eq_false_iff_ne.mpr (fun h => e h.symm)
        rw [e2]
        exact hr
      · rw [Bool.true_or] at hr
        refine ev_step (f := fun k => redressref04_Acts.l1 k l out (i : Int) true (wrap64 ((j : Int) + 1))) ?_ (fun k => by simp only [redressref04_Acts.l1]; rw [if_pos (by omega), if_pos trivial])
        rw [hw2]
        exact ih (j + 1) true (by omega) (by omega) (by rw [Bool.true_or]; exact hr)
    · exact hend j met hj hr
theorem refActs_ev (l : List S48) (hl : l.length ≤ 1000000) (d : Nat) : ∀ (j : Nat) (out : List ByteArray), l.length - j ≤ d → j ≤ l.length → out.length ≤ j → Ev (fun k => redressref04_Acts.l0 k l out (j : Int)) (actsL (l.drop j) out) := by
  induction d with
  | zero =>
    intro j out h h2 h3
    rw [List.drop_eq_nil_of_le (by omega)]
    exact ev_step (f := _) (Ev.now _) (fun k => by simp only [redressref04_Acts.l0]; rw [if_neg (by omega)]; rfl)
  | succ d ih =>
    intro j out h h2 h3
    by_cases hj : j < l.length
    · rw [drop_rd l j hj]
      unfold actsL
      refine ev_step (f := fun k => redressref04_Acts.l1 k l out (j : Int) (((rd_T48 l (j : Int)).f0) != 1) ((0 : Nat) : Int)) ?_ (fun k => by simp only [redressref04_Acts.l0]; rw [if_pos (by omega), if_pos (by omega)]; rfl)
      refine refIn_ev l hl j hj out h3 _ _ 0 _ (Nat.le_refl _) (by omega) ?_
      rw [List.drop_zero]
      have e : (if ((((rd_T48 l (j : Int)).f0) != 1) || hasS out (rd_T48 l (j : Int)).f1) = true then out else out ++ [(rd_T48 l (j : Int)).f1]) = (if (rd_T48 l (j : Int)).f0 = 1 then (if hasS out (rd_T48 l (j : Int)).f1 = true then out else out ++ [(rd_T48 l (j : Int)).f1]) else out) := by
        by_cases h1 : (rd_T48 l (j : Int)).f0 = 1
        · rw [if_pos h1, show (((rd_T48 l (j : Int)).f0) != 1) = false by simp [h1], Bool.false_or]
        · rw [if_neg h1, show (((rd_T48 l (j : Int)).f0) != 1) = true by simp [h1], Bool.true_or, if_pos rfl]
      rw [e]
      refine ih (j + 1) _ (by omega) (by omega) ?_
      split
      · split
        · omega
        · simp; omega
      · omega
    · rw [List.drop_eq_nil_of_le (by omega)]
      exact ev_step (f := _) (Ev.now _) (fun k => by simp only [redressref04_Acts.l0]; rw [if_neg (by omega)]; rfl)
theorem texts_ev (ks : List ByteArray) (hn : ks.length ≤ 9223372036854775807) (d : Nat) : ∀ j : Nat, ks.length - j ≤ d → j ≤ ks.length → Ev (fun k => redressref04_Texts.l0 k ks ks (j : Int)) true := by
  induction d with
  | zero =>
    intro j h h2
    exact ev_step (f := _) (Ev.now _) (fun k => by simp only [redressref04_Texts.l0]; rw [if_neg (by omega)])
  | succ d ih =>
    intro j h h2
    by_cases hj : j < ks.length
    · refine ev_step (f := _) (ih (j + 1) (by omega) (by omega)) (fun k => by simp only [redressref04_Texts.l0]; rw [if_pos (by omega), if_pos (by omega), if_pos (by omega), if_pos trivial, wsucc j _ hj hn])
    · exact ev_step (f := _) (Ev.now _) (fun k => by simp only [redressref04_Texts.l0]; rw [if_neg (by omega)])
theorem Texts (ks : List ByteArray) (A0 : Option Addr) (c0 : Nat) (A1 : Option Addr) (c1 : Nat) (w : World) (h0 : Kd.C Kd.string w A0 ks.length ks) (hc0 : ks.length ≤ c0) (h1 : Kd.C Kd.string w A1 ks.length ks) (hc1 : ks.length ≤ c1) :
    Calls Tryd.prog 59 #[.slice A0 ks.length c0, .slice A1 ks.length c1] w fun e w' => e = .returned (.bool true) ∧ Below w.heap.size w w' := by
  obtain ⟨k, hk⟩ := (texts_ev ks (Kd.C_max h0) _ 0 (Nat.le_refl _) (Nat.zero_le _)).rounds
  have hf : redressref04_Texts.f k ks ks = some true := by unfold redressref04_Texts.f; rw [if_pos rfl]; exact hk
  exact (redressref04_Texts.calls k A0 c0 ks A1 c1 ks _ w h0 hc0 h1 hc1 hf).mono fun e W' ⟨he, hd⟩ => ⟨he, hd.below⟩
theorem Acts (A : Option Addr) (c : Nat) (l : List S48) (w : World) (hC : Kd.C k48 w A l.length l) (hc : l.length ≤ c) (hl : l.length ≤ 1000000) :
    Calls Tryd.prog 60 #[.slice A l.length c] w fun e w' => ∃ A1 c1, e = .returned (.slice A1 (actsL l []).length c1) ∧ (actsL l []).length ≤ c1 ∧ Kd.C Kd.string w' A1 (actsL l []).length (actsL l []) ∧ Below w.heap.size w w' := by
  obtain ⟨k, hk⟩ := (acts_ev l hl _ 0 [] (Nat.le_refl _) (Nat.zero_le _) (Nat.le_refl _)).rounds
  rw [List.drop_zero] at hk
  refine (sort_Acts.calls k A c l _ w hC hc hk).mono ?_
  rintro e W' ⟨v, rfl, hR, hB⟩
  obtain ⟨A1, c1, rfl⟩ := Kd.R_slice hR
  have hr := Kd.R_reads' hR
  exact ⟨A1, c1, rfl, hr.2.1, hr.2.2, hB⟩
theorem RefActs (A : Option Addr) (c : Nat) (l : List S48) (w : World) (hC : Kd.C k48 w A l.length l) (hc : l.length ≤ c) (hl : l.length ≤ 1000000) :
    Calls Tryd.prog 61 #[.slice A l.length c] w fun e w' => ∃ A1 c1, e = .returned (.slice A1 (actsL l []).length c1) ∧ (actsL l []).length ≤ c1 ∧ Kd.C Kd.string w' A1 (actsL l []).length (actsL l []) ∧ Below w.heap.size w w' := by
  obtain ⟨k, hk⟩ := (refActs_ev l hl _ 0 [] (Nat.le_refl _) (Nat.zero_le _) (Nat.le_refl _)).rounds
  rw [List.drop_zero] at hk
  refine (redressref04_Acts.calls k A c l _ w hC hc hk).mono ?_
  rintro e W' ⟨v, rfl, hR, hB⟩
  obtain ⟨A1, c1, rfl⟩ := Kd.R_slice hR
  have hr := Kd.R_reads' hR
  exact ⟨A1, c1, rfl, hr.2.1, hr.2.2, hB⟩
end Go.Proofs.YtefiadocljnpjaaDoor.Row
