/- Layer 5: the law TokenRows (printed by wip/lex/genR.py). -/
import Derived.Test.YtefiadocljnpjaaDoorTW
namespace Go.Proofs.YtefiadocljnpjaaDoor.Row
open Go.Proofs.Tree Go.RowKit Go.Proofs.YtefiadocljnpjaaDoorW.PrintWords Go.Proofs.YtefiadocljnpjaaDoorW.PrintLast Go.Proofs.YtefiadocljnpjaaDoorW.PrintMore Go.Proofs.YtefiadocljnpjaaDoor.PK
set_option linter.unusedVariables false
set_option linter.unusedSimpArgs false
set_option maxHeartbeats 4000000
set_option maxRecDepth 100000
/-- The tokens so far, and the world. -/
structure Wt (w W : World) (v : Value) (out : List S34) : Prop where
  r : Kd.R k34 34 W w.heap.size (fun _ => True) v out
  b : Below w.heap.size w W
theorem Wt.below {w W W' : World} {v : Value} {out : List S34} (h : Wt w W v out) (hb : Below W.heap.size W W') : Wt w W' v out := ⟨Kd.R_below h.r hb, Aid_bthen h.b hb⟩
/-- A token that came in, in a block of its own; the tokens so far lie elsewhere. -/
structure Bx (w W : World) (x : Nat) (k at_ : Int) (n : ByteArray) (v : Value) (out : List S34) : Prop where
  h : W.heap[x]? = some (.cells #[.int .i64 k, .int .i64 at_, .string n] 34 (0, 0))
  r : Kd.R k34 34 W w.heap.size (fun q => q ≠ x) v out
  b : Below w.heap.size w W
  g : w.heap.size ≤ x
theorem Bx.new {w W : World} {v : Value} {out : List S34} (h : Wt w W v out) (k at_ : Int) (n : ByteArray) : Bx w (W.alloc (.cells #[.int .i64 k, .int .i64 at_, .string n] 34)) W.heap.size k at_ n v out :=
  ⟨heap_new W _, Kd.R_below (Kd.R_mono (Kd.R_bound h.r) (fun q hq e => by have := hq.2.2.1; omega)) (below_alloc (Below.refl _ _) _), below_alloc h.b _, h.b.size⟩
theorem Bx.below {w W W' : World} {x : Nat} {k at_ : Int} {n : ByteArray} {v : Value} {out : List S34} (h : Bx w W x k at_ n v out) (hb : Below W.heap.size W W') : Bx w W' x k at_ n v out :=
  ⟨blk_below h.h hb, Kd.R_below h.r hb, Aid_bthen h.b hb, h.g⟩
theorem Bx.set {w W : World} {x : Nat} {k at_ : Int} {n : ByteArray} {v : Value} {out : List S34} (h : Bx w W x k at_ n v out) (u : Int) : Bx w (W.setCell ⟨x, 1, none⟩ (.int .i64 u)) x k u n v out :=
  ⟨blk_put h.h 1 _ rfl, Kd.R_far h.r (fun q hq => hq) _, below_set h.b h.g, h.g⟩
theorem Bx.z0 {w W : World} {x : Nat} {k at_ : Int} {n : ByteArray} {v : Value} {out : List S34} (h : Bx w W x k at_ n v out) : W.cell? ⟨x, 0, none⟩ = some (.int .i64 k) := (blk_cell h.h 0).trans rfl
theorem Bx.z1 {w W : World} {x : Nat} {k at_ : Int} {n : ByteArray} {v : Value} {out : List S34} (h : Bx w W x k at_ n v out) : W.cell? ⟨x, 1, none⟩ = some (.int .i64 at_) := (blk_cell h.h 1).trans rfl
theorem Bx.z2 {w W : World} {x : Nat} {k at_ : Int} {n : ByteArray} {v : Value} {out : List S34} (h : Bx w W x k at_ n v out) : W.cell? ⟨x, 2, none⟩ = some (.string n) := (blk_cell h.h 2).trans rfl
theorem rd34_at (l : List S34) (p : Nat) (x : S34) (h : l[p]? = some x) : rd_T34 l (p : Int) = x := by
  unfold rd_T34
  rw [Int.toNat_natCast, List.getD_eq_getElem?_getD, h]
  rfl
theorem at34 {W : World} {A : Option Addr} {l : List S34} (h : Kd.C k34 W A l.length l) (x : Int) (p : Nat) (hx : x = (p : Int)) (y : S34) (hy : l[p]? = some y) : ∃ ad, A = some ad ∧ W.cell? (ad.add (x.toNat * 3)) = some (.int .i64 y.f0) ∧ W.cell? ⟨(ad.add (x.toNat * 3)).block, (ad.add (x.toNat * 3)).off + 1, none⟩ = some (.int .i64 y.f1) ∧ W.cell? ⟨(ad.add (x.toNat * 3)).block, (ad.add (x.toNat * 3)).off + 2, none⟩ = some (.string y.f2) := by
  subst hx
  have hp : p < l.length := (List.getElem?_eq_some_iff.1 hy).1
  have := at_T34 h (p : Int) (by omega) (by omega)
  rw [rd34_at l p y hy] at this
  exact this
theorem info34r : (Tryd.prog.info? 34).map (fun i => (i.zero, i.size, i.bytes)) = some (some (.agg #[(.int .i64 0), (.int .i64 0), (.string ⟨#[]⟩)]), 3, 32) := by kernel_rfl
theorem TokenRows (A1 : Option Addr) (c1 : Nat) (l : List S34) (A2 : Option Addr) (c2 : Nat) (bl : List Int) (w : World) (hL : Laid5 w) (hC1 : Kd.C k34 w A1 l.length l) (hc1 : l.length ≤ c1) (hC2 : Kd.C (Kd.int .i64) w A2 bl.length bl) (hc2 : bl.length ≤ c2) (hQ : ∀ t ∈ l, t.f2.size ≤ maxLen) :
    Calls Tryd.prog 5 #[.slice A1 l.length c1, .slice A2 bl.length c2] w fun e w' => e = .returned (.bool true) ∧ Below w.heap.size w w' := by
  unfold maxLen at hQ
  have HL := Aside0.mk hL
  have HC1 := Aside0.mk hC1
  have HC2 := Aside0.mk hC2
  have HQ := Aside0.mk hQ
  clear hL hC1 hC2 hQ hc1 hc2
  by_cases h1 : l.length ≤ 60
  · have a1 : decide ((l.length : Int) > 60) = false := decide_eq_false (by omega)
    have a2 : decide (60 < l.length) = false := decide_eq_false (by omega)
    have a3 : decide ((60 : Int) < (l.length : Int)) = false := decide_eq_false (by omega)
    by_cases h2 : bl.length ≤ 60
    · have b1 : decide ((bl.length : Int) > 60) = false := decide_eq_false (by omega)
      have b2 : decide (60 < bl.length) = false := decide_eq_false (by omega)
      have b3 : decide ((60 : Int) < (bl.length : Int)) = false := decide_eq_false (by omega)
      have HLEN := Aside0.mk h1
      clear h1 h2
      go_enter Tryd.func5, Tryd.ntmps5
      go_wp2_with fail
      go_loopg [5, 6, 25] (l.length + 1) (fun kq v5 v6 v25 W => ∃ (x : Int) (p : Nat) (t : ByteArray) (out : List S34), v25 = .int .i64 x ∧ v5 = .string t ∧ Aside0 (x = (p : Int) ∧ kq + p = l.length + 1 ∧ p ≤ l.length ∧ t.size ≤ 10 * p ∧ out.length = p) ∧ Aside0 (Pre t out) ∧ Aside0 (Wt w W v6 out))
      case atStart => exact ⟨0, 0, ⟨#[]⟩, [], rfl, rfl, ⟨rfl, by omega, Nat.zero_le _, Nat.zero_le _, rfl⟩, ⟨preB_nil.pre⟩, ⟨Kd.R_nil _ _ _ _ _, Below.refl _ _⟩⟩
      case round =>
        obtain ⟨x, p, t, out, rfl, rfl, HP, HT, HW⟩ := hrel
        cases gk with
        | zero => exact absurd HP.out.2.1 (by have := HP.out.2.2.1; omega)
        | succ k1 =>
          by_cases hp : p < l.length
          · obtain ⟨y, hy⟩ : ∃ y, l[p]? = some y := ⟨_, List.getElem?_eq_getElem hp⟩
            obtain ⟨ad, ead, x0, x1, x2⟩ := at34 (Kd.C_below HC1.out HW.out.b) x p HP.out.1 y hy
            subst ead
            have HNS := Aside0.mk (HQ.out y (List.mem_of_getElem? hy))
            have HY := Aside0.mk hy
            have HPP := Aside0.mk hp
            have d1 : decide (x < (l.length : Int)) = true := decide_eq_true (by have := HP.out.1; omega)
            have q1 : ((0 : Int) ≤ x) = True := eq_true (by have := HP.out.1; omega)
            have q2 : (x < (l.length : Int)) = True := eq_true (by have := HP.out.1; omega)
            have HXP := Aside0.mk HP.out.1
            rcases tprint_cases y.f0 y.f2 with ⟨hcan, hpr⟩ | hpr
            · have HCAN := Aside0.mk hcan
              have hsz := tx_size _ _ hcan
              obtain ⟨u, hu⟩ : ∃ u, u = tx y.f0 y.f2 := ⟨_, rfl⟩
              rw [← hu] at hsz hpr
              have HU := Aside0.mk hpr
              have HUE := Aside0.mk hu
              have ht : t.size ≤ 600 := by have := HP.out.2.2.2.1; have := HLEN.out; omega
              have HSZ := Aside0.mk (And.intro hsz ht)
              have hcat1 : t.size + 1 ≤ 9223372036854775807 := by omega
              have hcat2 : t.size + 1 + 1 ≤ 9223372036854775807 := by omega
              have hcat3 : t.size + 1 + u.size ≤ 9223372036854775807 := by omega
              have hcat4 : t.size + 1 + 1 + u.size ≤ 9223372036854775807 := by omega
              clear hcan hu hy hp hsz ht hpr
              by_cases hb : p < bl.length
              · have e1 : decide (x < (bl.length : Int)) = true := decide_eq_true (by have := HXP.out; omega)
                have e2 : (x < (bl.length : Int)) = True := eq_true (by have := HXP.out; omega)
                obtain ⟨bd, ebd, yb0⟩ := Kd.at_int HC2.out x (by have := HXP.out; omega) (by have := HXP.out; omega)
                subst ebd
                obtain ⟨z, hz⟩ : ∃ z, z = rd bl x := ⟨_, rfl⟩
                rw [← hz] at yb0
                have HYB := Aside0.mk yb0
                have hzz : z % 2 = 0 ∨ z % 2 = 1 := by omega
                clear hb yb0 hz
                rcases hzz with hzz | hzz
                · have ka : bits .and .i64 z 1 = 0 := by rw [i64_and1, hzz]
                  clear hzz
                  go_upto_region 8 with fail
                  obtain ⟨w2, hw2⟩ : ∃ w2, w2 = wr.alloc (.cells #[.int .i64 y.f0, .int .i64 y.f1, .string y.f2] 34) := ⟨_, rfl⟩
                  rw [← hw2]
                  obtain ⟨g, hg⟩ : ∃ g, g = wr.heap.size := ⟨_, rfl⟩
                  have H2 := Aside0.mk (show Bx w w2 g y.f0 y.f1 y.f2 u6 out by rw [hw2, hg]; exact Bx.new HW.out _ _ _)
                  rw [← hg]
                  have z0 := H2.out.z0
                  have z1 := H2.out.z1
                  have z2 := H2.out.z2
                  clear hw2 hg HW x0 x1 x2
                  go_wp2_with fail
                  refine (RefPrintC y.f0 y.f1 y.f2 _ _ HNS.out HU.out _).mono ?_; rintro e w3 ⟨rfl, h3⟩
                  have H3 := Aside0.mk (H2.out.below h3)
                  clear h3 H2 z0 z1 z2
                  have z0 := H3.out.z0
                  have z1 := H3.out.z1
                  have z2 := H3.out.z2
                  have f1 := blk_frozen H3.out.h 1
                  have yb := (H3.out.b.cell (World.block_lt_of_cell? w _ HYB.out)).trans HYB.out
                  go_upto_region 15 with fail
                  obtain ⟨w4, hw4⟩ : ∃ w4, w4 = w3.setCell ⟨g, 1, none⟩ (.int .i64 ((t.size : Int) + 1)) := ⟨_, rfl⟩
                  rw [← hw4]
                  have H4 := Aside0.mk (show Bx w w4 g y.f0 ((t.size : Int) + 1) y.f2 u6 out by rw [hw4]; exact H3.out.set _)
                  clear hw4 z0 z1 z2 f1 H3 yb
                  have z0 := H4.out.z0
                  have z1 := H4.out.z1
                  have z2 := H4.out.z2
                  go_wp2_with (first | ((with_reducible refine gate_builtin (b := .append) (xs := #[.tmp 60, .tmp 62]) rfl ?_); at_builtin; refine Kd.R_append k34 (w0 := w) w.heap.size rfl (.tmp 60) (.tmp 62) 27 34 (.agg #[(.int .i64 0), (.int .i64 0), (.string ⟨#[]⟩)]) 32 rfl Tryd.underlying27 info34 rfl (by decide) (by omega) u6 out (⟨y.f0, (t.size : Int) + 1, y.f2⟩ : S34) [.int .i64 y.f0, .int .i64 ((t.size : Int) + 1), .string y.f2] (fun _ => True) (fun _ => False) rfl rfl ?aP (fun _ hk => hk.elim) ?aF ?aO ?aB ?aS ?aL ?_; (case aP => exact k34_mkM _ _ _ (⟨y.f0, (t.size : Int) + 1, y.f2⟩ : S34)); (case aB => exact H4.out.b); (case aF => exact (fun _ _ => trivial)); (case aO => exact Kd.R_mono H4.out.r (fun _ _ => trivial)); (case aS => exact H4.out.b.size); (case aL => have := HP.out.2.2.2.2; have := HPP.out; have := HLEN.out; omega); intro v5 w5 ho hb hg hat; have H5 := Aside0.mk (show Wt w w5 v5 (out ++ [(⟨y.f0, (t.size : Int) + 1, y.f2⟩ : S34)]) from ⟨ho, hb⟩); clear ho hb hg hat))
                  go_roundg k1
                  case measure => omega
                  case rel =>
                    refine ⟨_, p + 1, t ++ (⟨#[32]⟩ : ByteArray) ++ u, out ++ [(⟨y.f0, (t.size : Int) + 1, y.f2⟩ : S34)], rfl, rfl, ⟨?_, by have := HP.out.2.1; omega, by have := HPP.out; omega, ?_, ?_⟩, ⟨?_⟩, H5⟩
                    · have h1 := HP.out.1
                      have h2 := HLEN.out
                      have h3 := HPP.out
                      first | (rw [h1, tw64 _ (by omega) (by omega)]; omega) | (rw [h1]; omega)
                    · have h1 := HP.out.2.2.2.1
                      have h2 := HSZ.out.1
                      have e : (t ++ (⟨#[32]⟩ : ByteArray) ++ u).size = t.size + 1 + u.size := by rw [ByteArray.size_append, ByteArray.size_append]; rfl
                      rw [e]; omega
                    · rw [List.length_append, HP.out.2.2.2.2]; rfl
                    · have h1 := (HT.out.blank).tok y.f0 y.f2 HCAN.out
                      rw [← HUE.out] at h1
                      have e : (((t ++ blankT).size : Nat) : Int) = (t.size : Int) + 1 := by rw [ByteArray.size_append]; show ((t.size + 1 : Nat) : Int) = _; omega
                      rw [e] at h1
                      exact h1
                · have ka : bits .and .i64 z 1 = 1 := by rw [i64_and1, hzz]
                  clear hzz
                  go_upto_region 8 with fail
                  obtain ⟨w2, hw2⟩ : ∃ w2, w2 = wr.alloc (.cells #[.int .i64 y.f0, .int .i64 y.f1, .string y.f2] 34) := ⟨_, rfl⟩
                  rw [← hw2]
                  obtain ⟨g, hg⟩ : ∃ g, g = wr.heap.size := ⟨_, rfl⟩
                  have H2 := Aside0.mk (show Bx w w2 g y.f0 y.f1 y.f2 u6 out by rw [hw2, hg]; exact Bx.new HW.out _ _ _)
                  rw [← hg]
                  have z0 := H2.out.z0
                  have z1 := H2.out.z1
                  have z2 := H2.out.z2
                  clear hw2 hg HW x0 x1 x2
                  go_wp2_with fail
                  refine (RefPrintC y.f0 y.f1 y.f2 _ _ HNS.out HU.out _).mono ?_; rintro e w3 ⟨rfl, h3⟩
                  have H3 := Aside0.mk (H2.out.below h3)
                  clear h3 H2 z0 z1 z2
                  have z0 := H3.out.z0
                  have z1 := H3.out.z1
                  have z2 := H3.out.z2
                  have f1 := blk_frozen H3.out.h 1
                  have yb := (H3.out.b.cell (World.block_lt_of_cell? w _ HYB.out)).trans HYB.out
                  go_upto_region 15 with fail
                  obtain ⟨w4, hw4⟩ : ∃ w4, w4 = w3.setCell ⟨g, 1, none⟩ (.int .i64 ((t.size : Int) + 1 + 1)) := ⟨_, rfl⟩
                  rw [← hw4]
                  have H4 := Aside0.mk (show Bx w w4 g y.f0 ((t.size : Int) + 1 + 1) y.f2 u6 out by rw [hw4]; exact H3.out.set _)
                  clear hw4 z0 z1 z2 f1 H3 yb
                  have z0 := H4.out.z0
                  have z1 := H4.out.z1
                  have z2 := H4.out.z2
                  go_wp2_with (first | ((with_reducible refine gate_builtin (b := .append) (xs := #[.tmp 60, .tmp 62]) rfl ?_); at_builtin; refine Kd.R_append k34 (w0 := w) w.heap.size rfl (.tmp 60) (.tmp 62) 27 34 (.agg #[(.int .i64 0), (.int .i64 0), (.string ⟨#[]⟩)]) 32 rfl Tryd.underlying27 info34 rfl (by decide) (by omega) u6 out (⟨y.f0, (t.size : Int) + 1 + 1, y.f2⟩ : S34) [.int .i64 y.f0, .int .i64 ((t.size : Int) + 1 + 1), .string y.f2] (fun _ => True) (fun _ => False) rfl rfl ?aP (fun _ hk => hk.elim) ?aF ?aO ?aB ?aS ?aL ?_; (case aP => exact k34_mkM _ _ _ (⟨y.f0, (t.size : Int) + 1 + 1, y.f2⟩ : S34)); (case aB => exact H4.out.b); (case aF => exact (fun _ _ => trivial)); (case aO => exact Kd.R_mono H4.out.r (fun _ _ => trivial)); (case aS => exact H4.out.b.size); (case aL => have := HP.out.2.2.2.2; have := HPP.out; have := HLEN.out; omega); intro v5 w5 ho hb hg hat; have H5 := Aside0.mk (show Wt w w5 v5 (out ++ [(⟨y.f0, (t.size : Int) + 1 + 1, y.f2⟩ : S34)]) from ⟨ho, hb⟩); clear ho hb hg hat))
                  go_roundg k1
                  case measure => omega
                  case rel =>
                    refine ⟨_, p + 1, t ++ (⟨#[32]⟩ : ByteArray) ++ (⟨#[32]⟩ : ByteArray) ++ u, out ++ [(⟨y.f0, (t.size : Int) + 1 + 1, y.f2⟩ : S34)], rfl, rfl, ⟨?_, by have := HP.out.2.1; omega, by have := HPP.out; omega, ?_, ?_⟩, ⟨?_⟩, H5⟩
                    · have h1 := HP.out.1
                      have h2 := HLEN.out
                      have h3 := HPP.out
                      first | (rw [h1, tw64 _ (by omega) (by omega)]; omega) | (rw [h1]; omega)
                    · have h1 := HP.out.2.2.2.1
                      have h2 := HSZ.out.1
                      have e : (t ++ (⟨#[32]⟩ : ByteArray) ++ (⟨#[32]⟩ : ByteArray) ++ u).size = t.size + 1 + 1 + u.size := by rw [ByteArray.size_append, ByteArray.size_append, ByteArray.size_append]; rfl
                      rw [e]; omega
                    · rw [List.length_append, HP.out.2.2.2.2]; rfl
                    · have h1 := ((HT.out.blank).pre.blank).tok y.f0 y.f2 HCAN.out
                      rw [← HUE.out] at h1
                      have e : (((t ++ blankT ++ blankT).size : Nat) : Int) = (t.size : Int) + 1 + 1 := by rw [ByteArray.size_append, ByteArray.size_append]; show ((t.size + 1 + 1 : Nat) : Int) = _; omega
                      rw [e] at h1
                      exact h1
              · have e1 : decide (x < (bl.length : Int)) = false := decide_eq_false (by have := HXP.out; omega)
                clear hb
                go_upto_region 8 with fail
                obtain ⟨w2, hw2⟩ : ∃ w2, w2 = wr.alloc (.cells #[.int .i64 y.f0, .int .i64 y.f1, .string y.f2] 34) := ⟨_, rfl⟩
                rw [← hw2]
                obtain ⟨g, hg⟩ : ∃ g, g = wr.heap.size := ⟨_, rfl⟩
                have H2 := Aside0.mk (show Bx w w2 g y.f0 y.f1 y.f2 u6 out by rw [hw2, hg]; exact Bx.new HW.out _ _ _)
                rw [← hg]
                have z0 := H2.out.z0
                have z1 := H2.out.z1
                have z2 := H2.out.z2
                clear hw2 hg HW x0 x1 x2
                go_wp2_with fail
                refine (RefPrintC y.f0 y.f1 y.f2 _ _ HNS.out HU.out _).mono ?_; rintro e w3 ⟨rfl, h3⟩
                have H3 := Aside0.mk (H2.out.below h3)
                clear h3 H2 z0 z1 z2
                have z0 := H3.out.z0
                have z1 := H3.out.z1
                have z2 := H3.out.z2
                have f1 := blk_frozen H3.out.h 1
                go_upto_region 15 with fail
                obtain ⟨w4, hw4⟩ : ∃ w4, w4 = w3.setCell ⟨g, 1, none⟩ (.int .i64 ((t.size : Int) + 1)) := ⟨_, rfl⟩
                rw [← hw4]
                have H4 := Aside0.mk (show Bx w w4 g y.f0 ((t.size : Int) + 1) y.f2 u6 out by rw [hw4]; exact H3.out.set _)
                clear hw4 z0 z1 z2 f1 H3
                have z0 := H4.out.z0
                have z1 := H4.out.z1
                have z2 := H4.out.z2
                go_wp2_with (first | ((with_reducible refine gate_builtin (b := .append) (xs := #[.tmp 60, .tmp 62]) rfl ?_); at_builtin; refine Kd.R_append k34 (w0 := w) w.heap.size rfl (.tmp 60) (.tmp 62) 27 34 (.agg #[(.int .i64 0), (.int .i64 0), (.string ⟨#[]⟩)]) 32 rfl Tryd.underlying27 info34 rfl (by decide) (by omega) u6 out (⟨y.f0, (t.size : Int) + 1, y.f2⟩ : S34) [.int .i64 y.f0, .int .i64 ((t.size : Int) + 1), .string y.f2] (fun _ => True) (fun _ => False) rfl rfl ?aP (fun _ hk => hk.elim) ?aF ?aO ?aB ?aS ?aL ?_; (case aP => exact k34_mkM _ _ _ (⟨y.f0, (t.size : Int) + 1, y.f2⟩ : S34)); (case aB => exact H4.out.b); (case aF => exact (fun _ _ => trivial)); (case aO => exact Kd.R_mono H4.out.r (fun _ _ => trivial)); (case aS => exact H4.out.b.size); (case aL => have := HP.out.2.2.2.2; have := HPP.out; have := HLEN.out; omega); intro v5 w5 ho hb hg hat; have H5 := Aside0.mk (show Wt w w5 v5 (out ++ [(⟨y.f0, (t.size : Int) + 1, y.f2⟩ : S34)]) from ⟨ho, hb⟩); clear ho hb hg hat))
                go_roundg k1
                case measure => omega
                case rel =>
                  refine ⟨_, p + 1, t ++ (⟨#[32]⟩ : ByteArray) ++ u, out ++ [(⟨y.f0, (t.size : Int) + 1, y.f2⟩ : S34)], rfl, rfl, ⟨?_, by have := HP.out.2.1; omega, by have := HPP.out; omega, ?_, ?_⟩, ⟨?_⟩, H5⟩
                  · have h1 := HP.out.1
                    have h2 := HLEN.out
                    have h3 := HPP.out
                    first | (rw [h1, tw64 _ (by omega) (by omega)]; omega) | (rw [h1]; omega)
                  · have h1 := HP.out.2.2.2.1
                    have h2 := HSZ.out.1
                    have e : (t ++ (⟨#[32]⟩ : ByteArray) ++ u).size = t.size + 1 + u.size := by rw [ByteArray.size_append, ByteArray.size_append]; rfl
                    rw [e]; omega
                  · rw [List.length_append, HP.out.2.2.2.2]; rfl
                  · have h1 := (HT.out.blank).tok y.f0 y.f2 HCAN.out
                    rw [← HUE.out] at h1
                    have e : (((t ++ blankT).size : Nat) : Int) = (t.size : Int) + 1 := by rw [ByteArray.size_append]; show ((t.size + 1 : Nat) : Int) = _; omega
                    rw [e] at h1
                    exact h1
            · have HU := Aside0.mk hpr
              clear hy hp hpr
              go_upto_region 8 with fail
              obtain ⟨w2, hw2⟩ : ∃ w2, w2 = wr.alloc (.cells #[.int .i64 y.f0, .int .i64 y.f1, .string y.f2] 34) := ⟨_, rfl⟩
              rw [← hw2]
              obtain ⟨g, hg⟩ : ∃ g, g = wr.heap.size := ⟨_, rfl⟩
              have H2 := Aside0.mk (show Bx w w2 g y.f0 y.f1 y.f2 u6 out by rw [hw2, hg]; exact Bx.new HW.out _ _ _)
              rw [← hg]
              have z0 := H2.out.z0
              have z1 := H2.out.z1
              have z2 := H2.out.z2
              clear hw2 hg HW x0 x1 x2
              go_wp2_with fail
              refine (RefPrintC y.f0 y.f1 y.f2 _ _ HNS.out HU.out _).mono ?_; rintro e w3 ⟨rfl, h3⟩
              have H3 := Aside0.mk (H2.out.below h3).b
              clear h3 H2 z0 z1 z2
              go_wp2_with fail
              refine (Alive5 _ (HL.out.below H3.out)).mono ?_; rintro e w4 ⟨rfl, h4⟩
              have H4 := Aside0.mk (Aid_bthen H3.out h4)
              clear h4
              go_wp2_with fail
              (try rw [Exit.noGoto_ret])
              go_ret
              exact ⟨rfl, H4.out⟩
          · have e : p = l.length := by have := HP.out.2.2.1; omega
            have d1 : decide (x < (l.length : Int)) = false := decide_eq_false (by have := HP.out.1; omega)
            have HLX := Aside0.mk (show LexIs t (out, (t.size : Int), 0) from HT.out.lex (by have := HP.out.2.2.2.1; have := HLEN.out; omega))
            have HOL := Aside0.mk (show out.length ≤ 60 by have := HP.out.2.2.2.2; have := HLEN.out; omega)
            obtain ⟨A6, c6, e6, hc6, hC6⟩ := R_is HW.out.r
            subst e6
            have HC6 := Aside0.mk (And.intro hC6 hc6)
            have HB6 := Aside0.mk HW.out.b
            clear e hp hc6 hC6 HW HT
            go_wp2_with fail
            refine (Lex t _ HLX.out _).mono ?_; rintro e w2 ⟨A3, c3, rfl, hc, hC, h2⟩
            have HM := Aside0.mk (show Kd.C k37 w2 A3 out.length (out.map t37) ∧ out.length ≤ c3 from ⟨hC, hc⟩)
            have H2 := Aside0.mk (Aid_bthen HB6.out h2)
            have HC7 := Aside0.mk (show Kd.C k34 w2 A6 out.length out from Kd.C_below HC6.out.1 h2)
            clear hc hC h2 HB6
            go_wp2_with fail
            refine (Alive5 _ (HL.out.below H2.out)).mono ?_; rintro e w3 ⟨rfl, h3⟩
            have HM2 := Aside0.mk (show Kd.C k37 w3 A3 out.length (out.map t37) from Kd.C_below HM.out.1 h3)
            have H3 := Aside0.mk (Aid_bthen H2.out h3)
            have HC8 := Aside0.mk (Kd.C_below HC7.out h3)
            clear h3 H2 HC7
            go_wp2_with fail
            refine (OldsC A3 c3 out _ HM2.out HM.out.2 (by have := HOL.out; omega)).mono ?_; rintro e w4 ⟨A9, c9, rfl, hc, hC, h4⟩
            have HC9 := Aside0.mk (And.intro hC hc)
            have HC10 := Aside0.mk (Kd.C_below HC8.out h4)
            have H4 := Aside0.mk (Aid_bthen H3.out h4)
            clear hc hC h4 H3 HC8 HM2
            go_wp2_with fail
            refine (SameC A9 c9 A6 c6 out _ HC9.out.1 HC9.out.2 HC10.out HC6.out.2 (by have := HOL.out; omega)).mono ?_; rintro e w5 ⟨rfl, h5⟩
            have H5 := Aside0.mk (Aid_bthen H4.out h5)
            clear h5
            go_wp2_with fail
            (try rw [Exit.noGoto_ret])
            go_ret
            exact ⟨by simp, H5.out⟩
    · have b1 : decide ((bl.length : Int) > 60) = true := decide_eq_true (by omega)
      have b2 : decide (60 < bl.length) = true := decide_eq_true (by omega)
      have b3 : decide ((60 : Int) < (bl.length : Int)) = true := decide_eq_true (by omega)
      clear h1 h2
      go_enter Tryd.func5, Tryd.ntmps5
      go_wp2_with fail
      refine (Alive5 _ HL.out).mono ?_; rintro e w3 ⟨rfl, h3⟩
      go_wp2_with fail
      go_ret
      exact ⟨rfl, h3⟩
  · have a1 : decide ((l.length : Int) > 60) = true := decide_eq_true (by omega)
    have a2 : decide (60 < l.length) = true := decide_eq_true (by omega)
    have a3 : decide ((60 : Int) < (l.length : Int)) = true := decide_eq_true (by omega)
    clear h1
    go_enter Tryd.func5, Tryd.ntmps5
    go_wp2_with fail
    refine (Alive5 _ HL.out).mono ?_; rintro e w3 ⟨rfl, h3⟩
    go_wp2_with fail
    go_ret
    exact ⟨rfl, h3⟩
end Go.Proofs.YtefiadocljnpjaaDoor.Row
