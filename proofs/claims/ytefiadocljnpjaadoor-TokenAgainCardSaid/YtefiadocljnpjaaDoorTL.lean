/- Layer 5: the law TokenAgain. -/
import Derived.Test.YtefiadocljnpjaaDoorTJ
namespace Go.Proofs.YtefiadocljnpjaaDoor.Row
open Go.Proofs.Tree Go.RowKit Go.Proofs.YtefiadocljnpjaaDoorW.PrintWords Go.Proofs.YtefiadocljnpjaaDoorW.PrintLast Go.Proofs.YtefiadocljnpjaaDoorW.PrintMore Go.Proofs.YtefiadocljnpjaaDoor.PK
set_option linter.unusedVariables false
set_option linter.unusedSimpArgs false
set_option maxHeartbeats 4000000
set_option maxRecDepth 100000
/-- Two rows of tokens, alike but for their places. -/
def alike (a b : List S34) : Prop := a.map (fun t => (t.f0, t.f2)) = b.map (fun t => (t.f0, t.f2))
theorem alike_len {a b : List S34} (h : alike a b) : a.length = b.length := by
  have := congrArg List.length h
  simpa using this
theorem alike_at {a b : List S34} (h : alike a b) (p : Nat) (hp : p < b.length) : ∃ x y : S34, a[p]? = some x ∧ b[p]? = some y ∧ x.f0 = y.f0 ∧ x.f2 = y.f2 := by
  have hl := alike_len h
  have ha : p < a.length := by omega
  refine ⟨a[p], b[p], List.getElem?_eq_getElem ha, List.getElem?_eq_getElem hp, ?_⟩
  have := congrArg (fun l => l[p]?) h
  simp only [List.getElem?_map, List.getElem?_eq_getElem ha, List.getElem?_eq_getElem hp, Option.map_some, Option.some.injEq, Prod.mk.injEq] at this
  exact this
theorem rd_at (l : List S34) (p : Nat) (x : S34) (h : l[p]? = some x) : rd_T37 (l.map t37) (p : Int) = t37 x := by
  unfold rd_T37
  rw [Int.toNat_natCast, List.getD_eq_getElem?_getD, List.getElem?_map, h]
  rfl
theorem cost_le (l : List S34) (p : Nat) : cost (l.take p) ≤ cost l := by
  have := cost_append (l.take p) (l.drop p)
  rw [List.take_append_drop] at this
  omega
/-- The tokens of the first text, in a world. -/
structure Ag (w W : World) (A : Option Addr) (l : List S34) : Prop where
  c : Kd.C k37 W A l.length (l.map t37)
  b : Below w.heap.size w W
theorem Ag.below {w W W' : World} {A : Option Addr} {l : List S34} (h : Ag w W A l) (hb : Below W.heap.size W W') : Ag w W' A l := ⟨Kd.C_below h.c hb, Aid_bthen h.b hb⟩
theorem Ag.at {w W : World} {A : Option Addr} {l : List S34} (h : Ag w W A l) (x : Int) (p : Nat) (hx : x = (p : Int)) (y : S34) (hy : l[p]? = some y) : ∃ ad, A = some ad ∧ W.cell? (ad.add (x.toNat * 3)) = some (.int .i64 y.f0) ∧ W.cell? ⟨(ad.add (x.toNat * 3)).block, (ad.add (x.toNat * 3)).off + 1, none⟩ = some (.int .i64 y.f1) ∧ W.cell? ⟨(ad.add (x.toNat * 3)).block, (ad.add (x.toNat * 3)).off + 2, none⟩ = some (.string y.f2) := by
  subst hx
  have hp : p < l.length := (List.getElem?_eq_some_iff.1 hy).1
  have := at_T37 h.c (p : Int) (by omega) (by omega)
  rw [rd_at l p y hy] at this
  exact this
theorem TokenAgain (s : ByteArray) (w : World) (hL : Laid5 w) (hs : s.size ≤ 4611686018427387903) : Calls Tryd.prog 6 #[.string s] w fun e w' => e = .returned (.bool true) ∧ Below w.heap.size w w' := by
  have HL := Aside0.mk hL
  clear hL
  obtain ⟨⟨l, at_, er⟩, hR⟩ := LexIs.some s
  have HR := Aside0.mk hR
  by_cases h0 : er = 0
  · subst h0
    by_cases h4 : s.size ≤ 400
    · have c1 : decide ((s.size : Int) > 400) = false := decide_eq_false (by omega)
      have c2 : decide (400 < s.size) = false := decide_eq_false (by omega)
      have c3 : decide ((400 : Int) < (s.size : Int)) = false := decide_eq_false (by omega)
      have hcc := hR
      unfold LexIs at hcc
      rw [if_neg (by omega)] at hcc
      obtain ⟨k1, k2⟩ := lx_can hcc (Nat.zero_le _) (fun t ht => by cases ht)
      have HCAN := Aside0.mk k1
      have HCOST := Aside0.mk (show cost l ≤ 800 by simp only [cost] at k2; omega)
      have HLEN := Aside0.mk (show l.length ≤ 1000 from lex_len hR)
      clear hcc k1 k2 hR h4 hs
      go_enter Tryd.func6, Tryd.ntmps6
      go_wp2_with fail
      refine (Lex s _ HR.out _).mono ?_; rintro e w1 ⟨A, c, rfl, hc, hC, h1⟩
      have H1 := Aside0.mk (show Ag w w1 A l from ⟨hC, h1⟩)
      have HK := Aside0.mk (show l.length ≤ c from hc)
      clear hc hC h1
      go_wp2_with fail
      go_loopg [6, 31] (l.length + 1) (fun kq v6 v31 W => ∃ (x : Int) (p : Nat) (out : List S34) (t : ByteArray), v31 = .int .i64 x ∧ v6 = .string t ∧ Aside0 (x = (p : Int) ∧ kq + p = l.length + 1 ∧ p ≤ l.length ∧ t.size = cost (l.take p)) ∧ Aside0 (PreB t out ∧ alike out (l.take p)) ∧ Aside0 (Ag w W A l))
      case atStart => exact ⟨0, 0, [], ⟨#[]⟩, rfl, rfl, ⟨rfl, by omega, Nat.zero_le _, rfl⟩, ⟨preB_nil, rfl⟩, H1⟩
      case round =>
        clear H1
        obtain ⟨x, p, out, t, rfl, rfl, HP, HT, HW⟩ := hrel
        cases gk with
        | zero => exact absurd HP.out.2.1 (by have := HP.out.2.2.1; omega)
        | succ k1 =>
          by_cases hp : p < l.length
          · obtain ⟨y, hy⟩ : ∃ y, l[p]? = some y := ⟨_, List.getElem?_eq_getElem hp⟩
            obtain ⟨ad, ead, x0, x1, x2⟩ := HW.out.at x p HP.out.1 y hy
            subst ead
            have hcan : Can y.f0 y.f2 := HCAN.out y (List.mem_of_getElem? hy)
            have hsz := tx_size _ _ hcan
            obtain ⟨u, hu⟩ : ∃ u, u = tx y.f0 y.f2 := ⟨_, rfl⟩
            rw [← hu] at hsz
            have HU := Aside0.mk (show tprint y.f0 y.f2 = (u, true) by rw [hu]; exact tprint_can _ _ hcan)
            have HNS := Aside0.mk (show y.f2.size ≤ 1000000 from by
              rcases hcan with ⟨_, h⟩ | ⟨_, _, h⟩
              · have := h.2.1; omega
              · rw [h]; decide)
            have HCAN2 := Aside0.mk hcan
            have HUE := Aside0.mk hu
            have HY := Aside0.mk hy
            have HPP := Aside0.mk hp
            have ht : t.size ≤ 800 := by have := HP.out.2.2.2; have := cost_le l p; have := HCOST.out; omega
            have d1 : decide (x < (l.length : Int)) = true := decide_eq_true (by have := HP.out.1; omega)
            have q1 : ((0 : Int) ≤ x) = True := eq_true (by have := HP.out.1; omega)
            have q2 : (x < (l.length : Int)) = True := eq_true (by have := HP.out.1; omega)
            have hcat1 : u.size + 1 ≤ 9223372036854775807 := by omega
            have hcat2 : t.size + (u.size + 1) ≤ 9223372036854775807 := by omega
            have HSZ := Aside0.mk (And.intro hsz ht)
            clear hcan hu hy hp hsz ht
            go_upto_region 8 with fail
            obtain ⟨w2, hw2⟩ : ∃ w2, w2 = wr.alloc (.cells #[.int .i64 y.f0, .int .i64 y.f1, .string y.f2] 37) := ⟨_, rfl⟩
            rw [← hw2]
            have H2 := Aside0.mk (show Ag w w2 (some ad) l by rw [hw2]; exact HW.out.below (below_alloc (Below.refl _ _) _))
            obtain ⟨z0, z1, z2⟩ : w2.cell? ⟨wr.heap.size, 0, none⟩ = some (.int .i64 y.f0) ∧ w2.cell? ⟨wr.heap.size, 1, none⟩ = some (.int .i64 y.f1) ∧ w2.cell? ⟨wr.heap.size, 2, none⟩ = some (.string y.f2) := by
              rw [hw2, cell_of_row _ _ _ _ _ _ (heap_new wr _), cell_of_row _ _ _ _ _ _ (heap_new wr _), cell_of_row _ _ _ _ _ _ (heap_new wr _)]
              exact ⟨rfl, rfl, rfl⟩
            clear hw2 HW x0 x1 x2
            go_wp2_with fail
            refine (Print y.f0 y.f1 y.f2 _ _ HNS.out HU.out _).mono ?_; rintro e w3 ⟨rfl, h3⟩
            have H3 := Aside0.mk (H2.out.below h3)
            clear h3 H2 z0 z1 z2
            go_wp2_with fail
            go_roundg k1
            case measure => omega
            case rel =>
              have hp1 : l.take (p + 1) = l.take p ++ [y] := by
                have h := (List.getElem?_eq_some_iff.1 HY.out)
                rw [List.take_succ_eq_append_getElem h.1, h.2]
              refine ⟨_, p + 1, out ++ [⟨y.f0, (t.size : Int), y.f2⟩], _, rfl, rfl, ⟨?_, by have := HP.out.2.1; omega, by have := HPP.out; omega, ?_⟩, ⟨?_, ?_⟩, H3⟩
              · have h1 := HP.out.1
                have h2 := HLEN.out
                have h3 := HPP.out
                first | (rw [h1, tw64 _ (by omega) (by omega)]; omega) | (rw [h1]; omega)
              · rw [hp1, cost_append]
                show (t ++ (u ++ _)).size = _
                rw [ByteArray.size_append, ByteArray.size_append, HP.out.2.2.2, HUE.out]
                simp only [cost]
                rfl
              · have h1 := (HT.out.1.tok y.f0 y.f2 HCAN2.out).blank
                rw [← HUE.out] at h1
                have e : t ++ (u ++ blankT) = t ++ u ++ blankT := ByteArray.append_assoc.symm
                rw [show t ++ (u ++ (⟨#[32]⟩ : ByteArray)) = t ++ u ++ blankT from e]
                exact h1
              · unfold alike
                rw [hp1, List.map_append, List.map_append, HT.out.2]
                rfl
          · have e : p = l.length := by have := HP.out.2.2.1; omega
            have d1 : decide (x < (l.length : Int)) = false := decide_eq_false (by have := HP.out.1; omega)
            have hal : alike out l := by have := HT.out.2; rw [e, List.take_length] at this; exact this
            have hol := alike_len hal
            have HAL := Aside0.mk hal
            have HLX := Aside0.mk (show LexIs t (out, (t.size : Int), 0) from HT.out.1.pre.lex (by have := HP.out.2.2.2; have := cost_le l p; have := HCOST.out; omega))
            have HOL := Aside0.mk hol
            have n1 : (((out.length : Nat) : Int) != (l.length : Int)) = false := by rw [hol]; simp
            have n2 : (out.length != l.length) = false := by rw [hol]; simp
            have HOUT := Aside0.mk hol
            clear e hal hol hp
            go_wp2_with fail
            refine (Lex t _ HLX.out _).mono ?_; rintro e w2 ⟨A2, c2, rfl, hc, hC, h2⟩
            have H2 := Aside0.mk (show Ag w w2 A l ∧ Ag w w2 A2 out from ⟨HW.out.below h2, ⟨hC, Aid_bthen HW.out.b h2⟩⟩)
            clear hc hC h2 HW d1
            go_wp2_with fail
            go_loopg [64] (l.length + 1) (fun kq v64 W => ∃ (x : Int) (p : Nat), v64 = .int .i64 x ∧ Aside0 (x = (p : Int) ∧ kq + p = l.length + 1 ∧ p ≤ l.length) ∧ Aside0 (Ag w W A l ∧ Ag w W A2 out))
            case atStart => exact ⟨0, 0, rfl, ⟨rfl, by omega, Nat.zero_le _⟩, H2⟩
            case round =>
              clear H2 HP HT
              obtain ⟨x, p, rfl, HP, HW⟩ := hrel
              cases gk with
              | zero => exact absurd HP.out.2.1 (by have := HP.out.2.2; omega)
              | succ k2 =>
                by_cases hp : p < l.length
                · obtain ⟨ya, yb, hya, hyb, ef0, ef2⟩ := alike_at HAL.out p hp
                  obtain ⟨ad, ead, x0, x1, x2⟩ := HW.out.1.at x p HP.out.1 yb hyb
                  obtain ⟨bd, ebd, y0, y1, y2⟩ := HW.out.2.at x p HP.out.1 ya hya
                  subst ead
                  subst ebd
                  rw [ef0] at y0
                  rw [ef2] at y2
                  have HPP := Aside0.mk hp
                  have d1 : decide (x < (l.length : Int)) = true := decide_eq_true (by have := HP.out.1; omega)
                  have q1 : ((0 : Int) ≤ x) = True := eq_true (by have := HP.out.1; omega)
                  have q2 : (x < (l.length : Int)) = True := eq_true (by have := HP.out.1; omega)
                  have q3 : (x < (out.length : Int)) = True := eq_true (by have := HP.out.1; have := HOL.out; omega)
                  have HWW := Aside0.mk (show Ag w wr (some ad) l ∧ Ag w wr (some bd) out from HW.out)
                  clear hp hya hyb ef0 ef2 x1 y1 HW
                  go_wp2_with fail
                  go_quiet (fail)
                  go_wp2_with fail
                  go_roundg k2
                  case measure => omega
                  case rel =>
                    refine ⟨_, p + 1, rfl, ⟨?_, by have := HP.out.2.1; omega, by have := HPP.out; omega⟩, ⟨HWW.out.1.below (pw_below_drewN (Below.refl _ _) _), HWW.out.2.below (pw_below_drewN (Below.refl _ _) _)⟩⟩
                    have h1 := HP.out.1
                    have h2 := HLEN.out
                    have h3 := HPP.out
                    first | (rw [h1, tw64 _ (by omega) (by omega)]; omega) | (rw [h1]; omega)
                · have d1 : decide (x < (l.length : Int)) = false := decide_eq_false (by have := HP.out.1; omega)
                  clear hp
                  go_wp2_with fail
                  refine (Alive5 _ (HL.out.below HW.out.1.b)).mono ?_; rintro e w5 ⟨rfl, h5⟩
                  have H5 := Aside0.mk (Aid_bthen HW.out.1.b h5)
                  clear h5
                  go_wp2_with fail
                  (try rw [Exit.noGoto_ret])
                  go_ret
                  exact ⟨rfl, H5.out⟩
    · have c1 : decide ((s.size : Int) > 400) = true := decide_eq_true (by omega)
      have c2 : decide (400 < s.size) = true := decide_eq_true (by omega)
      have c3 : decide ((400 : Int) < (s.size : Int)) = true := decide_eq_true (by omega)
      clear hR h4 hs
      go_enter Tryd.func6, Tryd.ntmps6
      go_wp2_with fail
      refine (Lex s _ HR.out _).mono ?_; rintro e w1 ⟨A, c, rfl, _, _, h1⟩
      have H1 := Aside0.mk h1
      clear h1
      go_wp2_with fail
      refine (Alive5 _ (HL.out.below H1.out)).mono ?_; rintro e w4 ⟨rfl, h4⟩
      have H4 := Aside0.mk (Aid_bthen H1.out h4)
      clear h4 H1
      go_wp2_with fail
      go_ret
      exact ⟨rfl, H4.out⟩
  · have d0 : (er != 0) = true := bne_iff_ne.2 h0
    clear hR h0 hs
    go_enter Tryd.func6, Tryd.ntmps6
    go_wp2_with fail
    refine (Lex s _ HR.out _).mono ?_; rintro e w1 ⟨A, c, rfl, _, _, h1⟩
    have H1 := Aside0.mk h1
    clear h1
    go_wp2_with fail
    refine (Alive5 _ (HL.out.below H1.out)).mono ?_; rintro e w4 ⟨rfl, h4⟩
    have H4 := Aside0.mk (Aid_bthen H1.out h4)
    clear h4 H1
    go_wp2_with fail
    go_ret
    exact ⟨rfl, H4.out⟩
end Go.Proofs.YtefiadocljnpjaaDoor.Row
