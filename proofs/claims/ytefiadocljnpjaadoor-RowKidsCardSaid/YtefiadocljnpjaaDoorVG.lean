/- RowKids: the law, walked by hand. -/
import Derived.Test.YtefiadocljnpjaaDoorVF
import Derived.WalkLawsBesides
import Derived.WalkSpells
namespace Go.Proofs.YtefiadocljnpjaaDoor.Row
open Go.Proofs.Tree Go.RowKit Go.Proofs.YtefiadocljnpjaaDoorW.PrintWords Go.Proofs.YtefiadocljnpjaaDoorW.PrintLast Go.Proofs.YtefiadocljnpjaaDoorW.PrintMore Go.Proofs.YtefiadocljnpjaaDoor.PK
set_option linter.unusedVariables false
set_option linter.unusedSimpArgs false
set_option maxHeartbeats 4000000
set_option maxRecDepth 100000
theorem kids_zero (l : List S48) (h : size S48.f0 l = 0) : kidsL l = [] := by
  unfold size kidsL at *
  cases e : tree S48.f0 l with
  | none => rfl
  | some p =>
    obtain ⟨t, r⟩ := p
    rw [e] at h
    have := Tr.len_pos t
    unfold Tr.len at h
    dsimp only at h
    omega
theorem kids_tot (l : List S48) : tot (kidsL l) ≤ l.length := by
  by_cases h : size S48.f0 l = 0
  · rw [kids_zero l h]; unfold tot; simp
  · have h1 := (head_kids l h).1
    have h2 := congrArg List.length h1
    rw [List.length_take, List.length_cons] at h2
    unfold tot
    omega
/-- What is known behind both Kids. -/
structure Ik (w W : World) (S : Nat → Prop) (A : Option Addr) (l : List S48) (AK BK : Option Addr) (gA : Nat) (ks : List (List S48)) : Prop where
  i : In1 w W A l
  a : Kd.C (Kd.slice 48 k48) W AK ks.length ks
  b : Kd.C (Kd.slice 48 k48) W BK ks.length ks
  s : 0 < ks.length → AK = some ⟨gA, 0, none⟩ ∧ Kst W S gA ks
theorem Ik.below {w W W' : World} {S : Nat → Prop} {A : Option Addr} {l : List S48} {AK BK : Option Addr} {gA : Nat} {ks : List (List S48)} (h : Ik w W S A l AK BK gA ks) (hb : Below W.heap.size W W') : Ik w W' S A l AK BK gA ks :=
  ⟨h.i.below hb, Kd.C_below h.a hb, Kd.C_below h.b hb, fun h0 => ⟨(h.s h0).1, (h.s h0).2.below hb⟩⟩
theorem d36' {w W : World} {S : Nat → Prop} {A : Option Addr} {l : List S48} {AK BK : Option Addr} {gA : Nat} {ks : List (List S48)} {c s : Nat} (hK : ∀ (W : World), In1 w W A l → Calls Tryd.prog 36 #[.slice A l.length c] W fun e W' => e = .returned (.int .i64 (s : Int)) ∧ In1 w W' A l) (hc : l.length ≤ c) (hl : l.length ≤ 1000000) (hs : s = size S48.f0 l) (h : Ik w W S A l AK BK gA ks) :
    Calls Tryd.prog 36 #[.slice A l.length c] W fun e W' => e = .returned (.int .i64 (s : Int)) ∧ Ik w W' S A l AK BK gA ks ∧ Below W.heap.size W W' :=
  (Size A c l W h.i.c hc (by omega)).mono fun e W' ⟨he, hd⟩ => ⟨by rw [he, hs], h.below hd, hd⟩
theorem rd_tot (ks : List (List S48)) (j : Nat) (hj : j < ks.length) : (rd_L9 ks (j : Int)).length ≤ tot ks := by
  have h1 := flat_take ks j hj
  have h2 := flat_le ks (j + 1)
  rw [← h1, List.length_append] at h2
  omega
theorem Kw.same {w w8 W0 W : World} {S : Nat → Prop} {gA : Nat} {ks : List (List S48)} (h0 : Kw w w8 W0 S gA ks) (h : Kw w w8 W S gA ks) (hlt : gA < w8.heap.size) (j : Nat) : W.cell? ⟨gA, j, none⟩ = W0.cell? ⟨gA, j, none⟩ := by
  have e1 := h.k.2 gA hlt h.s.n
  have e2 := h0.k.2 gA hlt h0.s.n
  unfold World.cell?
  rw [e1, e2]
theorem Kw.blk {w w8 W : World} {S : Nat → Prop} {gA : Nat} {ks : List (List S48)} (h : Kw w w8 W S gA ks) {j : Nat} (hj : j < ks.length) {k : List S48} (hk : k = rd_L9 ks (j : Int)) {A : Option Addr} {c : Nat} (hx : W.cell? ⟨gA, j, none⟩ = some (.slice A k.length c)) (hp : 0 < k.length) :
    ∃ g, A = some ⟨g, 0, none⟩ ∧ S g ∧ Blk W g 48 (k.length * 3) := by
  subst hk
  obtain ⟨g, A', c', h1, _, h3⟩ := h.s.k j hj
  rw [hx] at h1
  injection h1 with h1
  injection h1 with e1 _ _
  subst e1
  obtain ⟨e, hs, hb⟩ := h3 hp
  exact ⟨g, e, hs, hb⟩
theorem gSame {W : World} {AM AG : Option Addr} {cM cG s : Nat} {l m : List S48} (hm : m = l.take s) (hs : s ≤ l.length) (h1 : Kd.C k48 W AM m.length m) (hc1 : m.length ≤ cM) (h2 : Kd.C k48 W AG l.length l) (hc2 : l.length ≤ cG) :
    Calls Tryd.prog 44 #[.slice AM m.length cM, .slice AG s cG] W fun e W' => e = .returned (.bool true) ∧ Below W.heap.size W W' := by
  have h3 := Kd.C_take h2 (m := s) hs
  have e : (l.take s).length = s := by rw [List.length_take]; omega
  rw [e] at h3
  subst hm
  have h4 := RefSame AM cM (l.take s) AG cG (l.take s) W h1 hc1 (by rw [e]; exact h3) (by rw [e]; omega)
  rw [e] at h4 ⊢
  exact h4.mono fun e W' ⟨he, hd⟩ => ⟨by rw [he, (same_iff _ _).2 rfl], hd.below⟩
theorem gSame2 {W : World} {A AG : Option Addr} {c cG : Nat} {l : List S48} (h1 : Kd.C k48 W A l.length l) (hc1 : l.length ≤ c) (h2 : Kd.C k48 W AG l.length l) (hc2 : l.length ≤ cG) :
    Calls Tryd.prog 44 #[.slice A l.length c, .slice AG l.length cG] W fun e W' => e = .returned (.bool true) ∧ Below W.heap.size W W' :=
  (RefSame A c l AG cG l W h1 hc1 h2 hc2).mono fun e W' ⟨he, hd⟩ => ⟨by rw [he, (same_iff _ _).2 rfl], hd.below⟩
theorem RowKids (A : Option Addr) (c : Nat) (l : List S48) (w : World) (hL : Laid w) (hC : Kd.C k48 w A l.length l) (hc : l.length ≤ c) :
    Calls Tryd.prog 11 #[.slice A l.length c] w fun e w' => e = .returned (.bool true) ∧ Below w.heap.size w w' := by
  have h0 : In1 w w A l := ⟨hC, hL, Below.refl _ _⟩
  clear hL hC
  by_cases hf : l.length ≤ 250
  · have c1 : decide (l.length ≤ 250) = true := decide_eq_true hf
    have HF := Aside0.mk (show l.length ≤ 1000000 by omega)
    have HF2 := Aside0.mk hf
    have HK2 := Aside0.mk (kids_two l)
    have HKT := Aside0.mk (kids_tot l)
    have HHK := Aside0.mk (head_kids l)
    have HKZ := Aside0.mk (kids_zero l)
    have HIN := Aside0.mk h0
    clear hf
    go_enter Tryd.func11, Tryd.ntmps11
    go_wp2_with fail
    refine (d35 hc h0).mono ?_; rintro e w1 ⟨rfl, h1⟩
    clear h0
    go_wp2_with fail
    refine (Kids A c l _ h1.c hc HF.out).mono ?_; rintro e w2 ⟨AK, cK, rfl, hS2, hB2⟩
    have h2 := h1.below hB2
    have HSZ := Aside0.mk (show w.heap.size ≤ w1.heap.size from h1.b.size)
    obtain ⟨ks, hks⟩ : ∃ ks, ks = kidsL l := ⟨_, rfl⟩
    have hK43 := fun W (h : Kd.C k48 W A l.length l) => RefKids A c l W h hc (by have := HF.out; omega)
    rw [← hks] at hS2 HK2 HKT HHK HKZ hK43 ⊢
    have H43 := Aside0.mk hK43
    have hga : ∃ gA, 0 < ks.length → AK = some ⟨gA, 0, none⟩ ∧ w1.heap.size ≤ gA ∧ gA < w2.heap.size ∧ Kst w2 (fun k => w1.heap.size ≤ k ∧ k < w2.heap.size ∧ k ≠ gA) gA ks := by
      by_cases hp : 0 < ks.length
      · obtain ⟨gA, q⟩ := Kst.of_S hS2 hp
        exact ⟨gA, fun _ => q⟩
      · exact ⟨0, fun h => absurd h hp⟩
    obtain ⟨gA, hgA⟩ := hga
    obtain ⟨S, hS⟩ : ∃ S, S = fun k => w1.heap.size ≤ k ∧ k < w2.heap.size ∧ k ≠ gA := ⟨_, rfl⟩
    rw [← hS] at hgA
    have HSW := Aside0.mk (show (∀ k, S k → w.heap.size ≤ k ∧ k < w2.heap.size) ∧ ¬ S gA from ⟨fun k hk => by rw [hS] at hk; exact ⟨Nat.le_trans HSZ.out hk.1, hk.2.1⟩, fun hk => by rw [hS] at hk; exact hk.2.2 rfl⟩)
    have HKA := Aside0.mk (Kd.S_reads' hS2).2.2
    have HKC := Aside0.mk (Kd.S_reads' hS2).2.1
    have HGA := Aside0.mk hgA
    have HB2' := Aside0.mk hB2
    clear hS2 hgA hB2 hks hK43 hS h1
    go_wp2_with fail
    refine (H43.out _ h2.c).mono ?_; rintro e w3 ⟨BK, cB, rfl, hcB, hCB, hB3⟩
    have HI3 := Aside0.mk (show Ik w w3 S A l AK BK gA ks from ⟨h2.below hB3, Kd.C_below HKA.out hB3, hCB, fun hp => ⟨(HGA.out hp).1, (HGA.out hp).2.2.2.below hB3⟩⟩)
    have HW23 := Aside0.mk hB3.size
    clear h2 hCB hB3 HKA H43
    go_wp2_with fail
    go_loopg [5, 26, 28, 29, 30, 31, 32, 33, 34, 35, 36, 37, 38] (ks.length + 1) (fun kq v5 v26 v28 v29 v30 v31 v32 v33 v34 v35 v36 v37 v38 W => ∃ (j : Nat), v26 = .int .i64 (j : Int) ∧ Aside0 (kq + j = ks.length + 1 ∧ j ≤ ks.length) ∧ Aside0 (Ik w W S A l AK BK gA ks ∧ w3.heap.size ≤ W.heap.size))
    case atStart => exact ⟨0, rfl, ⟨by omega, by omega⟩, ⟨HI3.out, Nat.le_refl _⟩⟩
    case round =>
      clear HI3
      obtain ⟨j, rfl, HJ, HI⟩ := hrel
      cases gk with
      | zero => exact absurd HJ.out (by omega)
      | succ k1 =>
        by_cases hj : j < ks.length
        · have c14 : decide ((j : Int) < (ks.length : Int)) = true := decide_eq_true (by omega)
          have c14' : decide (j < ks.length) = true := decide_eq_true hj
          have p0 : (0 : Int) ≤ (j : Int) := by omega
          have q0 : (j : Int) < (ks.length : Int) := by omega
          obtain ⟨ad, A1, c1', e7, x0, hl1, hi1⟩ := at_L9 HI.out.1.a (j : Int) p0 q0
          obtain ⟨bd, B1, b1', e8, y0, hm1, hj1⟩ := at_L9 HI.out.1.b (j : Int) p0 q0
          obtain ⟨k, hk⟩ : ∃ k, k = rd_L9 ks (j : Int) := ⟨_, rfl⟩
          rw [← hk] at x0 hl1 hi1 y0 hm1 hj1
          simp only [Int.toNat_natCast] at x0 y0
          have EJ := Aside0.mk (wsucc j ks.length hj (by have := HK2.out; omega))
          have HAD := Aside0.mk (show (some ad = some ⟨gA, 0, none⟩) from by rw [← e7]; exact (HI.out.1.s (by omega)).1)
          subst e7
          subst e8
          have HC1 := Aside0.mk (And.intro hl1 hi1)
          have HD1 := Aside0.mk (And.intro hm1 hj1)
          have HJ2 := Aside0.mk hj
          clear hk hl1 hi1 hm1 hj1 hj HGA
          go_upto_region 9 with fail
          go_region_held3 (fun W => Below wr.heap.size wr W ∧ W.cell? (ad.add j) = some (.slice A1 k.length c1') ∧ W.cell? (bd.add j) = some (.slice B1 k.length b1')) (first | assumption | exact ⟨Below.refl _ _, x0, y0⟩ | exact ⟨(Below.refl _ _).drew, x0, y0⟩)
            (first | (go_simp; go_at_call 44; have hS_ := ‹Below wr.heap.size wr _ ∧ _›; refine (RefSame A1 c1' k B1 b1' k _ (Kd.C_below HC1.out.2 hS_.1) HC1.out.1 (Kd.C_below HD1.out.2 hS_.1) HD1.out.1).mono ?_; rintro e w' ⟨rfl, hd⟩; have hS2_ := And.intro (Aid_bthen hS_.1 hd.below) (And.intro (pw_cell_below hd.below hS_.2.1) (pw_cell_below hd.below hS_.2.2)); have hsm := (same_iff k k).2 rfl))
          all_goals
            have hS_ := ‹Below wr.heap.size wr _ ∧ _›
            have HI' := Aside0.mk (And.intro (HI.out.1.below hS_.1) (Nat.le_trans HI.out.2 hS_.1.size))
            clear hS_ HI x0 y0
            go_wp2_with fail
            go_roundg k1
            case measure => omega
            case rel => exact ⟨j + 1, by rw [EJ.out], ⟨by have := HJ.out; omega, by have := HJ2.out; omega⟩, HI'⟩
        · have c14 : decide ((j : Int) < (ks.length : Int)) = false := decide_eq_false (by omega)
          have c14' : decide (j < ks.length) = false := decide_eq_false hj
          obtain ⟨s, hs⟩ : ∃ s, s = size S48.f0 l := ⟨_, rfl⟩
          have K36 := fun W (h : In1 w W A l) => d36 hc h HF.out
          rw [← hs] at K36 HHK HKZ
          have K := Aside0.mk K36
          have hsl := size_le S48.f0 l
          rw [← hs] at hsl
          have HSL := Aside0.mk hsl
          have HSS := Aside0.mk hs
          clear hj K36 hs hsl
          by_cases hz : s = 0
          · have c2 : (((s : Nat) : Int) == 0) = true := by rw [hz]; rfl
            have c3 : ((ks.length : Int) == 0) = true := by rw [HKZ.out hz]; rfl
            clear hz
            go_wp2_with fail
            refine (K.out _ HI.out.1.i).mono ?_; rintro e w6 ⟨rfl, h6⟩
            clear HI
            go_wp2_with fail
            refine (d30 h6).mono ?_; rintro e w7 ⟨rfl, h7⟩
            clear h6
            go_wp2_with fail
            go_ret
            exact ⟨rfl, h7.b⟩
          · have c2 : (((s : Nat) : Int) == 0) = false := beq_eq_false_iff_ne.2 (by omega)
            have HHK2 := Aside0.mk (HHK.out hz)
            clear hz HHK HKZ
            go_wp2_with fail
            refine (d36' K.out hc HF.out HSS.out HI.out.1).mono ?_; rintro e w6 ⟨rfl, h6, hB6⟩
            have HW6 := Aside0.mk (show w3.heap.size ≤ w6.heap.size from Nat.le_trans HI.out.2 hB6.size)
            clear HI hB6 K
            have HLB := Aside0.mk (show (([] : List S48).length + l.length) * 32 ≤ 140737488355328 by have := HF2.out; simp; omega)
            go_upto_region 16 with (first | ((with_reducible refine gate_dst (N := 50) rfl ?_); refine Kd.R_lit k48 (w0 := w6) w6.heap.size 48 ?hg (N := 50) ?hd (xs := ([] : List S48)) (inner := []) (ok := fun k => w6.heap.size ≤ k) (okp := fun _ => False) ?hr ?hp (fun _ hk => hk.elim) (Nat.le_refl _) (Below.refl _ _) (Nat.le_refl _) (by simp) ?_; (case hd => rfl); (case hg => rfl); (case hr => first | (go_simp; done) | (go_simp; rfl)); (case hp => exact (Reps.none _ _)); intro v5 w7 ho9 hb hg_ hnew_; have HB7 := Aside0.mk hb; have HO7 := Aside0.mk ho9; clear hb ho9 hg_ hnew_) | ((with_reducible refine gate_builtin (b := .append) (xs := #[.tmp 50, .tmp 51]) rfl ?_); at_builtin; refine Kd.R_append_rows k48 (w0 := w6) w6.heap.size rfl (.tmp 50) (.tmp 51) 51 48 (.agg #[.int .i64 0, .string ⟨#[]⟩, .int .i64 0]) 32 rfl Tryd.underlying51 info48 rfl (by decide) (by omega) v5 ([] : List S48) l _ _ _ (fun k => w6.heap.size ≤ k) (fun _ => False) rfl rfl ?aO ?aR (fun _ _ h => h) (fun _ h => h.elim) ?aF ?aB ?aS ?aL ?_; (case aR => exact (Kd.C_below h6.i.c HB7.out)); (case aB => exact HB7.out); (case aF => exact (fun k hk => Nat.le_trans HB7.out.size hk)); (case aO => exact HO7.out); (case aS => exact HB7.out.size); (case aL => exact HLB.out); intro v7 w8 ho hb hg hat; rw [List.nil_append] at ho; have HB8 := Aside0.mk hb; have HO8 := Aside0.mk ho; clear ho hb hg hat))
            have HI8 := Aside0.mk (h6.below HB8.out)
            obtain ⟨AG, cG, eG⟩ := Kd.R_slice HO8.out
            subst eG
            have HG8 := Aside0.mk (And.intro (Kd.R_reads' HO8.out).2.1 (Kd.R_reads' HO8.out).2.2)
            have HGB := Aside0.mk (show ∀ ad, AG = some ad → w6.heap.size ≤ ad.block from fun ad e => Kd.R_base HO8.out _ (by rw [e]; rfl))
            have HW68 := Aside0.mk HB8.out.size
            clear HO8 HO7 HB7 HB8 h6
            obtain ⟨ad0, e0, x0, x1, x2⟩ := at_T48 HI8.out.i.c 0 (by decide) (by have := HHK2.out.2; omega)
            subst e0
            have ez : ad0.add (Int.toNat 0 * 3) = ad0 := Addr.add_zero' ad0
            rw [ez] at x0 x1 x2
            clear ez
            obtain ⟨n0, hn0⟩ : ∃ n, n = rd_T48 l 0 := ⟨_, rfl⟩
            rw [← hn0] at x0 x1 x2 HHK2
            clear hn0
            have e00 : (0 : Int) < (l.length : Int) := by have := HHK2.out.2; omega
            have e01 : 0 < l.length := HHK2.out.2
            go_wp2_with fail
            refine (Make n0 AK cK ks _ HI8.out.a HKC.out (by have := HKT.out; have := HF.out; omega)).mono ?_; rintro e w9 ⟨v9, rfl, hR9, hB9⟩
            obtain ⟨AM, cM, eM⟩ := Kd.R_slice hR9
            subst eM
            obtain ⟨m, hm⟩ : ∃ m, m = n0 :: ks.flatten := ⟨_, rfl⟩
            have HM := Aside0.mk (show m = l.take s by rw [hm]; exact HHK2.out.1)
            rw [← hm] at hR9 ⊢
            have HM9 := Aside0.mk (And.intro (Kd.R_reads' hR9).2.1 (Kd.R_reads' hR9).2.2)
            have HMB := Aside0.mk (show ∀ ad, AM = some ad → w8.heap.size ≤ ad.block from fun ad e => Kd.R_base hR9 _ (by rw [e]; rfl))
            have HI9 := Aside0.mk (HI8.out.below hB9)
            have HG9 := Aside0.mk (And.intro HG8.out.1 (Kd.C_below HG8.out.2 hB9))
            have HKW := Aside0.mk (show Kw w w9 w9 S gA ks from ⟨⟨fun j hj => (HI9.out.s (by omega)).2.k j hj, HSW.out.2⟩, Kept.refl _ _, HI9.out.i.b⟩)
            have HGLT := Aside0.mk (show 0 < ks.length → gA < w9.heap.size from fun h => by have a1 := (HGA.out h).2.2.1; have a2 := HW23.out; have a3 := HW6.out; have a4 := HW68.out; have a5 := hB9.size; omega)
            have HSB := Aside0.mk (show ∀ k, S k → k < w6.heap.size ∧ k < w8.heap.size from fun k hk => by have a1 := (HSW.out.1 k hk).2; have a2 := HW23.out; have a3 := HW6.out; have a4 := HW68.out; omega)
            have HAK := Aside0.mk (show 0 < ks.length → AK = some ⟨gA, 0, none⟩ from fun h => (HI9.out.s h).1)
            have HCL := Aside0.mk HI9.out.i.c
            have HLA := Aside0.mk HI9.out.i.l
            clear hR9 hB9 hm HI8 HG8 HI9 x0 x1 x2 HHK2 e00 e01
            go_wp2_with fail
            go_loopg [9, 10, 60, 62, 63, 64, 65, 66, 67, 68, 69, 70, 71, 72, 73, 74, 75, 76, 77, 78, 79] (ks.length + 1) (fun kq v9 v10 v60 v62 v63 v64 v65 v66 v67 v68 v69 v70 v71 v72 v73 v74 v75 v76 v77 v78 v79 W => ∃ (j : Nat), v60 = .int .i64 (j : Int) ∧ Aside0 (kq + j = ks.length + 1 ∧ j ≤ ks.length) ∧ Aside0 (Kw w w9 W S gA ks))
            case atStart => exact ⟨0, rfl, ⟨by omega, by omega⟩, HKW⟩
            case round =>
              clear HKW
              obtain ⟨j2, rfl, HJ2, HW⟩ := hrel
              cases gk with
              | zero => exact absurd HJ2.out (by omega)
              | succ k2 =>
                by_cases hj2 : j2 < ks.length
                · have d14 : decide ((j2 : Int) < (ks.length : Int)) = true := decide_eq_true (by omega)
                  have d14' : decide (j2 < ks.length) = true := decide_eq_true hj2
                  have p0 : (0 : Int) ≤ (j2 : Int) := by omega
                  have q0 : (j2 : Int) < (ks.length : Int) := by omega
                  have hak := HAK.out (by omega)
                  subst hak
                  obtain ⟨gk2, A2, c2', x0, hl2, hg2⟩ := HW.out.s.k j2 hj2
                  obtain ⟨k, hk⟩ : ∃ k, k = rd_L9 ks (j2 : Int) := ⟨_, rfl⟩
                  rw [← hk] at x0 hl2 hg2
                  have EJ2 := Aside0.mk (wsucc j2 ks.length hj2 (by have := HK2.out; omega))
                  have HJJ := Aside0.mk hj2
                  have HHK := Aside0.mk hk
                  have HHL := Aside0.mk hl2
                  have HHG := Aside0.mk hg2
                  clear hj2 hk hl2 hg2
                  go_wp2_with fail
                  have HA2 := Aside0.mk (show ∀ (W : World), Kw w w9 W S gA ks → W.cell? ⟨gA, j2, none⟩ = some (.slice A2 k.length c2') from fun W h => (HW.out.same h (HGLT.out (by have := HJJ.out; omega)) j2).trans x0)
                  obtain ⟨wo, hwo⟩ : ∃ wo, wo = wr := ⟨_, rfl⟩
                  rw [← hwo] at HW x0 ⊢
                  clear hwo x0 HHG
                  go_loopg [10, 68, 69, 70, 71, 72, 73, 74, 75, 76, 77, 78] (k.length + 1) (fun kq v10 v68 v69 v70 v71 v72 v73 v74 v75 v76 v77 v78 W => ∃ (i : Nat), v68 = .int .i64 (i : Int) ∧ Aside0 (kq + i = k.length + 1 ∧ i ≤ k.length) ∧ Aside0 (Kw w w9 W S gA ks))
                  case atStart => exact ⟨0, rfl, ⟨by omega, by omega⟩, HW⟩
                  case round =>
                    clear HW
                    obtain ⟨i, rfl, HI2, HW⟩ := hrel
                    cases gk with
                    | zero => exact absurd HI2.out (by omega)
                    | succ k3 =>
                      by_cases hi : i < k.length
                      · have g14 : decide ((i : Int) < (k.length : Int)) = true := decide_eq_true (by omega)
                        have g14' : decide (i < k.length) = true := decide_eq_true hi
                        have p1 : (0 : Int) ≤ (i : Int) := by omega
                        have q1 : (i : Int) < (k.length : Int) := by omega
                        have x0 := HA2.out _ HW.out
                        obtain ⟨g, eA2, hSg, hBk⟩ := HW.out.blk HJJ.out HHK.out x0 (by omega)
                        subst eA2
                        obtain ⟨⟨b0, y0⟩, f0⟩ := hBk.cell (i * 3) (by omega)
                        obtain ⟨⟨b1, y1⟩, f1⟩ := hBk.cell (i * 3 + 1) (by omega)
                        obtain ⟨⟨b2, y2⟩, f2⟩ := hBk.cell (i * 3 + 2) (by omega)
                        have HSG := Aside0.mk hSg
                        have HIi := Aside0.mk hi
                        have EI := Aside0.mk (wsucc i k.length hi (by have h1 := HHL.out; have h2 : k.length ≤ tot ks := (by rw [HHK.out]; exact rd_tot ks j2 HJJ.out); have h3 := HKT.out; have h4 := HF2.out; omega))
                        clear hSg hBk hi
                        go_wp2_with fail
                        go_roundg k3
                        case measure => omega
                        case rel => exact ⟨i + 1, by rw [EI.out], ⟨by have := HI2.out; omega, by have := HIi.out; omega⟩, ⟨((HW.out.set g (i * 3) _ HSG.out (fun k hk => (HSW.out.1 k hk).1)).set g (i * 3 + 1) _ HSG.out (fun k hk => (HSW.out.1 k hk).1)).set g (i * 3 + 2) _ HSG.out (fun k hk => (HSW.out.1 k hk).1)⟩⟩
                      · have g14 : decide ((i : Int) < (k.length : Int)) = false := decide_eq_false (by omega)
                        have g14' : decide (i < k.length) = false := decide_eq_false hi
                        clear hi
                        go_wp2_with fail
                        go_roundg k2
                        case measure => omega
                        case rel => exact ⟨j2 + 1, by rw [EJ2.out], ⟨by have := HJ2.out; omega, by have := HJJ.out; omega⟩, HW⟩
                · have d14 : decide ((j2 : Int) < (ks.length : Int)) = false := decide_eq_false (by omega)
                  have d14' : decide (j2 < ks.length) = false := decide_eq_false hj2
                  have hi0 : In1 w wr (some ad0) l := ⟨Kd.C_below HIN.out.c HW.out.b, HIN.out.l.below HW.out.b, HW.out.b⟩
                  have hm1 := C48_kept HM9.out.2 HW.out.k (fun ad e hS => by have a1 := HMB.out ad e; have a2 := (HSB.out _ hS).2; omega)
                  have hg1 := C48_kept HG9.out.2 HW.out.k (fun ad e hS => by have a1 := HGB.out ad e; have a2 := (HSB.out _ hS).1; omega)
                  have HX := Aside0.mk (show In1 w wr (some ad0) l ∧ Kd.C k48 wr AM m.length m ∧ Kd.C k48 wr AG l.length l from ⟨hi0, hm1, hg1⟩)
                  have s14 : decide ((s : Int) ≤ (l.length : Int)) = true := decide_eq_true (by have := HSL.out; omega)
                  have s14' : decide (s ≤ l.length) = true := decide_eq_true HSL.out
                  have hcut := cut_to (P := Tryd.prog) 51 48 .i64 Tryd.underlying51 (i := _) rfl AG l.length cG (s : Int) (by omega) (by have := HSL.out; omega) (by have := HG9.out.1; omega)
                  clear hj2 hi0 hm1 hg1 HW
                  go_wp2_with fail
                  refine (Alive _ HX.out.1.l).mono ?_; rintro e wa ⟨rfl, hBa⟩
                  have HX2 := Aside0.mk (show In1 w wa (some ad0) l ∧ Kd.C k48 wa AM m.length m ∧ Kd.C k48 wa AG l.length l from ⟨HX.out.1.below hBa, Kd.C_below HX.out.2.1 hBa, Kd.C_below HX.out.2.2 hBa⟩)
                  clear HX hBa
                  go_wp2_with fail
                  refine (gSame HM.out HSL.out HX2.out.2.1 HM9.out.1 HX2.out.2.2 HG9.out.1).mono ?_; rintro e wb ⟨rfl, hBb⟩
                  have HX3 := Aside0.mk (show In1 w wb (some ad0) l ∧ Kd.C k48 wb AG l.length l from ⟨HX2.out.1.below hBb, Kd.C_below HX2.out.2.2 hBb⟩)
                  clear HX2 hBb
                  go_wp2_with fail
                  refine (gSame2 HX3.out.1.c hc HX3.out.2 HG9.out.1).mono ?_; rintro e wc ⟨rfl, hBc⟩
                  have HF9 := Aside0.mk (HX3.out.1.below hBc)
                  clear HX3 hBc
                  go_wp2_with fail
                  go_ret
                  exact ⟨rfl, HF9.out.b⟩
  · have c1 : decide (l.length ≤ 250) = false := decide_eq_false hf
    clear hf
    go_enter Tryd.func11, Tryd.ntmps11
    go_wp2_with fail
    refine (d35 hc h0).mono ?_; rintro e w1 ⟨rfl, h1⟩
    clear h0
    go_wp2_with fail
    refine (d30 h1).mono ?_; rintro e w2 ⟨rfl, h2⟩
    clear h1
    go_wp2_with fail
    go_ret
    exact ⟨rfl, h2.b⟩
end Go.Proofs.YtefiadocljnpjaaDoor.Row
