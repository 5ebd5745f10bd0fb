/- RowDeep: the law, walked by hand. -/
import Derived.Test.YtefiadocljnpjaaDoorMV
namespace Go.Proofs.YtefiadocljnpjaaDoor.Row
open Go.Proofs.Tree Go.RowKit Go.Proofs.YtefiadocljnpjaaDoorW.PrintWords Go.Proofs.YtefiadocljnpjaaDoorW.PrintLast Go.Proofs.YtefiadocljnpjaaDoorW.PrintMore Go.Proofs.YtefiadocljnpjaaDoor.PK
attribute [local go_sem] max2_int min2_int max_two min_two max_three min_three max_four min_four
set_option linter.unusedVariables false
set_option linter.unusedSimpArgs false
set_option maxHeartbeats 4000000
set_option maxRecDepth 100000
def deepK (ks : List (List S48)) : Nat := ks.foldl (fun a k => max a (depth S48.f0 k)) 0
def manyK (ks : List (List S48)) : Nat := ks.foldl (fun a k => a + size S48.f0 k) 0
theorem rd9 (ks : List (List S48)) (j : Nat) (h : j < ks.length) : ks.take (j + 1) = ks.take j ++ [rd_L9 ks (j : Int)] := by
  rw [List.take_succ_eq_append_getElem h]; unfold rd_L9; simp [List.getD_eq_getElem?_getD, List.getElem?_eq_getElem h]
theorem deepK_snoc (ks : List (List S48)) (k : List S48) : deepK (ks ++ [k]) = max (deepK ks) (depth S48.f0 k) := by unfold deepK; rw [List.foldl_append]; rfl
theorem manyK_snoc (ks : List (List S48)) (k : List S48) : manyK (ks ++ [k]) = manyK ks + size S48.f0 k := by unfold manyK; rw [List.foldl_append]; rfl
theorem sd_flat (t : Tr S48) (h : t.ok S48.f0) : size S48.f0 t.flat = t.len ∧ depth S48.f0 t.flat = t.dep := by
  have := tree_of' S48.f0 t h
  unfold size depth; rw [this]; exact ⟨rfl, rfl⟩
theorem deep_all (l : List S48) (h : size S48.f0 l ≠ 0) : depth S48.f0 l = deepK (kidsL l) + 1 ∧ size S48.f0 l = manyK (kidsL l) + 1 := by
  unfold size depth kidsL at *
  cases e : tree S48.f0 l with
  | none => rw [e] at h; exact absurd rfl h
  | some p =>
    obtain ⟨t, r⟩ := p
    obtain ⟨hok, _⟩ := tree_some _ e
    cases t with
    | n0 x => exact ⟨rfl, rfl⟩
    | n1 x a =>
      obtain ⟨h1, h2⟩ := sd_flat a hok.2
      show (a.dep + 1 = max 0 (depth S48.f0 a.flat) + 1) ∧ (_ = 0 + size S48.f0 a.flat + 1)
      rw [h1, h2]
      exact ⟨by omega, by simp [Tr.len, Tr.flat]⟩
    | n2 x a b =>
      obtain ⟨h1, h2⟩ := sd_flat a hok.2.1
      obtain ⟨h3, h4⟩ := sd_flat b hok.2.2
      show (max a.dep b.dep + 1 = max (max 0 (depth S48.f0 a.flat)) (depth S48.f0 b.flat) + 1) ∧ (_ = 0 + size S48.f0 a.flat + size S48.f0 b.flat + 1)
      rw [h1, h2, h3, h4]
      exact ⟨by omega, by simp [Tr.len, Tr.flat]⟩
theorem kids_le (l : List S48) : ∀ k ∈ kidsL l, k.length ≤ l.length := by
  intro k hk
  unfold kidsL at hk
  cases e : tree S48.f0 l with
  | none => rw [e] at hk; cases hk
  | some p =>
    obtain ⟨t, r⟩ := p
    rw [e] at hk
    obtain ⟨hok, h2⟩ := tree_some _ e
    subst h2
    cases t with
    | n0 x => cases hk
    | n1 x a =>
      have : k = a.flat := by simpa [Tr.kids] using hk
      subst this; simp [Tr.flat]; omega
    | n2 x a b =>
      have : k = a.flat ∨ k = b.flat := by simpa [Tr.kids] using hk
      rcases this with rfl | rfl <;> simp [Tr.flat] <;> omega
theorem kids_two (l : List S48) : (kidsL l).length ≤ 2 := by
  unfold kidsL
  cases e : tree S48.f0 l with
  | none => simp
  | some p => obtain ⟨t, r⟩ := p; cases t <;> simp [Tr.kids]
/-- The kids besides. -/
structure In2 (w W : World) (A : Option Addr) (l : List S48) (AK : Option Addr) : Prop where
  i : In1 w W A l
  k : Kd.C (Kd.slice 48 k48) W AK (kidsL l).length (kidsL l)
theorem In2.below {w W W' : World} {A AK : Option Addr} {l : List S48} (h : In2 w W A l AK) (hb : Below W.heap.size W W') : In2 w W' A l AK := ⟨h.i.below hb, Kd.C_below h.k hb⟩
theorem RowDeep (A : Option Addr) (c : Nat) (l : List S48) (w : World) (hL : Laid w) (hC : Kd.C k48 w A l.length l) (hc : l.length ≤ c) :
    Calls Tryd.prog 14 #[.slice A l.length c] w fun e w' => e = .returned (.bool true) ∧ Below w.heap.size w w' := by
  have h0 : In1 w w A l := ⟨hC, hL, Below.refl _ _⟩
  clear hL hC
  by_cases hf : l.length ≤ 250
  · have c1 : decide (l.length ≤ 250) = true := decide_eq_true hf
    have HF := Aside0.mk (show l.length ≤ 1000000 by omega)
    have HF2 := Aside0.mk hf
    clear hf
    obtain ⟨s, hs⟩ : ∃ s, s = size S48.f0 l := ⟨_, rfl⟩
    by_cases hz : s = 0
    · have c2 : (((s : Nat) : Int) == 0) = true := by rw [hz]; rfl
      have K36 := fun W (h : In1 w W A l) => d36 hc h HF.out
      rw [← hs] at K36
      have K := Aside0.mk K36
      clear hz K36 hs
      go_enter Tryd.func14, Tryd.ntmps14
      go_wp2_with fail
      refine (d35 hc h0).mono ?_; rintro e w1 ⟨rfl, h1⟩
      clear h0
      go_wp2_with fail
      refine (K.out _ h1).mono ?_; rintro e w2 ⟨rfl, h2⟩
      clear h1
      go_wp2_with fail
      refine (d30 h2).mono ?_; rintro e w3 ⟨rfl, h3⟩
      clear h2
      go_wp2_with fail
      go_ret
      exact ⟨rfl, h3.b⟩
    · have c2 : (((s : Nat) : Int) == 0) = false := beq_eq_false_iff_ne.2 (by omega)
      have HD := Aside0.mk (deep_all l (by rw [← hs]; exact hz))
      have HS := Aside0.mk hs
      have K36 := fun W (h : In1 w W A l) => d36 hc h HF.out
      rw [← hs] at K36
      have K := Aside0.mk K36
      clear hz K36 hs
      have HK2 := Aside0.mk (kids_two l)
      have HKL := Aside0.mk (kids_le l)
      go_enter Tryd.func14, Tryd.ntmps14
      go_wp2_with fail
      refine (d35 hc h0).mono ?_; rintro e w1 ⟨rfl, h1⟩
      clear h0
      go_wp2_with fail
      refine (K.out _ h1).mono ?_; rintro e w2 ⟨rfl, h2⟩
      clear h1
      go_wp2_with fail
      refine (Kids A c l _ h2.c hc HF.out).mono ?_; rintro e w3 ⟨AK, cK, rfl, hS3, hB3⟩
      have h3 : In2 w w3 A l AK := ⟨h2.below hB3, (Kd.S_reads' hS3).2.2⟩
      clear h2 hS3 hB3
      obtain ⟨ks, hks⟩ : ∃ ks, ks = kidsL l := ⟨_, rfl⟩
      have HKS := Aside0.mk hks
      have h3' : In1 w w3 A l ∧ Kd.C (Kd.slice 48 k48) w3 AK ks.length ks := by rw [hks]; exact ⟨h3.i, h3.k⟩
      rw [← hks] at HK2 HKL HD ⊢
      clear hks h3
      have H3 := Aside0.mk h3'
      clear h3'
      go_wp2_with fail
      go_loopg [3, 4, 6, 19] (ks.length + 1) (fun kq v3 v4 v6 v19 W => ∃ (j d m : Nat), v3 = .int .i64 (d : Int) ∧ v4 = .int .i64 (m : Int) ∧ v19 = .int .i64 (j : Int) ∧ Aside0 (kq + j = ks.length + 1 ∧ j ≤ ks.length) ∧ Aside0 (d = deepK (ks.take j) ∧ m = manyK (ks.take j) ∧ d ≤ 1000000 ∧ m ≤ 1000000 * j) ∧ Aside0 (In1 w W A l ∧ Kd.C (Kd.slice 48 k48) W AK ks.length ks))
      case atStart => exact ⟨0, 0, 0, rfl, rfl, rfl, ⟨by omega, by omega⟩, ⟨rfl, rfl, by omega, by omega⟩, H3⟩
      case round =>
        clear H3
        obtain ⟨j, d, m, rfl, rfl, rfl, HJ, HV, HI⟩ := hrel
        cases gk with
        | zero => exact absurd HJ.out (by omega)
        | succ k1 =>
          by_cases hj : j < ks.length
          · have c14 : decide ((j : Int) < (ks.length : Int)) = true := decide_eq_true (by omega)
            have c14' : decide (j < ks.length) = true := decide_eq_true hj
            have p0 : (0 : Int) ≤ (j : Int) := by omega
            have q0 : (j : Int) < (ks.length : Int) := by omega
            obtain ⟨ad, A1, c1', e7, x0, hl1, hi1⟩ := at_L9 HI.out.2 (j : Int) p0 q0
            subst e7
            have ht := rd9 ks j hj
            obtain ⟨k, hk⟩ : ∃ k, k = rd_L9 ks (j : Int) := ⟨_, rfl⟩
            have hkl : k.length ≤ 250 := by
              have hm : k ∈ ks := by rw [hk]; unfold rd_L9; rw [Int.toNat_natCast, List.getD_eq_getElem?_getD, List.getElem?_eq_getElem hj]; exact List.getElem_mem hj
              have := HKL.out k hm; have := HF2.out; omega
            rw [← hk] at x0 hl1 hi1 ht
            simp only [Int.toNat_natCast] at x0
            have hd1 := deepK_snoc (ks.take j) k
            have hm1 := manyK_snoc (ks.take j) k
            rw [← ht] at hd1 hm1
            have hdl := depth_le S48.f0 k
            have hsl := size_le S48.f0 k
            have HKL1 := Aside0.mk hl1
            have HKI := Aside0.mk (show In1 w wr A l ∧ Kd.C (Kd.slice 48 k48) wr (some ad) ks.length ks ∧ Kd.C k48 wr A1 k.length k from ⟨HI.out.1, HI.out.2, hi1⟩)
            have HK250 := Aside0.mk (show k.length ≤ 1000000 by omega)
            obtain ⟨dk, hdk⟩ : ∃ dk, dk = depth S48.f0 k := ⟨_, rfl⟩
            obtain ⟨sk, hsk⟩ : ∃ sk, sk = size S48.f0 k := ⟨_, rfl⟩
            have KD := Aside0.mk (fun W (h : Kd.C k48 W A1 k.length k) => Depth A1 c1' k W h HKL1.out HK250.out)
            have KSz := Aside0.mk (fun W (h : Kd.C k48 W A1 k.length k) => Size A1 c1' k W h HKL1.out (by have := HK250.out; omega))
            rw [← hdk] at KD hd1 hdl
            rw [← hsk] at KSz hm1 hsl hdl
            have HNEW := Aside0.mk (show deepK (ks.take (j + 1)) = max d dk ∧ manyK (ks.take (j + 1)) = m + sk ∧ max d dk ≤ 1000000 ∧ m + sk ≤ 1000000 * (j + 1) by
              obtain ⟨a1, a2, a3, a4⟩ := HV.out
              exact ⟨by rw [hd1, a1], by rw [hm1, a2], by omega, by omega⟩)
            have HM := Aside0.mk (show (m : Int) + (sk : Int) ≤ 10000000 by have := HV.out.2.2.2; have := HK2.out; omega)
            have EJ := Aside0.mk (wsucc j ks.length hj (by have := HK2.out; omega))
            clear hk ht hkl hd1 hm1 hdl hsl hl1 hi1 HI hdk hsk hj
            go_wp2_with fail
            refine (KD.out _ HKI.out.2.2).mono ?_; rintro e w4 ⟨rfl, hB4⟩
            have HKI4 := Aside0.mk (show In1 w w4 A l ∧ Kd.C (Kd.slice 48 k48) w4 (some ad) ks.length ks ∧ Kd.C k48 w4 A1 k.length k from ⟨HKI.out.1.below hB4, Kd.C_below HKI.out.2.1 hB4, Kd.C_below HKI.out.2.2 hB4⟩)
            clear HKI hB4 x0
            go_wp2_with fail
            all_goals
              refine (KSz.out _ HKI4.out.2.2).mono ?_; rintro e w5 ⟨rfl, hB5⟩
              have HKI5 := Aside0.mk (show In1 w w5 A l ∧ Kd.C (Kd.slice 48 k48) w5 (some ad) ks.length ks from ⟨HKI4.out.1.below hB5, Kd.C_below HKI4.out.2.1 hB5⟩)
              clear HKI4 hB5
              have hbd : (m : Int) + (sk : Int) ≤ 10000000 := HM.out
              go_wp2_with fail
              go_roundg k1
              case measure => omega
              case rel => exact ⟨j + 1, max d dk, m + sk, by first | rfl | (rw [show max d dk = dk by omega]) | (rw [show max d dk = d by omega]), by first | rfl | (congr 1; omega), by rw [EJ.out], ⟨by have := HJ.out; omega, by omega⟩, ⟨HNEW.out.1.symm, HNEW.out.2.1.symm, HNEW.out.2.2.1, HNEW.out.2.2.2⟩, HKI5⟩
          · have c14 : decide ((j : Int) < (ks.length : Int)) = false := decide_eq_false (by omega)
            have c14' : decide (j < ks.length) = false := decide_eq_false hj
            have HEND := Aside0.mk (show depth S48.f0 l = d + 1 ∧ s = m + 1 by
              obtain ⟨a1, a2, _, _⟩ := HV.out
              have e : ks.take j = ks := List.take_of_length_le (by omega)
              rw [e] at a1 a2
              exact ⟨by rw [HD.out.1, a1], by rw [HS.out, HD.out.2, a2]⟩)
            have hdb : (d : Int) ≤ 1000000 := by have := HV.out.2.2.1; omega
            have hmb : (m : Int) ≤ 10000000 := by have := HV.out.2.2.2; have := HK2.out; have := HJ.out.2; omega
            clear hj HV HD
            go_wp2_with fail
            refine (d30 HI.out.1).mono ?_; rintro e w6 ⟨rfl, h6⟩
            clear HI
            go_wp2_with fail
            refine (d38 hc h6 HF.out).mono ?_; rintro e w7 ⟨rfl, h7⟩
            clear h6
            have hx := HEND.out.1
            rw [hx]
            clear hx
            go_wp2_with fail
            refine (K.out _ h7).mono ?_; rintro e w8 ⟨rfl, h8⟩
            clear h7
            have hx := HEND.out.2
            subst hx
            go_wp2_with fail
            go_ret
            exact ⟨by simp, h8.b⟩
  · have c1 : decide (l.length ≤ 250) = false := decide_eq_false hf
    clear hf
    go_enter Tryd.func14, Tryd.ntmps14
    go_wp2_with fail
    refine (d35 hc h0).mono ?_; rintro e w1 ⟨rfl, h1⟩
    clear h0
    go_wp2_with fail
    refine (d30 h1).mono ?_; rintro e w2 ⟨rfl, h2⟩
    clear h1
    go_wp2_with fail
    go_ret
    exact ⟨rfl, h2.b⟩
end Go.Proofs.YtefiadocljnpjaaDoor.Row
