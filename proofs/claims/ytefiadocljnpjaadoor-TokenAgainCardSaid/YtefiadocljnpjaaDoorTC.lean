/- The program's Lex. -/
import Derived.Test.YtefiadocljnpjaaDoorTD
namespace Go.Proofs.YtefiadocljnpjaaDoor.Row
open Go.Proofs.Tree Go.RowKit Go.Proofs.YtefiadocljnpjaaDoorW.PrintWords Go.Proofs.YtefiadocljnpjaaDoorW.PrintLast Go.Proofs.YtefiadocljnpjaaDoorW.PrintMore Go.Proofs.YtefiadocljnpjaaDoor.PK
set_option linter.unusedVariables false
set_option linter.unusedSimpArgs false
set_option maxHeartbeats 400000
set_option maxRecDepth 100000
theorem info37 : (Tryd.prog.info? 37).map (fun i => (i.zero, i.size, i.bytes)) = some (some (.agg #[(.int .i64 0), (.int .i64 0), (.string ⟨#[]⟩)]), 3, 32) := by kernel_rfl
def t37 (x : S34) : S37 := ⟨x.f0, x.f1, x.f2⟩
def blankB : ByteArray := ⟨#[32]⟩
theorem R_iter {α : Type} {d : Kd α} {e base : Nat} {W : World} {k : Nat} {v : Value} {xs : List α} (h : d.R e W base (fun q => q ≠ k) v xs) (S : ByteArray) (p : Nat) : d.R e (W.iterAt k S p) base (fun q => q ≠ k) v xs := Kd.R_move h (fun q hq => Lib.iterAt_other W k q S p hq)
theorem token_letter_some (b : Int) : token_letter.f b = some (isL b) := by
  unfold token_letter.f isL
  by_cases h : b ≥ 97
  · rw [if_pos h, decide_eq_true (show 97 ≤ b from h), Bool.true_and]
  · rw [if_neg h, decide_eq_false (show ¬ 97 ≤ b from h), Bool.false_and]
theorem blank_at (s S : ByteArray) (h : S = s ++ (⟨#[32]⟩ : ByteArray)) : S.size = s.size + 1 ∧ (∀ p : Nat, p < s.size → bt S (p : Int) = bt s (p : Int)) ∧ bt S (s.size : Int) = 32 := by
  subst h
  refine ⟨by rw [ByteArray.size_append]; rfl, fun p hp => ?_, ?_⟩
  · unfold bt
    have h1 : ((p : Int)).toNat < (s ++ (⟨#[32]⟩ : ByteArray)).size := by rw [ByteArray.size_append, Int.toNat_natCast]; show p < s.size + 1; omega
    have h2 : ((p : Int)).toNat < s.size := by simpa using hp
    rw [dif_pos h1, dif_pos h2]
    congr 2
    rw [ByteArray.getElem_append_left h2]
  · unfold bt
    have h1 : ((s.size : Int)).toNat < (s ++ (⟨#[32]⟩ : ByteArray)).size := by rw [ByteArray.size_append, Int.toNat_natCast]; show s.size < s.size + 1; omega
    rw [dif_pos h1]
    have : (s ++ (⟨#[32]⟩ : ByteArray))[((s.size : Int)).toNat] = 32 := by
      rw [ByteArray.getElem_append_right (by simp)]
      simp
      rfl
    rw [this]; rfl
theorem extract_none (s : ByteArray) (a b : Nat) (h : b ≤ a) : s.extract a b = ⟨#[]⟩ := by
  apply ByteArray.ext
  rw [ByteArray.data_extract]
  exact Array.extract_empty_of_stop_le_start h
theorem bt_nat (S : ByteArray) (p : Nat) (h : p < S.size) : bt S (p : Int) = ((S[p]'h).toNat : Int) := by
  unfold bt
  rw [dif_pos (by simpa using h)]
  rfl
/-- The state of Lex's loop: the tokens so far, the iterator's place, the world. -/
structure Lst (w W : World) (k : Nat) (S : ByteArray) (p : Nat) (v5 : Value) (out : List S34) : Prop where
  it : W.heap[k]? = some (.stringIter S p)
  r : Kd.R k37 37 W w.heap.size (fun q => q ≠ k) v5 (out.map t37)
  b : Below w.heap.size w W
theorem Lst.next {w W : World} {k : Nat} {S : ByteArray} {p : Nat} {v5 : Value} {out : List S34} (h : Lst w W k S p v5 out) (p' : Nat) (hk : w.heap.size ≤ k) : Lst w (W.iterAt k S p') k S p' v5 out :=
  ⟨Lib.iterAt_heap W k S p p' h.it, R_iter h.r S p', Lib.below_iterAt h.b hk S p'⟩
theorem Lst.below {w W W' : World} {k : Nat} {S : ByteArray} {p : Nat} {v5 : Value} {out : List S34} (h : Lst w W k S p v5 out) (hb : Below W.heap.size W W') : Lst w W' k S p v5 out :=
  ⟨(hb.block k (Array.getElem?_eq_some_iff.1 h.it).1).trans h.it, Kd.R_below h.r hb, Aid_bthen h.b hb⟩
theorem Lst.lt {w W : World} {k : Nat} {S : ByteArray} {p : Nat} {v5 : Value} {out : List S34} (h : Lst w W k S p v5 out) : k < W.heap.size := (Array.getElem?_eq_some_iff.1 h.it).1
theorem Lst.append {w W W' : World} {k : Nat} {S : ByteArray} {p : Nat} {v5 v : Value} {out : List S34} (h : Lst w W k S p v5 out) (x : S34) (ho : Kd.R k37 37 W' w.heap.size (fun q => q ≠ k) v (out.map t37 ++ [t37 x])) (hb : Below w.heap.size w W') (hg : W.grownBy W' v5.ownBlock) : Lst w W' k S p v (out ++ [x]) :=
  ⟨(hg.block k h.lt (fun e => h.r.1 k e.symm rfl)).trans h.it, by rw [List.map_append]; exact ho, hb⟩
theorem Lst.to {w W : World} {k : Nat} {S : ByteArray} {p : Nat} {v5 : Value} {out : List S34} (h : Lst w W k S p v5 out) (p' : Nat) (e : p = p' := by rfl) : Lst w W k S p' v5 out := by subst e; exact h
theorem lx_long {s : ByteArray} {a p : Nat} {out : List S34} {R : List S34 × Int × Int} (h : Lx s a out R) (h8 : 8 < p - a) (hp : p ≤ s.size) (hl : ∀ q : Nat, a ≤ q → q < p → isL (bt s (q : Int)) = true) : R = ([], (a : Int), 51) := by
  have h0 := hl a (Nat.le_refl _) (by omega)
  cases h with
  | fin => omega
  | long _ tt _ => rfl
  | name _ tt _ _ h1 h9 h2 hl2 he k =>
    exfalso
    have := hl tt (by omega) (by omega)
    rw [he (by omega)] at this
    exact absurd this (by decide)
  | bad _ _ h1 hl2 => rw [hl2] at h0; exact absurd h0 (by decide)
  | blank _ _ _ h1 hb => rw [hb] at h0; exact absurd h0 (by decide)
  | sign _ _ _ h1 hl2 => rw [hl2] at h0; exact absurd h0 (by decide)
theorem lx_name {s : ByteArray} {a p : Nat} {out : List S34} {R : List S34 × Int × Int} (h : Lx s a out R) (h1 : a < p) (h8 : ¬ 8 < p - a) (hp : p ≤ s.size) (hl : ∀ q : Nat, a ≤ q → q < p → isL (bt s (q : Int)) = true) (he : p < s.size → isL (bt s (p : Int)) = false) : Lx s p (out ++ [⟨10, (a : Int), s.extract a p⟩]) R := by
  have h0 := hl a (Nat.le_refl _) (by omega)
  have same : ∀ tt : Nat, a < tt → tt ≤ s.size → (∀ q : Nat, a ≤ q → q < tt → isL (bt s (q : Int)) = true) → (tt < s.size → isL (bt s (tt : Int)) = false) → tt = p := by
    intro tt g1 g2 g3 g4
    by_cases e1 : tt < p
    · have := hl tt (by omega) e1
      rw [g4 (by omega)] at this
      exact absurd this (by decide)
    · by_cases e2 : p < tt
      · have := g3 p (by omega) e2
        rw [he (by omega)] at this
        exact absurd this (by decide)
      · omega
  cases h with
  | fin => omega
  | long _ tt _ g1 g2 g3 g4 => have := same tt (by omega) g2 g3 g4; omega
  | name _ tt _ _ g1 g9 g2 g3 g4 k =>
    have := same tt g1 g2 g3 g4
    subst this
    exact k
  | bad _ _ h1 hl2 => rw [hl2] at h0; exact absurd h0 (by decide)
  | blank _ _ _ h1 hb => rw [hb] at h0; exact absurd h0 (by decide)
  | sign _ _ _ h1 hl2 => rw [hl2] at h0; exact absurd h0 (by decide)
theorem lx_sign {s : ByteArray} {p : Nat} {out : List S34} {R : List S34 × Int × Int} (h : Lx s p out R) (hp : p < s.size) (hl : isL (bt s (p : Int)) = false) (hs : sg (bt s (p : Int)) ≠ 0) : Lx s (p + 1) (out ++ [⟨sg (bt s (p : Int)), (p : Int), ⟨#[]⟩⟩]) R := by
  cases h with
  | fin => omega
  | long _ tt _ g1 g2 g3 g4 => have := g3 p (Nat.le_refl _) (by omega); rw [hl] at this; exact absurd this (by decide)
  | name _ tt _ _ g1 g9 g2 g3 g4 k => have := g3 p (Nat.le_refl _) (by omega); rw [hl] at this; exact absurd this (by decide)
  | bad _ _ h1 hl2 hb h0 => exact absurd h0 hs
  | blank _ _ _ h1 hb => rw [hb] at hs; exact absurd rfl hs
  | sign _ _ _ h1 hl2 hb hs2 k => exact k
theorem lx_blank {s : ByteArray} {p : Nat} {out : List S34} {R : List S34 × Int × Int} (h : Lx s p out R) (hp : p < s.size) (hb : bt s (p : Int) = 32) : Lx s (p + 1) out R := by
  have hl : isL (bt s (p : Int)) = false := by rw [hb]; rfl
  cases h with
  | fin => omega
  | long _ tt _ g1 g2 g3 g4 => have := g3 p (Nat.le_refl _) (by omega); rw [hl] at this; exact absurd this (by decide)
  | name _ tt _ _ g1 g9 g2 g3 g4 k => have := g3 p (Nat.le_refl _) (by omega); rw [hl] at this; exact absurd this (by decide)
  | bad _ _ h1 hl2 hb2 h0 => exact absurd hb hb2
  | blank _ _ _ h1 hb k => exact k
  | sign _ _ _ h1 hl2 hb2 hs2 k => exact absurd hb hb2
theorem lx_bad {s : ByteArray} {p : Nat} {out : List S34} {R : List S34 × Int × Int} (h : Lx s p out R) (hp : p < s.size) (hl : isL (bt s (p : Int)) = false) (hb : bt s (p : Int) ≠ 32) (hs : sg (bt s (p : Int)) = 0) : R = ([], (p : Int), 50) := by
  cases h with
  | fin => omega
  | long _ tt _ g1 g2 g3 g4 => have := g3 p (Nat.le_refl _) (by omega); rw [hl] at this; exact absurd this (by decide)
  | name _ tt _ _ g1 g9 g2 g3 g4 k => have := g3 p (Nat.le_refl _) (by omega); rw [hl] at this; exact absurd this (by decide)
  | bad _ _ h1 hl2 hb2 h0 => rfl
  | blank _ _ _ h1 hb2 k => exact absurd hb2 hb
  | sign _ _ _ h1 hl2 hb2 hs2 k => exact absurd hs hs2
theorem lx_fin {s : ByteArray} {out : List S34} {R : List S34 × Int × Int} {p : Nat} (h : Lx s p out R) (e : p = s.size) : R = (out, (s.size : Int), 0) := by
  cases h with
  | fin => rfl
  | long _ tt _ g1 g2 g3 g4 => omega
  | name _ tt _ _ g1 g9 g2 g3 g4 k => omega
  | bad _ _ h1 => omega
  | blank _ _ _ h1 => omega
  | sign _ _ _ h1 => omega
theorem sg_in (b : Int) : 0 ≤ sg b ∧ sg b ≤ 9 := by unfold sg; (repeat' split) <;> omega
theorem enc_low (b : Nat) (h : b < 128) : Utf8.encode (b : Int) = ⟨#[UInt8.ofNat b]⟩ := by
  have : ∀ x : Fin 128, Utf8.encode ((x.val : Nat) : Int) = ⟨#[UInt8.ofNat x.val]⟩ := by decide +kernel
  exact this ⟨b, h⟩
theorem ext_snoc (s : ByteArray) (a p b : Nat) (h : a ≤ p) (hp : p < s.size) (hb : bt s (p : Int) = (b : Int)) : s.extract a p ++ ⟨#[UInt8.ofNat b]⟩ = s.extract a (p + 1) := by
  have hx : s[p]'hp = UInt8.ofNat b := by
    have h1 := bt_nat s p hp
    rw [hb] at h1
    have h2 : b = (s[p]'hp).toNat := by omega
    rw [h2, UInt8.ofNat_toNat]
  apply ByteArray.ext
  rw [ByteArray.data_append, ByteArray.data_extract, ByteArray.data_extract]
  show s.data.extract a p ++ #[UInt8.ofNat b] = s.data.extract a (p + 1)
  have hsz : p < s.data.size := hp
  have hx2 : s.data[p]'hsz = UInt8.ofNat b := hx
  rw [← hx2]
  rw [Array.append_singleton, Array.push_extract_getElem hsz, Nat.min_eq_left h]
theorem LexR (s : ByteArray) (R : List S34 × Int × Int) (h : LexIs s R) (w : World) : Calls Tryd.prog 22 #[.string s] w fun e w' => ∃ v, e = .returned (.tuple #[v, .int .i64 R.2.1, .int .i64 R.2.2]) ∧ Kd.R k37 37 w' w.heap.size (fun _ => True) v (R.1.map t37) ∧ Below w.heap.size w w' := by
  unfold LexIs at h
  by_cases hs : s.size > 1000
  · rw [if_pos hs] at h
    subst h
    have c1 : decide ((s.size : Int) > 1000) = true := decide_eq_true (by omega)
    have c2 : decide (1000 < s.size) = true := decide_eq_true hs
    have c3 : decide ((1000 : Int) < (s.size : Int)) = true := decide_eq_true (by omega)
    clear hs
    go_enter Tryd.func22, Tryd.ntmps22
    go_wp2_with fail
    (try rw [Exit.noGoto_ret])
    go_ret3
    exact ⟨.slice none 0 0, rfl, Kd.R_nil _ _ _ _ _, Below.refl _ _⟩
  · rw [if_neg hs] at h
    have c1 : decide ((s.size : Int) > 1000) = false := decide_eq_false (by omega)
    have c2 : decide (1000 < s.size) = false := decide_eq_false hs
    have c3 : decide ((1000 : Int) < (s.size : Int)) = false := decide_eq_false (by omega)
    have HS := Aside0.mk (show s.size ≤ 1000 by omega)
    have HL := Aside0.mk h
    clear hs h
    go_enter Tryd.func22, Tryd.ntmps22
    have hcat : s.size + 1 ≤ 9223372036854775807 := by have := HS.out; omega
    go_wp2_with fail
    clear hcat
    obtain ⟨S, hS⟩ : ∃ S, S = s ++ (⟨#[32]⟩ : ByteArray) := ⟨_, rfl⟩
    rw [← hS]
    have HSB := Aside0.mk (blank_at s S hS)
    obtain ⟨k, hk⟩ : ∃ k, k = w.heap.size := ⟨_, rfl⟩
    have H0 := Aside0.mk (show Lst w (w.iter S 0) k S 0 (.slice none 0 0) [] from ⟨by rw [hk]; exact World.iter_heap w S 0, Kd.R_nil _ _ _ _ _, below_alloc (Below.refl _ _) _⟩)
    have HK := Aside0.mk (Nat.le_of_eq hk.symm)
    rw [← hk]
    clear hS hk
    go_loopg [5, 6, 7, 8, 9] (s.size + 3) (fun kq v5 v6 v7 v8 v9 W => ∃ (p st : Nat) (out : List S34) (nm : ByteArray), v6 = .string nm ∧ Aside0 (kq + p = s.size + 3 ∧ p ≤ s.size + 1 ∧ st ≤ p ∧ nm = s.extract st p ∧ out.length ≤ p ∧ out.length ≤ st) ∧ Aside0 (∀ q : Nat, st ≤ q → q < p → q < s.size ∧ isL (bt s (q : Int)) = true) ∧ Aside0 ((p ≤ s.size → Lx s st out R) ∧ (s.size < p → R = (out, (s.size : Int), 0))) ∧ Aside0 (Lst w W k S p v5 out))
    case atStart => exact ⟨0, 0, [], ⟨#[]⟩, rfl, ⟨by omega, by omega, by omega, (extract_none _ _ _ (Nat.le_refl _)).symm, Nat.le_refl _, Nat.le_refl _⟩, ⟨fun q h1 h2 => by omega⟩, ⟨fun _ => HL.out, fun h => by omega⟩, H0⟩
    case round =>
      clear H0 HL
      obtain ⟨p, st, out, nm, rfl, HP, HN, HR, HI⟩ := hrel
      cases gk with
      | zero => exact absurd HP.out.1 (by have := HP.out.2.1; omega)
      | succ k1 =>
        by_cases hp : p < S.size
        · by_cases ha : (S[p]'hp).toNat < 128
          · have hnx : ∀ ty, (Instr.next (.pointer (some ⟨k, 0, none⟩)) true ty).run Tryd.prog wr = _ := fun ty => Lib.run_next_ascii_at wr k S p ty HI.out.it hp ha
            have hb := bt_nat S p hp
            obtain ⟨b, eb⟩ : ∃ b : Nat, b = (S[p]'hp).toNat := ⟨_, rfl⟩
            simp only [← eb] at hnx hb
            have HB := Aside0.mk hb
            have HA := Aside0.mk (show b < 128 by rw [eb]; exact ha)
            clear eb ha hb
            cases hl : isL (b : Int) with
            | true =>
              have HLt := Aside0.mk hl
              clear hl
              have hps : p < s.size := by
                by_cases e : p = s.size
                · exfalso
                  have h1 := HB.out
                  rw [e, HSB.out.2.2] at h1
                  have h2 := HLt.out
                  rw [← h1] at h2
                  revert h2; decide
                · have := HP.out.2.1; have := HSB.out.1; omega
              have HPS := Aside0.mk hps
              have HBS := Aside0.mk (show bt s (p : Int) = (b : Int) by rw [← HSB.out.2.1 p hps]; exact HB.out)
              clear hp hps
              go_upto_region 8 with fail
              obtain ⟨w1, hw1⟩ : ∃ w1, w1 = wr.iterAt k S (p + 1) := ⟨_, rfl⟩
              rw [← hw1]
              clear hnx
              have HI1 := Aside0.mk (show Lst w w1 k S (p + 1) u5 out by rw [hw1]; exact HI.out.next (p + 1) HK.out)
              clear hw1 HI
              go_wp2_with fail
              refine (token_letter.calls (b : Int) true _ (by rw [token_letter_some, HLt.out])).mono ?_; rintro e w2 ⟨rfl, hd⟩
              have HI2 := Aside0.mk (HI1.out.below hd.below)
              clear hd HI1
              go_upto_region 9 with fail
              obtain ⟨ch, hch⟩ : ∃ ch, ch = Utf8.encode (b : Int) := ⟨_, rfl⟩
              have henc : Utf8.encode (b : Int) = ch := hch.symm
              have HCH := Aside0.mk (show ch = ⟨#[UInt8.ofNat b]⟩ by rw [hch]; exact enc_low b HA.out)
              have hcat : nm.size + ch.size ≤ 9223372036854775807 := by
                have h1 : ch.size = 1 := by rw [HCH.out]; rfl
                have h2 : nm.size ≤ p := by rw [HP.out.2.2.2.1, ByteArray.size_extract]; omega
                have := HPS.out; have := HS.out; omega
              clear hch
              go_wp2_with fail
              go_roundg k1
              case measure => omega
              case rel => exact ⟨p + 1, st, out, nm ++ ch, rfl, ⟨by have := HP.out.1; omega, by have := HPS.out; omega, by have := HP.out.2.2.1; omega, by rw [HP.out.2.2.2.1, HCH.out]; exact ext_snoc s st p b HP.out.2.2.1 HPS.out HBS.out, by have := HP.out.2.2.2.2.1; omega, HP.out.2.2.2.2.2⟩, ⟨fun q h1 h2 => by
                  by_cases h3 : q < p
                  · exact HN.out q h1 h3
                  · have e : q = p := by omega
                    rw [e]; exact ⟨HPS.out, by rw [HBS.out]; exact HLt.out⟩⟩, ⟨fun _ => HR.out.1 (by have := HPS.out; omega), fun h => absurd HPS.out (by omega)⟩, HI2⟩
            | false =>
              have HLf := Aside0.mk hl
              have HOS := Aside0.mk HP.out.2.2.2.2.2
              clear hl
              have hps : p ≤ s.size := by have := HSB.out.1; omega
              have HPS := Aside0.mk hps
              have HBS := Aside0.mk (show p < s.size → bt s (p : Int) = (b : Int) from fun h => by rw [← HSB.out.2.1 p h]; exact HB.out)
              have HBE := Aside0.mk (show p = s.size → b = 32 from fun h => by have h1 := HB.out; rw [h, HSB.out.2.2] at h1; omega)
              clear hp hps
              go_upto_region 8 with fail
              obtain ⟨w1, hw1⟩ : ∃ w1, w1 = wr.iterAt k S (p + 1) := ⟨_, rfl⟩
              rw [← hw1]
              clear hnx
              have HI1 := Aside0.mk (show Lst w w1 k S (p + 1) u5 out by rw [hw1]; exact HI.out.next (p + 1) HK.out)
              clear hw1 HI
              go_wp2_with fail
              refine (token_letter.calls (b : Int) false _ (by rw [token_letter_some, HLf.out])).mono ?_; rintro e w2 ⟨rfl, hd⟩
              have HI2 := Aside0.mk (HI1.out.below hd.below)
              clear hd HI1
              by_cases hst : st = p
              · have hnm : nm = ⟨#[]⟩ := by rw [HP.out.2.2.2.1, hst]; exact extract_none _ _ _ (Nat.le_refl _)
                have HLX := Aside0.mk (show Lx s p out R by have := HR.out.1 HPS.out; rw [hst] at this; exact this)
                subst hnm
                clear hst
                have HRL := Aside0.mk (HLX.out)
                have HOL := Aside0.mk (show (out).length ≤ p by have := HP.out.2.2.2.2.1; omega)
                have hsi := sg_in (b : Int)
                by_cases hg : sg (b : Int) = 0
                · have HG := Aside0.mk hg
                  have hk1 : wrap64 ((0 : Int) - 1 + 1) = 0 := by decide +kernel
                  clear hsi
                  by_cases hb32 : b = 32
                  · have HB32 := Aside0.mk hb32
                    have c32 : ((b : Int) != 32) = false := by rw [hb32]; rfl
                    clear hg hb32
                    go_wp2_with (first | (go_at_call 63; refine (IndexRune_low b HA.out _).mono ?_; rintro e w5 ⟨rfl, hb5⟩; rw [HG.out]; have HJ := Aside0.mk ((HI2.out.below hb5).to (p + 1)); clear hb5))
                    go_roundg k1
                    case measure => omega
                    case rel => exact ⟨p + 1, p + 1, out, ⟨#[]⟩, rfl, ⟨by have := HP.out.1; omega, by have := HPS.out; omega, Nat.le_refl _, by rw [extract_none _ _ _ (Nat.le_refl _)], by have := HOL.out; omega, by have := HOL.out; omega⟩, ⟨fun q h1 h2 => by omega⟩, ⟨fun _ => lx_blank (HRL.out) (by have := HPS.out; omega) (by rw [HBS.out (by have := HPS.out; omega), HB32.out]; rfl), fun _ => lx_fin (HRL.out) (by have := HPS.out; omega)⟩, HJ⟩
                  · have HB32 := Aside0.mk hb32
                    have c32 : ((b : Int) != 32) = true := bne_iff_ne.2 (by omega)
                    clear hg hb32
                    go_wp2_with (first | (go_at_call 63; refine (IndexRune_low b HA.out _).mono ?_; rintro e w5 ⟨rfl, hb5⟩; rw [HG.out]; have HJ := Aside0.mk (HI2.out.below hb5); clear hb5))
                    (try rw [Exit.noGoto_ret])
                    go_ret3
                    have hps : p < s.size := Nat.lt_of_le_of_ne HPS.out (fun e => HB32.out (HBE.out e))
                    have eR := lx_bad (HRL.out) hps (by rw [HBS.out hps]; exact HLf.out) (by rw [HBS.out hps]; have := HB32.out; omega) (by rw [HBS.out hps]; exact HG.out)
                    rw [eR]
                    exact ⟨.slice none 0 0, rfl, Kd.R_nil _ _ _ _ _, HJ.out.b⟩
                · have HG := Aside0.mk hg
                  obtain ⟨g, eg⟩ : ∃ g, g = sg (b : Int) := ⟨_, rfl⟩
                  have HEG := Aside0.mk eg
                  rw [← eg] at hsi hg
                  have hk1 : wrap64 (g - 1 + 1) = g := by unfold wrap64; omega
                  have hk2 : wrap64 g = g := by unfold wrap64; omega
                  have c1g : decide (g ≥ 1) = true := decide_eq_true (by omega)
                  have c1h : decide (1 ≤ g) = true := decide_eq_true (by omega)
                  clear hsi hg eg
                  go_wp2_with (first | (go_at_call 63; refine (IndexRune_low b HA.out _).mono ?_; rintro e w5 ⟨rfl, hb5⟩; rw [← HEG.out]; have HI5 := Aside0.mk (HI2.out.below hb5); clear hb5 HI2) | ((with_reducible refine gate_builtin (b := .append) (xs := #[.tmp 50, .tmp 54]) rfl ?_); at_builtin; refine Kd.R_append k37 (w0 := w) w.heap.size rfl (.tmp 50) (.tmp 54) 23 37 (.agg #[(.int .i64 0), (.int .i64 0), (.string ⟨#[]⟩)]) 32 rfl Tryd.underlying23 info37 rfl (by decide) (by omega) u5 ((out).map t37) (t37 (⟨g, (p : Int), ⟨#[]⟩⟩ : S34)) [.int .i64 g, .int .i64 (p : Int), .string ⟨#[]⟩] (fun q => q ≠ k) (fun _ => False) rfl rfl ?aP (fun _ hk => hk.elim) ?aF ?aO ?aB ?aS ?aL ?_; (case aP => exact k37_mkM _ _ _ (t37 (⟨g, (p : Int), ⟨#[]⟩⟩ : S34))); (case aB => exact HI5.out.b); (case aF => exact (fun q hq => by have := HI5.out.lt; omega)); (case aO => exact HI5.out.r); (case aS => exact HI5.out.b.size); (case aL => rw [List.length_map]; have := HP.out.2.2.2.2.1; have := HP.out.2.1; have := HS.out; have := HOL.out; omega); intro v6 w6 ho hb hg hat; have HI6 := Aside0.mk (HI5.out.append (⟨g, (p : Int), ⟨#[]⟩⟩ : S34) ho hb hg); clear ho hb hg hat HI5))
                  have HJ := Aside0.mk (HI6.out.to (p + 1))
                  go_roundg k1
                  case measure => omega
                  case rel => exact ⟨p + 1, p + 1, (out) ++ [(⟨g, (p : Int), ⟨#[]⟩⟩ : S34)], ⟨#[]⟩, rfl, ⟨by have := HP.out.1; omega, by have := HPS.out; omega, Nat.le_refl _, by rw [extract_none _ _ _ (Nat.le_refl _)], by rw [List.length_append]; have := HOL.out; simp only [List.length_cons, List.length_nil]; omega, by rw [List.length_append]; have := HOL.out; simp only [List.length_cons, List.length_nil]; omega⟩, ⟨fun q h1 h2 => by omega⟩, ⟨fun _ => by have hps : p < s.size := Nat.lt_of_le_of_ne HPS.out (fun e => HG.out (by rw [HBE.out e]; rfl)); have := lx_sign (HRL.out) hps (by rw [HBS.out hps]; exact HLf.out) (by rw [HBS.out hps]; exact HG.out); rw [HBS.out hps, ← HEG.out] at this; exact this, fun h => absurd h (by have hps : p < s.size := Nat.lt_of_le_of_ne HPS.out (fun e => HG.out (by rw [HBE.out e]; rfl)); omega)⟩, HJ⟩
              · have hnz : nm.size = p - st := by rw [HP.out.2.2.2.1, ByteArray.size_extract]; have := HPS.out; omega
                have HNZ := Aside0.mk hnz
                have hsub : wrap64 ((p : Int) - (nm.size : Int)) = (st : Int) := by have h0 := HP.out.2.2.1; have h1 := HPS.out; have h2 := HS.out; rw [hnz]; unfold wrap64; omega
                have hem : nm.toList.isEmpty = false := by rw [isEmpty_size]; exact decide_eq_false (by have := HP.out.2.2.1; omega)
                by_cases h8 : 8 < p - st
                · have g1 : decide ((nm.size : Int) > 8) = true := decide_eq_true (by omega)
                  have g2 : decide (8 < nm.size) = true := decide_eq_true (by omega)
                  have g3 : decide ((8 : Int) < (nm.size : Int)) = true := decide_eq_true (by omega)
                  have H8 := Aside0.mk h8
                  have HST := Aside0.mk (show st < p by have := HP.out.2.2.1; omega)
                  clear hnz h8 hst
                  go_wp2_with (first | ((with_reducible refine gate_builtin (b := .append) (xs := #[.tmp 28, .tmp 35]) rfl ?_); at_builtin; refine Kd.R_append k37 (w0 := w) w.heap.size rfl (.tmp 28) (.tmp 35) 23 37 (.agg #[(.int .i64 0), (.int .i64 0), (.string ⟨#[]⟩)]) 32 rfl Tryd.underlying23 info37 rfl (by decide) (by omega) u5 (out.map t37) (t37 (⟨10, (st : Int), nm⟩ : S34)) [.int .i64 10, .int .i64 (st : Int), .string nm] (fun q => q ≠ k) (fun _ => False) rfl rfl ?aP (fun _ hk => hk.elim) ?aF ?aO ?aB ?aS ?aL ?_; (case aP => exact k37_mkM _ _ _ (t37 (⟨10, (st : Int), nm⟩ : S34))); (case aB => exact HI2.out.b); (case aF => exact (fun q hq => by have := HI2.out.lt; omega)); (case aO => exact HI2.out.r); (case aS => exact HI2.out.b.size); (case aL => rw [List.length_map]; have := HP.out.2.2.2.2.1; have := HP.out.2.1; have := HS.out; skip; omega); intro v3 w3 ho hb hg hat; have HI3 := Aside0.mk (HI2.out.append (⟨10, (st : Int), nm⟩ : S34) ho hb hg); clear ho hb hg hat HI2))
                  go_ret3
                  have eR := lx_long (HR.out.1 HPS.out) H8.out HPS.out (fun q h1 h2 => (HN.out q h1 h2).2)
                  rw [eR]
                  exact ⟨.slice none 0 0, by show Ending.returned (.tuple #[.slice none 0 0, .int .i64 (wrap64 ((p : Int) - (nm.size : Int))), .int .i64 51]) = _; rw [hsub], Kd.R_nil _ _ _ _ _, HI3.out.b⟩
                · have g1 : decide ((nm.size : Int) > 8) = false := decide_eq_false (by omega)
                  have g2 : decide (8 < nm.size) = false := decide_eq_false (by omega)
                  have g3 : decide ((8 : Int) < (nm.size : Int)) = false := decide_eq_false (by omega)
                  have H8 := Aside0.mk h8
                  have HST := Aside0.mk (show st < p by have := HP.out.2.2.1; omega)
                  clear hnz h8 hst
                  go_wp2_with (first | ((with_reducible refine gate_builtin (b := .append) (xs := #[.tmp 28, .tmp 35]) rfl ?_); at_builtin; refine Kd.R_append k37 (w0 := w) w.heap.size rfl (.tmp 28) (.tmp 35) 23 37 (.agg #[(.int .i64 0), (.int .i64 0), (.string ⟨#[]⟩)]) 32 rfl Tryd.underlying23 info37 rfl (by decide) (by omega) u5 (out.map t37) (t37 (⟨10, (st : Int), nm⟩ : S34)) [.int .i64 10, .int .i64 (st : Int), .string nm] (fun q => q ≠ k) (fun _ => False) rfl rfl ?aP (fun _ hk => hk.elim) ?aF ?aO ?aB ?aS ?aL ?_; (case aP => exact k37_mkM _ _ _ (t37 (⟨10, (st : Int), nm⟩ : S34))); (case aB => exact HI2.out.b); (case aF => exact (fun q hq => by have := HI2.out.lt; omega)); (case aO => exact HI2.out.r); (case aS => exact HI2.out.b.size); (case aL => rw [List.length_map]; have := HP.out.2.2.2.2.1; have := HP.out.2.1; have := HS.out; skip; omega); intro v3 w3 ho hb hg hat; have HI3 := Aside0.mk (HI2.out.append (⟨10, (st : Int), nm⟩ : S34) ho hb hg); clear ho hb hg hat HI2))
                  have HRL := Aside0.mk (show Lx s p (out ++ [(⟨10, (st : Int), nm⟩ : S34)]) R by rw [HP.out.2.2.2.1]; exact lx_name (HR.out.1 HPS.out) HST.out H8.out HPS.out (fun q h1 h2 => (HN.out q h1 h2).2) (fun h => by rw [HBS.out h]; exact HLf.out))
                  have HOL := Aside0.mk (show (out ++ [(⟨10, (st : Int), nm⟩ : S34)]).length ≤ p by rw [List.length_append]; simp only [List.length_cons, List.length_nil]; have := HOS.out; have := HST.out; omega)
                  have hsi := sg_in (b : Int)
                  by_cases hg : sg (b : Int) = 0
                  · have HG := Aside0.mk hg
                    have hk1 : wrap64 ((0 : Int) - 1 + 1) = 0 := by decide +kernel
                    clear hsi
                    by_cases hb32 : b = 32
                    · have HB32 := Aside0.mk hb32
                      have c32 : ((b : Int) != 32) = false := by rw [hb32]; rfl
                      clear hg hb32
                      go_wp2_with (first | (go_at_call 63; refine (IndexRune_low b HA.out _).mono ?_; rintro e w5 ⟨rfl, hb5⟩; rw [HG.out]; have HJ := Aside0.mk ((HI3.out.below hb5).to (p + 1)); clear hb5))
                      go_roundg k1
                      case measure => omega
                      case rel => exact ⟨p + 1, p + 1, out ++ [(⟨10, (st : Int), nm⟩ : S34)], ⟨#[]⟩, rfl, ⟨by have := HP.out.1; omega, by have := HPS.out; omega, Nat.le_refl _, by rw [extract_none _ _ _ (Nat.le_refl _)], by have := HOL.out; omega, by have := HOL.out; omega⟩, ⟨fun q h1 h2 => by omega⟩, ⟨fun _ => lx_blank (HRL.out) (by have := HPS.out; omega) (by rw [HBS.out (by have := HPS.out; omega), HB32.out]; rfl), fun _ => lx_fin (HRL.out) (by have := HPS.out; omega)⟩, HJ⟩
                    · have HB32 := Aside0.mk hb32
                      have c32 : ((b : Int) != 32) = true := bne_iff_ne.2 (by omega)
                      clear hg hb32
                      go_wp2_with (first | (go_at_call 63; refine (IndexRune_low b HA.out _).mono ?_; rintro e w5 ⟨rfl, hb5⟩; rw [HG.out]; have HJ := Aside0.mk (HI3.out.below hb5); clear hb5))
                      (try rw [Exit.noGoto_ret])
                      go_ret3
                      have hps : p < s.size := Nat.lt_of_le_of_ne HPS.out (fun e => HB32.out (HBE.out e))
                      have eR := lx_bad (HRL.out) hps (by rw [HBS.out hps]; exact HLf.out) (by rw [HBS.out hps]; have := HB32.out; omega) (by rw [HBS.out hps]; exact HG.out)
                      rw [eR]
                      exact ⟨.slice none 0 0, rfl, Kd.R_nil _ _ _ _ _, HJ.out.b⟩
                  · have HG := Aside0.mk hg
                    obtain ⟨g, eg⟩ : ∃ g, g = sg (b : Int) := ⟨_, rfl⟩
                    have HEG := Aside0.mk eg
                    rw [← eg] at hsi hg
                    have hk1 : wrap64 (g - 1 + 1) = g := by unfold wrap64; omega
                    have hk2 : wrap64 g = g := by unfold wrap64; omega
                    have c1g : decide (g ≥ 1) = true := decide_eq_true (by omega)
                    have c1h : decide (1 ≤ g) = true := decide_eq_true (by omega)
                    clear hsi hg eg
                    go_wp2_with (first | (go_at_call 63; refine (IndexRune_low b HA.out _).mono ?_; rintro e w5 ⟨rfl, hb5⟩; rw [← HEG.out]; have HI5 := Aside0.mk (HI3.out.below hb5); clear hb5 HI3) | ((with_reducible refine gate_builtin (b := .append) (xs := #[.tmp 50, .tmp 54]) rfl ?_); at_builtin; refine Kd.R_append k37 (w0 := w) w.heap.size rfl (.tmp 50) (.tmp 54) 23 37 (.agg #[(.int .i64 0), (.int .i64 0), (.string ⟨#[]⟩)]) 32 rfl Tryd.underlying23 info37 rfl (by decide) (by omega) v3 ((out ++ [(⟨10, (st : Int), nm⟩ : S34)]).map t37) (t37 (⟨g, (p : Int), ⟨#[]⟩⟩ : S34)) [.int .i64 g, .int .i64 (p : Int), .string ⟨#[]⟩] (fun q => q ≠ k) (fun _ => False) rfl rfl ?aP (fun _ hk => hk.elim) ?aF ?aO ?aB ?aS ?aL ?_; (case aP => exact k37_mkM _ _ _ (t37 (⟨g, (p : Int), ⟨#[]⟩⟩ : S34))); (case aB => exact HI5.out.b); (case aF => exact (fun q hq => by have := HI5.out.lt; omega)); (case aO => exact HI5.out.r); (case aS => exact HI5.out.b.size); (case aL => rw [List.length_map]; have := HP.out.2.2.2.2.1; have := HP.out.2.1; have := HS.out; have := HOL.out; omega); intro v6 w6 ho hb hg hat; have HI6 := Aside0.mk (HI5.out.append (⟨g, (p : Int), ⟨#[]⟩⟩ : S34) ho hb hg); clear ho hb hg hat HI5))
                    have HJ := Aside0.mk (HI6.out.to (p + 1))
                    go_roundg k1
                    case measure => omega
                    case rel => exact ⟨p + 1, p + 1, (out ++ [(⟨10, (st : Int), nm⟩ : S34)]) ++ [(⟨g, (p : Int), ⟨#[]⟩⟩ : S34)], ⟨#[]⟩, rfl, ⟨by have := HP.out.1; omega, by have := HPS.out; omega, Nat.le_refl _, by rw [extract_none _ _ _ (Nat.le_refl _)], by rw [List.length_append]; have := HOL.out; simp only [List.length_cons, List.length_nil]; omega, by rw [List.length_append]; have := HOL.out; simp only [List.length_cons, List.length_nil]; omega⟩, ⟨fun q h1 h2 => by omega⟩, ⟨fun _ => by have hps : p < s.size := Nat.lt_of_le_of_ne HPS.out (fun e => HG.out (by rw [HBE.out e]; rfl)); have := lx_sign (HRL.out) hps (by rw [HBS.out hps]; exact HLf.out) (by rw [HBS.out hps]; exact HG.out); rw [HBS.out hps, ← HEG.out] at this; exact this, fun h => absurd h (by have hps : p < s.size := Nat.lt_of_le_of_ne HPS.out (fun e => HG.out (by rw [HBE.out e]; rfl)); omega)⟩, HJ⟩
          · skip
            have hnx : ∀ ty, (Instr.next (.pointer (some ⟨k, 0, none⟩)) true ty).run Tryd.prog wr = _ := fun ty => Lib.run_next_any_at wr k S p ty HI.out.it hp
            have hd := decode_high S p hp (by omega)
            have hps : p < s.size := by
              by_cases e : p = s.size
              · exfalso
                have h1 := bt_nat S p hp
                have h3 := HSB.out.2.2
                rw [← e, h1] at h3
                omega
              · have := HP.out.2.1; have := HSB.out.1; omega
            have HPS := Aside0.mk (show p ≤ s.size from Nat.le_of_lt hps)
            have HPL := Aside0.mk hps
            have hc : 128 ≤ bt s (p : Int) := by rw [← HSB.out.2.1 p hps, bt_nat S p hp]; omega
            have HOS := Aside0.mk HP.out.2.2.2.2.2
            have HLB := Aside0.mk (show isL (bt s (p : Int)) = false ∧ bt s (p : Int) ≠ 32 ∧ sg (bt s (p : Int)) = 0 from by
              refine ⟨by unfold isL; rw [decide_eq_false (show ¬ bt s (p : Int) ≤ 122 by omega), Bool.and_false], by omega, ?_⟩
              unfold sg
              rw [if_neg (by omega), if_neg (by omega), if_neg (by omega), if_neg (by omega), if_neg (by omega), if_neg (by omega), if_neg (by omega), if_neg (by omega), if_neg (by omega)])
            obtain ⟨b, eb⟩ : ∃ b : Nat, b = (Utf8.decode S p).1 := ⟨_, rfl⟩
            obtain ⟨d, ed⟩ : ∃ d : Nat, d = (Utf8.decode S p).2 := ⟨_, rfl⟩
            simp only [← eb, ← ed] at hnx hd
            have HA := Aside0.mk hd.1
            have HLf := Aside0.mk (show isL (b : Int) = false by unfold isL; rw [decide_eq_false (show ¬ (b : Int) ≤ 122 by have := hd.1; omega), Bool.and_false])
            have c32 : ((b : Int) != 32) = true := bne_iff_ne.2 (by have := hd.1; omega)
            clear eb ed hd hps hc hp ha
            go_upto_region 8 with fail
            obtain ⟨w1, hw1⟩ : ∃ w1, w1 = wr.iterAt k S (p + d) := ⟨_, rfl⟩
            rw [← hw1]
            clear hnx
            have HI1 := Aside0.mk (show Lst w w1 k S (p + d) u5 out by rw [hw1]; exact HI.out.next (p + d) HK.out)
            clear hw1 HI
            go_wp2_with fail
            refine (token_letter.calls (b : Int) false _ (by rw [token_letter_some, HLf.out])).mono ?_; rintro e w2 ⟨rfl, hd⟩
            have HI2 := Aside0.mk (HI1.out.below hd.below)
            clear hd HI1
            by_cases hst : st = p
            · have hnm : nm = ⟨#[]⟩ := by rw [HP.out.2.2.2.1, hst]; exact extract_none _ _ _ (Nat.le_refl _)
              have HLX := Aside0.mk (show Lx s p out R by have := HR.out.1 HPS.out; rw [hst] at this; exact this)
              subst hnm
              clear hst
              have HRL := Aside0.mk (HLX.out)
              go_wp2_with (first | (go_at_call 63; refine (IndexRune_high b HA.out _).mono ?_; rintro e w5 ⟨rfl, hb5⟩; have HJ := Aside0.mk (HI2.out.below hb5); clear hb5))
              (try rw [Exit.noGoto_ret])
              go_ret3
              have eR := lx_bad (HRL.out) HPL.out HLB.out.1 HLB.out.2.1 HLB.out.2.2
              rw [eR]
              exact ⟨.slice none 0 0, rfl, Kd.R_nil _ _ _ _ _, HJ.out.b⟩
            · have hnz : nm.size = p - st := by rw [HP.out.2.2.2.1, ByteArray.size_extract]; have := HPS.out; omega
              have HNZ := Aside0.mk hnz
              have hsub : wrap64 ((p : Int) - (nm.size : Int)) = (st : Int) := by have h0 := HP.out.2.2.1; have h1 := HPS.out; have h2 := HS.out; rw [hnz]; unfold wrap64; omega
              have hem : nm.toList.isEmpty = false := by rw [isEmpty_size]; exact decide_eq_false (by have := HP.out.2.2.1; omega)
              by_cases h8 : 8 < p - st
              · have g1 : decide ((nm.size : Int) > 8) = true := decide_eq_true (by omega)
                have g2 : decide (8 < nm.size) = true := decide_eq_true (by omega)
                have g3 : decide ((8 : Int) < (nm.size : Int)) = true := decide_eq_true (by omega)
                have H8 := Aside0.mk h8
                have HST := Aside0.mk (show st < p by have := HP.out.2.2.1; omega)
                clear hnz h8 hst
                go_wp2_with (first | ((with_reducible refine gate_builtin (b := .append) (xs := #[.tmp 28, .tmp 35]) rfl ?_); at_builtin; refine Kd.R_append k37 (w0 := w) w.heap.size rfl (.tmp 28) (.tmp 35) 23 37 (.agg #[(.int .i64 0), (.int .i64 0), (.string ⟨#[]⟩)]) 32 rfl Tryd.underlying23 info37 rfl (by decide) (by omega) u5 (out.map t37) (t37 (⟨10, (st : Int), nm⟩ : S34)) [.int .i64 10, .int .i64 (st : Int), .string nm] (fun q => q ≠ k) (fun _ => False) rfl rfl ?aP (fun _ hk => hk.elim) ?aF ?aO ?aB ?aS ?aL ?_; (case aP => exact k37_mkM _ _ _ (t37 (⟨10, (st : Int), nm⟩ : S34))); (case aB => exact HI2.out.b); (case aF => exact (fun q hq => by have := HI2.out.lt; omega)); (case aO => exact HI2.out.r); (case aS => exact HI2.out.b.size); (case aL => rw [List.length_map]; have := HP.out.2.2.2.2.1; have := HP.out.2.1; have := HS.out; skip; omega); intro v3 w3 ho hb hg hat; have HI3 := Aside0.mk (HI2.out.append (⟨10, (st : Int), nm⟩ : S34) ho hb hg); clear ho hb hg hat HI2))
                go_ret3
                have eR := lx_long (HR.out.1 HPS.out) H8.out HPS.out (fun q h1 h2 => (HN.out q h1 h2).2)
                rw [eR]
                exact ⟨.slice none 0 0, by show Ending.returned (.tuple #[.slice none 0 0, .int .i64 (wrap64 ((p : Int) - (nm.size : Int))), .int .i64 51]) = _; rw [hsub], Kd.R_nil _ _ _ _ _, HI3.out.b⟩
              · have g1 : decide ((nm.size : Int) > 8) = false := decide_eq_false (by omega)
                have g2 : decide (8 < nm.size) = false := decide_eq_false (by omega)
                have g3 : decide ((8 : Int) < (nm.size : Int)) = false := decide_eq_false (by omega)
                have H8 := Aside0.mk h8
                have HST := Aside0.mk (show st < p by have := HP.out.2.2.1; omega)
                clear hnz h8 hst
                go_wp2_with (first | (go_at_call 63; refine (IndexRune_high b HA.out _).mono ?_; rintro e w5 ⟨rfl, hb5⟩; have HJ := Aside0.mk (HI3.out.below hb5); clear hb5) | ((with_reducible refine gate_builtin (b := .append) (xs := #[.tmp 28, .tmp 35]) rfl ?_); at_builtin; refine Kd.R_append k37 (w0 := w) w.heap.size rfl (.tmp 28) (.tmp 35) 23 37 (.agg #[(.int .i64 0), (.int .i64 0), (.string ⟨#[]⟩)]) 32 rfl Tryd.underlying23 info37 rfl (by decide) (by omega) u5 (out.map t37) (t37 (⟨10, (st : Int), nm⟩ : S34)) [.int .i64 10, .int .i64 (st : Int), .string nm] (fun q => q ≠ k) (fun _ => False) rfl rfl ?aP (fun _ hk => hk.elim) ?aF ?aO ?aB ?aS ?aL ?_; (case aP => exact k37_mkM _ _ _ (t37 (⟨10, (st : Int), nm⟩ : S34))); (case aB => exact HI2.out.b); (case aF => exact (fun q hq => by have := HI2.out.lt; omega)); (case aO => exact HI2.out.r); (case aS => exact HI2.out.b.size); (case aL => rw [List.length_map]; have := HP.out.2.2.2.2.1; have := HP.out.2.1; have := HS.out; skip; omega); intro v3 w3 ho hb hg hat; have HI3 := Aside0.mk (HI2.out.append (⟨10, (st : Int), nm⟩ : S34) ho hb hg); clear ho hb hg hat HI2))
                (try rw [Exit.noGoto_ret])
                go_ret3
                have HRL := Aside0.mk (show Lx s p (out ++ [(⟨10, (st : Int), nm⟩ : S34)]) R by rw [HP.out.2.2.2.1]; exact lx_name (HR.out.1 HPS.out) HST.out H8.out HPS.out (fun q h1 h2 => (HN.out q h1 h2).2) (fun h => HLB.out.1))
                have eR := lx_bad (HRL.out) HPL.out HLB.out.1 HLB.out.2.1 HLB.out.2.2
                rw [eR]
                exact ⟨.slice none 0 0, rfl, Kd.R_nil _ _ _ _ _, HJ.out.b⟩
        · skip
          have hnx : ∀ ty, (Instr.next (.pointer (some ⟨k, 0, none⟩)) true ty).run Tryd.prog wr = _ := fun ty => Lib.run_next_end_at wr k S p ty HI.out.it hp
          have eR := HR.out.2 (by have := HSB.out.1; omega)
          obtain ⟨A5, c5, e5, hc5, hC5⟩ := Kd.R_reads HI.out.r
          have HE5 := Aside0.mk (And.intro hc5 hC5)
          subst e5
          have HER := Aside0.mk eR
          clear hp eR hc5 hC5
          go_wp2_with fail
          (try rw [Exit.noGoto_ret])
          go_ret3
          rw [HER.out]
          exact ⟨.slice A5 (out.map t37).length c5, rfl, Kd.R_mono HI.out.r (fun _ _ => trivial), HI.out.b⟩
theorem Lex (s : ByteArray) (R : List S34 × Int × Int) (h : LexIs s R) (w : World) : Calls Tryd.prog 22 #[.string s] w fun e w' => ∃ A c, e = .returned (.tuple #[.slice A R.1.length c, .int .i64 R.2.1, .int .i64 R.2.2]) ∧ R.1.length ≤ c ∧ Kd.C k37 w' A R.1.length (R.1.map t37) ∧ Below w.heap.size w w' := by
  refine (LexR s R h w).mono ?_
  rintro e w' ⟨v, rfl, hR, hB⟩
  obtain ⟨A, c, rfl, h1, h2⟩ := Kd.R_reads hR
  rw [List.length_map] at h1 h2
  exact ⟨A, c, by rw [List.length_map], h1, h2, hB⟩
end Go.Proofs.YtefiadocljnpjaaDoor.Row
