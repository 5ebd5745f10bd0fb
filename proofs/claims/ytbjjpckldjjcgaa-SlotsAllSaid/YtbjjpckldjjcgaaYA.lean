/- The functions of the package crc that the printer does not take: More, Put and Get; their contracts, walked by hand. -/
import Derived.Test.YtbjjpckldjjcgaaH
import Derived.Test.YtbjjpckldjjcgaaYQ
import Derived.ScopeJumps
import Derived.WalkMore
import Derived.LoopN
namespace Go.Proofs.Ytbjjpckldjjcgaa
open Go.RowKit Go.Proofs.YtbjjpckldjjcgaaW.PrintWords Go.Proofs.YtbjjpckldjjcgaaW.PrintLast Go.Proofs.YtbjjpckldjjcgaaW.PrintMore Crc
set_option linter.unusedVariables false
set_option linter.unusedSimpArgs false
attribute [local go_sem] max2_int min2_int max_two min_two max_three min_three max_four min_four

theorem info5 : (Try.prog.info? 5).map (fun i => (i.zero, i.size, i.bytes)) = some (some (.int .u8 0), 1, 1) := by kernel_rfl

/-! ### crc_More: function 11 -/
def crc_More.f (a0 : Int) (l1 : List Int) : Option Int :=
  if 0 ≤ a0 ∧ a0 < 4294967296 ∧ okb l1 = true then some ((cmore a0.toNat l1 : Nat) : Int) else none

def inv32 (a : Nat) : Nat := a ^^^ 4294967295
def citer : Nat → Nat → Nat
  | 0, s => s
  | n + 1, s => cstep (citer n s)
def ccur (l : List Int) (s : Nat) (k bit : Nat) : Nat := if bit = 0 then ccore s (l.take k) else citer bit (ccore s (l.take k) ^^^ (l.getD k 0).toNat)


/-- As 'wp_scope_jumps', the round first: what holds behind the label serves the way in, too. -/
theorem wp_scope_jumps2 {P : Program} {a : Act} {w : World} {Q : Exit → Act → World → Prop} {c rest : Code} (l : Nat) (J : Act → World → Prop) (μ : Act → World → Nat) (hf : findLabel c l = some (.seq .skip rest))
    (pass : ∀ a w, J a w → rest.wp P (Exit.jump l (fun a' w' => J a' w' ∧ μ a' w' < μ a w) Q) a w)
    (first : (∀ a w, J a w → rest.wp P (Exit.jump l J Q) a w) → c.wp P (Exit.jump l J Q) a w) : (Code.scope c).wp P Q a w := by
  refine wp_scope_jumps l J μ hf (first fun a w h => Code.wp_mono (fun e a' w' q => ?_) (pass a w h)) (fun a w h => ?_)
  · cases e with
    | goto m => exact ⟨q.1, q.2.1⟩
    | _ => exact q
  · apply wp_seq_k
    intro K hK
    apply wp_skip
    simp only [Exit.then]
    exact hK _ _ (pass a w h)

theorem bits_u32_nat (a b : Nat) (ha : a < 4294967296) (hb : b < 4294967296) : bits .xor .u32 (a : Int) (b : Int) = ((a ^^^ b : Nat) : Int) := by
  have hx : a ^^^ b < 2 ^ 32 := Nat.xor_lt_two_pow (by omega) (by omega)
  have h1 : (BitVec.ofInt 32 (a : Int)).toNat = a := by
    rw [BitVec.ofInt_natCast, BitVec.toNat_ofNat]; exact Nat.mod_eq_of_lt (by omega)
  have h2 : (BitVec.ofInt 32 (b : Int)).toNat = b := by
    rw [BitVec.ofInt_natCast, BitVec.toNat_ofNat]; exact Nat.mod_eq_of_lt (by omega)
  show IntKind.u32.wrap ((BitVec.ofInt 32 (a : Int) ^^^ BitVec.ofInt 32 (b : Int)).toNat : Int) = _
  rw [BitVec.toNat_xor, h1, h2, IntKind.wrap_u32]
  omega
theorem u32_byte (v : Nat) (y : Int) (hv : v < 4294967296) (h0 : 0 ≤ y) (h1 : y < 256) : bits .xor .u32 (v : Int) (y % 4294967296) = ((v ^^^ y.toNat : Nat) : Int) := by
  obtain ⟨b, rfl⟩ := Int.eq_ofNat_of_zero_le h0
  rw [show ((b : Int) % 4294967296) = (b : Int) from by omega, Int.toNat_natCast, bits_u32_nat v b hv (by omega)]
theorem u32_not (v : Nat) (hv : v < 4294967296) : bits .xor .u32 IntKind.u32.max (v : Int) = ((inv32 v : Nat) : Int) := by
  have : (IntKind.u32.max : Int) = ((4294967295 : Nat) : Int) := by decide
  rw [this, bits_u32_nat _ _ (by decide) hv, Nat.xor_comm]
  rfl
theorem u32_step (s : Nat) (hs : s < 4294967296) :
    bits .xor .u32 ((s : Int) / 2) (bits .and .u32 3988292384 (-bits .and .u32 (s : Int) 1 % 4294967296)) = ((cstep s : Nat) : Int) := by
  have h1 : bits .and .u32 (s : Int) 1 = (s : Int) % 2 := by
    have := bits_mask .u32 32 (by decide) (fun n h0 h1 => by rw [IntKind.wrap_u32]; omega) 1 (by decide) (s : Int) (by omega) (by omega)
    simpa using this
  have hand : ∀ x : Nat, x < 4294967296 → bits .and .u32 3988292384 (x : Int) = ((3988292384 &&& x : Nat) : Int) := by
    intro x hx
    exact (bits_nat .u32 32 (by decide) (fun n h0 h1 => by rw [IntKind.wrap_u32]; omega) 3988292384 x (by decide) (by omega)).1
  have hdiv : ((s : Int) / 2) = ((s / 2 : Nat) : Int) := by omega
  rw [h1, hdiv]
  unfold cstep
  by_cases ho : s % 2 = 1
  · rw [if_pos ho, show (-((s : Int) % 2) % 4294967296) = ((4294967295 : Nat) : Int) from by omega, hand _ (by decide), show (3988292384 &&& 4294967295 : Nat) = 3988292384 from by decide]
    exact bits_u32_nat _ _ (by omega) (by decide)
  · rw [if_neg ho, show (-((s : Int) % 2) % 4294967296) = ((0 : Nat) : Int) from by omega, hand _ (by decide), show (3988292384 &&& 0 : Nat) = 0 from by decide, bits_u32_nat _ _ (by omega) (by decide), Nat.xor_zero]

theorem citer_lt (n : Nat) : ∀ s, s < 4294967296 → citer n s < 4294967296 := by
  induction n with
  | zero => intro s h; exact h
  | succ n ih => intro s h; exact cstep_lt (ih s h)
theorem rd_getD (l : List Int) (k : Nat) : rd l (k : Int) = l.getD k 0 := by simp [rd]
theorem ccur_lt (l : List Int) (s k bit : Nat) (hs : s < 4294967296) (hl : okb l = true) : ccur l s k bit < 4294967296 := by
  have h1 := ccore_lt (l.take k) s hs ((okb_iff _).1 (okb_take l k hl))
  unfold ccur; split
  · exact h1
  · refine citer_lt _ _ (xor_lt32 h1 ?_)
    by_cases hk : k < l.length
    · have := ((okb_iff l).1 hl) (l[k]) (List.getElem_mem hk)
      simp only [List.getD_eq_getElem?_getD, List.getElem?_eq_getElem hk, Option.getD_some]; omega
    · simp [List.getD_eq_getElem?_getD, List.getElem?_eq_none (show l.length ≤ k by omega)]
theorem byte_at (l : List Int) (k : Nat) (hl : okb l = true) (hk : k < l.length) : 0 ≤ rd l (k : Int) ∧ rd l (k : Int) < 256 := by
  have := ((okb_iff l).1 hl) (l[k]) (List.getElem_mem hk)
  rw [rd_getD]
  simp only [List.getD_eq_getElem?_getD, List.getElem?_eq_getElem hk, Option.getD_some]; exact this
theorem ccur_start (l : List Int) (s k : Nat) : cstep (ccur l s k 0 ^^^ (rd l (k : Int)).toNat) = ccur l s k 1 := by
  rw [rd_getD]; simp [ccur, citer]
theorem ccur_next (l : List Int) (s k bit : Nat) (h : bit ≠ 0) : cstep (ccur l s k bit) = ccur l s k (bit + 1) := by
  simp [ccur, citer, h]
theorem ccur_done (l : List Int) (s k : Nat) (hk : k < l.length) : cstep (ccur l s k 7) = ccur l s (k + 1) 0 := by
  simp only [ccur, citer, if_neg (show ¬ (7 = 0) from by decide), if_true]
  rw [List.take_succ_eq_append_getElem hk, ccore_append]
  simp [ccore, cbyte, cstep8, List.getD_eq_getElem?_getD, List.getElem?_eq_getElem hk]
theorem ccur_end (l : List Int) (a : Nat) : inv32 (ccur l (inv32 a) l.length 0) = cmore a l := by
  simp [ccur, inv32, cmore]
theorem inv32_lt (a : Nat) (h : a < 4294967296) : inv32 a < 4294967296 := xor_lt32 h (by decide)

set_option maxRecDepth 100000 in
theorem crc_More.calls (a0 : Int) (A1 : Option Addr) (c1 : Nat) (l1 : List Int) (r : Int) (w : World) (hr1 : Kd.C (Kd.int .u8) w A1 l1.length l1) (hc1 : l1.length ≤ c1) (h : crc_More.f a0 l1 = some r) :
    Calls Try.prog 53 #[.int .u32 a0, .slice A1 l1.length c1] w fun e w' => e = .returned (.int .u32 r) ∧ Drawn0 w w' := by
  unfold crc_More.f at h
  split at h
  case isFalse => cases h
  rename_i hg
  obtain ⟨h0, h32, hb⟩ := hg
  obtain rfl := Option.some.inj h
  clear h
  obtain ⟨a, rfl⟩ := Int.eq_ofNat_of_zero_le h0
  rw [Int.toNat_natCast]
  have hm := Kd.C_max hr1
  have HR := Aside0.mk hr1; clear hr1
  have HB := Aside0.mk hb; clear hb
  have H32 := Aside0.mk h32; clear h32
  go_enter Try.func53, Try.ntmps53
  go_wp2_with fail
  refine wp_scope_jumps2 0 (fun a' w' => Drawn0 w w' ∧ ∃ (k bit : Nat) (u7 u8 u9 u10 u11 u12 u13 u14 u15 u16 u17 u18 u19 u20 u21 u22 u23 u24 u25 u26 u27 u28 u29 u30 u31 u32 u33 u34 u35 u36 : Value), a' = { tmps := #[.int .u32 (ccur l1 (inv32 a) k bit : Nat), .slice A1 l1.length c1, undef, undef, .int .u32 0, .int .i64 k, .int .i64 bit, u7, u8, u9, u10, u11, u12, u13, u14, u15, u16, u17, u18, u19, u20, u21, u22, u23, u24, u25, u26, u27, u28, u29, u30, u31, u32, u33, u34, u35, u36], defers := [] } ∧ k ≤ l1.length ∧ bit < 8 ∧ (0 < bit → k < l1.length)) (fun a' _ => (l1.length - (intOf (a'.tmps.getD 5 undef)).toNat) * 8 - (intOf (a'.tmps.getD 6 undef)).toNat) rfl ?_ ?_
  · rintro a' w' ⟨⟨n, rfl⟩, k, bit, u7, u8, u9, u10, u11, u12, u13, u14, u15, u16, u17, u18, u19, u20, u21, u22, u23, u24, u25, u26, u27, u28, u29, u30, u31, u32, u33, u34, u35, u36, rfl, hk, hbit, hlt⟩
    by_cases hkl : k < l1.length
    · obtain ⟨ad, rfl, hcell⟩ := Kd.at_int HR.out (k : Int) (by omega) (by omega)
      rw [Int.toNat_natCast] at hcell
      clear hlt
      have hvl := ccur_lt l1 (inv32 a) k bit (inv32_lt a (by have := H32.out; omega)) HB.out
      have hyb := byte_at l1 k HB.out hkl
      by_cases h0 : bit = 0
      · subst h0
        have hs := ccur_start l1 (inv32 a) k
        obtain ⟨v, hv⟩ : ∃ v, v = ccur l1 (inv32 a) k 0 := ⟨_, rfl⟩
        rw [← hv] at hvl hs ⊢
        obtain ⟨y, hy⟩ : ∃ y, y = rd l1 (k : Int) := ⟨_, rfl⟩
        rw [← hy] at hcell hyb hs
        clear hy hv
        have e1 := u32_byte v y hvl hyb.1 hyb.2
        have e2 := u32_step (v ^^^ y.toNat) (xor_lt32 hvl (by omega))
        rw [← e1, hs] at e2
        have E := Aside0.mk e2; clear e2 e1 hs hvl hyb
        go_wp2
        go_step3
        rw [E.out]
        exact ⟨rfl, ⟨⟨_, rfl⟩, k, 1, _, _, _, _, _, _, _, _, _, _, _, _, _, _, _, _, _, _, _, _, _, _, _, _, _, _, _, _, _, _, rfl, ⟨by omega, by omega, fun _ => hkl⟩⟩, by simp [intOf]; omega⟩
      · by_cases h7 : bit = 7
        · subst h7
          have hs := ccur_done l1 (inv32 a) k hkl
          obtain ⟨v, hv⟩ : ∃ v, v = ccur l1 (inv32 a) k 7 := ⟨_, rfl⟩
          rw [← hv] at hvl hs ⊢
          clear hv h0
          have e2 := u32_step v hvl
          rw [hs] at e2
          have E := Aside0.mk e2; clear e2 hs hvl hyb
          go_wp2
          go_step3
          rw [E.out]
          exact ⟨rfl, ⟨⟨_, rfl⟩, k + 1, 0, _, _, _, _, _, _, _, _, _, _, _, _, _, _, _, _, _, _, _, _, _, _, _, _, _, _, _, _, _, _, rfl, ⟨by omega, by omega, fun h => by omega⟩⟩, by simp [intOf]; omega⟩
        · have hs := ccur_next l1 (inv32 a) k bit h0
          obtain ⟨v, hv⟩ : ∃ v, v = ccur l1 (inv32 a) k bit := ⟨_, rfl⟩
          rw [← hv] at hvl hs ⊢
          clear hv
          have e2 := u32_step v hvl
          rw [hs] at e2
          have E := Aside0.mk e2; clear e2 hs hvl hyb
          have b0 : ((bit : Int) == 0) = false := by simp; omega
          have b7 : ((bit : Int) + 1 == 8) = false := by simp; omega
          go_wp2
          go_step3
          rw [E.out]
          exact ⟨rfl, ⟨⟨_, rfl⟩, k, bit + 1, _, _, _, _, _, _, _, _, _, _, _, _, _, _, _, _, _, _, _, _, _, _, _, _, _, _, _, _, _, _, rfl, ⟨by omega, by omega, fun _ => hkl⟩⟩, by simp [intOf]; omega⟩
    · obtain rfl : k = l1.length := by omega
      obtain rfl : bit = 0 := by omega
      have hs := ccur_end l1 a
      have hvl := ccur_lt l1 (inv32 a) l1.length 0 (inv32_lt a (by have := H32.out; omega)) HB.out
      obtain ⟨v, hv⟩ : ∃ v, v = ccur l1 (inv32 a) l1.length 0 := ⟨_, rfl⟩
      rw [← hv] at hvl hs ⊢
      have e := u32_not v hvl
      rw [hs] at e
      have E := Aside0.mk e; clear e hs hvl hv hlt hkl
      go_wp2
      (try simp only [Exit.jump])
      go_ret
      exact ⟨by rw [← E.out]; rfl, ⟨_, rfl⟩⟩
  · intro key
    have e0 := u32_not a (by have := H32.out; omega)
    have es : ccur l1 (inv32 a) 0 0 = inv32 a := by simp [ccur, ccore]
    have E0 := Aside0.mk e0; clear e0
    have ES := Aside0.mk es; clear es
    have KEY := Aside0.mk key; clear key
    go_wp2_with fail
    go_step3
    rw [E0.out]
    go_step
    go_step
    rw [← ES.out]
    exact KEY.out _ _ ⟨Drawn0.refl _, 0, 0, _, _, _, _, _, _, _, _, _, _, _, _, _, _, _, _, _, _, _, _, _, _, _, _, _, _, _, _, _, _, rfl, Nat.zero_le _, by omega, fun h => by omega⟩
end Go.Proofs.Ytbjjpckldjjcgaa
