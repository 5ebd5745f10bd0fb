/- The law CrcBits: its walk. One bit of a frame is turned. -/
import Derived.Test.YtigaemjkdgpceaaM0
import Derived.StillTailTactics
namespace Go.Proofs.Ytigaemjkdgpceaa
open Go.RowKit Go.Proofs.YtigaemjkdgpceaaW.PrintWords Go.Proofs.YtigaemjkdgpceaaW.PrintLast Go.Proofs.YtigaemjkdgpceaaW.PrintMore Crc PK Ref
set_option linter.unusedVariables false
set_option linter.unusedSimpArgs false

theorem crc_Open.m (A0 : Option Addr) (n c0 : Nat) (l0 : List Int) (r1 : Int) (r2 : List Int) (r3 : Bool) (w : World) (hn : l0.length = n) (hr0 : Kd.C (Kd.int .u8) w A0 l0.length l0) (hc0 : n ≤ c0) (h : crc_Open.f l0 = some (r1, r2, r3)) :
    Calls Try.prog 21 #[.slice A0 n c0] w fun e w' => ∃ v1_ : Value, e = .returned (.tuple #[.int .u64 r1, v1_, .bool r3]) ∧ Kd.R (Kd.int .u8) 5 w' w.heap.size (fun _ => True) v1_ r2 ∧ Below w.heap.size w w' := by
  subst hn
  exact crc_Open.calls A0 c0 l0 r1 r2 r3 w hr0 hc0 h
theorem and7 (z : Int) : ∃ j : Nat, j ≤ 7 ∧ bits .and .i64 z 7 = (j : Int) := by
  refine ⟨(BitVec.ofInt 64 z).toNat &&& 7, Nat.and_le_right, ?_⟩
  have h7 : (BitVec.ofInt 64 (7 : Int)).toNat = 7 := by decide
  have hle : (BitVec.ofInt 64 z).toNat &&& 7 ≤ 7 := Nat.and_le_right
  show IntKind.i64.wrap ((BitVec.ofInt 64 z &&& BitVec.ofInt 64 (7 : Int)).toNat : Int) = _
  rw [BitVec.toNat_and, h7, IntKind.wrap_i64]
  omega
theorem xor8 (a b : Nat) (ha : a < 256) (hb : b < 256) : bits .xor .u8 (a : Int) (b : Int) = ((a ^^^ b : Nat) : Int) := by
  have hx : a ^^^ b < 2 ^ 8 := Nat.xor_lt_two_pow (by omega) (by omega)
  have h1 : (BitVec.ofInt 8 (a : Int)).toNat = a := by
    rw [BitVec.ofInt_natCast, BitVec.toNat_ofNat]; exact Nat.mod_eq_of_lt (by omega)
  have h2 : (BitVec.ofInt 8 (b : Int)).toNat = b := by
    rw [BitVec.ofInt_natCast, BitVec.toNat_ofNat]; exact Nat.mod_eq_of_lt (by omega)
  show IntKind.u8.wrap ((BitVec.ofInt 8 (a : Int) ^^^ BitVec.ofInt 8 (b : Int)).toNat : Int) = _
  rw [BitVec.toNat_xor, h1, h2, IntKind.wrap_u8]
  omega

set_option maxRecDepth 100000 in
set_option maxHeartbeats 2000000 in
theorem redresslaw16_CrcBits.any (n : Nat) (A0 : Option Addr) (c0 : Nat) (l0 : List Int) (z0 z1 : Int) (w : World) (hn : n < 18446744073709551616)
    (hr0 : Kd.C (Kd.int .u8) w A0 l0.length l0) (hc0 : l0.length ≤ c0) (hb0 : okb l0 = true) :
    Calls Try.prog 8 #[.int .u64 (n : Int), .slice A0 l0.length c0, .agg #[.int .i64 z0, .int .i64 z1]] w fun e w' => e = .returned (.bool true) ∧ Below w.heap.size w w' := by
  have hm0 := Kd.C_max hr0
  have HR1 := Aside0.mk hr0; clear hr0
  have HO := Aside0.mk hb0; clear hb0
  by_cases g0 : ¬ ((l0.length : Int) ≤ 2100)
  · have g0' : decide ((l0.length : Int) ≤ 2100) = false := by simpa using g0
    go_enter Try.func8, Try.ntmps8
    go_wp2_with fail
    refine (few.n _ _ _ l0 _ rfl (Kd.C_alloc HR1.out _) hc0).mono ?_; rw [g0']; rintro e w1 ⟨rfl, ⟨n1, rfl⟩⟩
    go_wp2_with fail
    refine (redresslaw16_alive.any _).mono ?_; rintro e w1 ⟨rfl, h1⟩
    go_wp2_with fail
    go_ret
    exact ⟨rfl, Aid.bthen (Aid.bdrew (Aid.balloc (Below.refl _ _) _) _) h1⟩
  have g0' : decide ((l0.length : Int) ≤ 2100) = true := by simpa using g0
  have g2 : l0.length ≤ 2100 := by omega
  clear g0
  go_enter Try.func8, Try.ntmps8
  go_wp2_with fail
  refine (few.n _ _ _ l0 _ rfl (Kd.C_alloc HR1.out _) hc0).mono ?_; rw [g0']; rintro e w1 ⟨rfl, ⟨n1, rfl⟩⟩
  go_wp2_with fail
  obtain ⟨wB, hwB⟩ : ∃ wB, wB = ((w.alloc (Obj.cells #[Value.int IntKind.i64 z0, Value.int IntKind.i64 z1] 41)).drewN n1) := ⟨_, rfl⟩
  rw [← hwB]
  have HBB := Aside0.mk (show Below w.heap.size w wB by rw [hwB]; exact Aid.bdrew (Aid.balloc (Below.refl _ _) _) _)
  have hblk : wB.heap[w.heap.size]? = some (Obj.cells #[Value.int IntKind.i64 z0, Value.int IntKind.i64 z1] 41) := by
    rw [hwB]
    show (w.heap.push _)[w.heap.size]? = _
    exact Array.getElem?_push_size
  have hsz : w.heap.size < wB.heap.size := by rw [hwB]; simp
  have HBK := Aside0.mk hblk
  clear hwB hblk
  by_cases g3 : l0.length > 2048
  · have F0 : crc_Frame.f (n : Int) l0 = some ([], false) := by unfold crc_Frame.f; rw [if_pos (by omega)]
    refine (crc_Frame.calls _ _ _ l0 _ _ wB (Kd.C_below HR1.out HBB.out) hc0 F0).mono ?_; rintro e w2 ⟨v, rfl, hR, hb2⟩
    have d3 : decide ((2048 : Int) < (l0.length : Int)) = true := decide_eq_true (by omega)
    go_wp2_with fail
    refine (redresslaw16_alive.any _).mono ?_; rintro e w1 ⟨rfl, h1⟩
    go_wp2_with fail
    go_ret
    exact ⟨rfl, Aid.bthen (Aid.bthen HBB.out hb2) h1⟩
  have F0 := crcFrame n l0 hn HO.out (by omega)
  have hfl := framel_length n l0
  obtain ⟨f, hf⟩ : ∃ f, framel n l0 = f := ⟨_, rfl⟩
  rw [hf] at F0 hfl
  have HF := Aside0.mk hf; clear hf
  refine (crc_Frame.calls _ _ _ l0 _ _ wB (Kd.C_below HR1.out HBB.out) hc0 F0).mono ?_; rintro e w2 ⟨v, rfl, hR, hb2⟩
  have HZ0 := Aside0.mk (show w2.cell? ⟨w.heap.size, 0, none⟩ = some (.int .i64 z0) by have := hb2.block _ hsz; simp [World.cell?, this, HBK.out])
  have HB2 := Aside0.mk (Aid.bthen HBB.out hb2)
  have HR := Aside0.mk hR
  obtain ⟨A2, c2, hv⟩ := Kd.R_slice hR
  have hc2 := (Kd.R_reads hR)
  subst hv
  clear hR hc2
  have d16 : decide ((f.length : Int) < 16) = false := by simp; omega
  have hcell := HZ0.out
  have hcell1 : w2.cell? ⟨w.heap.size, 1, none⟩ = some (.int .i64 z1) := by have := hb2.block _ hsz; simp [World.cell?, this, HBK.out]
  have hl0 : ¬ ((f.length : Int) = 0) := by omega
  have HFL := Aside0.mk hfl; clear hfl
  obtain ⟨k, hk, hkl⟩ : ∃ k : Nat, (z0.tmod (f.length : Int) = (k : Int) ∨ (z0.tmod (f.length : Int) = -(k : Int) ∧ 0 < k)) ∧ k < f.length := by
    have h1 := Int.tmod_lt_of_pos z0 (show (0 : Int) < (f.length : Int) by omega)
    have h2 : -(f.length : Int) < z0.tmod (f.length : Int) := Int.lt_tmod_of_pos z0 (by omega)
    rcases Int.lt_or_le (z0.tmod (f.length : Int)) 0 with h | h
    · exact ⟨(-(z0.tmod (f.length : Int))).toNat, .inr ⟨by omega, by omega⟩, by omega⟩
    · exact ⟨(z0.tmod (f.length : Int)).toNat, .inl (by omega), by omega⟩
  have hw : wrap64 (k : Int) = (k : Int) := by unfold wrap64; have := HFL.out; omega
  have p0 : (0 : Int) ≤ (k : Int) := by omega
  have q0 : (k : Int) < (f.length : Int) := by omega
  obtain ⟨ad130, e130, hx⟩ := Kd.at_int (Kd.R_reads' HR.out).2.2 (k : Int) p0 q0
  cases e130
  obtain ⟨go17, co17, eo17, gb17, gl17, cl17, HG17⟩ := Kd.R_form HR.out (by omega)
  (first | cases eo17 | (injection eo17 with ea_ en_ ec_; (first | subst ea_ | (injection ea_ with ea_; subst ea_)); subst ec_; clear en_))
  have GB17 := Aside0.mk gb17
  have GG17 := Aside0.mk HG17
  clear gb17 gl17 HG17
  (first | simp only [add_plain] at hx | skip)
  obtain ⟨hx17_0, hf17_0⟩ := Kd.R_celln 0 HR.out (k : Int) p0 q0
  simp only [Int.toNat_natCast] at hx hx17_0 hf17_0
  obtain ⟨j, hj, hband⟩ := and7 z1
  have hfk : 0 ≤ rd f (k : Int) ∧ rd f (k : Int) < 256 := by
    have := framel_okb n l0 HO.out
    rw [HF.out, okb_iff] at this
    have e : rd f (k : Int) = f[k] := by simp [rd, List.getD_eq_getElem?_getD, hkl]
    rw [e]; exact this _ (List.getElem_mem hkl)
  obtain ⟨a, ha⟩ : ∃ a : Nat, rd f (k : Int) = (a : Int) := ⟨(rd f (k : Int)).toNat, by omega⟩
  have hp2 : 2 ^ j < 256 := by
    have : 2 ^ j ≤ 2 ^ 7 := Nat.pow_le_pow_right (by decide) hj
    omega
  obtain ⟨x, hxd⟩ : ∃ x : Nat, x = a ^^^ 2 ^ j := ⟨_, rfl⟩
  have hX : bits .xor .u8 (a : Int) ((2 : Int) ^ j % 256) = (x : Int) := by
    have : ((2 : Int) ^ j % 256) = ((2 ^ j : Nat) : Int) := by
      have : ((2 : Int) ^ j) = ((2 ^ j : Nat) : Int) := by norm_cast
      rw [this]; exact Int.emod_eq_of_lt (Int.natCast_nonneg _) (by exact_mod_cast hp2)
    rw [this, xor8 _ _ (by omega) hp2, hxd]
  have hx256 : x < 256 := by rw [hxd]; exact Nat.xor_lt_two_pow (n := 8) (by omega) hp2
  have hxa : x ≠ a := by
    intro e
    rw [hxd] at e
    have h0 : a ^^^ 2 ^ j = a ^^^ 0 := by rw [Nat.xor_zero]; exact e
    have := xor_left_inj h0
    have h1 := Nat.two_pow_pos j
    omega
  clear hxd
  have HP := Kd.R_putg HR.out (k : Int) (x : Int)
  simp only [Int.toNat_natCast] at HP
  have HPA := Aside0.mk HP; clear HP
  by_cases h812 : 8 ≤ k ∧ k < 12
  · have c8 : decide ((8 : Int) ≤ (k : Int)) = true := decide_eq_true (by omega)
    have c12 : decide ((k : Int) < 12) = true := decide_eq_true (by omega)
    rcases hk with hk | ⟨hk, hk0⟩
    all_goals
      go_wp2_with fail
      refine (redresslaw16_alive.any _).mono ?_; rintro e w1 ⟨rfl, h1⟩
      go_wp2_with fail
      go_ret
      exact ⟨rfl, Aid.bthen HB2.out h1⟩
  have HH := Aside0.mk h812
  have hc : (decide ((8 : Int) ≤ (k : Int)) = false) ∨ (decide ((8 : Int) ≤ (k : Int)) = true ∧ decide ((k : Int) < 12) = false) := by
    by_cases h : 8 ≤ k
    · exact .inr ⟨decide_eq_true (by omega), decide_eq_false (by omega)⟩
    · exact .inl (decide_eq_false (by omega))
  clear h812
  have hob := open_bit n l0 k (x : Int) hn HO.out (by omega) (by rw [HF.out]; exact hkl) HH.out ⟨by omega, by omega⟩ (by
    rw [HF.out]
    intro e
    have e2 : rd f (k : Int) = f.getD k 0 := by simp [rd]
    rw [← e2, ha] at e
    omega)
  rw [HF.out] at hob
  obtain ⟨⟨q, d, is⟩, hop⟩ : ∃ y, openl (f.set k (x : Int)) = y := ⟨_, rfl⟩
  rw [hop] at hob
  have OP := Aside0.mk (show crc_Open.f (f.set k (x : Int)) = some (q, d, false) by
    unfold crc_Open.f
    rw [if_pos (okb_set _ _ _ (by have := framel_okb n l0 HO.out; rwa [HF.out] at this) ⟨by omega, by omega⟩), hop]
    simp only [] at hob
    rw [hob])
  clear hob hop
  rcases hk with hk | ⟨hk, hk0⟩
  all_goals
    rcases hc with c8 | ⟨c8, c12⟩
    all_goals
      go_wp2_with fail
      go_still_tail 10, (by kernel_rfl)
      go_wp2_with fail
      have hr4 : Kd.R (Kd.int .u8) 5 ((w2.setCell ⟨go17, k, none⟩ (Value.int IntKind.u8 (x : Int))).drew) wB.heap.size (fun _ => True) (.slice (some ⟨go17, 0, none⟩) f.length c2) (f.set k (x : Int)) := Kd.R_drew HPA.out.1
      have hb4 : Below w.heap.size w ((w2.setCell ⟨go17, k, none⟩ (Value.int IntKind.u8 (x : Int))).drew) := Aid.bdrew (below_set HB2.out (Nat.le_trans HBB.out.size GB17.out)) 1
      refine (crc_Open.m (some ⟨go17, 0, none⟩) f.length c2 (f.set k (x : Int)) _ _ _ _ List.length_set (Kd.R_reads' hr4).2.2 (Kd.R_reads' hr4).2.1 OP.out).mono ?_
      rintro e w5 ⟨v5, rfl, hR5, hb5⟩
      have HB5 := Aside0.mk (Aid.bthen hb4 hb5)
      clear hr4 hb4 hR5 hb5
      go_wp2_with fail
      refine (redresslaw16_alive.any _).mono ?_; rintro e w1 ⟨rfl, h1⟩
      go_wp2_with fail
      go_ret
      exact ⟨rfl, Aid.bthen HB5.out h1⟩
end Go.Proofs.Ytigaemjkdgpceaa
