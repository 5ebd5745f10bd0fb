/- What the references of the package crc compute, as printed, in the words of the plain arithmetic. -/
import Derived.Test.YtigaemjkdgpceaaPKx8
import Derived.Test.YtigaemjkdgpceaaPKx7
import Derived.Test.YtigaemjkdgpceaaPKx3
import Derived.Test.YtigaemjkdgpceaaPKx2
namespace Go.Proofs.Ytigaemjkdgpceaa.Ref
open Go.RowKit Go.Proofs.Ytigaemjkdgpceaa Go.Proofs.YtigaemjkdgpceaaW.PrintWords Go.Proofs.YtigaemjkdgpceaaW.PrintLast Go.Proofs.YtigaemjkdgpceaaW.PrintMore Crc PK

theorem w64 (i : Nat) (h : i ≤ 1000000) : wrap64 ((i : Int) + 1) = ((i + 1 : Nat) : Int) := by unfold wrap64; omega
theorem rd_at (l : List Int) (k : Nat) (h : k < l.length) : rd l (k : Int) = l[k] := by
  simp [rd, List.getElem?_eq_getElem h]

/-! Same -/
theorem same_l (a b : List Int) (hl : a.length = b.length) (hm : a.length ≤ 100000) (d : Nat) : ∀ (k i : Nat), i + d = a.length → d < k → a.take i = b.take i → redressref16_Same.l0 k a b i = some (decide (a = b)) := by
  induction d with
  | zero =>
    intro k i hi hk he
    obtain ⟨k, rfl⟩ : ∃ m, k = m + 1 := ⟨k - 1, by omega⟩
    simp only [redressref16_Same.l0]
    rw [if_neg (by omega)]
    rw [List.take_of_length_le (by omega), List.take_of_length_le (by omega)] at he
    simp [he]
  | succ d ih =>
    intro k i hi hk he
    obtain ⟨k, rfl⟩ : ∃ m, k = m + 1 := ⟨k - 1, by omega⟩
    simp only [redressref16_Same.l0]
    rw [if_pos (by omega), if_pos (by omega), if_pos (by omega), rd_at a i (by omega), rd_at b i (by omega)]
    by_cases hx : a[i]'(by omega) = b[i]'(by omega)
    · rw [if_pos hx, w64 i (by omega)]
      exact ih k (i + 1) (by omega) (by omega) (by rw [List.take_succ_eq_append_getElem (by omega), List.take_succ_eq_append_getElem (by omega), he, hx])
    · rw [if_neg hx]
      have : a ≠ b := fun h => hx (by subst h; rfl)
      simp [this]
theorem same (a b : List Int) (k : Nat) (hm : a.length ≤ 100000) (hk : a.length < k) : redressref16_Same.f k a b = some (decide (a = b)) := by
  unfold redressref16_Same.f
  by_cases hl : a.length = b.length
  · rw [if_pos (by omega)]
    exact same_l a b hl hm a.length k 0 (by omega) hk rfl
  · rw [if_neg (by omega)]
    have : a ≠ b := fun h => hl (by rw [h])
    simp [this]

/-! the sums -/
theorem bits_step (s : Nat) (hs : s < 4294967296) (K : Int → Option Int) :
    (if Int.tmod (s : Int) 2 = 1 then K (Go.bits .xor .u32 ((Int.tdiv (s : Int) 2) % 4294967296) 3988292384) else K ((Int.tdiv (s : Int) 2) % 4294967296)) = K ((cstep s : Nat) : Int) := by
  have h1 : Int.tmod (s : Int) 2 = (s : Int) % 2 := Int.tmod_eq_emod_of_nonneg (by omega)
  have h2 : Int.tdiv (s : Int) 2 = (s : Int) / 2 := Int.tdiv_eq_ediv_of_nonneg (by omega)
  rw [h1, h2, show ((s : Int) / 2 % 4294967296) = ((s / 2 : Nat) : Int) from by omega]
  unfold cstep
  by_cases ho : s % 2 = 1
  · rw [if_pos (by omega), if_pos ho]
    congr 1
    exact bits_u32_nat _ _ (by omega) (by decide)
  · rw [if_neg (by omega), if_neg ho]
theorem bits_l (d : Nat) : ∀ (k i s : Nat), i + d = 8 → d < k → s < 4294967296 → redressref16_bits.l0 k s i = some ((citer d s : Nat) : Int) := by
  induction d with
  | zero =>
    intro k i s hi hk hs
    obtain ⟨k, rfl⟩ : ∃ m, k = m + 1 := ⟨k - 1, by omega⟩
    simp only [redressref16_bits.l0]
    rw [if_neg (by omega)]
    rfl
  | succ d ih =>
    intro k i s hi hk hs
    obtain ⟨k, rfl⟩ : ∃ m, k = m + 1 := ⟨k - 1, by omega⟩
    simp only [redressref16_bits.l0]
    rw [if_pos (by omega), w64 i (by omega), bits_step s hs (fun x => redressref16_bits.l0 k x ((i + 1 : Nat) : Int)), ih k (i + 1) _ (by omega) (by omega) (cstep_lt hs)]
    congr 2
    clear ih hk hi
    induction d with
    | zero => rfl
    | succ d ih => simp only [citer] at ih ⊢; rw [ih]
theorem citer8 (s : Nat) : citer 8 s = cstep8 s := rfl
theorem more_l (l : List Int) (hb : okb l = true) (hm : l.length ≤ 100000) (d : Nat) : ∀ (k i s : Nat), i + d = l.length → d + 9 < k → s < 4294967296 →
    redressref16_More.l0 k s l i = some ((inv32 (ccore s (l.drop i)) : Nat) : Int) := by
  induction d with
  | zero =>
    intro k i s hi hk hs
    obtain ⟨k, rfl⟩ : ∃ m, k = m + 1 := ⟨k - 1, by omega⟩
    simp only [redressref16_More.l0]
    rw [if_neg (by omega), List.drop_of_length_le (by omega)]
    congr 1
    exact bits_u32_nat _ _ hs (by decide)
  | succ d ih =>
    intro k i s hi hk hs
    obtain ⟨k, rfl⟩ : ∃ m, k = m + 1 := ⟨k - 1, by omega⟩
    have hx := ((okb_iff l).1 hb) (l[i]'(by omega)) (List.getElem_mem (by omega))
    simp only [redressref16_More.l0]
    rw [if_pos (by omega), if_pos (by omega), rd_at l i (by omega), u32_byte s _ hs hx.1 hx.2]
    have hlt : s ^^^ (l[i]'(by omega)).toNat < 4294967296 := xor_lt32 hs (by omega)
    have hB : redressref16_bits.f k ((s ^^^ (l[i]'(by omega)).toNat : Nat) : Int) = some ((cbyte s (l[i]'(by omega)) : Nat) : Int) := bits_l 8 k 0 _ (by omega) (by omega) hlt
    rw [hB]
    simp only [Option.bind_some]
    rw [w64 i (by omega), ih k (i + 1) _ (by omega) (by omega) (cbyte_lt hs _ hx.2)]
    rw [show l.drop i = l[i]'(by omega) :: l.drop (i + 1) from (List.getElem_cons_drop (by omega)).symm]
    rfl
theorem more (l : List Int) (s k : Nat) (hb : okb l = true) (hm : l.length ≤ 100000) (hk : l.length + 9 < k) (hs : s < 4294967296) : redressref16_More.f k s l = some ((cmore s l : Nat) : Int) := by
  unfold redressref16_More.f
  have := bits_u32_nat s 4294967295 hs (by decide)
  rw [show (4294967295 : Int) = ((4294967295 : Nat) : Int) from rfl, this, show (0 : Int) = ((0 : Nat) : Int) from rfl, more_l l hb hm l.length k 0 _ (by omega) (by omega) (xor_lt32 hs (by decide))]
  rfl

/-! the bytes of numbers -/
theorem put_l (m : Nat) (b : Int) (d : Nat) : ∀ (k i n : Nat) (acc : List Int), m ≤ 8 → i + d = m → ((m : Int) = b ∨ (m = 8 ∧ 8 < b) ∨ (m = 0 ∧ b < 0)) → d < k → n < 18446744073709551616 → acc.length = i →
    redressref16_Put.l0 k n b acc i = some (acc ++ putl n d) := by
  induction d with
  | zero =>
    intro k i n acc h8 hi hb hk hn ha
    obtain ⟨k, rfl⟩ : ∃ m, k = m + 1 := ⟨k - 1, by omega⟩
    simp only [redressref16_Put.l0, putl, List.append_nil]
    by_cases h1 : (i : Int) < b
    · rw [if_pos h1, if_neg (by omega)]
    · rw [if_neg h1]
  | succ d ih =>
    intro k i n acc h8 hi hb hk hn ha
    obtain ⟨k, rfl⟩ : ∃ m, k = m + 1 := ⟨k - 1, by omega⟩
    simp only [redressref16_Put.l0]
    have e1 : Int.tmod (n : Int) 256 = (n : Int) % 256 := Int.tmod_eq_emod_of_nonneg (by omega)
    have e2 : Int.tdiv (n : Int) 256 = (n : Int) / 256 := Int.tdiv_eq_ediv_of_nonneg (by omega)
    have e3 : IntKind.u64.wrap ((n : Int) / 256) = ((n / 256 : Nat) : Int) := by rw [IntKind.wrap_u64]; omega
    rw [if_pos (by omega), if_pos (by omega), if_pos (by omega), e1, e2, e3, w64 i (by omega), ih k (i + 1) (n / 256) _ h8 (by omega) hb (by omega) (by omega) (by simp [ha])]
    simp only [putl, List.append_assoc, List.singleton_append]
    congr 3
    omega
theorem put (n k : Nat) (b : Int) (hn : n < 18446744073709551616) (hk : 8 < k) : redressref16_Put.f k n b = some (putl n (clamp8 b)) := by
  obtain ⟨m, h0, h8, hm, he⟩ := clamp8_eq b
  obtain ⟨m, rfl⟩ := Int.eq_ofNat_of_zero_le h0
  rw [he, Int.toNat_natCast]
  unfold redressref16_Put.f
  have := put_l m b m k 0 n [] (by omega) (by omega) (by omega) (by omega) hn rfl
  simpa using this
theorem get_l (l : List Int) (hb : okb l = true) (d : Nat) : ∀ (k acc : Nat), d ≤ 8 → d < k → acc < 256 ^ (8 - d) →
    redressref16_Get.l0 k l acc ((d : Int) - 1) = some ((getn d l + 256 ^ d * acc : Nat) : Int) := by
  induction d with
  | zero =>
    intro k acc h8 hk ha
    obtain ⟨k, rfl⟩ : ∃ m, k = m + 1 := ⟨k - 1, by omega⟩
    simp only [redressref16_Get.l0]
    rw [if_neg (by omega)]
    simp [getn]
  | succ d ih =>
    intro k acc h8 hk ha
    obtain ⟨k, rfl⟩ : ∃ m, k = m + 1 := ⟨k - 1, by omega⟩
    have hpow : 256 ^ (8 - d) = 256 * 256 ^ (8 - (d + 1)) := by rw [show 8 - d = (8 - (d + 1)) + 1 from by omega, Nat.pow_succ, Nat.mul_comm]
    have hle : 256 ^ (8 - d) ≤ 256 ^ 8 := Nat.pow_le_pow_right (by decide) (by omega)
    have h88 : 256 ^ 8 = 18446744073709551616 := by decide
    simp only [redressref16_Get.l0]
    rw [if_pos (by omega)]
    have e1 : IntKind.u64.wrap (256 * (acc : Int)) = ((256 * acc : Nat) : Int) := by rw [IntKind.wrap_u64]; omega
    have e4 : wrap64 (((d + 1 : Nat) : Int) - 1 - 1) = (d : Int) - 1 := by unfold wrap64; omega
    have hgs : ∀ x : Nat, getn (d + 1) l + 256 ^ (d + 1) * acc = getn d l + 256 ^ d * x → True := fun _ _ => trivial
    have hg := getn_succ l d
    by_cases hlt : (((d + 1 : Nat) : Int) - 1) < (l.length : Int)
    · have hx := ((okb_iff l).1 hb) (l[d]'(by omega)) (List.getElem_mem (by omega))
      rw [if_pos hlt, if_pos (by omega), show (((d + 1 : Nat) : Int) - 1) = (d : Int) from by omega, rd_at l d (by omega), e1]
      have e2 : IntKind.u64.wrap (l[d]'(by omega)) = (((l[d]'(by omega)).toNat : Nat) : Int) := by rw [IntKind.wrap_u64]; omega
      have e3 : IntKind.u64.wrap (((256 * acc : Nat) : Int) + (((l[d]'(by omega)).toNat : Nat) : Int)) = ((256 * acc + (l[d]'(by omega)).toNat : Nat) : Int) := by rw [IntKind.wrap_u64]; omega
      rw [e2, e3, show wrap64 ((d : Int) - 1) = (d : Int) - 1 from by unfold wrap64; omega, ih k _ (by omega) (by omega) (by omega)]
      congr 2
      rw [hg]
      simp only [List.getD_eq_getElem?_getD, List.getElem?_eq_getElem (show d < l.length by omega), Option.getD_some, Nat.pow_succ, Nat.mul_add]
      rw [Nat.mul_assoc]
      omega
    · rw [if_neg hlt, e1, show wrap64 (((d + 1 : Nat) : Int) - 1 - 1) = (d : Int) - 1 from e4, ih k _ (by omega) (by omega) (by omega)]
      congr 2
      rw [hg]
      simp only [List.getD_eq_getElem?_getD, List.getElem?_eq_none (show l.length ≤ d by omega), Option.getD_none, Nat.pow_succ, Int.toNat_zero, Nat.mul_zero, Nat.add_zero, Nat.mul_assoc]
theorem get (l : List Int) (k : Nat) (hb : okb l = true) (hk : 8 < k) : redressref16_Get.f k l = some ((getn 8 l : Nat) : Int) := by
  unfold redressref16_Get.f
  have := get_l l hb 8 k 0 (by omega) hk (by decide)
  simpa using this
end Go.Proofs.Ytigaemjkdgpceaa.Ref
