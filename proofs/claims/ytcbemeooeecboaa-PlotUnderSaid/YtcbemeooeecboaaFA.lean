/- Whole numbers as floats: exact below 2^53. Plain. -/
import Derived.Laws.FloatArith
namespace Go.Proofs.Flt
open Ieee
set_option exponentiation.threshold 2000
theorem shl_lt {n : Nat} (h : 0 < n) (h2 : n < 2 ^ 53) : n.log2 ≤ 52 ∧ 2 ^ 52 ≤ n * 2 ^ (52 - n.log2) ∧ n * 2 ^ (52 - n.log2) < 2 ^ 53 := by
  have hne : n ≠ 0 := by omega
  have hL : n.log2 < 53 := (Nat.log2_lt hne).2 h2
  have h3 : 2 ^ n.log2 ≤ n := Nat.log2_self_le hne
  have h4 : n < 2 ^ (n.log2 + 1) := Nat.lt_log2_self
  refine ⟨by omega, ?_, ?_⟩
  · calc 2 ^ 52 = 2 ^ n.log2 * 2 ^ (52 - n.log2) := by rw [← Nat.pow_add]; congr 1; omega
      _ ≤ _ := Nat.mul_le_mul_right _ h3
  · calc n * 2 ^ (52 - n.log2) < 2 ^ (n.log2 + 1) * 2 ^ (52 - n.log2) := Nat.mul_lt_mul_of_pos_right h4 (Nat.two_pow_pos _)
      _ = 2 ^ 53 := by rw [← Nat.pow_add]; congr 1; omega
theorem cut0 (way : Toward) (neg : Bool) (n : Nat) : way.cut neg n 0 = n := by
  unfold Toward.cut
  cases way <;> simp [Nat.mod_one]
theorem near (neg : Bool) (n : Nat) (h : 0 < n) (h2 : n < 2 ^ 53) : double.nearest neg n 0 = double.word neg ((n.log2 + 1022) * 2 ^ 52 + n * 2 ^ (52 - n.log2)) := by
  obtain ⟨h3, h4, h5⟩ := shl_lt h h2
  have lp : double.leastPlace = -1074 := by decide
  have fb : (double.fractionBits : Int) = 52 := rfl
  have e : max ((0 : Int) + n.log2 - double.fractionBits) (-1074) = (n.log2 : Int) - 52 := by rw [fb]; omega
  unfold Format.nearest
  rw [if_neg (by omega)]
  simp only [lp, e]
  have e1 : ((0 : Int) - ((n.log2 : Int) - 52)).toNat = 52 - n.log2 := by omega
  have e2 : ((n.log2 : Int) - 52 - 0).toNat = 0 := by omega
  have e3 : ((n.log2 : Int) - 52 - -1074).toNat = n.log2 + 1022 := by omega
  rw [e1, e2, e3, cut0, Nat.shiftLeft_eq]
  have bn : double.binade = 2 ^ 52 := rfl
  have inf : double.infRung = 2047 * 2 ^ 52 := by decide
  rw [bn, inf, Nat.min_eq_left (by omega)]
theorem read_near (neg : Bool) (n : Nat) (h : 0 < n) (h2 : n < 2 ^ 53) : double.read (double.nearest neg n 0) = .number neg (n * 2 ^ (52 - n.log2)) ((n.log2 : Int) - 52) := by
  obtain ⟨h3, h4, h5⟩ := shl_lt h h2
  rw [near neg n h h2]
  obtain ⟨m, hm⟩ : ∃ m, m = n * 2 ^ (52 - n.log2) := ⟨_, rfl⟩
  obtain ⟨L, hL⟩ : ∃ L, L = n.log2 := ⟨_, rfl⟩
  rw [← hm] at h4 h5 ⊢
  rw [← hL] at h3 ⊢
  have sw : double.signWeight = 2 ^ 63 := rfl
  have bn : double.binade = 2 ^ 52 := rfl
  have inf : double.infRung = 2047 * 2 ^ 52 := by decide
  have lp : double.leastPlace = -1074 := by decide
  have hr : ((L + 1022) * 2 ^ 52 + m) < 2 ^ 63 := by omega
  have e1 : (double.word neg ((L + 1022) * 2 ^ 52 + m) / double.signWeight % 2 == 1) = neg := by
    unfold Format.word
    rw [sw]
    cases neg <;> simp only [Bool.false_eq_true, ↓reduceIte]
    · have : ((L + 1022) * 2 ^ 52 + m) / 2 ^ 63 = 0 := Nat.div_eq_of_lt hr
      rw [this]; rfl
    · have : (2 ^ 63 + ((L + 1022) * 2 ^ 52 + m)) / 2 ^ 63 = 1 := by omega
      rw [this]; rfl
  have e2 : double.word neg ((L + 1022) * 2 ^ 52 + m) % double.signWeight = (L + 1022) * 2 ^ 52 + m := by
    unfold Format.word
    rw [sw]
    cases neg <;> simp only [Bool.false_eq_true, ↓reduceIte] <;> omega
  unfold Format.read
  simp only [e2]
  rw [if_neg (by rw [bn]; omega), if_pos (by rw [inf]; omega), e1]
  have e3 : ((L + 1022) * 2 ^ 52 + m) / 2 ^ 52 = L + 1023 := by omega
  have e4 : 2 ^ 52 + ((L + 1022) * 2 ^ 52 + m) % 2 ^ 52 = m := by omega
  have e5 : (-1074 : Int) + ((L + 1023 - 1 : Nat) : Int) = (L : Int) - 52 := by omega
  rw [bn, lp, e3, e4, e5]
/-- What a number stands for, at the place of the last digit of the least one. -/
theorem signed_scale (neg : Bool) (m a b : Nat) : signed neg (m * 2 ^ a) b = signed neg m (a + b) := by
  unfold signed
  rw [Nat.shiftLeft_eq, Nat.shiftLeft_eq, Nat.pow_add, Nat.mul_assoc]
theorem signed_val (neg : Bool) (m b : Nat) : signed neg m b = (if neg then -(m : Int) else (m : Int)) * 2 ^ b := by
  unfold signed
  rw [Nat.shiftLeft_eq]
  cases neg <;> simp [Int.natCast_mul, Int.natCast_pow, Int.neg_mul]
/-- A datum that stands for the whole number a. -/
def Is (d : Datum) (a : Int) : Prop := ∃ s m i, d = .number s m i ∧ i ≤ 0 ∧ signed s m 0 = a * 2 ^ (-i).toNat
def flt (a : Int) : Nat := double.nearest (decide (a < 0)) a.natAbs 0
theorem is_flt (a : Int) (h : a.natAbs < 2 ^ 53) : Is (double.read (flt a)) a := by
  by_cases h0 : a = 0
  · subst h0
    exact ⟨false, 0, -1074, by decide +kernel, by decide, by simp [signed]⟩
  · obtain ⟨h3, _, _⟩ := shl_lt (n := a.natAbs) (by omega) h
    refine ⟨_, _, _, read_near _ _ (by omega) h, by omega, ?_⟩
    have e : (-((a.natAbs.log2 : Int) - 52)).toNat = 52 - a.natAbs.log2 := by omega
    rw [e, signed_val, Int.natCast_mul, Int.natCast_pow]
    by_cases hn : a < 0
    · rw [if_pos (decide_eq_true hn), ← Int.neg_mul, show -(a.natAbs : Int) = a by omega]; simp
    · rw [if_neg (by simp [hn]), show (a.natAbs : Int) = a by omega]; simp
theorem Is.at {s : Bool} {m : Nat} {i a : Int} (hi : i ≤ 0) (h : signed s m 0 = a * 2 ^ (-i).toNat) (base : Int) (hb : base ≤ i) : signed s m (i - base).toNat = a * 2 ^ (-base).toNat := by
  rw [signed_val] at h ⊢
  rw [Int.pow_zero, Int.mul_one] at h
  rw [h, Int.mul_assoc, ← Int.pow_add]
  congr 2
  omega
theorem two_pos (k : Nat) : (0 : Int) < 2 ^ k := Int.pow_pos (by decide)
theorem cmp_scale (a b : Int) (k : Nat) : compare (a * 2 ^ k) (b * 2 ^ k) = compare a b := by
  have hk := two_pos k
  show compareOfLessAndEq _ _ = compareOfLessAndEq _ _
  unfold compareOfLessAndEq
  have e1 : (a * 2 ^ k < b * 2 ^ k) ↔ a < b := ⟨fun h => Int.lt_of_mul_lt_mul_right h (Int.le_of_lt hk), fun h => Int.mul_lt_mul_of_pos_right h hk⟩
  have e2 : (a * 2 ^ k = b * 2 ^ k) ↔ a = b := ⟨fun h => Int.eq_of_mul_eq_mul_right (by omega) h, fun h => by rw [h]⟩
  simp only [e1, e2]
theorem Is.order {d e : Datum} {a b : Int} (hd : Is d a) (he : Is e b) : d.order e = some (compare a b) := by
  obtain ⟨s, m, i, rfl, hi, h1⟩ := hd
  obtain ⟨t, n, j, rfl, hj, h2⟩ := he
  show some (compare (signed s m (i - min i j).toNat) (signed t n (j - min i j).toNat)) = _
  rw [Is.at hi h1 _ (by omega), Is.at hj h2 _ (by omega), cmp_scale]
/-- How two whole numbers stand to each other, as floats. -/
theorem order_flt (a b : Int) (ha : a.natAbs < 2 ^ 53) (hb : b.natAbs < 2 ^ 53) : double.order (flt a) (flt b) = some (compare a b) := (is_flt a ha).order (is_flt b hb)
theorem log2_scale (n k : Nat) (h : 0 < n) : (n * 2 ^ k).log2 = n.log2 + k := by
  have h0 : n * 2 ^ k ≠ 0 := Nat.mul_ne_zero (by omega) (Nat.ne_of_gt (Nat.two_pow_pos k))
  rw [Nat.log2_eq_iff h0]
  have h3 : 2 ^ n.log2 ≤ n := Nat.log2_self_le (by omega)
  have h4 : n < 2 ^ (n.log2 + 1) := Nat.lt_log2_self
  refine ⟨?_, ?_⟩
  · rw [Nat.pow_add]; exact Nat.mul_le_mul_right _ h3
  · rw [show n.log2 + k + 1 = (n.log2 + 1) + k by omega, Nat.pow_add]; exact Nat.mul_lt_mul_of_pos_right h4 (Nat.two_pow_pos _)
theorem cut_exact (neg : Bool) (x d : Nat) (h : d ≤ (x * 2 ^ d).log2 + 2) : Toward.even.cut neg (x * 2 ^ d) d = x := by
  unfold Toward.cut
  rw [Nat.min_eq_left h]
  have hp := Nat.two_pow_pos d
  simp only [Nat.one_shiftLeft, Nat.mul_div_cancel _ hp, Nat.mul_mod_left]
  have e1 : decide (2 ^ d < 2 * 0) = false := decide_eq_false (by omega)
  have e2 : (2 ^ d == 2 * 0) = false := beq_eq_false_iff_ne.2 (by omega)
  simp only [e1, e2, Bool.false_and, Bool.or_false, Bool.toNat_false, Nat.add_zero]
theorem near_scale (neg : Bool) (n k : Nat) (h : 0 < n) (h2 : n < 2 ^ 53) : double.nearest neg (n * 2 ^ k) (-(k : Int)) = double.nearest neg n 0 := by
  rw [near neg n h h2]
  obtain ⟨h3, h4, h5⟩ := shl_lt h h2
  have h0 : n * 2 ^ k ≠ 0 := Nat.mul_ne_zero (by omega) (Nat.ne_of_gt (Nat.two_pow_pos k))
  have lp : double.leastPlace = -1074 := by decide
  have fb : (double.fractionBits : Int) = 52 := rfl
  have bn : double.binade = 2 ^ 52 := rfl
  have inf : double.infRung = 2047 * 2 ^ 52 := by decide
  unfold Format.nearest
  rw [if_neg h0, log2_scale n k h]
  have e : max (-(k : Int) + ((n.log2 + k : Nat) : Int) - double.fractionBits) (-1074) = (n.log2 : Int) - 52 := by rw [fb]; omega
  simp only [lp, e]
  have e3 : ((n.log2 : Int) - 52 - -1074).toNat = n.log2 + 1022 := by omega
  rw [e3]
  have hk : Toward.even.cut neg ((n * 2 ^ k) <<< (-(k : Int) - ((n.log2 : Int) - 52)).toNat) ((n.log2 : Int) - 52 - -(k : Int)).toNat = n * 2 ^ (52 - n.log2) := by
    rw [Nat.shiftLeft_eq]
    by_cases hc : k ≤ 52 - n.log2
    · have a1 : (-(k : Int) - ((n.log2 : Int) - 52)).toNat = 52 - n.log2 - k := by omega
      have a2 : ((n.log2 : Int) - 52 - -(k : Int)).toNat = 0 := by omega
      rw [a1, a2, cut0, Nat.mul_assoc, ← Nat.pow_add]
      congr 2; omega
    · have a1 : (-(k : Int) - ((n.log2 : Int) - 52)).toNat = 0 := by omega
      obtain ⟨d, hd⟩ : ∃ d, d = k - (52 - n.log2) := ⟨_, rfl⟩
      have a2 : ((n.log2 : Int) - 52 - -(k : Int)).toNat = d := by omega
      have a3 : n * 2 ^ k = n * 2 ^ (52 - n.log2) * 2 ^ d := by rw [Nat.mul_assoc, ← Nat.pow_add]; congr 2; omega
      rw [a1, a2, Nat.pow_zero, Nat.mul_one, a3, cut_exact]
      rw [← a3, log2_scale n k h]; omega
  rw [hk, bn, inf, Nat.min_eq_left (by omega)]
def IsS (d : Datum) (s : Bool) (a : Int) : Prop := ∃ m i, d = .number s m i ∧ i ≤ 0 ∧ signed s m 0 = a * 2 ^ (-i).toNat
theorem is_fltS (a : Int) (h : a.natAbs < 2 ^ 53) : IsS (double.read (flt a)) (decide (a < 0)) a := by
  by_cases h0 : a = 0
  · subst h0
    exact ⟨0, -1074, by decide +kernel, by decide, by simp [signed]⟩
  · obtain ⟨h3, _, _⟩ := shl_lt (n := a.natAbs) (by omega) h
    refine ⟨_, _, read_near _ _ (by omega) h, by omega, ?_⟩
    have e : (-((a.natAbs.log2 : Int) - 52)).toNat = 52 - a.natAbs.log2 := by omega
    rw [e, signed_val, Int.natCast_mul, Int.natCast_pow]
    by_cases hn : a < 0
    · rw [if_pos (decide_eq_true hn), ← Int.neg_mul, show -(a.natAbs : Int) = a by omega]; simp
    · rw [if_neg (by simp [hn]), show (a.natAbs : Int) = a by omega]; simp
theorem IsS.opposite {d : Datum} {s : Bool} {a : Int} (h : IsS d s a) : IsS d.opposite (!s) (-a) := by
  obtain ⟨m, i, rfl, hi, h1⟩ := h
  refine ⟨m, i, rfl, hi, ?_⟩
  rw [signed_val] at h1 ⊢
  rw [Int.pow_zero, Int.mul_one] at h1 ⊢
  rw [Int.neg_mul, ← h1]
  cases s <;> simp
theorem IsS.sum {d e : Datum} {s t : Bool} {a b : Int} (hd : IsS d s a) (he : IsS e t b) (hz : a + b = 0 → (s && t) = false) (hab : (a + b).natAbs < 2 ^ 53) : (d.sum e).map double.write = some (flt (a + b)) := by
  obtain ⟨m, i, rfl, hi, h1⟩ := hd
  obtain ⟨n, j, rfl, hj, h2⟩ := he
  obtain ⟨base, hbase⟩ : ∃ base, base = min i j := ⟨_, rfl⟩
  have hT : signed s m (i - min i j).toNat + signed t n (j - min i j).toNat = (a + b) * 2 ^ (-base).toNat := by
    rw [Is.at hi h1 _ (by omega), Is.at hj h2 _ (by omega), Int.add_mul, hbase]
  show some (double.write (.number (if signed s m (i - min i j).toNat + signed t n (j - min i j).toNat = 0 then s && t else decide (signed s m (i - min i j).toNat + signed t n (j - min i j).toNat < 0)) (signed s m (i - min i j).toNat + signed t n (j - min i j).toNat).natAbs (min i j))) = _
  rw [hT, ← hbase]
  have hk := two_pos (-base).toNat
  congr 1
  show double.nearest _ _ base = double.nearest _ _ 0
  by_cases h0 : a + b = 0
  · rw [h0, Int.zero_mul, if_pos rfl, hz h0]
    show double.nearest false 0 base = double.nearest false 0 0
    unfold Format.nearest
    rw [if_pos rfl, if_pos rfl]
  · have hne : (a + b) * 2 ^ (-base).toNat ≠ 0 := Int.mul_ne_zero h0 (by omega)
    have hlt : ((a + b) * 2 ^ (-base).toNat < 0) ↔ a + b < 0 := by
      constructor
      · intro h; exact Int.lt_of_mul_lt_mul_right (by rw [Int.zero_mul]; exact h) (Int.le_of_lt hk)
      · intro h; exact Int.mul_neg_of_neg_of_pos h hk
    rw [if_neg hne, Int.natAbs_mul, Int.natAbs_pow]
    have e1 : decide ((a + b) * 2 ^ (-base).toNat < 0) = decide (a + b < 0) := by simp only [hlt]
    obtain ⟨k, hkk⟩ : ∃ k : Nat, k = (-base).toNat := ⟨_, rfl⟩
    have e2 : base = -(k : Int) := by omega
    rw [e1, show (2 : Int).natAbs = 2 from rfl, ← hkk, e2]
    exact near_scale _ _ _ (by omega) hab
theorem add_flt (a b : Int) (ha : a.natAbs < 2 ^ 53) (hb : b.natAbs < 2 ^ 53) (hab : (a + b).natAbs < 2 ^ 53) : double.add (flt a) (flt b) = some (flt (a + b)) :=
  (is_fltS a ha).sum (is_fltS b hb) (fun h => by simp; omega) hab
theorem sub_flt (a b : Int) (ha : a.natAbs < 2 ^ 53) (hb : b.natAbs < 2 ^ 53) (hab : (a - b).natAbs < 2 ^ 53) : double.sub (flt a) (flt b) = some (flt (a - b)) :=
  (is_fltS a ha).sum (is_fltS b hb).opposite (fun h => by simp; omega) hab
end Go.Proofs.Flt
