/- Plain arithmetic of the sums and of the bytes of numbers: no Go, no memory. -/
namespace Go.Proofs.Ytbjjpckldjjcgaa.Crc

def cstep (s : Nat) : Nat := if s % 2 = 1 then (s / 2) ^^^ 3988292384 else s / 2
def cstep8 (s : Nat) : Nat := cstep (cstep (cstep (cstep (cstep (cstep (cstep (cstep s)))))))
def cbyte (s : Nat) (b : Int) : Nat := cstep8 (s ^^^ b.toNat)
def ccore (s : Nat) (l : List Int) : Nat := l.foldl cbyte s
def cmore (s : Nat) (l : List Int) : Nat := ccore (s ^^^ 4294967295) l ^^^ 4294967295
def okb (l : List Int) : Bool := l.all fun x => decide (0 ≤ x) && decide (x < 256)

theorem okb_iff (l : List Int) : okb l = true ↔ ∀ x ∈ l, 0 ≤ x ∧ x < 256 := by
  unfold okb; simp [List.all_eq_true]
theorem okb_append (a b : List Int) : okb (a ++ b) = (okb a && okb b) := by unfold okb; simp
theorem okb_take (l : List Int) (n : Nat) (h : okb l = true) : okb (l.take n) = true := by
  rw [okb_iff] at h ⊢; exact fun x hx => h x (List.mem_of_mem_take hx)
theorem okb_drop (l : List Int) (n : Nat) (h : okb l = true) : okb (l.drop n) = true := by
  rw [okb_iff] at h ⊢; exact fun x hx => h x (List.mem_of_mem_drop hx)

theorem xor_lt32 {a b : Nat} (ha : a < 4294967296) (hb : b < 4294967296) : a ^^^ b < 4294967296 := Nat.xor_lt_two_pow (n := 32) ha hb
theorem cstep_lt {s : Nat} (h : s < 4294967296) : cstep s < 4294967296 := by
  unfold cstep; split
  · exact xor_lt32 (by omega) (by decide)
  · omega
theorem cstep8_lt {s : Nat} (h : s < 4294967296) : cstep8 s < 4294967296 :=
  cstep_lt (cstep_lt (cstep_lt (cstep_lt (cstep_lt (cstep_lt (cstep_lt (cstep_lt h)))))))
theorem cbyte_lt {s : Nat} (h : s < 4294967296) (b : Int) (hb : b < 256) : cbyte s b < 4294967296 := cstep8_lt (xor_lt32 h (by omega))
theorem ccore_lt (l : List Int) : ∀ s, s < 4294967296 → (∀ x ∈ l, 0 ≤ x ∧ x < 256) → ccore s l < 4294967296 := by
  induction l with
  | nil => intro s h _; exact h
  | cons b l ih => intro s h hl; exact ih _ (cbyte_lt h b (hl b (by simp)).2) (fun x hx => hl x (by simp [hx]))
theorem cmore_lt (s : Nat) (l : List Int) (hs : s < 4294967296) (hl : okb l = true) : cmore s l < 4294967296 :=
  xor_lt32 (ccore_lt l _ (xor_lt32 hs (by decide)) ((okb_iff l).1 hl)) (by decide)

theorem ccore_append (s : Nat) (a b : List Int) : ccore s (a ++ b) = ccore (ccore s a) b := by unfold ccore; rw [List.foldl_append]
theorem cmore_append (s : Nat) (a b : List Int) : cmore (cmore s a) b = cmore s (a ++ b) := by
  unfold cmore; rw [ccore_append, Nat.xor_assoc, Nat.xor_self, Nat.xor_zero]

/-! what is told apart stays apart -/
theorem xor_right_inj {a b c : Nat} (h : a ^^^ c = b ^^^ c) : a = b := by
  have := congrArg (· ^^^ c) h
  simpa [Nat.xor_assoc] using this
theorem xor_left_inj {a b c : Nat} (h : c ^^^ a = c ^^^ b) : a = b := by
  rw [Nat.xor_comm c a, Nat.xor_comm c b] at h; exact xor_right_inj h
theorem top_bit (x : Nat) (h : x < 2147483648) : (x ^^^ 3988292384) ≥ 2147483648 := by
  have h1 : (x ^^^ 3988292384).testBit 31 = true := by
    rw [Nat.testBit_xor, Nat.testBit_lt_two_pow (show x < 2 ^ 31 from h)]
    decide
  have := Nat.ge_two_pow_of_testBit h1
  exact this
theorem cstep_inj {s t : Nat} (hs : s < 4294967296) (ht : t < 4294967296) (h : cstep s = cstep t) : s = t := by
  unfold cstep at h
  have h1 := top_bit (s / 2) (by omega)
  have h2 := top_bit (t / 2) (by omega)
  split at h <;> split at h
  · have := xor_right_inj h; omega
  · omega
  · omega
  · omega
theorem cstep8_inj {s t : Nat} (hs : s < 4294967296) (ht : t < 4294967296) (h : cstep8 s = cstep8 t) : s = t := by
  unfold cstep8 at h
  have l1 := cstep_lt hs; have m1 := cstep_lt ht
  have l2 := cstep_lt l1; have m2 := cstep_lt m1
  have l3 := cstep_lt l2; have m3 := cstep_lt m2
  have l4 := cstep_lt l3; have m4 := cstep_lt m3
  have l5 := cstep_lt l4; have m5 := cstep_lt m4
  have l6 := cstep_lt l5; have m6 := cstep_lt m5
  have l7 := cstep_lt l6; have m7 := cstep_lt m6
  exact cstep_inj hs ht (cstep_inj l1 m1 (cstep_inj l2 m2 (cstep_inj l3 m3 (cstep_inj l4 m4 (cstep_inj l5 m5 (cstep_inj l6 m6 (cstep_inj l7 m7 h)))))))
theorem cbyte_inj {s t : Nat} (b : Int) (hs : s < 4294967296) (ht : t < 4294967296) (hb : b < 256) (h : cbyte s b = cbyte t b) : s = t :=
  xor_right_inj (cstep8_inj (xor_lt32 hs (by omega)) (xor_lt32 ht (by omega)) h)
theorem cbyte_inj_byte {s : Nat} (b c : Int) (hs : s < 4294967296) (hb : 0 ≤ b ∧ b < 256) (hc : 0 ≤ c ∧ c < 256) (h : cbyte s b = cbyte s c) : b = c := by
  have := xor_left_inj (cstep8_inj (xor_lt32 hs (by omega)) (xor_lt32 hs (by omega)) h); omega
theorem ccore_inj (l : List Int) : ∀ s t, s < 4294967296 → t < 4294967296 → (∀ x ∈ l, 0 ≤ x ∧ x < 256) → ccore s l = ccore t l → s = t := by
  induction l with
  | nil => intro s t _ _ _ h; exact h
  | cons b l ih =>
    intro s t hs ht hl h
    have hb := (hl b (by simp)).2
    exact cbyte_inj b hs ht hb (ih _ _ (cbyte_lt hs b hb) (cbyte_lt ht b hb) (fun x hx => hl x (by simp [hx])) h)
/-- One byte that is another one: the sum is another one. -/
theorem cmore_one (s : Nat) (a : List Int) (b c : Int) (l : List Int) (hs : s < 4294967296) (ha : okb a = true) (hb : 0 ≤ b ∧ b < 256) (hc : 0 ≤ c ∧ c < 256) (hl : okb l = true)
    (h : cmore s (a ++ b :: l) = cmore s (a ++ c :: l)) : b = c := by
  unfold cmore at h
  have h1 := xor_right_inj h
  rw [ccore_append, ccore_append] at h1
  have h0 := ccore_lt a (s ^^^ 4294967295) (xor_lt32 hs (by decide)) ((okb_iff a).1 ha)
  exact cbyte_inj_byte b c h0 hb hc (ccore_inj l _ _ (cbyte_lt h0 b hb.2) (cbyte_lt h0 c hc.2) ((okb_iff l).1 hl) h1)

/-! the bytes of a number -/
def putl (n : Nat) : Nat → List Int
  | 0 => []
  | m + 1 => ((n % 256 : Nat) : Int) :: putl (n / 256) m
def getn : Nat → List Int → Nat
  | 0, _ => 0
  | m + 1, l => (l.headD 0).toNat + 256 * getn m l.tail
theorem putl_length (m : Nat) : ∀ n, (putl n m).length = m := by
  induction m with
  | zero => intro n; rfl
  | succ m ih => intro n; simp [putl, ih]
theorem putl_okb (m : Nat) : ∀ n, okb (putl n m) = true := by
  induction m with
  | zero => intro n; rfl
  | succ m ih =>
    intro n
    have := ih (n / 256)
    rw [okb_iff] at this ⊢
    intro x hx
    simp only [putl, List.mem_cons] at hx
    rcases hx with rfl | hx
    · omega
    · exact this x hx
theorem getn_nil (m : Nat) : getn m [] = 0 := by
  induction m with
  | zero => rfl
  | succ m ih => simp [getn, ih]
theorem getn_putl (m : Nat) : ∀ n j, m ≤ j → getn j (putl n m) = n % 256 ^ m := by
  induction m with
  | zero => intro n j _; simp [putl, getn_nil, Nat.mod_one]
  | succ m ih =>
    intro n j hj
    obtain ⟨j, rfl⟩ : ∃ i, j = i + 1 := ⟨j - 1, by omega⟩
    simp only [getn, putl, List.headD_cons, List.tail_cons]
    rw [ih (n / 256) j (by omega), Int.toNat_natCast, Nat.pow_succ, Nat.mul_comm (256 ^ m) 256, Nat.mod_mul]
theorem getn_lt (m : Nat) : ∀ l, okb l = true → getn m l < 256 ^ m := by
  induction m with
  | zero => intro l _; simp [getn]
  | succ m ih =>
    intro l hl
    have h1 := ih l.tail (by rw [okb_iff] at hl ⊢; exact fun x hx => hl x (List.mem_of_mem_tail hx))
    have h2 : (l.headD 0).toNat < 256 := by
      cases l with
      | nil => simp
      | cons x l => have := ((okb_iff _).1 hl) x (by simp); simp only [List.headD_cons]; omega
    simp only [getn, Nat.pow_succ]
    omega
theorem putl_getn (m : Nat) : ∀ l, l.length = m → okb l = true → putl (getn m l) m = l := by
  induction m with
  | zero => intro l hl _; rw [List.eq_nil_of_length_eq_zero hl]; rfl
  | succ m ih =>
    intro l hl hb
    cases l with
    | nil => simp at hl
    | cons x l =>
      have hx := ((okb_iff _).1 hb) x (by simp)
      have hl' : okb l = true := by rw [okb_iff] at hb ⊢; exact fun y hy => hb y (by simp [hy])
      simp only [getn, List.headD_cons, List.tail_cons, putl]
      have e1 : (x.toNat + 256 * getn m l) % 256 = x.toNat := by omega
      have e2 : (x.toNat + 256 * getn m l) / 256 = getn m l := by omega
      rw [e1, e2, ih l (by simpa using hl) hl']
      congr 1
      omega
theorem getn_inj (m : Nat) (a b : List Int) (ha : a.length = m) (hb : b.length = m) (oa : okb a = true) (ob : okb b = true) (h : getn m a = getn m b) : a = b := by
  rw [← putl_getn m a ha oa, ← putl_getn m b hb ob, h]
theorem putl_inj (m n k : Nat) (h : putl n m = putl k m) (hn : n < 256 ^ m) (hk : k < 256 ^ m) : n = k := by
  have := congrArg (getn m) h
  rwa [getn_putl m n m (Nat.le_refl _), getn_putl m k m (Nat.le_refl _), Nat.mod_eq_of_lt hn, Nat.mod_eq_of_lt hk] at this
theorem getn_take (m : Nat) : ∀ (l : List Int) (j : Nat), m ≤ j → getn m (l.take j) = getn m l := by
  induction m with
  | zero => intro l j _; rfl
  | succ m ih =>
    intro l j hj
    obtain ⟨j, rfl⟩ : ∃ i, j = i + 1 := ⟨j - 1, by omega⟩
    cases l with
    | nil => rfl
    | cons x l => simp only [getn, List.take_succ_cons, List.headD_cons, List.tail_cons, ih l j (by omega)]
theorem getn_succ (l : List Int) : ∀ d, getn (d + 1) l = getn d l + 256 ^ d * (l.getD d 0).toNat := by
  intro d
  induction d generalizing l with
  | zero => cases l <;> simp [getn]
  | succ d ih =>
    rw [getn, ih l.tail, getn]
    have : l.tail.getD d 0 = l.getD (d + 1) 0 := by cases l <;> simp
    rw [this, Nat.pow_succ, Nat.mul_add, ← Nat.mul_assoc, Nat.mul_comm 256 (256 ^ d), Nat.add_assoc]
end Go.Proofs.Ytbjjpckldjjcgaa.Crc
