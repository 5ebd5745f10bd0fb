/- Put and Get of the package crc: contracts, walked by hand. -/
import Derived.Test.YtbjjpckldjjcgaaYA
import Derived.Handy
import Derived.Laws.CopyOwn
namespace Go.Proofs.Ytbjjpckldjjcgaa
open Go.RowKit Go.Proofs.YtbjjpckldjjcgaaW.PrintWords Go.Proofs.YtbjjpckldjjcgaaW.PrintLast Go.Proofs.YtbjjpckldjjcgaaW.PrintMore Crc
set_option linter.unusedVariables false
set_option linter.unusedSimpArgs false
attribute [local go_sem] max2_int min2_int max_two min_two max_three min_three max_four min_four

/-! ### crc_Put: function 14 -/
def clamp8 (b : Int) : Nat := (mx 0 (mn b 8)).toNat
def crc_Put.f (a0 a1 : Int) : Option (List Int) :=
  if 0 ≤ a0 ∧ a0 < 18446744073709551616 then some (putl a0.toNat (clamp8 a1)) else none

theorem putl8 (a : Nat) : [Value.int .u8 ((a : Int) % 256), .int .u8 ((a : Int) / 256 % 256), .int .u8 ((a : Int) / 65536 % 256), .int .u8 ((a : Int) / 16777216 % 256), .int .u8 ((a : Int) / 4294967296 % 256),
    .int .u8 ((a : Int) / 1099511627776 % 256), .int .u8 ((a : Int) / 281474976710656 % 256), .int .u8 ((a : Int) / 72057594037927936 % 256)] = (putl a 8).map (Value.int .u8) := by
  simp only [putl, List.map, Nat.div_div_eq_div_mul]
  simp
theorem putl_take (m : Nat) : ∀ n k, k ≤ m → (putl n m).take k = putl n k := by
  induction m with
  | zero => intro n k hk; obtain rfl : k = 0 := by omega
            rfl
  | succ m ih =>
    intro n k hk
    cases k with
    | zero => rfl
    | succ k => simp [putl, ih (n / 256) k (by omega)]

theorem R_congr {α : Type} {d : Kd α} {e base : Nat} {ok : Nat → Prop} {w : World} {v : Value} {xs ys : List α} (h : d.R e w base ok v xs) (he : xs = ys) : d.R e w base ok v ys := he ▸ h
theorem put_cut (a m : Nat) (hm : m ≤ 8) : (putl a 8).take (min 8 (List.replicate m (0 : Int)).length) ++ (List.replicate m (0 : Int)).drop (min 8 (List.replicate m (0 : Int)).length) = putl a m := by
  rw [List.length_replicate, show min 8 m = m from by omega, putl_take 8 a m hm, List.drop_of_length_le (by simp), List.append_nil]

set_option maxRecDepth 100000 in
set_option maxHeartbeats 1000000 in
theorem crc_Put.core (a : Nat) (a1 m : Int) (w : World) (h0 : 0 ≤ m) (h8 : m ≤ 8) (hmx : (a1 ≤ 0 ∧ m = 0) ∨ (0 < a1 ∧ a1 ≤ 8 ∧ m = a1) ∨ (8 < a1 ∧ m = 8)) :
    Calls Try.prog 41 #[.int .u64 (a : Int), .int .i64 a1] w fun e w' => ∃ v0_ : Value, e = .returned (v0_) ∧ Kd.R (Kd.int .u8) 5 w' w.heap.size (fun _ => True) v0_ (putl a m.toNat) ∧ Below w.heap.size w w' := by
  have hp8 := putl8 a
  rcases hmx with ⟨c1, rfl⟩ | ⟨c1, c2, rfl⟩ | ⟨c1, rfl⟩
  all_goals
    have HP := Aside0.mk hp8; clear hp8
    go_enter Try.func41, Try.ntmps41
    go_wp2
    refine wp_loop_rounds 9 ?_
    iterate 9 (rw [rounds_succ]; go_wp2_with (first | (at_make; refine Kd.R_make (Kd.int .u8) (w0 := w) w.heap.size 5 rfl rfl 32 (.tmp 21) (.tmp 21) rfl _ rfl rfl Try.underlying32 (.int .u8 0) 1 info5 rfl (by decide) (by decide) (0 : Int) (ok := fun _ => True) (okp := fun _ => False) rfl (fun _ _ => trivial) trivial (by omega) (by omega) ((Below.refl _ _).alloc (Nat.le_refl _) _) (by simp) ?_; intro v1 w1 hR hB hg hb; have hblk := (hg.block w.heap.size (by simp) (by simp)).trans (heap_alloc_new w _); have HR := Aside0.mk hR; clear hR; have HB := Aside0.mk hB; clear hB; have HBLK := Aside0.mk hblk; clear hblk hg hb) | ((with_reducible refine gate_builtin (b := .copy) (xs := #[.tmp 23, .tmp 24]) rfl ?_); go_loud (refine Kd.R_copy (enc := Value.int .u8) (h1 := fun _ => rfl) (0 : Int) (w0 := w) w.heap.size rfl (.tmp 23) (.tmp 24) 32 32 5 rfl Try.underlying32 (by kernel_rfl) _ _ (putl a 8) (some ⟨w.heap.size, 0, none⟩) 8 8 (fun _ => True) rfl rfl HR.out (Aid.C_block (enc := Value.int .u8) 0 _ _ (putl a 8) _ _ _ HBLK.out (by rw [putl_length]; simpa using HP.out) (by rw [putl_length]; decide)) HB.out HB.out.size ?_); intro w2 hR2 hB2 hg2)))
    go_ret
    refine ⟨_, rfl, ?_, hB2⟩
    exact R_congr hR2 (put_cut a _ (by omega))

theorem clamp8_eq (a1 : Int) : ∃ m : Int, 0 ≤ m ∧ m ≤ 8 ∧ ((a1 ≤ 0 ∧ m = 0) ∨ (0 < a1 ∧ a1 ≤ 8 ∧ m = a1) ∨ (8 < a1 ∧ m = 8)) ∧ clamp8 a1 = m.toNat := by
  unfold clamp8 mx mn
  by_cases h1 : a1 ≤ 0
  · exact ⟨0, by omega, by omega, .inl ⟨h1, rfl⟩, by repeat' split
                                                     all_goals omega⟩
  · by_cases h2 : a1 ≤ 8
    · exact ⟨a1, by omega, by omega, .inr (.inl ⟨by omega, h2, rfl⟩), by repeat' split
                                                                         all_goals omega⟩
    · exact ⟨8, by omega, by omega, .inr (.inr ⟨by omega, rfl⟩), by repeat' split
                                                                    all_goals omega⟩
theorem crc_Put.calls (a0 a1 : Int) (r : List Int) (w : World) (h : crc_Put.f a0 a1 = some r) :
    Calls Try.prog 41 #[.int .u64 a0, .int .i64 a1] w fun e w' => ∃ v0_ : Value, e = .returned (v0_) ∧ Kd.R (Kd.int .u8) 5 w' w.heap.size (fun _ => True) v0_ r ∧ Below w.heap.size w w' := by
  unfold crc_Put.f at h
  split at h
  case isFalse => cases h
  rename_i hg
  obtain rfl := Option.some.inj h
  obtain ⟨a, rfl⟩ := Int.eq_ofNat_of_zero_le hg.1
  obtain ⟨m, h0, h8, hm, he⟩ := clamp8_eq a1
  rw [he, Int.toNat_natCast]
  exact crc_Put.core a a1 m w h0 h8 hm

/-! ### crc_Get: function 17 -/
def crc_Get.f (l0 : List Int) : Option Int := if okb l0 = true then some ((getn 8 l0 : Nat) : Int) else none

theorem at45_0 (x0 x1 x2 x3 x4 x5 x6 x7 : Int) (w : World) : (Instr.index 88 (.agg #[.int .u8 x0, .int .u8 x1, .int .u8 x2, .int .u8 x3, .int .u8 x4, .int .u8 x5, .int .u8 x6, .int .u8 x7]) (.int .i64 0)).run Try.prog w = .ok (.int .u8 x0) w := by kernel_rfl
theorem at45_1 (x0 x1 x2 x3 x4 x5 x6 x7 : Int) (w : World) : (Instr.index 88 (.agg #[.int .u8 x0, .int .u8 x1, .int .u8 x2, .int .u8 x3, .int .u8 x4, .int .u8 x5, .int .u8 x6, .int .u8 x7]) (.int .i64 1)).run Try.prog w = .ok (.int .u8 x1) w := by kernel_rfl
theorem at45_2 (x0 x1 x2 x3 x4 x5 x6 x7 : Int) (w : World) : (Instr.index 88 (.agg #[.int .u8 x0, .int .u8 x1, .int .u8 x2, .int .u8 x3, .int .u8 x4, .int .u8 x5, .int .u8 x6, .int .u8 x7]) (.int .i64 2)).run Try.prog w = .ok (.int .u8 x2) w := by kernel_rfl
theorem at45_3 (x0 x1 x2 x3 x4 x5 x6 x7 : Int) (w : World) : (Instr.index 88 (.agg #[.int .u8 x0, .int .u8 x1, .int .u8 x2, .int .u8 x3, .int .u8 x4, .int .u8 x5, .int .u8 x6, .int .u8 x7]) (.int .i64 3)).run Try.prog w = .ok (.int .u8 x3) w := by kernel_rfl
theorem at45_4 (x0 x1 x2 x3 x4 x5 x6 x7 : Int) (w : World) : (Instr.index 88 (.agg #[.int .u8 x0, .int .u8 x1, .int .u8 x2, .int .u8 x3, .int .u8 x4, .int .u8 x5, .int .u8 x6, .int .u8 x7]) (.int .i64 4)).run Try.prog w = .ok (.int .u8 x4) w := by kernel_rfl
theorem at45_5 (x0 x1 x2 x3 x4 x5 x6 x7 : Int) (w : World) : (Instr.index 88 (.agg #[.int .u8 x0, .int .u8 x1, .int .u8 x2, .int .u8 x3, .int .u8 x4, .int .u8 x5, .int .u8 x6, .int .u8 x7]) (.int .i64 5)).run Try.prog w = .ok (.int .u8 x5) w := by kernel_rfl
theorem at45_6 (x0 x1 x2 x3 x4 x5 x6 x7 : Int) (w : World) : (Instr.index 88 (.agg #[.int .u8 x0, .int .u8 x1, .int .u8 x2, .int .u8 x3, .int .u8 x4, .int .u8 x5, .int .u8 x6, .int .u8 x7]) (.int .i64 6)).run Try.prog w = .ok (.int .u8 x6) w := by kernel_rfl
theorem at45_7 (x0 x1 x2 x3 x4 x5 x6 x7 : Int) (w : World) : (Instr.index 88 (.agg #[.int .u8 x0, .int .u8 x1, .int .u8 x2, .int .u8 x3, .int .u8 x4, .int .u8 x5, .int .u8 x6, .int .u8 x7]) (.int .i64 7)).run Try.prog w = .ok (.int .u8 x7) w := by kernel_rfl
theorem or64 (a : Nat) (x m : Int) (i : Nat) (hm : m = ((2 ^ i : Nat) : Int)) (hi : i ≤ 56) (ha : a < 2 ^ i) (h0 : 0 ≤ x) (h1 : x < 256) : bits .or .u64 (a : Int) (x * m) = ((a + x.toNat * 2 ^ i : Nat) : Int) := by
  subst hm
  obtain ⟨b, rfl⟩ := Int.eq_ofNat_of_zero_le h0
  have hb : b < 256 := by omega
  have h2 : 2 ^ i ≤ 2 ^ 56 := Nat.pow_le_pow_right (by decide) hi
  have h3 : b * 2 ^ i ≤ 255 * 2 ^ 56 := Nat.mul_le_mul (by omega) h2
  rw [Int.toNat_natCast, ← Int.natCast_mul]
  have := (bits_nat .u64 64 (by decide) (fun n h0 h1 => by rw [IntKind.wrap_u64]; omega) a (b * 2 ^ i) (by omega) (by omega)).2
  rw [this, Nat.or_comm, Nat.mul_comm, ← Nat.two_pow_add_eq_or_of_lt ha]
  congr 1
  omega
theorem get_sum (x0 x1 x2 x3 x4 x5 x6 x7 : Int) (b0 : 0 ≤ x0 ∧ x0 < 256) (b1 : 0 ≤ x1 ∧ x1 < 256) (b2 : 0 ≤ x2 ∧ x2 < 256) (b3 : 0 ≤ x3 ∧ x3 < 256) (b4 : 0 ≤ x4 ∧ x4 < 256) (b5 : 0 ≤ x5 ∧ x5 < 256) (b6 : 0 ≤ x6 ∧ x6 < 256) (b7 : 0 ≤ x7 ∧ x7 < 256) :
    bits .or .u64 (bits .or .u64 (bits .or .u64 (bits .or .u64 (bits .or .u64 (bits .or .u64 (bits .or .u64 (bits .or .u64 0 x0) (x1 * 256)) (x2 * 65536)) (x3 * 16777216)) (x4 * 4294967296)) (x5 * 1099511627776)) (x6 * 281474976710656)) (x7 * 72057594037927936) =
      ((x0.toNat + 256 * (x1.toNat + 256 * (x2.toNat + 256 * (x3.toNat + 256 * (x4.toNat + 256 * (x5.toNat + 256 * (x6.toNat + 256 * x7.toNat)))))) : Nat) : Int) := by
  have e0 := or64 0 x0 1 0 (by decide) (by decide) (by decide) b0.1 b0.2
  rw [Int.mul_one] at e0
  have e0' : bits .or .u64 0 x0 = ((0 + x0.toNat * 2 ^ 0 : Nat) : Int) := e0
  rw [e0']
  rw [or64 _ x1 256 8 (by decide) (by decide) (by omega) b1.1 b1.2]
  rw [or64 _ x2 65536 16 (by decide) (by decide) (by omega) b2.1 b2.2]
  rw [or64 _ x3 16777216 24 (by decide) (by decide) (by omega) b3.1 b3.2]
  rw [or64 _ x4 4294967296 32 (by decide) (by decide) (by omega) b4.1 b4.2]
  rw [or64 _ x5 1099511627776 40 (by decide) (by decide) (by omega) b5.1 b5.2]
  rw [or64 _ x6 281474976710656 48 (by decide) (by decide) (by omega) b6.1 b6.2]
  rw [or64 _ x7 72057594037927936 56 (by decide) (by decide) (by omega) b7.1 b7.2]
  congr 1
  omega
theorem gate_load {P : Program} {ops : Array Oper} {rest : List Oper} {o : Oper} {a : Act} {W : World} {Q : Exit → Act → World → Prop} {ty : TypeId} {x : Operand} (_ho : o.op = .load ty x) (h : wpList P ops Q (o :: rest) a W) : wpList P ops Q (o :: rest) a W := h
theorem heap_spliced {w : World} {g off : Nat} {cur cs L : List Value} {t : Nat} (h : Hid (w.heap[g]? = some (.cells (splice cur off cs).toArray t (0, 0)))) (he : splice cur off cs = L) : w.heap[g]? = some (.cells L.toArray t (0, 0)) := by
  subst he; exact h
theorem getn8 (l : List Int) : getn 8 l = (l.getD 0 0).toNat + 256 * ((l.getD 1 0).toNat + 256 * ((l.getD 2 0).toNat + 256 * ((l.getD 3 0).toNat + 256 * ((l.getD 4 0).toNat + 256 * ((l.getD 5 0).toNat + 256 * ((l.getD 6 0).toNat + 256 * (l.getD 7 0).toNat)))))) := by
  rcases l with _ | ⟨a, _ | ⟨b, _ | ⟨c, _ | ⟨d, _ | ⟨e, _ | ⟨f, _ | ⟨g, _ | ⟨h, l⟩⟩⟩⟩⟩⟩⟩⟩ <;> simp [getn]
theorem pad8 (l : List Int) : splice (List.replicate 8 (Value.int .u8 0)) 0 ((l.take 8).map (Value.int .u8)) =
    [.int .u8 (l.getD 0 0), .int .u8 (l.getD 1 0), .int .u8 (l.getD 2 0), .int .u8 (l.getD 3 0), .int .u8 (l.getD 4 0), .int .u8 (l.getD 5 0), .int .u8 (l.getD 6 0), .int .u8 (l.getD 7 0)] := by
  unfold splice
  rcases l with _ | ⟨a, _ | ⟨b, _ | ⟨c, _ | ⟨d, _ | ⟨e, _ | ⟨f, _ | ⟨g, _ | ⟨h, l⟩⟩⟩⟩⟩⟩⟩⟩ <;> simp [List.replicate]

set_option maxRecDepth 100000 in
set_option maxHeartbeats 1000000 in
theorem crc_Get.calls (A0 : Option Addr) (c0 : Nat) (l0 : List Int) (r : Int) (w : World) (hr0 : Kd.C (Kd.int .u8) w A0 l0.length l0) (hc0 : l0.length ≤ c0) (h : crc_Get.f l0 = some r) :
    Calls Try.prog 47 #[.slice A0 l0.length c0] w fun e w' => e = .returned (.int .u64 r) ∧ Below w.heap.size w w' := by
  unfold crc_Get.f at h
  split at h
  case isFalse => cases h
  rename_i hb
  obtain rfl := Option.some.inj h
  clear h
  have hm := Kd.C_max hr0
  have hsrc : 0 < ((l0.take 8).map (Value.int .u8)).length → some (⟨w.heap.size, 0, none⟩ : Addr) = some ⟨w.heap.size, 0, none⟩ ∧ ∃ ad, A0 = some ad ∧ ∀ j v, ((l0.take 8).map (Value.int .u8))[j]? = some v → (w.alloc (.cells #[.int .u8 0, .int .u8 0, .int .u8 0, .int .u8 0, .int .u8 0, .int .u8 0, .int .u8 0, .int .u8 0] 88)).cell? (ad.add j) = some v := by
    intro hp
    refine ⟨rfl, ?_⟩
    obtain ⟨ad, h1, h2⟩ := (Kd.reads_of_C (d := (0 : Int)) (Kd.C_alloc hr0 (.cells #[.int .u8 0, .int .u8 0, .int .u8 0, .int .u8 0, .int .u8 0, .int .u8 0, .int .u8 0, .int .u8 0] 88))).2.2 (by simp at hp; omega)
    refine ⟨ad, h1, fun j v hj => ?_⟩
    obtain ⟨hl, hv⟩ := List.getElem?_eq_some_iff.1 hj
    simp at hl
    rw [h2 j (by omega), ← hv]
    simp [List.getD_eq_getElem?_getD, List.getElem?_eq_getElem (show j < l0.length by omega)]
  have HS := Aside0.mk hsrc; clear hsrc
  have hp := pad8 l0
  have hbd : ∀ j, 0 ≤ l0.getD j 0 ∧ l0.getD j 0 < 256 := by
    intro j
    by_cases hj : j < l0.length
    · have := ((okb_iff _).1 hb) (l0[j]) (List.getElem_mem hj)
      simpa [List.getD_eq_getElem?_getD, List.getElem?_eq_getElem hj] using this
    · simp [List.getD_eq_getElem?_getD, List.getElem?_eq_none (show l0.length ≤ j by omega)]
  have hget := getn8 l0
  have b0 := hbd 0; have b1 := hbd 1; have b2 := hbd 2; have b3 := hbd 3; have b4 := hbd 4; have b5 := hbd 5; have b6 := hbd 6; have b7 := hbd 7
  clear hbd hb hr0
  rw [hget]
  generalize l0.getD 0 0 = x0, l0.getD 1 0 = x1, l0.getD 2 0 = x2, l0.getD 3 0 = x3, l0.getD 4 0 = x4, l0.getD 5 0 = x5, l0.getD 6 0 = x6, l0.getD 7 0 = x7 at hp b0 b1 b2 b3 b4 b5 b6 b7 ⊢
  clear hget
  have HP := Aside0.mk hp; clear hp
  obtain ⟨y, hy⟩ : ∃ y, y = (x0.toNat + 256 * (x1.toNat + 256 * (x2.toNat + 256 * (x3.toNat + 256 * (x4.toNat + 256 * (x5.toNat + 256 * (x6.toNat + 256 * x7.toNat))))))) := ⟨_, rfl⟩
  rw [← hy]
  have HY := Aside0.mk hy; clear hy
  obtain ⟨b0l, b0u⟩ := b0; obtain ⟨b1l, b1u⟩ := b1; obtain ⟨b2l, b2u⟩ := b2; obtain ⟨b3l, b3u⟩ := b3; obtain ⟨b4l, b4u⟩ := b4; obtain ⟨b5l, b5u⟩ := b5; obtain ⟨b6l, b6u⟩ := b6; obtain ⟨b7l, b7u⟩ := b7
  have i0 := at45_0 x0 x1 x2 x3 x4 x5 x6 x7; have i1 := at45_1 x0 x1 x2 x3 x4 x5 x6 x7; have i2 := at45_2 x0 x1 x2 x3 x4 x5 x6 x7; have i3 := at45_3 x0 x1 x2 x3 x4 x5 x6 x7
  have i4 := at45_4 x0 x1 x2 x3 x4 x5 x6 x7; have i5 := at45_5 x0 x1 x2 x3 x4 x5 x6 x7; have i6 := at45_6 x0 x1 x2 x3 x4 x5 x6 x7; have i7 := at45_7 x0 x1 x2 x3 x4 x5 x6 x7
  go_enter Try.func47, Try.ntmps47
  go_wp2_with (first | ((with_reducible refine gate_builtin (b := .copy) (xs := #[.tmp 7, .tmp 8]) rfl ?_); refine wpList_copy_splice rfl (.tmp 7) (.tmp 8) 32 32 rfl 5 Try.underlying32 (by kernel_rfl) (some ⟨w.heap.size, 0, none⟩) A0 8 8 l0.length c0 rfl rfl w.heap.size 0 (List.replicate 8 (Value.int .u8 0)) 88 (heap_alloc_new w _) ((l0.take 8).map (Value.int .u8)) (by simp [Nat.min_comm]) HS.out (by simp; omega) (by intro u hu; obtain ⟨y, _, rfl⟩ := List.mem_map.1 hu; rfl) w.heap.size w ((Below.refl _ _).alloc (Nat.le_refl _) _) (Nat.le_refl _) ?_; intro w1 hg1 hb1; have HG2 := Aside0.mk (heap_spliced hg1 HP.out); have HB := Aside0.mk hb1; clear hg1 hb1) | ((with_reducible refine gate_load (ty := 88) (x := .tmp 3) rfl ?_); refine wpList_load_row rfl 88 _ rfl w.heap.size rfl 88 _ (0, 0) _ HG2.out Try.underlying88 rfl (by kernel_rfl) ?_))
  refine wp_loop_rounds 9 ?_
  iterate 9 (rw [rounds_succ]; go_wp2_with fail)
  have hy := get_sum x0 x1 x2 x3 x4 x5 x6 x7 ⟨b0l, b0u⟩ ⟨b1l, b1u⟩ ⟨b2l, b2u⟩ ⟨b3l, b3u⟩ ⟨b4l, b4u⟩ ⟨b5l, b5u⟩ ⟨b6l, b6u⟩ ⟨b7l, b7u⟩
  rw [← HY.out] at hy
  go_ret
  exact ⟨by rw [← hy]; rfl, HB.out⟩
end Go.Proofs.Ytbjjpckldjjcgaa
