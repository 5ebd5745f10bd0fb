/- The law DiskOwn: its walk (printed by genF.py). -/
import Derived.Test.YtphgoiepoojikaaE
namespace Go.Proofs.Ytphgoiepoojikaa
open Go.RowKit Go.Proofs.YtphgoiepoojikaaW.PrintWords Go.Proofs.YtphgoiepoojikaaW.PrintLast Go.Proofs.YtphgoiepoojikaaW.PrintMore Go.Proofs.Ytphgoiepoojikaa.PK
set_option linter.unusedVariables false
set_option linter.unusedSimpArgs false
set_option maxHeartbeats 4000000
set_option maxRecDepth 100000
namespace Disk

theorem few_l (l0 : List Int) (l1 : List S38) : ∀ d k j s, d < k → (j : Nat) + d = l1.length → l1.length ≤ 9223372036854775807 → ∃ r, redresslaw17_few.l0 k l0 l1 s l1 (l1.length : Int) (j : Int) = some r ∧ (r = true → l0.length ≤ 2000 ∧ l1.length ≤ 50) := by
  intro d
  induction d with
  | zero =>
    intro k j s hk hj hm
    obtain ⟨k, rfl⟩ : ∃ m, k = m + 1 := ⟨k - 1, by omega⟩
    simp only [redresslaw17_few.l0]
    rw [if_neg (by omega)]
    by_cases h1 : (l0.length : Int) ≤ 2000
    · rw [if_pos h1]
      by_cases h2 : (l1.length : Int) ≤ 50
      · rw [if_pos h2]
        exact ⟨_, rfl, fun _ => ⟨by omega, by omega⟩⟩
      · rw [if_neg h2]; exact ⟨false, rfl, fun h => by cases h⟩
    · rw [if_neg h1]; exact ⟨false, rfl, fun h => by cases h⟩
  | succ d ih =>
    intro k j s hk hj hm
    obtain ⟨k, rfl⟩ : ∃ m, k = m + 1 := ⟨k - 1, by omega⟩
    simp only [redresslaw17_few.l0]
    rw [if_pos (by omega), if_pos (by omega), if_pos (by omega)]
    have e : wrap64 ((j : Int) + 1) = ((j + 1 : Nat) : Int) := by unfold wrap64; omega
    rw [e]
    exact ih k (j + 1) _ (by omega) (by omega) hm
theorem Few (A0 : Option Addr) (c0 : Nat) (l0 : List Int) (A1 : Option Addr) (n1 c1 : Nat) (l1 : List S38) (w : World) (hn1 : l1.length = n1) (hr0 : Kd.C (Kd.int .u8) w A0 l0.length l0) (hc0 : l0.length ≤ c0) (hr1 : Kd.C k38 w A1 l1.length l1) (hc1 : n1 ≤ c1) (hm : l1.length ≤ 9223372036854775807) :
    Calls Try.prog 15 #[.slice A0 l0.length c0, .slice A1 n1 c1] w fun e w' => ∃ r, e = .returned (.bool r) ∧ (r = true → l0.length ≤ 2000 ∧ l1.length ≤ 50) ∧ Below w.heap.size w w' := by
  subst hn1
  obtain ⟨r, h1, h2⟩ := few_l l0 l1 l1.length (l1.length + 1) 0 0 (by omega) (by omega) hm
  refine (redresslaw17_few.calls (l1.length + 1) A0 c0 l0 A1 c1 l1 r w hr0 hc0 hr1 hc1 h1).mono ?_
  rintro e w' ⟨he, hb⟩
  exact ⟨r, he, h2, hb⟩
/-- A block of bytes that is written. -/
theorem blk_byte {W : World} {x t : Nat} {ys : List Int} (h : W.heap[x]? = some (.cells (ys.map (Value.int .u8)).toArray t (0, 0))) (j : Nat) (hj : j < ys.length) : W.cell? ⟨x, j, none⟩ = some (.int .u8 (rd ys (j : Int))) := by
  rw [cell_of_row _ _ _ _ _ _ h, rd_at ys j hj]
  simp [hj]
theorem blk_put {W : World} {x t : Nat} {ys : List Int} (h : W.heap[x]? = some (.cells (ys.map (Value.int .u8)).toArray t (0, 0))) (j : Nat) (v : Int) : (W.setCell ⟨x, j, none⟩ (.int .u8 v)).heap[x]? = some (.cells ((ys.set j v).map (Value.int .u8)).toArray t (0, 0)) := by
  rw [heap_setCell_same W x j _ t _ h]
  congr 2
  apply Array.ext'
  simp [List.map_set]

theorem part_put {db l : List Int} {n k : Nat} (hl : db.length = 16 * n) (hk : k < n) (h : l.length ≤ 16) : part (put db k l) k = sixteen l := by
  unfold part put
  have ht : (db.take (k * 16)).length = k * 16 := by rw [List.length_take]; omega
  rw [List.append_assoc, List.drop_append, ht, Nat.sub_self, List.drop_zero, List.drop_eq_nil_of_le (by omega), List.nil_append, List.take_append, sixteen_len h, Nat.sub_self, List.take_zero, List.append_nil, List.take_of_length_le (by rw [sixteen_len h]; exact Nat.le_refl _)]
def redresslaw17_DiskOwn.f (l0 : List Int) (a1 : Int) : Option Bool := some true
theorem DiskOwn (A0 : Option Addr) (c0 : Nat) (l0 : List Int) (k : Int) (w : World) (hr0 : Kd.C (Kd.int .u8) w A0 l0.length l0) (hc0 : l0.length ≤ c0) :
    Calls Try.prog 7 #[.slice A0 l0.length c0, .int .i64 k] w fun e w' => e = .returned (.bool true) ∧ Below w.heap.size w w' := by
  have HR := Aside0.mk hr0; clear hr0
  have CN : Kd.C k38 w none 0 ([] : List S38) := Kd.C_nil k38 w
  have FW := Aside0.mk (Few A0 c0 l0 none 0 0 [] w rfl HR.out hc0 CN (Nat.le_refl _) (by decide))
  clear CN
  by_cases hrt : ¬ right l0
  · have RT := Aside0.mk (fun W => RightF l0 hrt W)
    clear hrt
    go_enter Try.func7, Try.ntmps7
    go_wp2_with fail
    refine FW.out.mono ?_; rintro e w1 ⟨r, rfl, _, hB⟩
    have HB := Aside0.mk hB; clear hB
    cases r
    · go_wp2_with fail
      refine (alive _).mono ?_; rintro e w2 ⟨rfl, h2⟩
      have HB2 := Aside0.mk (Aid.bthen HB.out h2); clear h2
      go_wp2_with fail
      go_ret
      exact ⟨rfl, HB2.out⟩
    · go_wp2_with fail
      refine (RT.out _).mono ?_; rintro e w2 ⟨rfl, ⟨m2, rfl⟩⟩
      go_wp2_with fail
      refine (alive _).mono ?_; rintro e w3 ⟨rfl, h2⟩
      have HB2 := Aside0.mk (Aid.bthen (pw_below_drewN HB.out m2) h2); clear h2
      go_wp2_with fail
      go_ret
      exact ⟨rfl, HB2.out⟩
  have hrt : right l0 := Classical.byContradiction hrt
  have RT := Aside0.mk (fun W => RightT l0 hrt W)
  obtain ⟨n, hn⟩ : ∃ n, l0.length = 16 * n := ⟨l0.length / 16, by have := hrt.2.2; omega⟩
  have HN := Aside0.mk hn
  have h1n : 1 ≤ n := by have := hrt.1; omega
  have h2n : n ≤ 1024 := by have := hrt.2.1; omega
  obtain ⟨ad, rfl⟩ : ∃ ad, A0 = some ad := by
    obtain ⟨x, h, _⟩ := HR.out.2.2 (by have := hrt.1; omega)
    exact ⟨x, h⟩
  clear hn hrt
  by_cases hk : 0 ≤ k ∧ k < (n : Int)
  · obtain ⟨q, rfl⟩ : ∃ q : Nat, k = (q : Int) := ⟨k.toNat, by omega⟩
    have hq : q < n := by omega
    clear hk
    go_enter Try.func7, Try.ntmps7
    go_wp2_with fail
    refine FW.out.mono ?_; rintro e w1 ⟨r, rfl, _, hB⟩
    have HB := Aside0.mk hB; clear hB
    cases r
    · go_wp2_with fail
      refine (alive _).mono ?_; rintro e w2 ⟨rfl, h2⟩
      have HB2 := Aside0.mk (Aid.bthen HB.out h2); clear h2
      go_wp2_with fail
      go_ret
      exact ⟨rfl, HB2.out⟩
    go_wp2_with fail
    refine (RT.out _).mono ?_; rintro e w2 ⟨rfl, ⟨m2, rfl⟩⟩
    go_wp2_with fail
    refine (Load.ok ad c0 n l0 _ (Kd.C_below HR.out (pw_below_drewN HB.out m2)) hc0 HN.out h1n h2n).mono ?_
    rintro e w3 ⟨g, b, rfl, hA, hg, hb, hB3⟩
    have HA := Aside0.mk hA
    have HB3 := Aside0.mk (Aid.bthen (pw_below_drewN HB.out m2) hB3)
    have HG := Aside0.mk (show w.heap.size ≤ g from Nat.le_trans HB.out.size hg)
    have HGB := Aside0.mk (show w.heap.size ≤ b from Nat.le_trans HB.out.size hb)
    have HLT := Aside0.mk hA.lt
    clear hA hB3 hg hb HB
    go_wp2_with fail
    refine (Bytes HA.out).mono ?_; rintro e w4 ⟨v4, rfl, hR4, hB4⟩
    have HA2 := Aside0.mk (HA.out.below hB4)
    have HB4 := Aside0.mk (Aid.bthen HB3.out hB4)
    have HS4 := Aside0.mk hB4.size
    have HV := Aside0.mk hR4
    obtain ⟨A4, c4, rfl⟩ := Kd.R_slice HV.out
    clear hR4 hB4 HA HB3
    go_wp2_with fail
    refine (Read.yes HA2.out q hq).mono ?_; rintro e w5 ⟨xb, rfl, hxb, hX, hB5⟩
    have HX := Aside0.mk hX
    have HV5 := Aside0.mk (Kd.R_move (Kd.R_mono (Kd.R_bound HV.out) (ok' := fun k => k < w4.heap.size) (fun k hk => hk.2.2.1)) (fun k hk => hB5.block k hk))
    have HXW := Aside0.mk hxb
    have HA5 := Aside0.mk (HA2.out.below hB5)
    have HB5 := Aside0.mk (Aid.bthen HB4.out hB5)
    have HXL := Aside0.mk (show w3.heap.size ≤ xb from Nat.le_trans HS4.out hxb)
    clear hX HA2 HB4 HV HS4 hB5
    go_wp2_with fail
    have HV6 := HV5
    clear HV5
    go_loopg [42] (l0.length + 1) (fun kq v42 w' => ∃ (x5 : List Int) (j : Nat), v42 = .int .i64 (j : Int) ∧ Aside0 (kq + j = l0.length + 1 ∧ j ≤ l0.length) ∧ Aside0 (Kd.R (Kd.int .u8) 5 w' w3.heap.size (fun k => k < w4.heap.size) (.slice A4 l0.length c4) x5) ∧ Aside0 (∃ ys : List Int, ys.length = 16 ∧ w'.heap[xb]? = some (.cells (ys.map (Value.int .u8)).toArray 58 (0, 0))) ∧ Aside0 (At w' g b n l0 0 false 0) ∧ Aside0 (Below w.heap.size w w'))
    case atStart => exact ⟨l0, 0, rfl, ⟨by omega, by omega⟩, HV6, ⟨_, (by rw [part_len HN.out hq]), HX.out⟩, HA5, HB5⟩
    case round =>
      clear HV6 HA5 HB5 HX
      obtain ⟨x5, j, rfl, HK, HV, HX, HA, HB⟩ := hrel
      have hl5 := (Kd.R_reads' HV.out).1
      cases gk with
      | zero => exact absurd HK.out (by omega)
      | succ k1 =>
        by_cases hj : j < l0.length
        · have c14 : decide ((j : Int) < (l0.length : Int)) = true := by simpa using hj
          have p0 : (0 : Int) ≤ (j : Int) := by omega
          have q0 : (j : Int) < (l0.length : Int) := by omega
          have q1 : (j : Int) < (x5.length : Int) := by omega
          have HL5 := Aside0.mk hl5; clear hl5
          obtain ⟨ad130, e130, hx⟩ := Kd.at_int (Kd.R_reads' HV.out).2.2 (j : Int) p0 q1
          cases e130
          obtain ⟨go17, co17, eo17, gb17, gl17, cl17, HG17⟩ := Kd.R_form HV.out (by have := HL5.out; omega)
          have gok17 : (fun k => k < w4.heap.size) go17 := HV.out.1 go17 (by rw [eo17]; simp [Value.ownBlock])
          (first | cases eo17 | (injection eo17 with ea_ en_ ec_; (first | subst ea_ | (injection ea_ with ea_; subst ea_)); subst ec_; clear en_))
          have GB17 := Aside0.mk gb17
          clear gl17 HG17
          (first | simp only [add_plain] at hx | skip)
          obtain ⟨hx17_0, hf17_0⟩ := Kd.R_celln 0 HV.out (j : Int) p0 q0
          simp only [Int.toNat_natCast] at hx hx17_0 hf17_0
          have HP18 := Kd.R_putg HV.out (j : Int) (((rd x5 (j : Int)) + 1) % 256)
          have ej : IntKind.i64.wrap ((j : Int) + 1) = ((j + 1 : Nat) : Int) := by rw [IntKind.wrap_i64]; have := HK.out.2; have := HN.out; omega
          simp only [Int.toNat_natCast] at HP18
          have HPa := Aside0.mk HP18.1
          have HPc := Aside0.mk (HA.out.move (W' := wr.setCell ⟨go17, j, none⟩ (Value.int IntKind.u8 ((rd x5 (j : Int) + 1) % 256))) (heap_setCell_other _ _ _ _ (by show g ≠ go17; have := HLT.out; omega)) (heap_setCell_other _ _ _ _ (by show b ≠ go17; have := HLT.out; omega)))
          have HPb := Aside0.mk (below_set (v := Value.int IntKind.u8 ((rd x5 (j : Int) + 1) % 256)) (j := j) (HB.out) (show w.heap.size ≤ go17 by have := HLT.out; have := HG.out; omega))
          obtain ⟨ys, hys, hyx⟩ := HX.out
          have HPy := Aside0.mk (show (wr.setCell ⟨go17, j, none⟩ (Value.int IntKind.u8 ((rd x5 (j : Int) + 1) % 256))).heap[xb]? = some (.cells (ys.map (Value.int .u8)).toArray 58 (0, 0)) from (heap_setCell_other _ _ _ _ (fun e => by have h1 : go17 < w4.heap.size := gok17; have h2 := HXW.out; have h3 : xb = go17 := e; omega)).trans hyx)
          clear hyx
          clear HP18 gok17
          go_wp2_with fail
          go_roundg k1
          case measure => omega
          case rel => exact ⟨_, j + 1, by simp, ⟨by have := HK.out; omega, by have := HK.out; omega⟩, HPa, ⟨ys, hys, HPy.out⟩, HPc, HPb⟩
        · have c14 : decide ((j : Int) < (l0.length : Int)) = false := decide_eq_false (by omega)
          clear hl5 HK
          go_wp2_with fail
          go_loopg [54] 17 (fun kq v54 w' => ∃ (j : Nat), v54 = .int .i64 (j : Int) ∧ Aside0 (kq + j = 17 ∧ j ≤ 16) ∧ Aside0 (∃ ys : List Int, ys.length = 16 ∧ w'.heap[xb]? = some (.cells (ys.map (Value.int .u8)).toArray 58 (0, 0))) ∧ Aside0 (At w' g b n l0 0 false 0) ∧ Aside0 (Below w.heap.size w w'))
          case atStart => exact ⟨0, rfl, ⟨by omega, by omega⟩, HX, HA, HB⟩
          case round =>
            clear HX HA HB
            obtain ⟨j, rfl, HK, HX, HA, HB⟩ := hrel
            cases gk with
            | zero => exact absurd HK.out (by omega)
            | succ k1 =>
              by_cases hj : j < 16
              · have c14 : decide ((j : Int) < 16) = true := decide_eq_true (by omega)
                have p0 : (0 : Int) ≤ (j : Int) := by omega
                have q0 : (j : Int) < 16 := by omega
                obtain ⟨ys, hys, hyx⟩ := HX.out
                have hx := blk_byte hyx j (by omega)
                have hf := blk_frozen hyx j
                have ej : IntKind.i64.wrap ((j : Int) + 1) = ((j + 1 : Nat) : Int) := by rw [IntKind.wrap_i64]; omega
                have HPy := Aside0.mk (blk_put hyx j ((rd ys (j : Int) - 1) % 256))
                have HPl := Aside0.mk (show (ys.set j ((rd ys (j : Int) - 1) % 256)).length = 16 by rw [List.length_set, hys])
                have HPc := Aside0.mk (HA.out.move (W' := wr.setCell ⟨xb, j, none⟩ (Value.int IntKind.u8 ((rd ys (j : Int) - 1) % 256))) (heap_setCell_other _ _ _ _ (by show g ≠ xb; have := HLT.out; have := HXL.out; omega)) (heap_setCell_other _ _ _ _ (by show b ≠ xb; have := HLT.out; have := HXL.out; omega)))
                have HPb := Aside0.mk (below_set (v := Value.int IntKind.u8 ((rd ys (j : Int) - 1) % 256)) (j := j) (HB.out) (show w.heap.size ≤ xb by have := HLT.out; have := HG.out; have := HXL.out; omega))
                clear hyx hys
                go_wp2_with fail
                go_roundg k1
                case measure => omega
                case rel => exact ⟨j + 1, by simp, ⟨by have := HK.out; omega, by have := HK.out; omega⟩, ⟨_, HPl.out, HPy.out⟩, HPc, HPb⟩
              · have c14 : decide ((j : Int) < 16) = false := decide_eq_false (by omega)
                clear HK
                go_wp2_with fail
                obtain ⟨w6, hw6⟩ : ∃ w6, w6 = wr.alloc (.cells #[.int .u8 1, .int .u8 2, .int .u8 3] 5) := ⟨_, rfl⟩
                rw [← hw6]
                have HA6 := Aside0.mk (show At w6 g b n l0 0 false 0 by rw [hw6]; exact HA.out.below ((Below.refl _ _).alloc (Nat.le_refl _) _))
                have HB6 := Aside0.mk (show Below w.heap.size w w6 by rw [hw6]; exact HB.out.alloc HB.out.size _)
                have HZ6 := Aside0.mk (show w6.heap[wr.heap.size]? = some (.cells (([1, 2, 3] : List Int).map (Value.int .u8)).toArray 5 (0, 0)) by rw [hw6]; exact heap_alloc_last wr _)
                have HZC := Aside0.mk (show Kd.C (Kd.int .u8) w6 (some ⟨wr.heap.size, 0, none⟩) 3 [1, 2, 3] by rw [hw6]; exact Aid.C_new (enc := Value.int .u8) (h1 := fun _ => rfl) (0 : Int) wr [1, 2, 3] #[.int .u8 1, .int .u8 2, .int .u8 3] 5 (0, 0) rfl (by decide))
                have HZS := Aside0.mk (show wr.heap.size < w6.heap.size ∧ g < wr.heap.size ∧ b < wr.heap.size from ⟨blk_lt HZ6.out, HA.out.lt.1, HA.out.lt.2⟩)
                clear HA HB hw6
                refine (Bytes HA6.out).mono ?_; rintro e w7 ⟨v7, rfl, hR7, hB7⟩
                have HV7 := Aside0.mk (Kd.R_mono (Kd.R_bound hR7) (ok' := fun k => w6.heap.size ≤ k) (fun k hk => hk.2.1))
                obtain ⟨A7, c7, rfl⟩ := Kd.R_slice HV7.out
                have HA7 := Aside0.mk (HA6.out.below hB7)
                have HB7 := Aside0.mk (Aid.bthen HB6.out hB7)
                have HZ7 := Aside0.mk ((hB7.block _ HZS.out.1).trans HZ6.out)
                have HZC7 := Aside0.mk (Kd.C_below HZC.out hB7)
                have HS7 := Aside0.mk hB7.size
                clear HA6 HB6 HZ6 HZC hR7 hB7
                go_wp2_with fail
                refine (Write.ok HA7.out q (some ⟨wr.heap.size, 0, none⟩) 3 [1, 2, 3] HZC7.out (by decide) hq (by decide) rfl (by decide) (by decide)).mono ?_; rintro e w8 ⟨rfl, hA8, hO8⟩
                have hz8 := (hO8.keep _ (Nat.lt_of_lt_of_le HZS.out.1 HS7.out) (by have := HZS.out; omega) (by have := HZS.out; omega)).trans HZ7.out
                have cz := blk_byte hz8 0 (by decide)
                have fz := blk_frozen hz8 0
                have HV8 := Aside0.mk (Kd.R_step HV7.out (fun k hk hlt => hO8.keep k hlt (by have := HZS.out; omega) (by have := HZS.out; omega)))
                have HV9 := Aside0.mk (Kd.R_far HV8.out (p := ⟨wr.heap.size, 0, none⟩) (fun k hk => by show k ≠ wr.heap.size; have := HZS.out; omega) (.int .u8 9))
                have HB9 := Aside0.mk ((HB7.out.trans (hO8.low _ HG.out HGB.out HB7.out.size)).setCell (p := ⟨wr.heap.size, 0, none⟩) (show w.heap.size ≤ wr.heap.size by have := HZS.out; have := HG.out; omega) (.int .u8 9))
                have HA9 := Aside0.mk (hA8.move (W' := w8.setCell ⟨wr.heap.size, 0, none⟩ (.int .u8 9)) (heap_setCell_other _ _ _ _ (by show g ≠ wr.heap.size; have := HZS.out; omega)) (heap_setCell_other _ _ _ _ (by show b ≠ wr.heap.size; have := HZS.out; omega)))
                clear hz8 HV7 HV8 HA7 HB7 HZ7 HZC7 HS7 hA8 hO8
                go_wp2_with fail
                refine (alive _).mono ?_; rintro e w10 ⟨rfl, hB10⟩
                have HC10 := Aside0.mk (Kd.C_below (Kd.R_reads' HV9.out).2.2 hB10)
                have hc7 := (Kd.R_reads' HV9.out).2.1
                have HA10 := Aside0.mk (HA9.out.below hB10)
                have HB10 := Aside0.mk (Aid.bthen HB9.out hB10)
                clear HV9 HA9 HB9 hB10
                go_wp2_with fail
                have S22 := SameRows A7 l0.length c7 (some ad) l0.length c0 l0 w10 rfl rfl HC10.out hc7 (Kd.C_below HR.out HB10.out) hc0 (by have := HN.out; omega)
                refine S22.mono ?_; clear S22; rintro e w11 ⟨rfl, ⟨m11, rfl⟩⟩
                go_wp2_with fail
                refine (Read.yes (HA10.out.drewN m11) q hq).mono ?_; rintro e w12 ⟨x12, rfl, _, _, hB12⟩
                have HA12 := Aside0.mk ((HA10.out.drewN m11).below hB12)
                have HB12 := Aside0.mk (Aid.bthen (pw_below_drewN HB10.out m11) hB12)
                clear hB12 HA10 HB10 HC10
                go_wp2_with fail
                refine (Read.yes HA12.out q hq).mono ?_; rintro e w13 ⟨x13, rfl, _, hx13, hB13⟩
                have HB13 := Aside0.mk (Aid.bthen HB12.out hB13)
                rw [part_put HN.out hq (by decide)] at hx13
                have c13 : w13.cell? ⟨x13, 0, none⟩ = some (.int .u8 1) := by rw [cell_of_row _ _ _ _ _ _ hx13]; rfl
                clear hB13 HA12 HB12 hx13
                go_wp2_with fail
                go_ret
                exact ⟨rfl, HB13.out⟩
  · have HK := Aside0.mk hk; clear hk
    go_enter Try.func7, Try.ntmps7
    go_wp2_with fail
    refine FW.out.mono ?_; rintro e w1 ⟨r, rfl, _, hB⟩
    have HB := Aside0.mk hB; clear hB
    cases r
    · go_wp2_with fail
      refine (alive _).mono ?_; rintro e w2 ⟨rfl, h2⟩
      have HB2 := Aside0.mk (Aid.bthen HB.out h2); clear h2
      go_wp2_with fail
      go_ret
      exact ⟨rfl, HB2.out⟩
    go_wp2_with fail
    refine (RT.out _).mono ?_; rintro e w2 ⟨rfl, ⟨m2, rfl⟩⟩
    go_wp2_with fail
    refine (Load.ok ad c0 n l0 _ (Kd.C_below HR.out (pw_below_drewN HB.out m2)) hc0 HN.out h1n h2n).mono ?_
    rintro e w3 ⟨g, b, rfl, hA, hg, hb, hB3⟩
    have HA := Aside0.mk hA
    have HB3 := Aside0.mk (Aid.bthen (pw_below_drewN HB.out m2) hB3)
    have HG := Aside0.mk (show w.heap.size ≤ g from Nat.le_trans HB.out.size hg)
    have HGB := Aside0.mk (show w.heap.size ≤ b from Nat.le_trans HB.out.size hb)
    have HLT := Aside0.mk hA.lt
    clear hA hB3 hg hb HB
    go_wp2_with fail
    refine (Bytes HA.out).mono ?_; rintro e w4 ⟨v4, rfl, hR4, hB4⟩
    have HA2 := Aside0.mk (HA.out.below hB4)
    have HB4 := Aside0.mk (Aid.bthen HB3.out hB4)
    have HS4 := Aside0.mk hB4.size
    have HV := Aside0.mk hR4
    obtain ⟨A4, c4, rfl⟩ := Kd.R_slice HV.out
    clear hR4 hB4 HA HB3
    go_wp2_with fail
    refine (Read.no HA2.out k HK.out).mono ?_; rintro e w5 ⟨rfl, ⟨m5, rfl⟩⟩
    obtain ⟨w5, hw5⟩ : ∃ w5, w5 = w4.drewN m5 := ⟨_, rfl⟩
    rw [← hw5]
    have HV5 := Aside0.mk (show Kd.R (Kd.int .u8) 5 w5 w3.heap.size (fun _ => True) (.slice A4 l0.length c4) l0 by rw [hw5]; exact Kd.R_drewN HV.out m5)
    have HA5 := Aside0.mk (show At w5 g b n l0 0 false 0 by rw [hw5]; exact HA2.out.drewN m5)
    have HB5 := Aside0.mk (show Below w.heap.size w w5 by rw [hw5]; exact pw_below_drewN HB4.out m5)
    clear hw5 HA2 HB4 HV HS4
    go_wp2_with fail
    have HV6 := HV5
    clear HV5
    go_loopg [42] (l0.length + 1) (fun kq v42 w' => ∃ (x5 : List Int) (j : Nat), v42 = .int .i64 (j : Int) ∧ Aside0 (kq + j = l0.length + 1 ∧ j ≤ l0.length) ∧ Aside0 (Kd.R (Kd.int .u8) 5 w' w3.heap.size (fun _ => True) (.slice A4 l0.length c4) x5) ∧ Aside0 (At w' g b n l0 0 false 0) ∧ Aside0 (Below w.heap.size w w'))
    case atStart => exact ⟨l0, 0, rfl, ⟨by omega, by omega⟩, HV6, HA5, HB5⟩
    case round =>
      clear HV6 HA5 HB5 
      obtain ⟨x5, j, rfl, HK, HV, HA, HB⟩ := hrel
      have hl5 := (Kd.R_reads' HV.out).1
      cases gk with
      | zero => exact absurd HK.out (by omega)
      | succ k1 =>
        by_cases hj : j < l0.length
        · have c14 : decide ((j : Int) < (l0.length : Int)) = true := by simpa using hj
          have p0 : (0 : Int) ≤ (j : Int) := by omega
          have q0 : (j : Int) < (l0.length : Int) := by omega
          have q1 : (j : Int) < (x5.length : Int) := by omega
          have HL5 := Aside0.mk hl5; clear hl5
          obtain ⟨ad130, e130, hx⟩ := Kd.at_int (Kd.R_reads' HV.out).2.2 (j : Int) p0 q1
          cases e130
          obtain ⟨go17, co17, eo17, gb17, gl17, cl17, HG17⟩ := Kd.R_form HV.out (by have := HL5.out; omega)
          have gok17 : (fun _ => True) go17 := HV.out.1 go17 (by rw [eo17]; simp [Value.ownBlock])
          (first | cases eo17 | (injection eo17 with ea_ en_ ec_; (first | subst ea_ | (injection ea_ with ea_; subst ea_)); subst ec_; clear en_))
          have GB17 := Aside0.mk gb17
          clear gl17 HG17
          (first | simp only [add_plain] at hx | skip)
          obtain ⟨hx17_0, hf17_0⟩ := Kd.R_celln 0 HV.out (j : Int) p0 q0
          simp only [Int.toNat_natCast] at hx hx17_0 hf17_0
          have HP18 := Kd.R_putg HV.out (j : Int) (((rd x5 (j : Int)) + 1) % 256)
          have ej : IntKind.i64.wrap ((j : Int) + 1) = ((j + 1 : Nat) : Int) := by rw [IntKind.wrap_i64]; have := HK.out.2; have := HN.out; omega
          simp only [Int.toNat_natCast] at HP18
          have HPa := Aside0.mk HP18.1
          have HPc := Aside0.mk (HA.out.move (W' := wr.setCell ⟨go17, j, none⟩ (Value.int IntKind.u8 ((rd x5 (j : Int) + 1) % 256))) (heap_setCell_other _ _ _ _ (by show g ≠ go17; have := HLT.out; omega)) (heap_setCell_other _ _ _ _ (by show b ≠ go17; have := HLT.out; omega)))
          have HPb := Aside0.mk (below_set (v := Value.int IntKind.u8 ((rd x5 (j : Int) + 1) % 256)) (j := j) (HB.out) (show w.heap.size ≤ go17 by have := HLT.out; have := HG.out; omega))
          clear HP18 gok17
          go_wp2_with fail
          go_roundg k1
          case measure => omega
          case rel => exact ⟨_, j + 1, by simp, ⟨by have := HK.out; omega, by have := HK.out; omega⟩, HPa, HPc, HPb⟩
        · have c14 : decide ((j : Int) < (l0.length : Int)) = false := decide_eq_false (by omega)
          clear hl5 HK
          go_wp2_with fail
          go_loopg [54] 1 (fun kq v54 w' => v54 = .int .i64 0 ∧ Aside0 (At w' g b n l0 0 false 0) ∧ Aside0 (Below w.heap.size w w'))
          case atStart => exact ⟨rfl, HA, HB⟩
          case round =>
            clear HA HB
            obtain ⟨rfl, HA, HB⟩ := hrel
            go_wp2_with fail
            obtain ⟨w6, hw6⟩ : ∃ w6, w6 = wr.alloc (.cells #[.int .u8 1, .int .u8 2, .int .u8 3] 5) := ⟨_, rfl⟩
            rw [← hw6]
            have HA6 := Aside0.mk (show At w6 g b n l0 0 false 0 by rw [hw6]; exact HA.out.below ((Below.refl _ _).alloc (Nat.le_refl _) _))
            have HB6 := Aside0.mk (show Below w.heap.size w w6 by rw [hw6]; exact HB.out.alloc HB.out.size _)
            have HZ6 := Aside0.mk (show w6.heap[wr.heap.size]? = some (.cells (([1, 2, 3] : List Int).map (Value.int .u8)).toArray 5 (0, 0)) by rw [hw6]; exact heap_alloc_last wr _)
            have HZC := Aside0.mk (show Kd.C (Kd.int .u8) w6 (some ⟨wr.heap.size, 0, none⟩) 3 [1, 2, 3] by rw [hw6]; exact Aid.C_new (enc := Value.int .u8) (h1 := fun _ => rfl) (0 : Int) wr [1, 2, 3] #[.int .u8 1, .int .u8 2, .int .u8 3] 5 (0, 0) rfl (by decide))
            have HZS := Aside0.mk (show wr.heap.size < w6.heap.size ∧ g < wr.heap.size ∧ b < wr.heap.size from ⟨blk_lt HZ6.out, HA.out.lt.1, HA.out.lt.2⟩)
            clear HA HB hw6
            refine (Bytes HA6.out).mono ?_; rintro e w7 ⟨v7, rfl, hR7, hB7⟩
            have HV7 := Aside0.mk (Kd.R_mono (Kd.R_bound hR7) (ok' := fun k => w6.heap.size ≤ k) (fun k hk => hk.2.1))
            obtain ⟨A7, c7, rfl⟩ := Kd.R_slice HV7.out
            have HA7 := Aside0.mk (HA6.out.below hB7)
            have HB7 := Aside0.mk (Aid.bthen HB6.out hB7)
            have HZ7 := Aside0.mk ((hB7.block _ HZS.out.1).trans HZ6.out)
            have HZC7 := Aside0.mk (Kd.C_below HZC.out hB7)
            have HS7 := Aside0.mk hB7.size
            clear HA6 HB6 HZ6 HZC hR7 hB7
            go_wp2_with fail
            refine (Write.arg HA7.out k (some ⟨wr.heap.size, 0, none⟩) 3 [1, 2, 3] (.inl HK.out)).mono ?_; rintro e w8 ⟨rfl, ⟨m8, rfl⟩⟩
            obtain ⟨w8, hw8⟩ : ∃ w8, w8 = w7.drewN m8 := ⟨_, rfl⟩
            rw [← hw8]
            have hA8 : At w8 g b n l0 0 false 0 := by rw [hw8]; exact HA7.out.drewN m8
            have hO8 : Only g b w7 w8 := by rw [hw8]; exact (Only.refl g b w7).drewN m8
            clear hw8
            have hz8 := (hO8.keep _ (Nat.lt_of_lt_of_le HZS.out.1 HS7.out) (by have := HZS.out; omega) (by have := HZS.out; omega)).trans HZ7.out
            have cz := blk_byte hz8 0 (by decide)
            have fz := blk_frozen hz8 0
            have HV8 := Aside0.mk (Kd.R_step HV7.out (fun k hk hlt => hO8.keep k hlt (by have := HZS.out; omega) (by have := HZS.out; omega)))
            have HV9 := Aside0.mk (Kd.R_far HV8.out (p := ⟨wr.heap.size, 0, none⟩) (fun k hk => by show k ≠ wr.heap.size; have := HZS.out; omega) (.int .u8 9))
            have HB9 := Aside0.mk ((HB7.out.trans (hO8.low _ HG.out HGB.out HB7.out.size)).setCell (p := ⟨wr.heap.size, 0, none⟩) (show w.heap.size ≤ wr.heap.size by have := HZS.out; have := HG.out; omega) (.int .u8 9))
            have HA9 := Aside0.mk (hA8.move (W' := w8.setCell ⟨wr.heap.size, 0, none⟩ (.int .u8 9)) (heap_setCell_other _ _ _ _ (by show g ≠ wr.heap.size; have := HZS.out; omega)) (heap_setCell_other _ _ _ _ (by show b ≠ wr.heap.size; have := HZS.out; omega)))
            clear hz8 HV7 HV8 HA7 HB7 HZ7 HZC7 HS7 hA8 hO8
            go_wp2_with fail
            refine (alive _).mono ?_; rintro e w10 ⟨rfl, hB10⟩
            have HC10 := Aside0.mk (Kd.C_below (Kd.R_reads' HV9.out).2.2 hB10)
            have hc7 := (Kd.R_reads' HV9.out).2.1
            have HA10 := Aside0.mk (HA9.out.below hB10)
            have HB10 := Aside0.mk (Aid.bthen HB9.out hB10)
            clear HV9 HA9 HB9 hB10
            go_wp2_with fail
            have S22 := SameRows A7 l0.length c7 (some ad) l0.length c0 l0 w10 rfl rfl HC10.out hc7 (Kd.C_below HR.out HB10.out) hc0 (by have := HN.out; omega)
            refine S22.mono ?_; clear S22; rintro e w11 ⟨rfl, ⟨m11, rfl⟩⟩
            go_wp2_with fail
            refine (Read.no (HA10.out.drewN m11) k HK.out).mono ?_; rintro e w12 ⟨rfl, ⟨m12, rfl⟩⟩
            go_wp2_with fail
            go_ret
            exact ⟨rfl, pw_below_drewN HB10.out _⟩
theorem redresslaw17_DiskOwn.calls (A0 : Option Addr) (c0 : Nat) (l0 : List Int) (a1 : Int) (r : Bool) (w : World) (hr0 : Kd.C (Kd.int .u8) w A0 l0.length l0) (hc0 : l0.length ≤ c0) (h : redresslaw17_DiskOwn.f l0 a1 = some r) :
    Calls Try.prog 7 #[.slice A0 l0.length c0, .int .i64 a1] w fun e w' => e = .returned (.bool r) ∧ Below w.heap.size w w' := by
  obtain rfl := Option.some.inj h
  exact DiskOwn A0 c0 l0 a1 w hr0 hc0
end Disk
end Go.Proofs.Ytphgoiepoojikaa
