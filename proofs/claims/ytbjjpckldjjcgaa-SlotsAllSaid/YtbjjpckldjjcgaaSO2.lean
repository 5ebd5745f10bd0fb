/- The reference's Save: its walk, all of it. -/
import Derived.Test.YtbjjpckldjjcgaaSO
namespace Go.Proofs.Ytbjjpckldjjcgaa
open Go.RowKit Go.Proofs.YtbjjpckldjjcgaaW.PrintWords Go.Proofs.YtbjjpckldjjcgaaW.PrintLast Go.Proofs.YtbjjpckldjjcgaaW.PrintMore Go.Proofs.Ytbjjpckldjjcgaa.PK
set_option linter.unusedVariables false
set_option linter.unusedSimpArgs false
set_option maxHeartbeats 4000000
set_option maxRecDepth 100000
namespace Disk
namespace Slots
theorem RefSave.go (P0 : Nat → Prop) (A : Option Addr) (c n : Nat) (t : St) (num : Nat) (h0 : num ≠ 0) (hnum : num < 18446744073709551616) (A2 : Option Addr) (c2 : Nat) (data : List Int) (w0 w : World) (hB : Below w0.heap.size w0 w) (ho : Kd.R (Kd.int .u8) 5 w w0.heap.size P0 (.slice A t.db.length c) t.db)
    (hn : n ≤ 1024) (hl : t.db.length = 16 * n) (h3 : 3 ≤ n / 2) (hL : ¬ room n < data.length) (hr2 : Kd.C (Kd.int .u8) w0 A2 data.length data) (hc2 : data.length ≤ c2) (hd : Crc.okb data = true) (hrt : t.right) (hok : t.ok 900000) :
    Calls Try.prog 31 #[.agg #[.slice A t.db.length c, .int .i64 t.many, .int .i64 (rleft t)], .int .u64 (num : Int), .slice A2 data.length c2] w (SaveTold w0 w P0 (save n t num data)) := by
  have HB := Aside0.mk hB; have HO := Aside0.mk ho
  have hR := Kd.R_reads' ho
  have HRM := Aside0.mk (fun W (h : Kd.C (Kd.int .u8) W A t.db.length t.db) => RefRoom A c n t.db t.many (rleft t) W h hR.2.1 hl hn h3)
  have HHL := Aside0.mk (fun W (A' : Option Addr) (c' : Nat) (x y : Int) => RefHalfL A' c' t.db.length n x y W hl hn)
  have h0' : ((num : Int) == 0) = false := beq_eq_false_iff_ne.2 (by omega)
  have hL' : decide (room n < data.length) = false := decide_eq_false hL
  have HCR := Aside0.mk hR.2.2
  have hl2048 : data.length ≤ 2048 := by have : room n ≤ 2048 := by { unfold room; omega }; omega
  have hcr : many (Ref.framel num data) ≤ n / 2 - 1 := room_many num h3 (by omega)
  have HLE := Aside0.mk (from_le n num)
  obtain ⟨M, hM⟩ : ∃ M, M = many (Ref.framel num data) := ⟨_, rfl⟩
  obtain ⟨a, ha⟩ : ∃ a, a = from_ n num := ⟨_, rfl⟩
  obtain ⟨f, hf⟩ : ∃ f, f = Ref.framel num data := ⟨_, rfl⟩
  obtain ⟨m, hm⟩ : ∃ m, m = n / 2 := ⟨_, rfl⟩
  obtain ⟨rs, hrs⟩ : ∃ rs, rs = save n t num data := ⟨_, rfl⟩
  have ES : Aside0 (rs = wrs n (rows a f 0 M ++ [(a + m - 1, Crc.putl num 8)]) t) := ⟨by rw [hrs, save_rows t h0 hL, hM, ha, hf, hm]⟩
  have HM : Aside0 (M ≤ m - 1 ∧ 1 ≤ M ∧ M * 16 < data.length + 32 ∧ data.length + 16 ≤ M * 16) := ⟨by rw [hM, hm, many_frame]; rw [many_frame] at hcr; omega⟩
  have HF : Aside0 (f.length = 16 + data.length ∧ data.length ≤ 2048 ∧ data.length ≤ c2) := ⟨by rw [hf, Ref.framel_length]; exact ⟨rfl, hl2048, hc2⟩⟩
  have HCD : Aside0 (∀ k, chunk f (k + 1) = chunk data k) := ⟨fun k => by rw [hf]; exact chunk_data num data k⟩
  have HA : Aside0 (a + m ≤ n ∧ 3 ≤ m ∧ m ≤ 512 ∧ n ≤ 1024) := ⟨by have h1 := HLE.out; rw [← ha, ← hm] at h1; omega⟩
  have HF1 : Aside0 (∀ W, Kd.C (Kd.int .u8) W A2 data.length data → Calls Try.prog 48 #[.int .u64 (num : Int), .slice A2 data.length c2] W fun e w' => ∃ v0_ : Value, e = .returned (.tuple #[v0_, .bool true]) ∧ Kd.R (Kd.int .u8) 5 w' W.heap.size (fun _ => True) v0_ f ∧ Below W.heap.size W w') :=
    ⟨fun W hW => by rw [hf]; exact redressref16_Frame.calls 3000 (num : Int) A2 c2 data _ true W hW hc2 (Ref.refFrame num 3000 data hnum hd hl2048 (by decide))⟩
  have HP1 : Aside0 (∀ W, Calls Try.prog 50 #[.int .u64 (num : Int), .int .i64 8] W fun e w' => ∃ v0_ : Value, e = .returned v0_ ∧ Kd.R (Kd.int .u8) 5 w' W.heap.size (fun _ => True) v0_ (Crc.putl num 8) ∧ Below W.heap.size W w') :=
    ⟨fun W => redressref16_Put.calls 9 (num : Int) 8 (Crc.putl num 8) W (by rw [Ref.put num 9 8 hnum (by decide)]; rfl)⟩
  have e3 : wrap64 ((num : Int) % 2 * (m : Int)) = (a : Int) := wrap_from num m a (by rw [ha, hm]; rfl) (by have := HA.out; omega)
  have HR2 := Aside0.mk hr2
  have HLN := Aside0.mk (show t.db.length = 16 * n ∧ n ≤ 1024 from ⟨hl, hn⟩)
  have HRT := Aside0.mk hrt; have HOK := Aside0.mk hok
  rw [← hm] at HHL
  rw [← hrs]
  clear hB ho hn hl h3 hL h0 hR hr2 hc2 hd hrt hok hl2048 hcr hM ha hf hm hrs hnum
  go_enter Try.func31, Try.ntmps31
  go_upto_region 1 with fail
  obtain ⟨q3, hq3⟩ : ∃ q, q = w.heap.size := ⟨_, rfl⟩
  obtain ⟨q6, hq6⟩ : ∃ q, q = w.heap.size + 1 := ⟨_, rfl⟩
  obtain ⟨w1, hw1⟩ : ∃ w1, w1 = (w.alloc (.cells #[.slice A t.db.length c, .int .i64 t.many, .int .i64 (rleft t)] 44)).alloc (.cells #[.slice none 0 0, .int .i64 0, .int .i64 0] 44) := ⟨_, rfl⟩
  have hb1 : Below w.heap.size w w1 := by rw [hw1]; exact ((Below.refl _ _).alloc (Nat.le_refl _) _).alloc (by simp) _
  have HQ3 := Aside0.mk (show w1.heap[q3]? = some (.cells #[.slice A t.db.length c, .int .i64 t.many, .int .i64 (rleft t)] 44 (0, 0)) by rw [hw1, hq3, Below.heap_alloc _ _ _ (by simp)]; exact Aid.heap_new w _)
  have HQ6 := Aside0.mk (show w1.heap[q6]? = some (.cells #[.slice none 0 0, .int .i64 0, .int .i64 0] 44 (0, 0)) by rw [hw1, hq6]; have := Aid.heap_new (w.alloc (.cells #[.slice A t.db.length c, .int .i64 t.many, .int .i64 (rleft t)] 44)) (.cells #[.slice none 0 0, .int .i64 0, .int .i64 0] 44); simpa using this)
  have HQQ := Aside0.mk (show w.heap.size ≤ q3 ∧ w.heap.size ≤ q6 ∧ q3 ≠ q6 from ⟨by omega, by omega, by omega⟩)
  have HB1 := Aside0.mk hb1
  rw [← hw1, ← hq6, ← hq3]
  clear hw1 hq3 hq6 hb1
  have a0 : w1.cell? ⟨q3, 0, none⟩ = some (.slice A t.db.length c) := by rw [cell_of_row _ _ _ _ _ _ HQ3.out]; rfl
  have a1 : w1.cell? ⟨q3, 1, none⟩ = some (.int .i64 t.many) := by rw [cell_of_row _ _ _ _ _ _ HQ3.out]; rfl
  have a2 : w1.cell? ⟨q3, 2, none⟩ = some (.int .i64 (rleft t)) := by rw [cell_of_row _ _ _ _ _ _ HQ3.out]; rfl
  go_wp2_with fail
  refine (HRM.out _ (Kd.C_below HCR.out HB1.out)).mono ?_; rintro e w2 ⟨rfl, hB2⟩
  have HQ3b := Aside0.mk ((hB2.block _ (blk_lt HQ3.out)).trans HQ3.out); have HQ6b := Aside0.mk ((hB2.block _ (blk_lt HQ6.out)).trans HQ6.out)
  have HB2 := Aside0.mk (Aid.bthen HB1.out hB2)
  clear hB2 HRM HQ3 HQ6 HB1 a0 a1 a2
  have a0 : w2.cell? ⟨q3, 0, none⟩ = some (.slice A t.db.length c) := by rw [cell_of_row _ _ _ _ _ _ HQ3b.out]; rfl
  have a1 : w2.cell? ⟨q3, 1, none⟩ = some (.int .i64 t.many) := by rw [cell_of_row _ _ _ _ _ _ HQ3b.out]; rfl
  have a2 : w2.cell? ⟨q3, 2, none⟩ = some (.int .i64 (rleft t)) := by rw [cell_of_row _ _ _ _ _ _ HQ3b.out]; rfl
  go_wp2_with fail
  refine (HHL.out _ _ _ _ _).mono ?_; rintro e w3 ⟨rfl, hB3⟩
  have HQ3c := Aside0.mk ((hB3.block _ (blk_lt HQ3b.out)).trans HQ3b.out); have HQ6c := Aside0.mk ((hB3.block _ (blk_lt HQ6b.out)).trans HQ6b.out)
  have HB3 := Aside0.mk (Aid.bthen HB2.out hB3)
  clear hB3 HQ3b HQ6b HB2 a0 a1 a2
  go_wp2_with fail
  rw [e3]
  refine (HF1.out _ (Kd.C_below HR2.out (Aid.bthen HB.out HB3.out))).mono ?_; rintro e w4 ⟨v4, rfl, hv4, hB4⟩
  obtain ⟨A4, c4, rfl, hc4, hC4⟩ := Kd.R_reads hv4
  obtain ⟨ad4, rfl, -⟩ := (Kd.reads_of_C (d := (0 : Int)) hC4).2.2 (by have := HF.out; omega)
  have HQ3d := Aside0.mk ((hB4.block _ (blk_lt HQ3c.out)).trans HQ3c.out); have HQ6d := Aside0.mk ((hB4.block _ (blk_lt HQ6c.out)).trans HQ6c.out)
  have HW3 := Aside0.mk (show w.heap.size ≤ w3.heap.size from HB3.out.size)
  have HV4 := Aside0.mk (Kd.R_mono (Kd.R_bound hv4) (fun k hk => (show w.heap.size ≤ k from Nat.le_trans HW3.out hk.2.1)))
  have HW34 := Aside0.mk hB4.size
  have HB4 := Aside0.mk (Aid.bthen HB3.out hB4)
  have HCC4 := Aside0.mk hc4
  clear hB4 HQ3c HQ6c HB3 hv4 hC4 hc4
  have a0 : w4.cell? ⟨q3, 0, none⟩ = some (.slice A t.db.length c) := by rw [cell_of_row _ _ _ _ _ _ HQ3d.out]; rfl
  have a1 : w4.cell? ⟨q3, 1, none⟩ = some (.int .i64 t.many) := by rw [cell_of_row _ _ _ _ _ _ HQ3d.out]; rfl
  have a2 : w4.cell? ⟨q3, 2, none⟩ = some (.int .i64 (rleft t)) := by rw [cell_of_row _ _ _ _ _ _ HQ3d.out]; rfl
  go_upto_region 7 with fail
  have HW4 := Aside0.mk (show w3.heap.size ≤ w4.heap.size ∧ w.heap.size ≤ w4.heap.size from ⟨by have := HV4.out; exact HW34.out, HB4.out.size⟩)
  have HO4 := Aside0.mk (Kd.R_below (Kd.R_mono (Kd.R_bound HO.out) (fun k hk => (show P0 k ∧ k < w.heap.size from ⟨hk.1, hk.2.2.1⟩))) HB4.out)
  have h16 : (f.take 16).length = 16 := by rw [List.length_take]; have := HF.out; omega
  have KEY : Aside0 (∀ W, Below w4.heap.size w4 W → Calls Try.prog 49 #[.agg #[.slice A t.db.length c, .int .i64 t.many, .int .i64 (rleft t)], .int .i64 (a : Int), .slice (some ad4) 16 c4] W fun e w' => ∃ v : Value, e = .returned (.tuple #[.agg #[v, .int .i64 (t.write n a (f.take 16)).2.many, .int .i64 (rleft (t.write n a (f.take 16)).2)], .int .i64 (t.write n a (f.take 16)).1]) ∧
      Kd.R (Kd.int .u8) 5 w' w0.heap.size (fun k_ => ((P0 k_ ∧ k_ < w.heap.size) ∨ W.heap.size ≤ k_)) v (t.write n a (f.take 16)).2.db ∧ Below w0.heap.size w0 w' ∧ Kept W w' (fun k_ => P0 k_ ∧ k_ < w.heap.size)) := ⟨fun W hW => by
    have h := RefWrite (fun k_ => P0 k_ ∧ k_ < w.heap.size) (.slice A t.db.length c) n t (a : Int) (some ad4) c4 (f.take 16) w0 W (Aid.bthen (Aid.bthen HB.out HB4.out) hW) (Kd.R_below HO4.out hW) (fun W2 hk => by
      have h1 := Kd.R_kept (Kd.R_below HV4.out hW) hk (fun k h1 h2 => by omega)
      have h2 := C_cut 0 16 (Kd.R_reads' h1).2.2 (by decide) (by have := HF.out; omega)
      simpa [Addr.add] using h2) (by rw [h16]; have := HF.out; have := HCC4.out; omega) HLN.out.2 HLN.out.1 HRT.out (St.ok_le HOK.out (by decide))
    rw [h16] at h
    exact h⟩
  have hsl := fun W => cut_head ad4 f.length c4 16 16 rfl (by have := HF.out; have := HCC4.out; omega) W
  obtain ⟨r, hr⟩ : ∃ r, r = t.write n a (f.take 16) := ⟨_, rfl⟩
  rw [← hr] at KEY
  have HRR := Aside0.mk hr
  clear hr h16
  have nq : q3 ≠ w4.heap.size := by have := blk_lt HQ3d.out; omega
  have nq' : w4.heap.size ≠ q3 := nq.symm
  have lq : q3 < w4.heap.size := blk_lt HQ3d.out
  go_cut [11, 12] (fun v11 v12 wc => ∃ (q11 : Nat) (A5 : Option Addr) (c5 : Nat), v11 = .pointer (some ⟨q11, 0, none⟩) ∧ v12 = .int .i64 r.1 ∧ Aside0 (Mid w0 w wc P0 q3 q6 q11 A c t A5 c5 r.2))
  case first =>
    go_region_with (go_at_call 49; refine (KEY.out _ ?_).mono ?_; first
      | (exact (Below.refl _ _).drew; rintro e w5 ⟨v5, rfl, hR5, hB5, hK5⟩; obtain ⟨A5, c5, hv5, hc5, -⟩ := Kd.R_reads hR5; subst hv5)
      | (exact ((Below.refl _ _).drew).alloc (Nat.le_refl _) _; rintro e w5 ⟨v5, rfl, hR5, hB5, hK5⟩; obtain ⟨A5, c5, hv5, hc5, -⟩ := Kd.R_reads hR5; subst hv5; have hz5 := blk_kept (Aid.heap_new w4.drew (.cells #[.slice none 0 0, .int .i64 0, .int .i64 0] 44)) hK5 (fun h => by have h1 := h.2; have h2 := HW4.out.2; exact absurd (show w4.heap.size < w.heap.size from h1) (by omega)); have hz6 : w5.heap[w4.heap.size]? = some (.cells #[.slice none 0 0, .int .i64 0, .int .i64 0] 44 (0, 0)) := hz5; have z0 : w5.cell? ⟨w4.heap.size, 0, none⟩ = some (.slice none 0 0) := (by rw [cell_of_row _ _ _ _ _ _ hz6]; rfl); have z1 : w5.cell? ⟨w4.heap.size, 1, none⟩ = some (.int .i64 0) := (by rw [cell_of_row _ _ _ _ _ _ hz6]; rfl); have z2 : w5.cell? ⟨w4.heap.size, 2, none⟩ = some (.int .i64 0) := (by rw [cell_of_row _ _ _ _ _ _ hz6]; rfl); have f0 : w5.frozen? ⟨w4.heap.size, 0, none⟩ = false := blk_frozen hz6 0; have f1 : w5.frozen? ⟨w4.heap.size, 1, none⟩ = false := blk_frozen hz6 1; have f2 : w5.frozen? ⟨w4.heap.size, 2, none⟩ = false := blk_frozen hz6 2))
    all_goals go_wp2_with fail
    all_goals go_meet
    all_goals first
      | (refine ⟨w5.heap.size, A5, c5, rfl, rfl, ⟨Mid.of_alloc (P := fun k_ => (P0 k_ ∧ k_ < w.heap.size) ∨ w4.heap.size ≤ k_) (blk_kept (W := w4.drew) HQ3d.out hK5 (fun h => Nat.not_lt.2 HQQ.out.1 h.2)) (blk_kept (W := w4.drew) HQ6d.out hK5 (fun h => Nat.not_lt.2 HQQ.out.2.1 h.2)) hR5 (fun k hk => ?_) hB5 ((Kept.of_below HB4.out (fun k => P0 k)).then_ hK5 (fun k h => .inl h.1)) ⟨⟨HQQ.out.1, HQQ.out.2.1⟩, HQQ.out.2.2⟩⟩⟩; have l3 := blk_lt HQ3d.out; have l6 := blk_lt HQ6d.out; have hqq := HQQ.out; have hw4 := HW4.out; exact hk.elim (fun h => ⟨.inl h.1, by have := h.2; omega, by have := h.2; omega⟩) (fun h => ⟨.inr (Nat.le_trans hw4.2 h), by omega, by omega⟩))
      | skip
    all_goals
      have l3 := blk_lt HQ3d.out
      have l6 := blk_lt HQ6d.out
      have hqq := HQQ.out
      have hw4 := HW4.out
      have hal := (Below.refl w4.heap.size w4).alloc (Nat.le_refl _) (.cells #[.slice none 0 0, .int .i64 0, .int .i64 0] 44)
      have hsz : (w4.alloc (.cells #[.slice none 0 0, .int .i64 0, .int .i64 0] 44)).heap.size = w4.heap.size + 1 := by simp
      refine ⟨w4.heap.size, A5, c5, rfl, rfl, ⟨Mid.of_set HB.out.size hz6 (blk_kept ((hal.block _ l3).trans HQ3d.out) hK5 (fun h => Nat.not_lt.2 HQQ.out.1 h.2)) (blk_kept ((hal.block _ l6).trans HQ6d.out) hK5 (fun h => Nat.not_lt.2 HQQ.out.2.1 h.2)) (Kd.R_mono (Kd.R_bound hR5) (fun k hk => ?_)) hB5 (((Kept.of_below HB4.out (fun k => P0 k)).below hal).then_ hK5 (fun k h => .inl h.1)) ⟨⟨HQQ.out.1, HQQ.out.2.1, hw4.2⟩, HQQ.out.2.2, by omega, by omega⟩⟩⟩
      rcases hk.1 with h | h
      · have h1 := h.2
        exact ⟨.inl h.1, hk.2.1, by omega, by omega, by omega⟩
      · have h1 : w4.heap.size + 1 ≤ k := by rw [← hsz]; exact h
        exact ⟨.inr (by omega), hk.2.1, by omega, by omega, by omega⟩
  case rest =>
    obtain ⟨q11, A5, c5, rfl, rfl, HMID⟩ := hcut
    have EM := ES.out
    rw [show M = (M - 1) + 1 by have := HM.out; omega, rows_succ, List.cons_append] at EM
    have e16 : chunk f 0 = f.take 16 := by unfold chunk; simp
    rw [e16] at EM
    have HSK := Aside0.mk (show r.2.ok 900001 ∧ r.2.right ∧ r.2.db.length = 16 * n from ⟨by rw [HRR.out]; exact St.ok_write HOK.out _ _, by rw [HRR.out]; exact right_write HRT.out _ _, by rw [HRR.out]; exact write_len HLN.out.1 _ _⟩)
    have HEV : Aside0 ((r.1 = 0 ∧ rs = wrs n (rows a f (0 + 1) (M - (0 + 1)) ++ [(a + m - 1, Crc.putl num 8)]) r.2) ∨ (r.1 ≠ 0 ∧ rs = (r.1, r.2))) := ⟨by
      by_cases he : r.1 = 0
      · exact .inl ⟨he, by rw [EM, wrs_go (k := (a : Int)) (by omega) (by rw [← HRR.out]; exact he), ← HRR.out]⟩
      · exact .inr ⟨he, by rw [EM, wrs_no (k := (a : Int)) (by omega) (by rw [← HRR.out]; exact he), ← HRR.out]⟩⟩
    clear EM e16 ES KEY HRR HO4 HW4 HQ3d HQ6d HV4 HCC4 hsl nq nq' lq HB4 HW3 HW34 a0 a1 a2
    go_wp2_with fail
    go_loopg [12, 13] (M + 1) (fun kq v12 v13 w' => ∃ (j : Nat) (E : Int) (A5 : Option Addr) (c5 : Nat) (s : St), v12 = .int .i64 E ∧ v13 = .int .i64 (j : Int) ∧ Aside0 (kq + j = M + 1 ∧ j + 1 ≤ M) ∧ Aside0 (Mid w0 w w' P0 q3 q6 q11 A c t A5 c5 s) ∧ Aside0 (s.ok (900001 + j) ∧ s.right ∧ s.db.length = 16 * n) ∧
      Aside0 ((E = 0 ∧ rs = wrs n (rows a f (j + 1) (M - (j + 1)) ++ [(a + m - 1, Crc.putl num 8)]) s) ∨ (E ≠ 0 ∧ rs = (E, s))))
    case atStart => exact ⟨0, _, _, _, _, rfl, rfl, ⟨by omega, by have := HM.out; omega⟩, HMID, HSK, HEV⟩
    case round =>
      clear HMID HSK HEV
      obtain ⟨j, E, A5, c5, s, rfl, rfl, HK, HMID, HSK, HEV⟩ := hrel
      cases gk with
      | zero => exact absurd HK.out (by omega)
      | succ k1 =>
        have HJ := Aside0.mk (show j ≤ 512 by have := HK.out; have := HM.out; have := HA.out; omega)
        have p2 : (j : Int) ≤ 512 := by have := HJ.out; omega
        have ej : IntKind.i64.wrap ((j : Int) + 1) = ((j + 1 : Nat) : Int) := by rw [IntKind.wrap_i64]; omega
        have pd : (data.length : Int) ≤ 2048 := by have := HF.out; omega
        obtain ⟨WR, hWR⟩ : ∃ W, W = wr := ⟨_, rfl⟩
        rw [← hWR] at HMID ⊢
        clear hWR
        by_cases hE : E = 0
        · subst hE
          have HRS : Aside0 (rs = wrs n (rows a f (j + 1) (M - (j + 1)) ++ [(a + m - 1, Crc.putl num 8)]) s) := ⟨HEV.out.elim (fun h => h.2) (fun h => absurd rfl h.1)⟩
          clear HEV
          by_cases hjd : 16 * j < data.length
          · have p1 : 16 * (j : Int) < (data.length : Int) := by omega
            obtain ⟨ad2, rfl⟩ : ∃ ad2, A2 = some ad2 := by
              obtain ⟨y, h', _⟩ := HR2.out.2.2 (by omega)
              exact ⟨y, h'⟩
            by_cases hto : 16 * j + 16 ≤ data.length
            · have p3 : 16 * (j : Int) + 16 ≤ (data.length : Int) := by omega
              have HHI := Aside0.mk (show 16 * j < 16 * j + 16 ∧ 16 * j + 16 ≤ data.length from ⟨by omega, by omega⟩)
              obtain ⟨ec, el⟩ := chunk_cut data j (16 * j + 16) (by omega) (by rcases Nat.lt_or_ge (16 * j + 16) data.length with h | h; exact .inr ⟨by omega, by omega⟩; exact .inl ⟨by omega, by omega⟩)
              have C5 : Kd.C (Kd.int .u8) w0 (some (ad2.add (16 * j))) (chunk data j).length (chunk data j) := by
                have h := C_cut (j * 16) (16 * j + 16) HR2.out (by omega) (by omega)
                rw [← ec] at h
                rwa [show ad2.add (j * 16) = ad2.add (16 * j) by rw [Nat.mul_comm]] at h
              have el2 : (chunk data j).length = 16 := by rw [el]; omega
              have KEY : Aside0 (∀ W, Below WR.heap.size WR W → Calls Try.prog 49 #[.agg #[.slice A5 s.db.length c5, .int .i64 s.many, .int .i64 (rleft s)], .int .i64 ((a : Int) + 1 + (j : Int)), .slice (some (ad2.add (16 * j))) (16) (c2 - 16 * j)] W fun e w' => ∃ v : Value, e = .returned (.tuple #[.agg #[v, .int .i64 (s.write n ((a : Int) + 1 + (j : Int)) (chunk data j)).2.many, .int .i64 (rleft (s.write n ((a : Int) + 1 + (j : Int)) (chunk data j)).2)], .int .i64 (s.write n ((a : Int) + 1 + (j : Int)) (chunk data j)).1]) ∧
                  Kd.R (Kd.int .u8) 5 w' w0.heap.size (fun k_ => (PW P0 w0 w q3 q6 q11 k_ ∨ W.heap.size ≤ k_)) v (s.write n ((a : Int) + 1 + (j : Int)) (chunk data j)).2.db ∧ Below w0.heap.size w0 w' ∧ Kept W w' (fun k_ => PW P0 w0 w q3 q6 q11 k_)) := ⟨fun W hb => by
                have hW := HMID.out.below hb
                have h := RefWrite (PW P0 w0 w q3 q6 q11) (.slice A5 s.db.length c5) n s ((a : Int) + 1 + (j : Int)) (some (ad2.add (16 * j))) (c2 - 16 * j) (chunk data j) w0 W hW.low hW.own (Kd.C_kept_came (Kd.heap_int _) C5 hW.low (fun k h => h.2.1)) (by rw [el2]; have := HF.out.2.2; omega) HLN.out.2 HSK.out.2.2 HSK.out.2.1 (St.ok_le HSK.out.1 (by omega))
                rw [el2] at h
                exact h⟩
              have hsl := fun W => cut_any ad2 data.length c2 (16 * j) (16 * j + 16) (16 * (j : Int)) (16 * (j : Int) + 16) (by omega) (by omega) (by omega) (by have := HF.out; omega) W
              rw [show 16 * j + 16 - 16 * j = 16 by omega] at hsl
              obtain ⟨r, hr⟩ : ∃ r, r = s.write n ((a : Int) + 1 + (j : Int)) (chunk data j) := ⟨_, rfl⟩
              rw [← hr] at KEY
              have HSK2 := Aside0.mk (show r.2.ok (900001 + (j + 1)) ∧ r.2.right ∧ r.2.db.length = 16 * n from ⟨by rw [hr]; exact St.ok_write HSK.out.1 _ _, by rw [hr]; exact right_write HSK.out.2.1 _ _, by rw [hr]; exact write_len HSK.out.2.2 _ _⟩)
              have HEV2 : Aside0 ((r.1 = 0 ∧ rs = wrs n (rows a f (j + 1 + 1) (M - (j + 1 + 1)) ++ [(a + m - 1, Crc.putl num 8)]) r.2) ∨ (r.1 ≠ 0 ∧ rs = (r.1, r.2))) := ⟨by
                have ER := HRS.out
                rw [show M - (j + 1) = (M - (j + 1 + 1)) + 1 by have := HK.out; have := HM.out; omega, rows_succ, List.cons_append, HCD.out] at ER
                by_cases he : r.1 = 0
                · exact .inl ⟨he, by rw [ER, wrs_go (k := (a : Int) + 1 + (j : Int)) (by omega) (by rw [← hr]; exact he), ← hr]⟩
                · exact .inr ⟨he, by rw [ER, wrs_no (k := (a : Int) + 1 + (j : Int)) (by omega) (by rw [← hr]; exact he), ← hr]⟩⟩
              clear C5 ec el el2 hr
              obtain ⟨⟨c0, c1, c2_⟩, ⟨a0, a1, a2⟩, ⟨b0, b1, b2⟩⟩ := HMID.out.c0
              clear a0 a1 a2 b0 b1 b2
              go_upto_region 14 with fail
              have w1_ : IntKind.i64.wrap (16 * (j : Int)) = 16 * (j : Int) := by rw [IntKind.wrap_i64]; have := HJ.out; omega
              have w2_ : IntKind.i64.wrap ((a : Int) + 1) = (a : Int) + 1 := by rw [IntKind.wrap_i64]; have := HA.out; omega
              have w3_ : IntKind.i64.wrap ((a : Int) + 1 + (j : Int)) = (a : Int) + 1 + (j : Int) := by rw [IntKind.wrap_i64]; have := HA.out; have := HJ.out; omega
              go_region_with (go_at_call 49; (with_reducible refine (KEY.out _ ?_).mono ?_); exact (Below.refl _ _).drew; rintro e w5 ⟨v5, rfl, hR5, hB5, hK5⟩; obtain ⟨A6, c6, hv5, hc5, -⟩ := Kd.R_reads hR5; subst hv5; have hz6 : w5.heap[q11]? = some (.cells #[.slice A5 s.db.length c5, .int .i64 s.many, .int .i64 (rleft s)] 44 (0, 0)) := (blk_kept (HMID.out.below (Below.refl _ _).drew).h11 hK5 (fun h => h.2.2.2.2 rfl)); have z0 : w5.cell? ⟨q11, 0, none⟩ = some (.slice A5 s.db.length c5) := (by rw [cell_of_row _ _ _ _ _ _ hz6]; rfl); have z1 : w5.cell? ⟨q11, 1, none⟩ = some (.int .i64 s.many) := (by rw [cell_of_row _ _ _ _ _ _ hz6]; rfl); have z2 : w5.cell? ⟨q11, 2, none⟩ = some (.int .i64 (rleft s)) := (by rw [cell_of_row _ _ _ _ _ _ hz6]; rfl); have f0 := blk_frozen hz6 0; have f1 := blk_frozen hz6 1; have f2 := blk_frozen hz6 2)
              all_goals
                have HMID2 := Aside0.mk (Mid.set HB.out.size (HMID.out.below (Below.refl _ _).drew) (fun k h => h) hR5 hB5 hK5)
                clear z0 z1 z2 f0 f1 f2 hz6 hR5 hB5 hK5 c0 c1 c2_
                go_wp2_with fail
                go_roundg k1
                case measure => omega
                case rel => exact ⟨j + 1, _, A6, c6, r.2, rfl, by first | (simp; done) | rw [ej], ⟨by have := HK.out; omega, by have := HK.out; have := HM.out; omega⟩, HMID2, HSK2, HEV2⟩
            · have p3 : (data.length : Int) < 16 * (j : Int) + 16 := by omega
              have HHI := Aside0.mk (show 16 * j < data.length ∧ data.length ≤ data.length from ⟨by omega, by omega⟩)
              obtain ⟨ec, el⟩ := chunk_cut data j (data.length) (by omega) (.inl ⟨rfl, by omega⟩)
              have C5 : Kd.C (Kd.int .u8) w0 (some (ad2.add (16 * j))) (chunk data j).length (chunk data j) := by
                have h := C_cut (j * 16) (data.length) HR2.out (by omega) (by omega)
                rw [← ec] at h
                rwa [show ad2.add (j * 16) = ad2.add (16 * j) by rw [Nat.mul_comm]] at h
              have el2 : (chunk data j).length = data.length - 16 * j := by rw [el]; omega
              have KEY : Aside0 (∀ W, Below WR.heap.size WR W → Calls Try.prog 49 #[.agg #[.slice A5 s.db.length c5, .int .i64 s.many, .int .i64 (rleft s)], .int .i64 ((a : Int) + 1 + (j : Int)), .slice (some (ad2.add (16 * j))) (data.length - 16 * j) (c2 - 16 * j)] W fun e w' => ∃ v : Value, e = .returned (.tuple #[.agg #[v, .int .i64 (s.write n ((a : Int) + 1 + (j : Int)) (chunk data j)).2.many, .int .i64 (rleft (s.write n ((a : Int) + 1 + (j : Int)) (chunk data j)).2)], .int .i64 (s.write n ((a : Int) + 1 + (j : Int)) (chunk data j)).1]) ∧
                  Kd.R (Kd.int .u8) 5 w' w0.heap.size (fun k_ => (PW P0 w0 w q3 q6 q11 k_ ∨ W.heap.size ≤ k_)) v (s.write n ((a : Int) + 1 + (j : Int)) (chunk data j)).2.db ∧ Below w0.heap.size w0 w' ∧ Kept W w' (fun k_ => PW P0 w0 w q3 q6 q11 k_)) := ⟨fun W hb => by
                have hW := HMID.out.below hb
                have h := RefWrite (PW P0 w0 w q3 q6 q11) (.slice A5 s.db.length c5) n s ((a : Int) + 1 + (j : Int)) (some (ad2.add (16 * j))) (c2 - 16 * j) (chunk data j) w0 W hW.low hW.own (Kd.C_kept_came (Kd.heap_int _) C5 hW.low (fun k h => h.2.1)) (by rw [el2]; have := HF.out.2.2; omega) HLN.out.2 HSK.out.2.2 HSK.out.2.1 (St.ok_le HSK.out.1 (by omega))
                rw [el2] at h
                exact h⟩
              have hsl := fun W => cut_any ad2 data.length c2 (16 * j) (data.length) (16 * (j : Int)) ((data.length : Int)) (by omega) rfl (by omega) (by have := HF.out; omega) W
              rw [show data.length - 16 * j = data.length - 16 * j by omega] at hsl
              obtain ⟨r, hr⟩ : ∃ r, r = s.write n ((a : Int) + 1 + (j : Int)) (chunk data j) := ⟨_, rfl⟩
              rw [← hr] at KEY
              have HSK2 := Aside0.mk (show r.2.ok (900001 + (j + 1)) ∧ r.2.right ∧ r.2.db.length = 16 * n from ⟨by rw [hr]; exact St.ok_write HSK.out.1 _ _, by rw [hr]; exact right_write HSK.out.2.1 _ _, by rw [hr]; exact write_len HSK.out.2.2 _ _⟩)
              have HEV2 : Aside0 ((r.1 = 0 ∧ rs = wrs n (rows a f (j + 1 + 1) (M - (j + 1 + 1)) ++ [(a + m - 1, Crc.putl num 8)]) r.2) ∨ (r.1 ≠ 0 ∧ rs = (r.1, r.2))) := ⟨by
                have ER := HRS.out
                rw [show M - (j + 1) = (M - (j + 1 + 1)) + 1 by have := HK.out; have := HM.out; omega, rows_succ, List.cons_append, HCD.out] at ER
                by_cases he : r.1 = 0
                · exact .inl ⟨he, by rw [ER, wrs_go (k := (a : Int) + 1 + (j : Int)) (by omega) (by rw [← hr]; exact he), ← hr]⟩
                · exact .inr ⟨he, by rw [ER, wrs_no (k := (a : Int) + 1 + (j : Int)) (by omega) (by rw [← hr]; exact he), ← hr]⟩⟩
              clear C5 ec el el2 hr
              obtain ⟨⟨c0, c1, c2_⟩, ⟨a0, a1, a2⟩, ⟨b0, b1, b2⟩⟩ := HMID.out.c0
              clear a0 a1 a2 b0 b1 b2
              go_upto_region 14 with fail
              have w1_ : IntKind.i64.wrap (16 * (j : Int)) = 16 * (j : Int) := by rw [IntKind.wrap_i64]; have := HJ.out; omega
              have w2_ : IntKind.i64.wrap ((a : Int) + 1) = (a : Int) + 1 := by rw [IntKind.wrap_i64]; have := HA.out; omega
              have w3_ : IntKind.i64.wrap ((a : Int) + 1 + (j : Int)) = (a : Int) + 1 + (j : Int) := by rw [IntKind.wrap_i64]; have := HA.out; have := HJ.out; omega
              go_region_with (go_at_call 49; (with_reducible refine (KEY.out _ ?_).mono ?_); exact (Below.refl _ _).drew; rintro e w5 ⟨v5, rfl, hR5, hB5, hK5⟩; obtain ⟨A6, c6, hv5, hc5, -⟩ := Kd.R_reads hR5; subst hv5; have hz6 : w5.heap[q11]? = some (.cells #[.slice A5 s.db.length c5, .int .i64 s.many, .int .i64 (rleft s)] 44 (0, 0)) := (blk_kept (HMID.out.below (Below.refl _ _).drew).h11 hK5 (fun h => h.2.2.2.2 rfl)); have z0 : w5.cell? ⟨q11, 0, none⟩ = some (.slice A5 s.db.length c5) := (by rw [cell_of_row _ _ _ _ _ _ hz6]; rfl); have z1 : w5.cell? ⟨q11, 1, none⟩ = some (.int .i64 s.many) := (by rw [cell_of_row _ _ _ _ _ _ hz6]; rfl); have z2 : w5.cell? ⟨q11, 2, none⟩ = some (.int .i64 (rleft s)) := (by rw [cell_of_row _ _ _ _ _ _ hz6]; rfl); have f0 := blk_frozen hz6 0; have f1 := blk_frozen hz6 1; have f2 := blk_frozen hz6 2)
              all_goals
                have HMID2 := Aside0.mk (Mid.set HB.out.size (HMID.out.below (Below.refl _ _).drew) (fun k h => h) hR5 hB5 hK5)
                clear z0 z1 z2 f0 f1 f2 hz6 hR5 hB5 hK5 c0 c1 c2_
                go_wp2_with fail
                go_roundg k1
                case measure => omega
                case rel => exact ⟨j + 1, _, A6, c6, r.2, rfl, by first | (simp; done) | rw [ej], ⟨by have := HK.out; omega, by have := HK.out; have := HM.out; omega⟩, HMID2, HSK2, HEV2⟩
          · have p1 : ¬ 16 * (j : Int) < (data.length : Int) := by omega
            have EM : M = j + 1 := by have := HK.out; have := HM.out; omega
            have HRS2 : Aside0 (rs = s.write n ((a : Int) + (m : Int) - 1) (Crc.putl num 8)) := ⟨by
              have ER := HRS.out
              rw [EM, show j + 1 - (j + 1) = 0 by omega, show rows a f (j + 1) 0 = [] from rfl, List.nil_append, wrs_one (k := (a : Int) + (m : Int) - 1) (by have := HA.out; omega)] at ER
              exact ER⟩
            obtain ⟨r, hr⟩ : ∃ r, r = s.write n ((a : Int) + (m : Int) - 1) (Crc.putl num 8) := ⟨_, rfl⟩
            have KEY : Aside0 (∀ W, Below WR.heap.size WR W → ∀ A9 c9, Kd.R (Kd.int .u8) 5 W WR.heap.size (fun _ => True) (.slice A9 (Crc.putl num 8).length c9) (Crc.putl num 8) → Calls Try.prog 49 #[.agg #[.slice A5 s.db.length c5, .int .i64 s.many, .int .i64 (rleft s)], .int .i64 ((a : Int) + (m : Int) - 1), .slice A9 (Crc.putl num 8).length c9] W fun e w' => ∃ v : Value, e = .returned (.tuple #[.agg #[v, .int .i64 r.2.many, .int .i64 (rleft r.2)], .int .i64 r.1]) ∧
                Kd.R (Kd.int .u8) 5 w' w0.heap.size (fun k_ => ((PW P0 w0 w q3 q6 q11 k_ ∧ k_ < WR.heap.size) ∨ W.heap.size ≤ k_)) v r.2.db ∧ Below w0.heap.size w0 w' ∧ Kept W w' (fun k_ => PW P0 w0 w q3 q6 q11 k_ ∧ k_ < WR.heap.size)) := ⟨fun W hb A9 c9 hv => by
              have hW := HMID.out.below hb
              have hown := Kd.R_below (Kd.R_mono (Kd.R_bound HMID.out.own) (fun k hk => (show PW P0 w0 w q3 q6 q11 k ∧ k < WR.heap.size from ⟨hk.1, hk.2.2.1⟩))) hb
              rw [hr]
              exact RefWrite (fun k_ => PW P0 w0 w q3 q6 q11 k_ ∧ k_ < WR.heap.size) (.slice A5 s.db.length c5) n s ((a : Int) + (m : Int) - 1) A9 c9 (Crc.putl num 8) w0 W hW.low hown (fun W2 hk => by
                have h1 := Kd.R_kept (Kd.R_bound hv) hk (fun k h1 h2 => by have := h1.2.1; have := h2.2; omega)
                exact (Kd.R_reads' h1).2.2) (Kd.R_reads' hv).2.1 HLN.out.2 HSK.out.2.2 HSK.out.2.1 (St.ok_le HSK.out.1 (by have := HJ.out; omega))⟩
            rw [← hr] at HRS2
            clear hr HRS HSK EM
            obtain ⟨⟨c0, c1, c2_⟩, ⟨a0, a1, a2⟩, ⟨b0, b1, b2⟩⟩ := HMID.out.c0
            clear b0 b1 b2
            go_upto_region 16 with fail
            have w1_ : IntKind.i64.wrap ((a : Int) + (m : Int)) = (a : Int) + (m : Int) := by rw [IntKind.wrap_i64]; have := HA.out; omega
            have w2_ : IntKind.i64.wrap ((a : Int) + (m : Int) - 1) = (a : Int) + (m : Int) - 1 := by rw [IntKind.wrap_i64]; have := HA.out; omega
            have HBx : Aside0 (Below WR.heap.size WR WR.drew) := ⟨(Below.refl _ _).drew⟩
            have HP0 : Aside0 True := ⟨trivial⟩
            go_cut [12] (fun v12 wc => ∃ (A6 : Option Addr) (c6 : Nat), v12 = .int .i64 r.1 ∧ Aside0 (Mid w0 w wc P0 q3 q6 q11 A c t A6 c6 r.2))
            case first =>
              go_region_with (first
                | (go_at_call 42; (with_reducible refine (HHL.out _ _ _ _ _).mono ?_); rintro e w' ⟨rfl, hB⟩; have HBy := Aside0.mk (Aid.bthen HBx.out hB); clear HBx; have HBx := HBy; clear HBy; obtain ⟨⟨c0, c1, c2_⟩, ⟨a0, a1, a2⟩, -⟩ := (HMID.out.below HBx.out).c0; (first | (have hm := Kd.R_below HP.out hB; clear HP; have HP := Aside0.mk hm; clear hm) | skip))
                | (go_at_call 50; (with_reducible refine (HP1.out _).mono ?_); rintro e w' ⟨v0_, rfl, hR, hB⟩; have HBy := Aside0.mk (Aid.bthen HBx.out hB); have HP := Aside0.mk (Kd.R_lower hR HBx.out.size); clear HBx; have HBx := HBy; clear HBy; obtain ⟨⟨c0, c1, c2_⟩, ⟨a0, a1, a2⟩, -⟩ := (HMID.out.below HBx.out).c0)
                | (go_at_call 49; obtain ⟨A9, c9, hv9, hc9, hC9⟩ := Kd.R_reads HP.out; subst hv9; (with_reducible refine (KEY.out _ HBx.out _ _ HP.out).mono ?_); rintro e w5 ⟨v5, rfl, hR5, hB5, hK5⟩; obtain ⟨A6, c6, hv5, hc5, -⟩ := Kd.R_reads hR5; subst hv5; have hz6 : w5.heap[q11]? = some (.cells #[.slice A5 s.db.length c5, .int .i64 s.many, .int .i64 (rleft s)] 44 (0, 0)) := (blk_kept (HMID.out.below HBx.out).h11 hK5 (fun h => h.1.2.2.2.2 rfl)); have z0 : w5.cell? ⟨q11, 0, none⟩ = some (.slice A5 s.db.length c5) := (by rw [cell_of_row _ _ _ _ _ _ hz6]; rfl); have z1 : w5.cell? ⟨q11, 1, none⟩ = some (.int .i64 s.many) := (by rw [cell_of_row _ _ _ _ _ _ hz6]; rfl); have z2 : w5.cell? ⟨q11, 2, none⟩ = some (.int .i64 (rleft s)) := (by rw [cell_of_row _ _ _ _ _ _ hz6]; rfl); have f0 := blk_frozen hz6 0; have f1 := blk_frozen hz6 1; have f2 := blk_frozen hz6 2))
              all_goals
                have HMID2 := Aside0.mk (Mid.set HB.out.size (HMID.out.below HBx.out) (fun k h => h.1) hR5 hB5 hK5)
                clear z0 z1 z2 f0 f1 f2 hz6 hR5 hB5 hK5 c0 c1 c2_ a0 a1 a2 HBx HMID KEY
                go_wp2_with fail
                go_meet
                exact ⟨A6, c6, rfl, HMID2⟩
            case rest =>
              obtain ⟨A6, c6, rfl, HMID2⟩ := hcut
              have HRS3 : Aside0 (rs = (r.1, r.2)) := HRS2
              clear HBx HMID HRS2 KEY c0 c1 c2_ a0 a1 a2
              obtain ⟨WR2, hWR2⟩ : ∃ W, W = wc := ⟨_, rfl⟩
              rw [← hWR2] at HMID2 ⊢
              clear hWR2
              obtain ⟨⟨c0, c1, c2_⟩, ⟨a0, a1, a2⟩, ⟨b0, b1, b2⟩⟩ := HMID2.out.c0
              have f0 := blk_frozen HMID2.out.h6 0
              have f1 := blk_frozen HMID2.out.h6 1
              have f2 := blk_frozen HMID2.out.h6 2
              go_wp2_with fail
              obtain ⟨w99, hw99⟩ : ∃ w99, w99 = ((WR2.setCell ⟨q6, 0, none⟩ (.slice A6 r.2.db.length c6)).setCell ⟨q6, 1, none⟩ (.int .i64 r.2.many)).setCell ⟨q6, 2, none⟩ (.int .i64 (rleft r.2)) := ⟨_, rfl⟩
              have hz : w99.heap[q6]? = some (.cells #[.slice A6 r.2.db.length c6, .int .i64 r.2.many, .int .i64 (rleft r.2)] 44 (0, 0)) := by rw [hw99]; exact store3 HMID2.out.h6 _ _ _
              have HW99 := Aside0.mk hw99
              rw [← hw99]
              clear hw99 b0 b1 b2 f0 f1 f2 a0 a1 a2 c0 c1 c2_
              (try simp only [Exit.inBlock, Exit.then])
              refine bodyPost_ret (results_ct rfl _ _ q6 44 #[.slice A6 r.2.db.length c6, .int .i64 r.2.many, .int .i64 (rleft r.2)] (0, 0) _ rfl hz Try.underlying44 rfl (by kernel_rfl)) rfl ?_
              refine (show SaveTold w0 w P0 rs _ _ from ?_)
              rw [HRS3.out]
              exact told_end (r := (r.1, r.2)) (P := PW P0 w0 w q3 q6 q11) HMID2.out.h6 HMID2.out.ne.1.2.1 (Nat.le_trans HB.out.size HMID2.out.ne.1.2.1) HMID2.out.own (fun k h1 h2 => ⟨h1.1, h1.2.2.2.1⟩) HMID2.out.kept HMID2.out.low HW99.out
        · have HRS : Aside0 (rs = (E, s)) := ⟨HEV.out.elim (fun h => absurd h.1 hE) (fun h => h.2)⟩
          have e1 : (E == 0) = false := beq_eq_false_iff_ne.2 hE
          clear HEV hE
          by_cases hjd : 16 * j < data.length
          · have p1 : 16 * (j : Int) < (data.length : Int) := by omega
            obtain ⟨⟨c0, c1, c2_⟩, ⟨a0, a1, a2⟩, ⟨b0, b1, b2⟩⟩ := HMID.out.c0
            have f0 := blk_frozen HMID.out.h6 0
            have f1 := blk_frozen HMID.out.h6 1
            have f2 := blk_frozen HMID.out.h6 2
            go_wp2_with fail
            obtain ⟨w99, hw99⟩ : ∃ w99, w99 = ((WR.setCell ⟨q6, 0, none⟩ (.slice A5 s.db.length c5)).setCell ⟨q6, 1, none⟩ (.int .i64 s.many)).setCell ⟨q6, 2, none⟩ (.int .i64 (rleft s)) := ⟨_, rfl⟩
            have hz : w99.heap[q6]? = some (.cells #[.slice A5 s.db.length c5, .int .i64 s.many, .int .i64 (rleft s)] 44 (0, 0)) := by rw [hw99]; exact store3 HMID.out.h6 _ _ _
            have HW99 := Aside0.mk hw99
            rw [← hw99]
            clear hw99 b0 b1 b2 f0 f1 f2 a0 a1 a2 c0 c1 c2_
            (try simp only [Exit.inBlock, Exit.then])
            refine bodyPost_ret (results_ct rfl _ _ q6 44 #[.slice A5 s.db.length c5, .int .i64 s.many, .int .i64 (rleft s)] (0, 0) _ rfl hz Try.underlying44 rfl (by kernel_rfl)) rfl ?_
            refine (show SaveTold w0 w P0 rs _ _ from ?_)
            rw [HRS.out]
            exact told_end (r := (E, s)) (P := PW P0 w0 w q3 q6 q11) HMID.out.h6 HMID.out.ne.1.2.1 (Nat.le_trans HB.out.size HMID.out.ne.1.2.1) HMID.out.own (fun k h1 h2 => ⟨h1.1, h1.2.2.2.1⟩) HMID.out.kept HMID.out.low HW99.out
          · have p1 : ¬ 16 * (j : Int) < (data.length : Int) := by omega
            obtain ⟨⟨c0, c1, c2_⟩, ⟨a0, a1, a2⟩, ⟨b0, b1, b2⟩⟩ := HMID.out.c0
            have f0 := blk_frozen HMID.out.h6 0
            have f1 := blk_frozen HMID.out.h6 1
            have f2 := blk_frozen HMID.out.h6 2
            go_wp2_with fail
            obtain ⟨w99, hw99⟩ : ∃ w99, w99 = ((WR.setCell ⟨q6, 0, none⟩ (.slice A5 s.db.length c5)).setCell ⟨q6, 1, none⟩ (.int .i64 s.many)).setCell ⟨q6, 2, none⟩ (.int .i64 (rleft s)) := ⟨_, rfl⟩
            have hz : w99.heap[q6]? = some (.cells #[.slice A5 s.db.length c5, .int .i64 s.many, .int .i64 (rleft s)] 44 (0, 0)) := by rw [hw99]; exact store3 HMID.out.h6 _ _ _
            have HW99 := Aside0.mk hw99
            rw [← hw99]
            clear hw99 b0 b1 b2 f0 f1 f2 a0 a1 a2 c0 c1 c2_
            (try simp only [Exit.inBlock, Exit.then])
            refine bodyPost_ret (results_ct rfl _ _ q6 44 #[.slice A5 s.db.length c5, .int .i64 s.many, .int .i64 (rleft s)] (0, 0) _ rfl hz Try.underlying44 rfl (by kernel_rfl)) rfl ?_
            refine (show SaveTold w0 w P0 rs _ _ from ?_)
            rw [HRS.out]
            exact told_end (r := (E, s)) (P := PW P0 w0 w q3 q6 q11) HMID.out.h6 HMID.out.ne.1.2.1 (Nat.le_trans HB.out.size HMID.out.ne.1.2.1) HMID.out.own (fun k h1 h2 => ⟨h1.1, h1.2.2.2.1⟩) HMID.out.kept HMID.out.low HW99.out
theorem RefSave (P0 : Nat → Prop) (A : Option Addr) (c n : Nat) (t : St) (num : Nat) (hnum : num < 18446744073709551616) (A2 : Option Addr) (c2 : Nat) (data : List Int) (w0 w : World) (hB : Below w0.heap.size w0 w) (ho : Kd.R (Kd.int .u8) 5 w w0.heap.size P0 (.slice A t.db.length c) t.db)
    (hn : n ≤ 1024) (hl : t.db.length = 16 * n) (h3 : 3 ≤ n / 2) (hr2 : Kd.C (Kd.int .u8) w0 A2 data.length data) (hc2 : data.length ≤ c2) (hd : Crc.okb data = true) (hrt : t.right) (hok : t.ok 900000) :
    Calls Try.prog 31 #[.agg #[.slice A t.db.length c, .int .i64 t.many, .int .i64 (rleft t)], .int .u64 (num : Int), .slice A2 data.length c2] w (SaveTold w0 w P0 (save n t num data)) := by
  by_cases h0 : num = 0
  · subst h0
    rw [save_arg]
    exact RefSave.arg P0 A c t A2 c2 data w0 w hB ho
  · by_cases hL : room n < data.length
    · rw [save_long t h0 hL]
      exact RefSave.long P0 A c n t num h0 A2 c2 data w0 w hB ho hn hl h3 hL
    · exact RefSave.go P0 A c n t num h0 hnum A2 c2 data w0 w hB ho hn hl h3 hL hr2 hc2 hd hrt hok
end Slots
end Disk
end Go.Proofs.Ytbjjpckldjjcgaa
