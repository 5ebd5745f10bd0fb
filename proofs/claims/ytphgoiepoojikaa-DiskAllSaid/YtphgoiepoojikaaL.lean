/- The disk: Load and Bytes. -/
import Derived.Test.YtphgoiepoojikaaA
namespace Go.Proofs.Ytphgoiepoojikaa
open Go.RowKit Go.Proofs.YtphgoiepoojikaaW.PrintWords Go.Proofs.YtphgoiepoojikaaW.PrintLast Go.Proofs.YtphgoiepoojikaaW.PrintMore
set_option linter.unusedVariables false
set_option linter.unusedSimpArgs false
set_option maxHeartbeats 1000000
namespace Disk

theorem cut16 (ad : Addr) (m c j : Nat) (h : j * 16 + 16 ≤ c) (w : World) : (Instr.sliceAt 22 (.slice (some ad) m c) (some (.int .i64 ((j : Int) * 16))) (some (.int .i64 ((j : Int) * 16 + 16))) (some (.int .i64 ((j : Int) * 16 + 16)))).run Try.prog w = .ok (.slice (some (ad.add (j * 16))) 16 16) w := by
  have e1 : ((j : Int) * 16 + 16).toNat = j * 16 + 16 := by omega
  have e0 : ((j : Int) * 16).toNat = j * 16 := by omega
  have e2 : ¬ ((c : Int) < (j : Int) * 16 + 16) := by omega
  have e3 : ¬ ((j : Int) * 16 + 16 < (j : Int) * 16) := by omega
  have e4 : (0 : Int) ≤ (j : Int) * 16 := by omega
  have e5 : (0 : Int) ≤ (j : Int) * 16 + 16 := by omega
  go_simp
  rw [if_pos (by omega), if_pos (by omega)]
/-- An array is read wherever its cells lie. -/
theorem load_any {P : Program} (w : World) (a : Addr) (ty : TypeId) (cs : List Value) (n : Nat) (e : TypeId) (hc : ∀ j v, cs[j]? = some v → w.cell? (a.add j) = some v)
    (hu : P.underlying ty = some (.array n e)) (hi : (P.info? ty).map (·.size) = some cs.length) : (Instr.loadAt ty (.pointer (some a))).run P w = .ok (.agg cs.toArray) w := by
  have hl : (loadCells a cs.length).run P w = .ok cs.toArray w := run_loadCells_list (P := P) w a cs hc
  obtain ⟨i, hq, hs⟩ := Option.map_eq_some_iff.1 hi
  have hagg : (isAgg ty).run P w = .ok true w := by
    unfold isAgg
    rw [Sem.run_bind, run_underlying hu w]
    simp
  simp only [Instr.loadAt, Instr.sureAddr, Sem.run_bind, Sem.run_pure, Result.andThen_ok]
  simp [loadVar, Sem.run_bind, hagg, sizeOf, typeInfo, hq, hs, hl]
/-- The same in a still region. -/
theorem still_load_any {P : Program} {ops : Array Oper} {w : World} {Q : Act → Prop} {op : Oper} {rest : List Oper} {a : Act} (hw : Region.wanted op (yielded ops a.tmps) = true) (ty : TypeId) (x : Operand) (ho : op.op = .load ty x)
    (ad : Addr) (hx : a.eval x = .pointer (some ad)) (cs : List Value) (n : Nat) (e : TypeId) (hc : ∀ j v, cs[j]? = some v → w.cell? (ad.add j) = some v)
    (hu : P.underlying ty = some (.array n e)) (hi : (P.info? ty).map (·.size) = some cs.length)
    (h : wpStill P ops w Q rest (a.put op.dst (.agg cs.toArray))) : wpStill P ops w Q (op :: rest) a := by
  refine still_run hw ?_ h
  unfold execOp
  simp only [ho, hx, Sem.run_bind, load_any w ad ty cs n e hc hu hi, Result.andThen_ok, Sem.run_pure]
theorem add_add (ad : Addr) (lo j : Nat) : (ad.add lo).add j = ad.add (lo + j) := by
  simp only [Addr.add]
  by_cases h0 : lo = 0 <;> by_cases h3 : j = 0 <;> simp [h0, h3, Nat.add_assoc]
theorem part_cells {w : World} {ad : Addr} {l : List Int} {n j : Nat} (hr : Kd.C (Kd.int .u8) w (some ad) l.length l) (hl : l.length = 16 * n) (hj : j < n) : ∀ i v, ((part l j).map (Value.int .u8))[i]? = some v → w.cell? ((ad.add (j * 16)).add i) = some v := by
  intro i v hv
  simp only [part, List.getElem?_map, List.getElem?_take, List.getElem?_drop] at hv
  by_cases h16 : i < 16
  · rw [if_pos h16] at hv
    have hlt : j * 16 + i < l.length := by omega
    obtain ⟨ad', e, hc⟩ := (Kd.reads_of_C (d := (0 : Int)) hr).2.2 (by omega)
    cases e
    rw [add_add, hc _ hlt]
    rw [List.getElem?_eq_getElem hlt] at hv
    simp [List.getD_eq_getElem?_getD, hlt]
    simpa using hv
  · rw [if_neg h16] at hv; cases hv

theorem sixteen_self {l : List Int} (h : l.length = 16) : sixteen l = l := by unfold sixteen; rw [h]; simp
theorem put_step {l : List Int} {n j : Nat} (hl : l.length = 16 * n) (hj : j < n) : put (l.take (j * 16) ++ List.replicate (16 * n - j * 16) 0) j (part l j) = l.take ((j + 1) * 16) ++ List.replicate (16 * n - (j + 1) * 16) 0 := by
  have ht : (l.take (j * 16)).length = j * 16 := by rw [List.length_take]; omega
  have e1 : (l.take (j * 16) ++ List.replicate (16 * n - j * 16) (0 : Int)).take (j * 16) = l.take (j * 16) := by
    rw [List.take_append_of_le_length (by omega), List.take_of_length_le (by omega)]
  have e2 : (l.take (j * 16) ++ List.replicate (16 * n - j * 16) (0 : Int)).drop (j * 16 + 16) = List.replicate (16 * n - (j + 1) * 16) 0 := by
    rw [List.drop_append, ht, List.drop_eq_nil_of_le (by omega), List.nil_append, List.drop_replicate]
    congr 1; omega
  unfold put
  rw [sixteen_self (part_len hl hj), e1, e2, show (j + 1) * 16 = j * 16 + 16 by omega, List.take_add]
  rfl

theorem Load.bad (A : Option Addr) (c : Nat) (l : List Int) (w : World) (hm : l.length ≤ 9223372036854775807) (h : ¬ (16 ≤ l.length ∧ l.length ≤ 16384 ∧ l.length % 16 = 0)) :
    Calls Try.prog 13 #[.slice A l.length c] w fun e w' => e = .returned (.tuple #[.pointer none, .int .i64 1]) ∧ Below w.heap.size w w' := by
  have hq : (l.length : Int) / 16 = ((l.length / 16 : Nat) : Int) := by omega
  have HQ := Aside0.mk hq; clear hq
  by_cases h1 : 1 ≤ l.length / 16 ∧ l.length / 16 ≤ 1024
  · have HN := Aside0.mk (New.ok (l.length / 16) w h1.1 h1.2)
    have hr : ((l.length : Int) % 16 != 0) = true := by simp; omega
    go_enter Try.func13, Try.ntmps13
    go_wp2_with fail
    rw [HQ.out]
    refine HN.out.mono ?_; rintro e w1 ⟨g, b, rfl, _, _, _, hb⟩
    have HB := Aside0.mk hb
    clear hb
    go_wp2_with fail
    go_ret2
    exact ⟨rfl, HB.out⟩
  · have HN := Aside0.mk (New.bad ((l.length / 16 : Nat) : Int) w (by omega))
    go_enter Try.func13, Try.ntmps13
    go_wp2_with fail
    rw [HQ.out]
    refine HN.out.mono ?_; rintro e w1 ⟨rfl, ⟨m, rfl⟩⟩
    go_wp2_with fail
    go_ret2
    exact ⟨rfl, Aid.bdrew (Below.refl _ _) _⟩

theorem Load.ok (ad : Addr) (c n : Nat) (l : List Int) (w : World) (hr : Kd.C (Kd.int .u8) w (some ad) l.length l) (hc : l.length ≤ c) (hl : l.length = 16 * n) (h1 : 1 ≤ n) (h2 : n ≤ 1024) :
    Calls Try.prog 13 #[.slice (some ad) l.length c] w fun e w' => ∃ g b, e = .returned (.tuple #[.pointer (some ⟨g, 0, none⟩), .int .i64 0]) ∧ At w' g b n l 0 false 0 ∧ w.heap.size ≤ g ∧ w.heap.size ≤ b ∧ Below w.heap.size w w' := by
  have hq : (l.length : Int) / 16 = (n : Int) := by omega
  have hr0 : ((l.length : Int) % 16 != 0) = false := by simp; omega
  have HN := Aside0.mk (New.ok n w h1 h2)
  have HR := Aside0.mk hr
  have HL := Aside0.mk hl
  clear hr hl
  go_enter Try.func13, Try.ntmps13
  go_wp2_with fail
  refine HN.out.mono ?_; rintro e w1 ⟨g, b, rfl, hA, hg, hb, hB⟩
  have HA := Aside0.mk hA
  have HB := Aside0.mk hB
  clear hA hB HN
  have c0 := HA.out.c0
  go_wp2_with fail
  go_loopg [28] (n + 1) (fun kq v28 w' => ∃ (j : Nat), v28 = .int .i64 (j : Int) ∧ Aside0 (kq + j = n + 1 ∧ j ≤ n) ∧ Aside0 (At w' g b n (l.take (j * 16) ++ List.replicate (16 * n - j * 16) 0) 0 false 0) ∧ Aside0 (Below w.heap.size w w'))
  case atStart => exact ⟨0, rfl, ⟨by omega, by omega⟩, ⟨by simpa using HA.out⟩, HB⟩
  case round =>
    clear HA HB c0
    obtain ⟨j, rfl, HK, HA, HB⟩ := hrel
    have c0 := HA.out.c0
    cases gk with
    | zero => exact absurd HK.out (by omega)
    | succ k1 =>
      by_cases hj : j < n
      · have c14 : decide ((j : Int) < (n : Int)) = true := decide_eq_true (by omega)
        have e16 : wrap64 ((j : Int) * 16) = ((j * 16 : Nat) : Int) := by unfold wrap64; omega
        have e17 : wrap64 (((j * 16 : Nat) : Int) + 16) = ((j * 16 + 16 : Nat) : Int) := by unfold wrap64; omega
        have hjc : (j : Int) * 16 + 16 ≤ (c : Int) := by have := HL.out; omega
        have hjj : (j : Int) * 16 ≤ (j : Int) * 16 + 16 := by omega
        have ew : IntKind.i64.wrap ((j : Int) * 16 + 16) = (j : Int) * 16 + 16 := by rw [IntKind.wrap_i64]; omega
        have h0a : (0 : Int) ≤ (j : Int) * 16 + 16 := by omega
        have h0b : (0 : Int) ≤ (j : Int) * 16 := by omega
        have t1 : ((j : Int) * 16 + 16).toNat = j * 16 + 16 := by omega
        have t0 : ((j : Int) * 16).toNat = j * 16 := by omega
        have harr : ∀ (a : Option Addr) (w : World), (Instr.arrayAt 58 (.slice a 16 16)).run Try.prog w = .ok (.pointer a) w := fun a w => run_arrayAt (P := Try.prog) w 58 5 16 a 16 16 Try.underlying58 (Nat.le_refl _)
        go_wp2_with fail
        obtain ⟨W1, hW1⟩ : ∃ W1, W1 = wr := ⟨_, rfl⟩
        go_still_tail 15, (by kernel_rfl)
        refine still_load_any ?hw 58 (.tmp 45) ?ho (ad.add (j * 16)) ?hx ((part l j).map (Value.int .u8)) 16 5 (part_cells (Kd.C_drewN (Kd.C_below HR.out HB.out) 1) HL.out hj) Try.underlying58 (by rw [List.length_map, part_len HL.out hj]; kernel_rfl) ?_
        case hw => rfl
        case ho => rfl
        case hx => rfl
        repeat still_step
        refine wpStill_nil ?_
        change wpList _ _ _ _ _ wr.drew
        have HA2 := Aside0.mk (HA.out.drewN 1)
        refine wpList_store_mid ?hgd 58 (.tmp 47) (.tmp 46) ?ho b (j * 16) ((part l j).map (Value.int .u8)).toArray ?hx ?hy ?ht ?hi (agg_one _) ?_
        case hgd => rfl
        case ho => rfl
        case hx => rfl
        case hy => rfl
        case ht =>
          intro i hi
          have hi16 : i < 16 := by simpa [part_len HL.out hj] using hi
          have hb2 := HA2.out.hb
          exact ⟨by rw [cell_of_row wr.drew b _ _ 58 (0, 0) hb2]; have := HA2.out.len; have := HL.out; simp; omega, HA2.out.fb _⟩
        case hi => rw [List.size_toArray, List.length_map, part_len HL.out hj]; kernel_rfl
        obtain ⟨W2, hW2⟩ : ∃ W2, W2 = wr.drew.setCells b (j * 16) ((part l j).map (Value.int .u8)).toArray.toList := ⟨_, rfl⟩
        rw [← hW2]
        have HA3 := Aside0.mk (show At W2 g b n (l.take ((j + 1) * 16) ++ List.replicate (16 * n - (j + 1) * 16) 0) 0 false 0 by
          have := HA2.out.putx j (part l j) hj (Nat.le_of_eq (part_len HL.out hj))
          rw [put_step HL.out hj, sixteen_self (part_len HL.out hj)] at this
          rw [hW2]; exact this)
        have HB3 := Aside0.mk (show Below w.heap.size w W2 by
          rw [hW2]
          have := (Only.refl g b wr.drew).putx (j * 16) ((part l j).map (Value.int .u8)).toArray.toList
          exact (Aid.bdrew HB.out 1).trans (this.low _ hg hb HB.out.size))
        clear hW2 HA2 HA HB
        clear harr ew t0 t1 hjj hjc h0a h0b e16 e17
        have ej : wrap64 ((j : Int) + 1) = ((j + 1 : Nat) : Int) := by unfold wrap64; omega
        go_wp2_with fail
        go_roundg k1
        case measure => omega
        case rel => exact ⟨j + 1, by simp, ⟨by have := HK.out; omega, by omega⟩, HA3, HB3⟩
      · have c14 : decide ((j : Int) < (n : Int)) = false := decide_eq_false (by omega)
        go_wp2_with fail
        go_ret2
        have e : j = n := by have := HK.out; omega
        subst e
        refine ⟨g, b, rfl, ?_, hg, hb, HB.out⟩
        have := HA.out
        rw [List.take_of_length_le (by rw [HL.out]; omega), show 16 * j - j * 16 = 0 by omega, List.replicate_zero, List.append_nil] at this
        exact this
theorem Bytes {w : World} {g b n : Nat} {db : List Int} {many left : Int} {cut : Bool} (h : At w g b n db many cut left) :
    Calls Try.prog 25 #[.pointer (some ⟨g, 0, none⟩)] w fun e w' => ∃ v, e = .returned v ∧ Kd.R (Kd.int .u8) 5 w' w.heap.size (fun _ => True) v db ∧ Below w.heap.size w w' := by
  have c0 := h.c0
  have H := Aside0.mk h; clear h
  go_enter Try.func25, Try.ntmps25
  go_wp2_with fail
  go_loopg [3, 11] (n + 1) (fun kq v3 v11 w' => ∃ (j : Nat), v11 = .int .i64 (j : Int) ∧ Aside0 (kq + j = n + 1 ∧ j ≤ n) ∧ Aside0 (Kd.R (Kd.int .u8) 5 w' w.heap.size (fun _ => True) v3 (db.take (j * 16))) ∧ Aside0 (Below w.heap.size w w'))
  case atStart => exact ⟨0, rfl, ⟨by omega, by omega⟩, ⟨by simpa using Kd.R_nil _ _ _ _ _⟩, ⟨Below.refl _ _⟩⟩
  case round =>
    obtain ⟨j, rfl, HK, HO, HB⟩ := hrel
    cases gk with
    | zero => exact absurd HK.out (by omega)
    | succ k1 =>
      by_cases hj : j < n
      · have c14 : decide ((j : Int) < (n : Int)) = true := decide_eq_true (by omega)
        have p0 : (0 : Int) ≤ (j : Int) := by omega
        have q0 : (j : Int) < (n : Int) := by omega
        have LP := Aside0.mk (part_len H.out.len hj)
        have HA := Aside0.mk (H.out.below HB.out)
        go_wp2_with (first
          | ((with_reducible refine gate_ (.load 58 (.tmp 13)) rfl ?_); refine wpList_load_mid rfl 58 (.tmp 13) rfl b (j * 16) rfl ((part db j).map (Value.int .u8)) _ (HA.out.part j) Try.underlying58 rfl (by rw [List.length_map, LP.out]; kernel_rfl) ?_)
          | ((with_reducible refine gate_ (.store 58 (.tmp 5) (.tmp 14)) rfl ?_); refine store_new ?hgd 58 (.tmp 5) (.tmp 14) ?ho wr.heap.size _ ((part db j).map (Value.int .u8)).toArray ?hw ?hx ?hy ?hi ?hs (agg_one _) ?_; (case hgd => rfl); (case ho => rfl); (case hw => rfl); (case hx => rfl); (case hy => rfl); (case hi => rw [List.size_toArray, List.length_map, LP.out]; kernel_rfl); (case hs => show 16 = _; rw [List.size_toArray, List.length_map, LP.out]))
          | ((with_reducible refine gate_builtin (b := .append) (xs := #[.tmp 15, .tmp 16]) rfl ?_); refine stop ?_))
        refine Stop.go ?_
        have HO1 := Aside0.mk (Kd.R_alloc HO.out (.cells ((part db j).map (Value.int .u8)).toArray 58))
        have HC1 := Aside0.mk (show Kd.C (Kd.int .u8) (wr.alloc (.cells ((part db j).map (Value.int .u8)).toArray 58)) (some ⟨wr.heap.size, 0, none⟩) (part db j).length (part db j) from Aid.C_new (enc := Value.int .u8) (0 : Int) wr (part db j) _ 58 (0, 0) rfl (by rw [LP.out]; decide))
        have HB1 := Aside0.mk (HB.out.alloc HB.out.size (.cells ((part db j).map (Value.int .u8)).toArray 58))
        rw [LP.out] at HC1
        at_builtin
        refine Kd.R_append_rows (Kd.int .u8) (w0 := w) w.heap.size rfl (.tmp 15) (.tmp 16) 22 5 (.int .u8 0) 1 rfl Try.underlying22 info5 rfl (by decide) (by omega) u3 (db.take (j * 16)) (part db j) (some ⟨wr.heap.size, 0, none⟩) 16 16 (fun _ => True) (fun _ => False) ?aV ?aW ?aO ?aR (fun _ _ h => h) (fun _ h => h.elim) ?aF ?aB ?aS ?aL ?_
        case aV => rfl
        case aW => rfl
        case aO => exact HO1.out
        case aR => exact HC1.out
        case aF => exact fun _ _ => trivial
        case aB => exact HB1.out
        case aS => exact HB1.out.size
        case aL => have := H.out.len; have := H.out.n2; simp; omega
        intro v4 w4 ho4 hb4 hg4 hat4
        have HO4 := Aside0.mk ho4
        have HB4 := Aside0.mk hb4
        have ed : db.take ((j + 1) * 16) = db.take (j * 16) ++ part db j := by rw [show (j + 1) * 16 = j * 16 + 16 by omega, List.take_add]; rfl
        clear ho4 hb4 hg4 hat4 HO1 HC1 HB1 HO HB HA
        have ej : wrap64 ((j : Int) + 1) = ((j + 1 : Nat) : Int) := by unfold wrap64; have := H.out.n2; omega
        go_wp2_with fail
        go_roundg k1
        case measure => omega
        case rel => exact ⟨j + 1, by first | (simp; done) | rw [ej], ⟨by have := HK.out; omega, by omega⟩, ⟨by rw [ed]; exact HO4.out⟩, HB4⟩
      · have c14 : decide ((j : Int) < (n : Int)) = false := decide_eq_false (by omega)
        go_wp2_with fail
        go_ret
        have e : j = n := by have := HK.out; omega
        subst e
        have := HO.out
        rw [List.take_of_length_le (by rw [H.out.len]; omega)] at this
        exact ⟨_, rfl, this, HB.out⟩
end Disk
end Go.Proofs.Ytphgoiepoojikaa
