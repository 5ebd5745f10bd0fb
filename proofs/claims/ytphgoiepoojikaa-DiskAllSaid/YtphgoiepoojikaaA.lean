/- The disk: the program's functions that make and change it. -/
import Derived.Test.YtphgoiepoojikaaP
namespace Go.Proofs.Ytphgoiepoojikaa
open Go.RowKit Go.Proofs.YtphgoiepoojikaaW.PrintWords Go.Proofs.YtphgoiepoojikaaW.PrintLast Go.Proofs.YtphgoiepoojikaaW.PrintMore
set_option linter.unusedVariables false
set_option linter.unusedSimpArgs false
namespace Disk

theorem mk58 (n : Nat) (h2 : n ≤ 1024) (w : World) : (Instr.makeSlice 53 (.int .i64 (n : Int)) (.int .i64 (n : Int))).run Try.prog w = .ok (.slice (some ⟨w.heap.size, 0, none⟩) n n) (w.alloc (.cells (((List.replicate (16 * n) (0 : Int)).map (Value.int .u8)).toArray) 58)) := by
  have h58 : (Try.prog.info? 58).map (fun i => (i.zero, i.size, i.bytes)) = some (some (.agg (Array.replicate 16 (.int .u8 0))), 16, 16) := by kernel_rfl
  obtain ⟨i, hi, hz⟩ := Option.map_eq_some_iff.1 h58
  simp only [Prod.mk.injEq] at hz
  obtain ⟨hz, hs, hb⟩ := hz
  have := run_make (P := Try.prog) w 53 58 i _ Try.underlying53 hi hz .i64 .i64 (n : Int) (n : Int) (by omega) (Int.le_refl _) (by rw [hb]; omega) (by omega)
  rw [this, hs]
  simp only [Int.toNat_natCast]
  congr 3
  apply Array.ext_getElem?
  intro j
  by_cases hj : j < 16 * n
  · have hm : j % 16 < 16 := Nat.mod_lt _ (by decide)
    rw [show n * 16 = 16 * n by omega]
    simp [madeCells, Value.cells, hj, hm]
  · rw [Array.getElem?_eq_none (by rw [size_madeCells]; omega), Array.getElem?_eq_none (by simp; omega)]
theorem results_nothing {P : Program} {fn : Func} (h : fn.results = #[]) (t : Array Value) (w : World) : (results fn t).run P w = .ok (.tuple #[]) w := by
  simp [results, h]
theorem New.bad (k : Int) (w : World) (h : ¬ (1 ≤ k ∧ k ≤ 1024)) :
    Calls Try.prog 10 #[.int .i64 k] w fun e w' => e = .returned (.tuple #[.pointer none, .int .i64 1]) ∧ Drawn0 w w' := by
  by_cases h1 : k < 1
  · have c1 : decide (k < 1) = true := decide_eq_true h1
    go_enter Try.func10, Try.ntmps10
    go_wp2_with fail
    go_ret2
    exact ⟨rfl, ⟨0, rfl⟩⟩
  · have c1 : decide (k < 1) = false := decide_eq_false h1
    have c2 : decide (1024 < k) = true := decide_eq_true (by omega)
    go_enter Try.func10, Try.ntmps10
    go_wp2_with fail
    go_ret2
    exact ⟨rfl, ⟨0, rfl⟩⟩
theorem New.ok (n : Nat) (w : World) (h1 : 1 ≤ n) (h2 : n ≤ 1024) :
    Calls Try.prog 10 #[.int .i64 (n : Int)] w fun e w' => ∃ g b, e = .returned (.tuple #[.pointer (some ⟨g, 0, none⟩), .int .i64 0]) ∧ At w' g b n (List.replicate (16 * n) 0) 0 false 0 ∧ w.heap.size ≤ g ∧ w.heap.size ≤ b ∧ Below w.heap.size w w' := by
  have c1 : decide ((n : Int) < 1) = false := decide_eq_false (by omega)
  have c2 : decide ((1024 : Int) < (n : Int)) = false := decide_eq_false (by omega)
  have hmk := fun w => mk58 n h2 w
  go_enter Try.func10, Try.ntmps10
  go_wp2_with fail
  go_ret2
  refine ⟨w.heap.size + 1, w.heap.size, rfl, ⟨?_, ?_, by simp, h1, h2⟩, by omega, Nat.le_refl _, ((Below.refl _ _).alloc (Nat.le_refl _) _).alloc (by simp) _⟩
  · show ((w.heap.push _).push _)[w.heap.size + 1]? = _
    rw [show w.heap.size + 1 = (w.heap.push _).size from (Array.size_push _).symm]
    exact Array.getElem?_push_size
  · refine (Below.heap_alloc _ _ _ (by simp)).trans ?_
    show (w.heap.push _)[w.heap.size]? = _
    rw [Array.getElem?_push_size]
    congr 2
    simp
theorem Cut {w : World} {g b n : Nat} {db : List Int} {many left : Int} {cut : Bool} (h : At w g b n db many cut left) (k : Int) :
    Calls Try.prog 18 #[.pointer (some ⟨g, 0, none⟩), .int .i64 k] w fun e w' => e = .returned (.tuple #[]) ∧ At w' g b n db many true (max 0 k) ∧ Only g b w w' := by
  have h2 := h.c2
  have h3 := h.c3
  have f2 := h.f 2
  have f3 := h.f 3
  have HS := Aside0.mk ((h.set2 true).set3 (max 0 k))
  have HO := Aside0.mk (((Only.refl g b w).set 2 (.bool true)).set 3 (.int .i64 (max 0 k)))
  clear h
  by_cases hk0 : 0 < k
  · have em : max 0 k = k := by omega
    rw [em] at HS HO
    go_enter Try.func18, Try.ntmps18
    go_wp2_with fail
    refine ⟨rfl, Value.tuple #[], results_nothing rfl _ _, rfl, ?_⟩
    rw [em]
    exact ⟨HS.out, HO.out⟩
  · have em : max 0 k = 0 := by omega
    rw [em] at HS HO
    have hk1 : ¬ (0 < k) := hk0
    go_enter Try.func18, Try.ntmps18
    go_wp2_with fail
    refine ⟨rfl, Value.tuple #[], results_nothing rfl _ _, rfl, ?_⟩
    exact ⟨HS.out, HO.out⟩
theorem Up {w : World} {g b n : Nat} {db : List Int} {many left : Int} {cut : Bool} (h : At w g b n db many cut left) :
    Calls Try.prog 20 #[.pointer (some ⟨g, 0, none⟩)] w fun e w' => e = .returned (.tuple #[]) ∧ At w' g b n db many false left ∧ Only g b w w' := by
  have h2 := h.c2
  have f2 := h.f 2
  have HS := Aside0.mk (h.set2 false)
  have HO := Aside0.mk ((Only.refl g b w).set 2 (.bool false))
  clear h
  go_enter Try.func20, Try.ntmps20
  go_wp2_with fail
  exact ⟨rfl, Value.tuple #[], results_nothing rfl _ _, rfl, HS.out, HO.out⟩
theorem Read.no {w : World} {g b n : Nat} {db : List Int} {many left : Int} {cut : Bool} (h : At w g b n db many cut left) (k : Int) (hk : ¬ (0 ≤ k ∧ k < (n : Int))) :
    Calls Try.prog 23 #[.pointer (some ⟨g, 0, none⟩), .int .i64 k] w fun e w' => e = .returned (.slice none 0 0) ∧ Drawn0 w w' := by
  have hb : (decide (0 ≤ k) && decide (k < (n : Int))) = false := by
    cases h1 : decide (0 ≤ k) with
    | false => rfl
    | true =>
      have := of_decide_eq_true h1
      rw [Bool.true_and]
      exact decide_eq_false (by omega)
  have C := has h k
  rw [hb] at C
  have HC := Aside0.mk C; clear C h hb
  go_enter Try.func23, Try.ntmps23
  go_wp2_with fail
  refine HC.out.mono ?_; rintro e w1 ⟨rfl, ⟨m, rfl⟩⟩
  go_wp2_with fail
  go_ret
  exact ⟨rfl, ⟨m, rfl⟩⟩
theorem Read.yes {w : World} {g b n : Nat} {db : List Int} {many left : Int} {cut : Bool} (h : At w g b n db many cut left) (k : Nat) (hk : k < n) :
    Calls Try.prog 23 #[.pointer (some ⟨g, 0, none⟩), .int .i64 (k : Int)] w fun e w' => ∃ x, e = .returned (.slice (some ⟨x, 0, none⟩) 16 16) ∧ w.heap.size ≤ x ∧ w'.heap[x]? = some (.cells (((part db k).map (Value.int .u8)).toArray) 58 (0, 0)) ∧ Below w.heap.size w w' := by
  have hb : (decide (0 ≤ (k : Int)) && decide ((k : Int) < (n : Int))) = true := by
    rw [decide_eq_true (show (0 : Int) ≤ (k : Int) by omega), decide_eq_true (show (k : Int) < (n : Int) by omega)]; rfl
  have C := has h k
  rw [hb] at C
  have HC := Aside0.mk C; clear C hb
  have h0 := h.c0
  have H := Aside0.mk h; clear h
  have p0 : (0 : Int) ≤ (k : Int) := by omega
  have q0 : (k : Int) < (n : Int) := by omega
  have LP := Aside0.mk (part_len H.out.len hk)
  go_enter Try.func23, Try.ntmps23
  go_wp2_with fail
  refine HC.out.mono ?_; rintro e w1 ⟨rfl, ⟨m, rfl⟩⟩
  go_wp2_with (first
    | ((with_reducible refine gate_ (.load 58 (.tmp 15)) rfl ?_); refine wpList_load_mid rfl 58 (.tmp 15) rfl b (k * 16) rfl ((part db k).map (Value.int .u8)) _ ((H.out.drewN m).part k) Try.underlying58 rfl (by rw [List.length_map, LP.out]; kernel_rfl) ?_)
    | ((with_reducible refine gate_ (.store 58 (.tmp 5) (.tmp 16)) rfl ?_); refine store_new ?hgd 58 (.tmp 5) (.tmp 16) ?ho w.heap.size _ ((part db k).map (Value.int .u8)).toArray ?hw ?hx ?hy ?hi ?hs (agg_one _) ?_; (case hgd => rfl); (case ho => rfl); (case hw => rfl); (case hx => rfl); (case hy => rfl); (case hi => rw [List.size_toArray, List.length_map, LP.out]; kernel_rfl); (case hs => show 16 = _; rw [List.size_toArray, List.length_map, LP.out])))
  go_ret
  refine ⟨w.heap.size, rfl, Nat.le_refl _, ?_, ((Below.refl _ _).trans ⟨rfl, rfl, rfl, Nat.le_refl _, fun _ _ => rfl⟩ : Below w.heap.size w (w.drewN m)).alloc (Nat.le_refl _) _⟩
  show ((w.drewN m).heap.push _)[(w.drewN m).heap.size]? = _
  exact Array.getElem?_push_size
theorem Write.arg {w : World} {g b n : Nat} {db : List Int} {many left : Int} {cut : Bool} (h : At w g b n db many cut left) (k : Int) (A : Option Addr) (c : Nat) (l : List Int) (hk : ¬ (0 ≤ k ∧ k < (n : Int)) ∨ 16 < l.length) :
    Calls Try.prog 17 #[.pointer (some ⟨g, 0, none⟩), .int .i64 k, .slice A l.length c] w fun e w' => e = .returned (.int .i64 1) ∧ Drawn0 w w' := by
  have HC := Aside0.mk (has h k)
  clear h
  by_cases hb : (decide (0 ≤ k) && decide (k < (n : Int))) = true
  · rw [hb] at HC
    have h16 : decide ((16 : Int) < (l.length : Int)) = true := by
      simp at hb
      exact decide_eq_true (by omega)
    go_enter Try.func17, Try.ntmps17
    go_wp2_with fail
    refine HC.out.mono ?_; rintro e w1 ⟨rfl, ⟨m, rfl⟩⟩
    go_wp2_with fail
    go_ret
    exact ⟨rfl, ⟨m, rfl⟩⟩
  · have hb' : (decide (0 ≤ k) && decide (k < (n : Int))) = false := by simpa using hb
    rw [hb'] at HC
    go_enter Try.func17, Try.ntmps17
    go_wp2_with fail
    refine HC.out.mono ?_; rintro e w1 ⟨rfl, ⟨m, rfl⟩⟩
    go_wp2_with fail
    go_ret
    exact ⟨rfl, ⟨m, rfl⟩⟩
theorem Write.down {w : World} {g b n : Nat} {db : List Int} {many left : Int} {cut : Bool} (h : At w g b n db many cut left) (k : Int) (A : Option Addr) (c : Nat) (l : List Int) (hk : 0 ≤ k ∧ k < (n : Int)) (hl : l.length ≤ 16) (hd : cut = true ∧ left ≤ 0) :
    Calls Try.prog 17 #[.pointer (some ⟨g, 0, none⟩), .int .i64 k, .slice A l.length c] w fun e w' => e = .returned (.int .i64 170) ∧ Drawn0 w w' := by
  have HC := Aside0.mk (has h k)
  have HD := Aside0.mk (fun m => Down (h.drewN m))
  rw [decide_eq_true hk.1, decide_eq_true hk.2] at HC
  rw [hd.1, decide_eq_true hd.2] at HD
  have h16 : decide ((16 : Int) < (l.length : Int)) = false := decide_eq_false (by omega)
  clear h
  go_enter Try.func17, Try.ntmps17
  go_wp2_with fail
  refine HC.out.mono ?_; rintro e w1 ⟨rfl, ⟨m, rfl⟩⟩
  go_wp2_with fail
  refine (HD.out m).mono ?_; rintro e w1 ⟨rfl, ⟨m2, rfl⟩⟩
  go_wp2_with fail
  go_ret
  exact ⟨rfl, ⟨m + m2, by simp⟩⟩
theorem Write.ok {w : World} {g b n : Nat} {db : List Int} {many left : Int} {cut : Bool} (h : At w g b n db many cut left) (k : Nat) (A : Option Addr) (c : Nat) (l : List Int) (hr : Kd.C (Kd.int .u8) w A l.length l) (hc : l.length ≤ c) (hk : k < n) (hl : l.length ≤ 16) (hd : (cut && decide (left ≤ 0)) = false)
    (hm : many < 4611686018427387904 ∧ -4611686018427387904 < many) (hlf : -4611686018427387904 < left ∧ left < 9223372036854775808) :
    Calls Try.prog 17 #[.pointer (some ⟨g, 0, none⟩), .int .i64 (k : Int), .slice A l.length c] w fun e w' => e = .returned (.int .i64 0) ∧ At w' g b n (put db k l) (many + 1) cut (left - 1) ∧ Only g b w w' := by
  have HC := Aside0.mk (has h (k : Int))
  have HD := Aside0.mk (fun m => Down (h.drewN m))
  rw [decide_eq_true (show (0 : Int) ≤ (k : Int) by omega), decide_eq_true (show (k : Int) < (n : Int) by omega)] at HC
  rw [hd] at HD
  have h16 : decide ((16 : Int) < (l.length : Int)) = false := decide_eq_false (by omega)
  have H := Aside0.mk h
  have HR := Aside0.mk hr
  clear h hr
  have hcp := fun M => copy16 (w.drewN M) A c l (Kd.C_alloc (Kd.C_drewN HR.out M) _) hl
  have h0 := H.out.c0
  have p0 : (0 : Int) ≤ (k : Int) := by omega
  have q0 : (k : Int) < (n : Int) := by omega
  have S16 := Aside0.mk (sixteen_len hl)
  go_enter Try.func17, Try.ntmps17
  go_wp2_with fail
  refine HC.out.mono ?_; rintro e w1 ⟨rfl, ⟨m, rfl⟩⟩
  go_wp2_with fail
  refine (HD.out m).mono ?_; rintro e w1 ⟨rfl, ⟨m2, rfl⟩⟩
  have hcq : Sem.run Try.prog (Builtin.copy_ #[22, 22] 3 #[Value.slice (some { block := w.heap.size, off := 0 }) 16 16, Value.slice A l.length c]) ((w.drewN (m + m2)).alloc (Obj.cells zeros16 58)) = .ok (.int .i64 l.length) ((w.drewN (m + m2)).alloc (.cells ((sixteen l).map (Value.int .u8)).toArray 58)) := hcp (m + m2)
  unfold zeros16 at hcq
  clear hcp
  go_wp2_with fail
  obtain ⟨W1, hW1⟩ : ∃ W1, W1 = ((w.drewN (m + m2)).alloc (.cells ((sixteen l).map (Value.int .u8)).toArray 58)) := ⟨_, rfl⟩
  rw [← hW1]
  have HA1 := Aside0.mk (show At W1 g b n db many cut left by
    rw [hW1]
    exact (H.out.drewN _).below ((Below.refl _ _).alloc (Nat.le_refl _) _))
  have HO1 := Aside0.mk (show Only g b w W1 by rw [hW1]; exact ((Only.refl g b w).drewN _).alloc _)
  have HX1 := Aside0.mk (show W1.rangeAt w.heap.size 0 ((sixteen l).map (Value.int .u8)) by
    intro j v hv
    have := cell_of_row W1 w.heap.size (0 + j) _ 58 (0, 0) (by rw [hW1]; exact heap_alloc_last (w.drewN (m + m2)) _)
    rw [this]
    simpa using hv)
  clear hW1 hcq
  have h1 := HA1.out.c0
  go_still_tail 7, (by kernel_rfl)
  refine still_load ?hw 58 (.tmp 7) ?ho w.heap.size 0 ?hx ((sixteen l).map (Value.int .u8)) _ HX1.out Try.underlying58 rfl ?hi ?_
  case hw => rfl
  case ho => rfl
  case hx => rfl
  case hi => rw [List.length_map, S16.out]; kernel_rfl
  repeat still_step
  refine wpStill_nil ?_
  change wpList _ _ _ _ _ W1.drew
  have HA2 := Aside0.mk (HA1.out.drewN 1)
  have HO2 := Aside0.mk (HO1.out.drewN 1)
  refine wpList_store_mid ?hgd 58 (.tmp 30) (.tmp 29) ?ho b (k * 16) ((sixteen l).map (Value.int .u8)).toArray ?hx ?hy ?ht ?hi (agg_one _) ?_
  case hgd => rfl
  case ho => rfl
  case hx => rfl
  case hy => rfl
  case ht =>
    intro j hj
    have hj16 : j < 16 := by simpa [S16.out] using hj
    have hb2 := HA2.out.hb
    exact ⟨by rw [cell_of_row W1.drew b _ _ 58 (0, 0) hb2]; have := HA2.out.len; simp; omega, HA2.out.fb _⟩
  case hi => rw [List.size_toArray, List.length_map, S16.out]; kernel_rfl
  obtain ⟨W2, hW2⟩ : ∃ W2, W2 = W1.drew.setCells b (k * 16) ((sixteen l).map (Value.int .u8)).toArray.toList := ⟨_, rfl⟩
  rw [← hW2]
  have HA3 := Aside0.mk (show At W2 g b n (put db k l) many cut left by rw [hW2]; exact HA2.out.putx k l hk hl)
  have HO3 := Aside0.mk (show Only g b w W2 by rw [hW2]; exact HO2.out.putx _ _)
  have e1 : wrap64 (many + 1) = many + 1 := by unfold wrap64; omega
  have e2 : wrap64 (left - 1) = left - 1 := by unfold wrap64; omega
  have c1 := HA3.out.c1
  have c3 := HA3.out.c3
  have f1 := HA3.out.f 1
  have f3 := HA3.out.f 3
  clear hW2 HA2 HO2 HA1 HO1 HX1 HC HD H
  go_wp2_with fail
  go_ret
  exact ⟨rfl, (HA3.out.set1 _).set3 _, (HO3.out.set 1 _).set 3 _⟩
end Disk
end Go.Proofs.Ytphgoiepoojikaa
