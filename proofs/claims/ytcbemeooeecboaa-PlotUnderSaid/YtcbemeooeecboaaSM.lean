/- row.Make: its contract. -/
import Derived.Test.YtcbemeooeecboaaSX
import Derived.Laws.Tables
import Derived.Laws.CopyOwn
import Derived.WalkLawsBesides
import Derived.WalkSpells
import Derived.Deep.DrawnRows
import Derived.Deep.RegionLaw
namespace Go.Proofs.Ytcbemeooeecboaa.Rng
open Go.Proofs.Tree Go.RowKit Go.Proofs.YtcbemeooeecboaaW.PrintWords Go.Proofs.YtcbemeooeecboaaW.PrintLast Go.Proofs.YtcbemeooeecboaaW.PrintMore Go.Proofs.Ytcbemeooeecboaa.PK
set_option linter.unusedVariables false
set_option linter.unusedSimpArgs false
set_option maxHeartbeats 4000000
set_option maxRecDepth 100000
theorem Aid_bthen {w0 a b : World} (h : Below w0.heap.size w0 a) (k : Below a.heap.size a b) : Below w0.heap.size w0 b := h.trans (k.mono h.size)
def rd_L9 (xs : List (List S44)) (i : Int) : (List S44) := xs.getD i.toNat ([] : List S44)
theorem at_L9 {w : World} {A : Option Addr} {n : Nat} {xs : List (List S44)} (h : Kd.C (Kd.slice 44 k44) w A n xs) (i : Int) (h0 : 0 ≤ i) (h1 : i < n) : ∃ ad A0 c0, A = some ad ∧ w.cell? (ad.add i.toNat) = some (.slice A0 (rd_L9 xs i).length c0) ∧ (rd_L9 xs i).length ≤ c0 ∧ k44.C w A0 (rd_L9 xs i).length (rd_L9 xs i) := by
  obtain ⟨ad, c, e, _, hK, hc0⟩ := Kd.C_get h ([] : List S44) i h0 h1
  have hc : ∀ j u, c[j]? = some u → w.cell? (ad.add (i.toNat * 1 + j)) = some u := hc0
  obtain ⟨A0, c0, rfl, l0, g0⟩ := hK
  exact ⟨ad, A0, c0, e, by have hq := hc 0 _ rfl; rwa [Nat.mul_one, Nat.add_zero] at hq, l0, g0⟩

theorem Grow (n : Nat) (hn : n ≤ 1000000) (w : World) : Calls Try.prog 36 #[.slice none 0 0, .int .i64 (n : Int)] w fun e w' => ∃ v0_ : Value, e = .returned (v0_) ∧ Kd.R k44 44 w' w.heap.size (fun _ => True) v0_ ([] : List S44) ∧ Below w.heap.size w w' := by
  have HB := Aside0.mk (Below.refl w.heap.size w)
  have c1 : decide ((n : Int) < 0) = false := decide_eq_false (by omega)
  have e1 : wrap64 (0 - 0) = 0 := by decide +kernel
  have e2 : wrap64 ((n : Int) - 0) = (n : Int) := by unfold wrap64; omega
  have e3 : wrap64 (n : Int) = (n : Int) := by unfold wrap64; omega
  have HN := Aside0.mk hn
  have E3 := Aside0.mk e3
  clear hn
  by_cases h0 : 0 < n
  · have c2 : decide ((0 : Int) < (n : Int)) = true := decide_eq_true (by omega)
    have hcut := cut_to (P := Try.prog) 22 44 .i64 Try.underlying22 (i := _) rfl none 0 0 0 (by omega) (by omega) (by omega)
    have c3 : decide (0 < n) = true := decide_eq_true h0
    clear h0
    go_enter Try.func36, Try.ntmps36
    go_wp2_with (first | ((with_reducible refine gate_builtin (b := .append) (xs := #[.tmp 20, .tmp 21]) rfl ?_); at_builtin; (refine Kd.R_append_zeros k44 (w0 := w) w.heap.size rfl (.tmp 20) (.tmp 21) 22 3 44 (.agg #[.int .i64 0, .string ⟨#[]⟩, .int .i64 0]) 32 rfl Try.underlying22 (k := .i64) Try.underlying3 info44 rfl (by decide) (by omega) (.slice none 0 0) ([] : List S44) z44 (kx := .i64) (wrap64 (n : Int)) (fun _ => True) rfl rfl ?aZ (fun _ _ => trivial) ?aO (by rw [E3.out]; omega) HB.out (Nat.le_refl _) ?aL ?_); (case aZ => exact k44_mkM _ _ _ z44); (case aO => exact Kd.R_nil _ _ _ _ _); (case aL => have := HN.out; rw [E3.out]; simp; omega); intro v22 w4 ho hb hg hat; have HB4 := Aside0.mk hb; have HO4 := Aside0.mk ho; clear ho hb hg hat; have hm22 := Kd.R_slice HO4.out; obtain ⟨A22, c22, e22⟩ := hm22; subst e22; have hl22 := (Kd.R_reads' HO4.out).2.1; have hcut2 := cut_to (P := Try.prog) 22 44 .i64 Try.underlying22 (i := _) rfl A22 _ c22 0 (by omega) (by omega) hl22; have HT := Aside0.mk (Kd.R_take HO4.out (m := 0) (by omega)); clear hl22 HO4))
    go_ret
    exact ⟨_, rfl, HT.out, HB4.out⟩
  · have hz : n = 0 := by omega
    subst hz
    go_enter Try.func36, Try.ntmps36
    go_wp2_with fail
    go_ret
    exact ⟨_, rfl, Kd.R_nil _ _ _ _ _, HB.out⟩
/-- How many nodes all rows have. -/
def tot (ls : List (List S44)) : Nat := ls.flatten.length
theorem tot_cons (l : List S44) (ls : List (List S44)) : tot (l :: ls) = l.length + tot ls := by unfold tot; simp
theorem tot_drop (ls : List (List S44)) (j : Nat) : tot (ls.drop j) ≤ tot ls := by
  unfold tot
  have : ls.flatten.length = (ls.take j).flatten.length + (ls.drop j).flatten.length := by rw [← List.length_append, ← List.flatten_append, List.take_append_drop]
  omega
theorem flat_take (ls : List (List S44)) (j : Nat) (hj : j < ls.length) : (ls.take j).flatten ++ rd_L9 ls (j : Int) = (ls.take (j + 1)).flatten := by
  rw [List.take_succ_eq_append_getElem hj, List.flatten_append]
  unfold rd_L9
  simp [List.getD_eq_getElem?_getD, List.getElem?_eq_getElem hj]
theorem flat_le (ls : List (List S44)) (j : Nat) : (ls.take j).flatten.length ≤ tot ls := by
  unfold tot
  have : ls.flatten.length = (ls.take j).flatten.length + (ls.drop j).flatten.length := by rw [← List.length_append, ← List.flatten_append, List.take_append_drop]
  omega
theorem Concat (A0 : Option Addr) (c0 : Nat) (l0 : List (List S44)) (w : World) (hr0 : Kd.C (Kd.slice 44 k44) w A0 l0.length l0) (hc0 : l0.length ≤ c0) (ht : tot l0 ≤ 1000000) :
    Calls Try.prog 32 #[.slice A0 l0.length c0] w fun e w' => ∃ v0_ : Value, e = .returned (v0_) ∧ Kd.R k44 44 w' w.heap.size (fun _ => True) v0_ l0.flatten ∧ Below w.heap.size w w' := by
  have HR := Aside0.mk hr0
  have HB := Aside0.mk (Below.refl w.heap.size w)
  have HM := Aside0.mk (Kd.C_max hr0)
  have HT := Aside0.mk ht
  clear hr0 hc0 ht
  go_enter Try.func32, Try.ntmps32
  go_wp2_with fail
  go_loopg [3, 11] (l0.length + 1) (fun kq v3 v11 w' => ∃ (j : Nat), v3 = .int .i64 (((l0.take j).flatten.length : Nat) : Int) ∧ v11 = .int .i64 (j : Int) ∧ Aside0 (kq + j = l0.length + 1 ∧ j ≤ l0.length) ∧ Aside0 (Below w.heap.size w w'))
  case atStart => exact ⟨0, rfl, rfl, ⟨by omega, by omega⟩, HB⟩
  case round =>
    clear HB
    obtain ⟨j, rfl, rfl, HK, HB⟩ := hrel
    cases gk with
    | zero => exact absurd HK.out (by omega)
    | succ k1 =>
      by_cases hj : j < l0.length
      · have c14 : decide ((j : Int) < (l0.length : Int)) = true := decide_eq_true (by omega)
        have p0 : (0 : Int) ≤ (j : Int) := by omega
        have q0 : (j : Int) < (l0.length : Int) := by omega
        obtain ⟨ad, A1, c1, e7, x0, hl1, hi1⟩ := at_L9 HR.out (j : Int) p0 q0
        subst e7
        have hf := flat_take l0 j hj
        have hle := flat_le l0 (j + 1)
        rw [← hf] at hle
        have hsum : (((l0.take (j + 1)).flatten.length : Nat) : Int) = (((l0.take j).flatten.length : Nat) : Int) + ((rd_L9 l0 (j : Int)).length : Int) := by rw [← hf, List.length_append]; omega
        rw [List.length_append] at hle
        obtain ⟨m, hm⟩ : ∃ m, m = (l0.take j).flatten.length := ⟨_, rfl⟩
        obtain ⟨l1, hl⟩ : ∃ l1, l1 = rd_L9 l0 (j : Int) := ⟨_, rfl⟩
        rw [← hl] at x0 hl1 hi1 hsum hle
        rw [← hm] at hsum hle ⊢
        have HS := Aside0.mk hsum
        simp only [Int.toNat_natCast] at x0
        replace x0 := (HB.out.cell (World.block_lt_of_cell? w _ x0)).trans x0
        have ew : wrap64 ((j : Int) + 1) = ((j + 1 : Nat) : Int) := by have := HM.out; unfold wrap64; omega
        have EJ := Aside0.mk ew
        have es : wrap64 ((m : Int) + (l1.length : Int)) = (m : Int) + (l1.length : Int) := by have := HT.out; unfold wrap64; omega
        have cs : decide ((m : Int) + (l1.length : Int) < 0) = false := decide_eq_false (by omega)
        clear hm hl hf hsum hle ew hl1 hi1 hj
        go_wp2_with fail
        go_roundg k1
        case measure => omega
        case rel => exact ⟨j + 1, by rw [HS.out, es], by rw [EJ.out], ⟨by have := HK.out; omega, by have := HK.out; omega⟩, HB⟩
      · have c14 : decide ((j : Int) < (l0.length : Int)) = false := decide_eq_false (by omega)
        have c14' : decide (j < l0.length) = false := decide_eq_false hj
        have hjl : l0.take j = l0 := List.take_of_length_le (by omega)
        rw [hjl]
        have HT2 := Aside0.mk (show l0.flatten.length ≤ 1000000 from HT.out)
        obtain ⟨m, hm⟩ : ∃ m, m = l0.flatten.length := ⟨_, rfl⟩
        rw [← hm] at HT2 ⊢
        have HMM := Aside0.mk hm
        clear hj hjl hm HK
        go_wp2_with fail
        refine (Grow m HT2.out _).mono ?_; rintro e w2 ⟨v6, rfl, hR6, hB6⟩
        have HB2 := Aside0.mk (Aid_bthen HB.out hB6)
        have HR6 := Aside0.mk (Kd.R_lower hR6 HB.out.size)
        clear hR6 hB6 HB HT2 HMM
        go_wp2_with fail
        go_loopg [6, 27] (l0.length + 1) (fun kq v6 v27 w' => ∃ (j : Nat), v27 = .int .i64 (j : Int) ∧ Aside0 (kq + j = l0.length + 1 ∧ j ≤ l0.length) ∧ Aside0 (Kd.R k44 44 w' w.heap.size (fun _ => True) v6 (l0.take j).flatten) ∧ Aside0 (Below w.heap.size w w'))
        case atStart => exact ⟨0, rfl, ⟨by omega, by omega⟩, ⟨HR6.out⟩, HB2⟩
        case round =>
          clear HB2 HR6
          obtain ⟨j, rfl, HK, HR6, HB⟩ := hrel
          cases gk with
          | zero => exact absurd HK.out (by omega)
          | succ k1 =>
            by_cases hj : j < l0.length
            · have c14 : decide ((j : Int) < (l0.length : Int)) = true := decide_eq_true (by omega)
              have p0 : (0 : Int) ≤ (j : Int) := by omega
              have q0 : (j : Int) < (l0.length : Int) := by omega
              obtain ⟨ad, A1, c1, e7, x0, hl1, hi1⟩ := at_L9 HR.out (j : Int) p0 q0
              subst e7
              have hf := flat_take l0 j hj
              have hle := flat_le l0 (j + 1)
              rw [← hf] at hle
              rw [List.length_append] at hle
              obtain ⟨xs, hxs⟩ : ∃ xs, xs = (l0.take j).flatten := ⟨_, rfl⟩
              obtain ⟨l1, hl⟩ : ∃ l1, l1 = rd_L9 l0 (j : Int) := ⟨_, rfl⟩
              rw [← hl] at x0 hl1 hi1 hle hf
              rw [← hxs] at hf hle HR6
              have HF := Aside0.mk hf
              have HLE := Aside0.mk (show xs.length + l1.length ≤ 1000000 by have := HT.out; omega)
              simp only [Int.toNat_natCast] at x0
              replace x0 := (HB.out.cell (World.block_lt_of_cell? w _ x0)).trans x0
              have ew : wrap64 ((j : Int) + 1) = ((j + 1 : Nat) : Int) := by have := HM.out; unfold wrap64; omega
              have EJ := Aside0.mk ew
              have HI := Aside0.mk (Kd.C_below hi1 HB.out)
              clear hxs hl hf hle ew hl1 hi1 hj
              go_wp2_with (first | ((with_reducible refine gate_builtin (b := .append) (xs := #[.tmp 31, .tmp 32]) rfl ?_); at_builtin; refine Kd.R_append_rows k44 (w0 := w) w.heap.size rfl (.tmp 31) (.tmp 32) 22 44 (.agg #[.int .i64 0, .string ⟨#[]⟩, .int .i64 0]) 32 rfl Try.underlying22 info44 rfl (by decide) (by omega) u6 xs l1 _ _ _ (fun _ => True) (fun _ => False) rfl rfl ?aO ?aR (fun _ _ h => h) (fun _ h => h.elim) ?aF ?aB ?aS ?aL ?_; (case aR => exact HI.out); (case aB => exact HB.out); (case aF => exact (fun _ _ => trivial)); (case aO => exact HR6.out); (case aS => exact HB.out.size); (case aL => have := HLE.out; omega); intro v7 w4 ho hb hg hat; have HB4 := Aside0.mk hb; have HO4 := Aside0.mk ho; clear ho hb hg hat))
              go_roundg k1
              case measure => omega
              case rel => exact ⟨j + 1, by rw [EJ.out], ⟨by have := HK.out; omega, by have := HK.out; omega⟩, ⟨by rw [← HF.out]; exact HO4.out⟩, HB4⟩
            · have c14 : decide ((j : Int) < (l0.length : Int)) = false := decide_eq_false (by omega)
              have c14' : decide (j < l0.length) = false := decide_eq_false hj
              have hjl : l0.take j = l0 := List.take_of_length_le (by omega)
              rw [hjl] at HR6
              clear hj hjl HK
              go_wp2_with fail
              go_ret
              exact ⟨_, rfl, HR6.out, HB.out⟩
theorem one_rep (w : World) (base : Nat) (ok : Nat → Prop) (n : S44) : Reps (k44.M w base ok) k44.sz [n] [.int .i64 n.f0, .string n.f1, .int .i64 n.f2] := by
  have h := (Reps.none (k44.M w base ok) k44.sz).snoc (k44_mkM w base ok n) rfl
  simpa using h
theorem lit1 (W : World) (n : S44) (base : Nat) (hb : base ≤ W.heap.size) : Kd.R k44 44 (W.alloc (.cells #[.int .i64 n.f0, .string n.f1, .int .i64 n.f2] 44)) base (fun _ => True) (.slice (some ⟨W.heap.size, 0, none⟩) 1 1) [n] := by
  refine ⟨fun _ _ => trivial, [.int .i64 n.f0, .string n.f1, .int .i64 n.f2], ?_, ?_⟩
  · have h2 := World.ownsRow_lit (base := base) (e := 44) (size := 3) W #[.int .i64 n.f0, .string n.f1, .int .i64 n.f2] 1 hb (by decide) (by rfl)
    exact h2
  · exact one_rep _ _ _ n
theorem Make (n : S44) (A0 : Option Addr) (c0 : Nat) (l0 : List (List S44)) (w : World) (hr0 : Kd.C (Kd.slice 44 k44) w A0 l0.length l0) (hc0 : l0.length ≤ c0) (ht : tot l0 ≤ 1000000) :
    Calls Try.prog 25 #[.agg #[.int .i64 n.f0, .string n.f1, .int .i64 n.f2], .slice A0 l0.length c0] w fun e w' => ∃ v0_ : Value, e = .returned (v0_) ∧ Kd.R k44 44 w' w.heap.size (fun _ => True) v0_ (n :: l0.flatten) ∧ Below w.heap.size w w' := by
  have HC := Aside0.mk (fun W hW => Concat A0 c0 l0 W hW hc0 ht)
  have HR := Aside0.mk hr0
  have HB := Aside0.mk (Below.refl w.heap.size w)
  have HT := Aside0.mk (show l0.flatten.length ≤ 1000000 from ht)
  clear hr0 hc0 ht
  obtain ⟨fl, hfl⟩ : ∃ fl, fl = l0.flatten := ⟨_, rfl⟩
  rw [← hfl] at HT HC ⊢
  clear hfl
  go_enter Try.func25, Try.ntmps25
  go_upto_region 1 with fail
  obtain ⟨x, hx⟩ : ∃ x, x = w.heap.size := ⟨_, rfl⟩
  obtain ⟨w6, hw6⟩ : ∃ w6, w6 = w.alloc (.cells #[.int .i64 n.f0, .string n.f1, .int .i64 n.f2] 44) := ⟨_, rfl⟩
  have hb6 := HB.out.alloc HB.out.size (.cells #[.int .i64 n.f0, .string n.f1, .int .i64 n.f2] 44)
  have hx6 := heap_new w (.cells #[.int .i64 n.f0, .string n.f1, .int .i64 n.f2] 44)
  rw [← hw6] at hb6 hx6 ⊢
  rw [← hx] at hx6 ⊢
  have z0 : w6.cell? ⟨x, 0, none⟩ = some (.int .i64 n.f0) := by rw [cell_of_row _ _ _ _ _ _ hx6]; rfl
  have z1 : w6.cell? ⟨x, 1, none⟩ = some (.string n.f1) := by rw [cell_of_row _ _ _ _ _ _ hx6]; rfl
  have z2 : w6.cell? ⟨x, 2, none⟩ = some (.int .i64 n.f2) := by rw [cell_of_row _ _ _ _ _ _ hx6]; rfl
  have HB6 := Aside0.mk hb6
  have HX6 := Aside0.mk hx6
  have HXX := Aside0.mk hx
  clear hb6 hx6 hw6 HB hx
  go_region_law (first
    | (refine Kd.R_append_rows_step k44 (w0 := w) w.heap.size (by rfl) (.tmp 6) (.tmp 8) 22 44 (.agg #[.int .i64 0, .string ⟨#[]⟩, .int .i64 0]) 32 (by rfl) Try.underlying22 info44 rfl (by decide) (by omega) _ [n] fl _ _ _ (fun _ => True) (fun _ => False) (by rfl) (by rfl) ?aO ?aR (fun _ _ h => h) (fun _ h => h.elim) ?aF ?aB ?aS ?aL ?_; (case aR => first | exact HR8.out | exact Kd.C_alloc HR8.out _ | exact Kd.C_drew (Kd.C_alloc HR8.out _)); (case aB => first | exact HB8.out | exact below_alloc HB8.out _ | exact below_drew (below_alloc HB8.out _)); (case aF => exact (fun _ _ => trivial)); (case aO => first | exact HO8.out | exact lit1 _ n _ HB8.out.size | exact Kd.R_drew (lit1 _ n _ HB8.out.size)); (case aS => first | exact HB8.out.size | exact (below_alloc HB8.out _).size | exact (below_drew (below_alloc HB8.out _)).size); (case aL => have := HT.out; simp; omega); intro v9 w9 hO9 hB9 hg9 ha9; have HO9 := Aside0.mk hO9; have HB9 := Aside0.mk hB9; clear hO9 hB9 hg9 ha9)
    | (go_simp; go_at_call 32; refine (HC.out _ (Kd.C_below HR.out (by first | exact HB6.out | exact below_alloc HB6.out _ | exact below_drew HB6.out | exact below_drew (below_alloc HB6.out _)))).mono ?_; rintro e w8 ⟨v8, rfl, hR8, hB8⟩; obtain ⟨A8, c8, e8⟩ := Kd.R_slice hR8; subst e8; have HR8 := Aside0.mk (Kd.R_reads' hR8).2.2; (first | (have HO8 := Aside0.mk (Kd.R_below (Kd.R_drew (lit1 w6 n w.heap.size HB6.out.size)) hB8); have HB8 := Aside0.mk ((below_drew (below_alloc HB6.out _)).trans (hB8.mono (below_drew (below_alloc HB6.out _)).size))) | (have HO8 := True.intro; have HB8 := Aside0.mk ((below_drew HB6.out).trans (hB8.mono (below_drew HB6.out).size)); have y0 := pw_cell_below hB8 z0; have y1 := pw_cell_below hB8 z1; have y2 := pw_cell_below hB8 z2)); clear hR8 hB8)
    | fail)
  all_goals
    go_wp2
    (try rw [Exit.noGoto_ret])
    go_ret
    exact ⟨_, rfl, HO9.out, HB9.out⟩
end Go.Proofs.Ytcbemeooeecboaa.Rng
