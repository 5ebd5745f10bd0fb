/- strings.Trim at a set of letters: its callees' contracts, walked by hand. -/
import Derived.Test.YtefiadocljnpjaaDoorMA
import Derived.Laws.Tables
import Derived.Laws.CopyOwn
import Derived.Test.YtefiadocljnpjaaDoorPKx11
import Derived.Test.YtefiadocljnpjaaDoorPKx13
import Derived.Test.YtefiadocljnpjaaDoorPKx14
import Derived.WalkLawsBesides
import Derived.WalkSpells
import Derived.Deep.DrawnRows
import Derived.Deep.RegionLaw
namespace Go.Proofs.YtefiadocljnpjaaDoor.Row
open Go.Proofs.Tree Go.RowKit Go.Proofs.YtefiadocljnpjaaDoorW.PrintWords Go.Proofs.YtefiadocljnpjaaDoorW.PrintLast Go.Proofs.YtefiadocljnpjaaDoorW.PrintMore Go.Proofs.YtefiadocljnpjaaDoor.PK
set_option linter.unusedVariables false
set_option linter.unusedSimpArgs false
set_option maxHeartbeats 4000000
set_option maxRecDepth 100000
/-- A small letter. -/
def isL (b : Int) : Bool := decide (97 ≤ b) && decide (b ≤ 122)
def allL (s : ByteArray) : Prop := ∀ i : Nat, i < s.size → isL (bt s (i : Int)) = true
/-- The set of the small letters, in block g. -/
def SetAt (W : World) (g : Nat) : Prop := ∀ b : Int, 0 ≤ b → b ≤ 255 → W.cell? ⟨g, b.toNat, none⟩ = some (.bool (isL b))
theorem SetAt.below {W W' : World} {g : Nat} (h : SetAt W g) (hb : Below W.heap.size W W') : SetAt W' g := fun b h0 h1 => (hb.cell (World.block_lt_of_cell? W _ (h b h0 h1))).trans (h b h0 h1)
theorem Has (g : Nat) (b : Int) (w : World) (h : SetAt w g) (h0 : 0 ≤ b) (h1 : b ≤ 255) : Calls Tryd.prog 115 #[.pointer (some ⟨g, 0, none⟩), .int .u8 b] w fun e w' => e = .returned (.bool (isL b)) ∧ Drawn0 w w' := by
  have hc := h b h0 h1
  have hb : b < 256 := by omega
  clear h
  go_enter Tryd.func115, Tryd.ntmps115
  go_wp2_with fail
  go_ret
  exact ⟨rfl, ⟨0, rfl⟩⟩
theorem bt_extract (s : ByteArray) (a e i : Nat) (h : a + i < e) (he : e ≤ s.size) : bt (s.extract a e) (i : Int) = bt s ((a + i : Nat) : Int) := by
  unfold bt
  have h1 : i < (s.extract a e).size := by rw [ByteArray.size_extract]; omega
  have h2 : a + i < s.size := by omega
  simp only [Int.toNat_natCast]
  rw [dif_pos h1, dif_pos h2]
  congr 2
  rw [ByteArray.getElem_extract]
theorem allL_empty (s : ByteArray) (h : s.size = 0) : allL s := fun i hi => by omega
theorem allL_front (s : ByteArray) (h : 0 < s.size) (hb : isL (bt s 0) = true) : allL s ↔ allL (s.extract 1 s.size) := by
  constructor
  · intro ha i hi
    rw [ByteArray.size_extract] at hi
    rw [bt_extract s 1 s.size i (by omega) (by omega)]
    exact ha _ (by omega)
  · intro ha i hi
    rcases Nat.eq_zero_or_pos i with h0 | h0
    · subst h0; exact hb
    · have := ha (i - 1) (by rw [ByteArray.size_extract]; omega)
      rwa [bt_extract s 1 s.size (i - 1) (by omega) (by omega), show 1 + (i - 1) = i by omega] at this
theorem allL_back (s : ByteArray) (h : 0 < s.size) (hb : isL (bt s ((s.size - 1 : Nat) : Int)) = true) : allL s ↔ allL (s.extract 0 (s.size - 1)) := by
  constructor
  · intro ha i hi
    rw [ByteArray.size_extract] at hi
    rw [bt_extract s 0 (s.size - 1) i (by omega) (by omega), Nat.zero_add]
    exact ha _ (by omega)
  · intro ha i hi
    by_cases h0 : i = s.size - 1
    · subst h0; exact hb
    · have := ha i (by rw [ByteArray.size_extract]; omega)
      rwa [bt_extract s 0 (s.size - 1) i (by omega) (by omega), Nat.zero_add] at this
theorem Aid_bthen {w0 a b : World} (h : Below w0.heap.size w0 a) (k : Below a.heap.size a b) : Below w0.heap.size w0 b := h.trans (k.mono h.size)
theorem TrimL (s : ByteArray) (g : Nat) (w : World) (h : SetAt w g) : Calls Tryd.prog 108 #[.string s, .pointer (some ⟨g, 0, none⟩)] w fun e w' => ∃ u, e = .returned (.string u) ∧ (allL s ↔ u.size = 0) ∧ Below w.heap.size w w' := by
  have HS := Aside0.mk h
  have HB := Aside0.mk (Below.refl w.heap.size w)
  clear h
  go_enter Tryd.func108, Tryd.ntmps108
  go_wp2_with fail
  go_loopg [0] (s.size + 1) (fun kq v0 w' => ∃ (x : ByteArray), v0 = .string x ∧ Aside0 (x.size < kq) ∧ Aside0 (allL s ↔ allL x) ∧ Aside0 (Below w.heap.size w w'))
  case atStart => exact ⟨s, rfl, ⟨by omega⟩, ⟨Iff.rfl⟩, HB⟩
  case round =>
    clear HB
    obtain ⟨x, rfl, HK, HA, HB⟩ := hrel
    cases gk with
    | zero => exact absurd HK.out (by omega)
    | succ k1 =>
      by_cases hx : 0 < x.size
      · have c3b0 : decide (0 < (x.size : Int)) = true := decide_eq_true (by omega)
        have c3b1 : decide (0 < x.size) = true := decide_eq_true hx
        have q5 : (0 < x.size) = True := eq_true hx
        have hx5 : ∀ h : 0 < x.size, ((x[0]'h).toNat : Int) = bt x 0 := bt_at x 0
        have qi5 : (0 < (x.size : Int)) = True := eq_true (by omega)
        have hr := bt_range x 0
        go_wp2_with fail
        refine (Has g (bt x 0) _ (HS.out.below HB.out) hr.1 hr.2).mono ?_; rintro e w7 ⟨rfl, hd7⟩
        have HB7 := Aside0.mk (Aid_bthen HB.out hd7.below)
        clear hd7 HB
        by_cases hl : isL (bt x 0) = true
        · have HA2 := Aside0.mk (HA.out.trans (allL_front x hx hl))
          have HSZ := Aside0.mk (show (x.extract 1 x.size).size < k1 by rw [ByteArray.size_extract]; have := HK.out; omega)
          have c7b0 : (1 ≤ (x.size : Int)) = True := eq_true (by omega)
          go_wp2_with fail
          go_roundg k1
          case measure => omega
          case rel => exact ⟨x.extract 1 x.size, by first | rfl | (simp; done), HSZ, HA2, HB7⟩
        · have hl' : isL (bt x 0) = false := by simpa using hl
          clear hl
          go_wp2_with fail
          go_ret
          exact ⟨x, rfl, ⟨fun ha => absurd ((HA.out.1 ha) 0 hx) (by show ¬ isL (bt x 0) = true; rw [hl']; decide), fun h0 => by omega⟩, HB7.out⟩
      · have c3b0 : decide (0 < (x.size : Int)) = false := decide_eq_false (by omega)
        have c3b1 : decide (0 < x.size) = false := decide_eq_false hx
        go_wp2_with fail
        go_ret
        exact ⟨x, rfl, ⟨fun _ => by omega, fun _ => HA.out.2 (allL_empty x (by omega))⟩, HB.out⟩
theorem TrimR (s : ByteArray) (g : Nat) (w : World) (h : SetAt w g) (hs : s.size ≤ 1000000) : Calls Tryd.prog 109 #[.string s, .pointer (some ⟨g, 0, none⟩)] w fun e w' => ∃ u, e = .returned (.string u) ∧ (allL s ↔ allL u) ∧ Below w.heap.size w w' := by
  have HS := Aside0.mk h
  have HB := Aside0.mk (Below.refl w.heap.size w)
  clear h
  go_enter Tryd.func109, Tryd.ntmps109
  go_wp2_with fail
  go_loopg [0] (s.size + 1) (fun kq v0 w' => ∃ (x : ByteArray), v0 = .string x ∧ Aside0 (x.size < kq ∧ x.size ≤ s.size) ∧ Aside0 (allL s ↔ allL x) ∧ Aside0 (Below w.heap.size w w'))
  case atStart => exact ⟨s, rfl, ⟨by omega, by omega⟩, ⟨Iff.rfl⟩, HB⟩
  case round =>
    clear HB
    obtain ⟨x, rfl, HK, HA, HB⟩ := hrel
    cases gk with
    | zero => exact absurd HK.out.1 (by omega)
    | succ k1 =>
      by_cases hx : 0 < x.size
      · have c3b0 : decide (0 < (x.size : Int)) = true := decide_eq_true (by omega)
        have c3b1 : decide (0 < x.size) = true := decide_eq_true hx
        have q5 : (0 < x.size) = True := eq_true hx
        have hx5 : ∀ h : x.size - 1 < x.size, ((x[x.size - 1]'h).toNat : Int) = bt x ((x.size - 1 : Nat) : Int) := bt_at x ((x.size - 1 : Nat) : Int)
        have q6 : (x.size - 1 < x.size) = True := eq_true (by omega)
        have e1 : wrap64 ((x.size : Int) - 1) = ((x.size - 1 : Nat) : Int) := by have := HK.out.2; unfold wrap64; omega
        have e2 : (-1 : Int) < ((x.size - 1 : Nat) : Int) := by omega
        have qi5 : (0 < (x.size : Int)) = True := eq_true (by omega)
        have hr := bt_range x ((x.size - 1 : Nat) : Int)
        go_wp2_with fail
        refine (Has g (bt x ((x.size - 1 : Nat) : Int)) _ (HS.out.below HB.out) hr.1 hr.2).mono ?_; rintro e w7 ⟨rfl, hd7⟩
        have HB7 := Aside0.mk (Aid_bthen HB.out hd7.below)
        clear hd7 HB
        by_cases hl : isL (bt x ((x.size - 1 : Nat) : Int)) = true
        · have HA2 := Aside0.mk (HA.out.trans (allL_back x hx hl))
          have HSZ := Aside0.mk (show (x.extract 0 (x.size - 1)).size < k1 ∧ (x.extract 0 (x.size - 1)).size ≤ s.size by rw [ByteArray.size_extract]; have := HK.out; omega)
          have c7b0 : ((1 : Int) ≤ (x.size : Int)) = True := eq_true (by omega)
          go_wp2_with fail
          go_roundg k1
          case measure => omega
          case rel => exact ⟨x.extract 0 (x.size - 1), by first | rfl | (simp; done), HSZ, HA2, HB7⟩
        · have hl' : isL (bt x ((x.size - 1 : Nat) : Int)) = false := by simpa using hl
          clear hl
          go_wp2_with fail
          go_ret
          exact ⟨x, rfl, HA.out, HB7.out⟩
      · have c3b0 : decide (0 < (x.size : Int)) = false := decide_eq_false (by omega)
        have c3b1 : decide (0 < x.size) = false := decide_eq_false hx
        go_wp2_with fail
        go_ret
        exact ⟨x, rfl, HA.out, HB.out⟩
end Go.Proofs.YtefiadocljnpjaaDoor.Row
/- strings.Trim at the small letters: its contract, walked by hand. -/
namespace Go.Proofs.YtefiadocljnpjaaDoor.Row
open Go.Proofs.Tree Go.RowKit Go.Proofs.YtefiadocljnpjaaDoorW.PrintWords Go.Proofs.YtefiadocljnpjaaDoorW.PrintLast Go.Proofs.YtefiadocljnpjaaDoorW.PrintMore Go.Proofs.YtefiadocljnpjaaDoor.PK
set_option linter.unusedVariables false
set_option linter.unusedSimpArgs false
set_option maxHeartbeats 4000000
set_option maxRecDepth 100000
def letters : ByteArray := ⟨#[97, 98, 99, 100, 101, 102, 103, 104, 105, 106, 107, 108, 109, 110, 111, 112, 113, 114, 115, 116, 117, 118, 119, 120, 121, 122]⟩
def setC (j : Nat) : List Value := (List.range 256).map fun i => Value.bool (decide (97 ≤ i) && decide (i < 97 + j))
theorem letter_at (j : Nat) (h : j < 26) : bt letters (j : Int) = ((97 + j : Nat) : Int) := by
  have : ∀ j : Fin 26, bt letters ((j.val : Nat) : Int) = ((97 + j.val : Nat) : Int) := by decide +kernel
  exact this ⟨j, h⟩
theorem zero_set : Tryd.zeroCells105 = (setC 0).toArray := by kernel_rfl
theorem setC_len (j : Nat) : (setC j).length = 256 := by unfold setC; simp
theorem setC_get (j i : Nat) (h : i < 256) : (setC j).toArray[i]? = some (Value.bool (decide (97 ≤ i) && decide (i < 97 + j))) := by unfold setC; simp [h]
theorem setC_step (j : Nat) (hj : j < 26) : (setC j).toArray.setIfInBounds (97 + j) (.bool true) = (setC (j + 1)).toArray := by
  apply Array.ext_getElem?
  intro i
  rw [Array.getElem?_setIfInBounds]
  by_cases hi : i < 256
  · rw [setC_get j i hi, setC_get (j + 1) i hi]
    by_cases e : 97 + j = i
    · subst e
      rw [if_pos rfl, if_pos (by rw [List.size_toArray, setC_len]; omega)]
      congr 2
      simp
    · rw [if_neg e]
      congr 2
      by_cases h2 : i < 97 + j
      · have h3 : i < 97 + (j + 1) := by omega
        simp [h2, h3]
      · have h3 : ¬ i < 97 + (j + 1) := by omega
        simp [h2, h3]
  · rw [Array.getElem?_eq_none (by rw [List.size_toArray, setC_len]; omega)]
    rw [if_neg (by omega), Array.getElem?_eq_none (by rw [List.size_toArray, setC_len]; omega)]
theorem MakeSet (w : World) : Calls Tryd.prog 107 #[.string letters] w fun e w' => e = .returned (.tuple #[.agg (setC 26).toArray, .bool true]) ∧ Below w.heap.size w w' := by
  have hsz : letters.size = 26 := rfl
  have HLA := Aside0.mk letter_at
  obtain ⟨ls, hls⟩ : ∃ ls, ls = letters := ⟨_, rfl⟩
  rw [← hls] at hsz HLA ⊢
  clear hls
  go_enter Tryd.func107, Tryd.ntmps107
  go_upto_region 1 with fail
  obtain ⟨w1, hw1⟩ : ∃ w1, w1 = w.alloc (.cells Tryd.zeroCells105 105) := ⟨_, rfl⟩
  have HB := Aside0.mk (show Below w.heap.size w w1 by rw [hw1]; exact (Below.refl _ _).alloc (Nat.le_refl _) _)
  have HQ := Aside0.mk (show w1.heap[w.heap.size]? = some (.cells (setC 0).toArray 105 (0, 0)) by rw [hw1, zero_set]; exact heap_new w _)
  obtain ⟨g, hg⟩ : ∃ g, g = w.heap.size := ⟨_, rfl⟩
  rw [← hw1, ← hg]
  rw [← hg] at HQ
  have HG := Aside0.mk (show w.heap.size ≤ g by omega)
  clear hw1 hg
  go_wp2_with fail
  go_loopg [4] 27 (fun kq v4 w' => ∃ (j : Nat), v4 = .int .i64 (j : Int) ∧ Aside0 (kq + j = 27 ∧ j ≤ 26) ∧ Aside0 (w'.heap[g]? = some (.cells (setC j).toArray 105 (0, 0))) ∧ Aside0 (Below w.heap.size w w'))
  case atStart => exact ⟨0, rfl, ⟨by omega, by omega⟩, HQ, HB⟩
  case round =>
    clear HQ HB
    obtain ⟨j, rfl, HK, HQ, HB⟩ := hrel
    cases gk with
    | zero => exact absurd HK.out (by omega)
    | succ k1 =>
      by_cases hj : j < 26
      · have c1 : decide ((j : Int) < (ls.size : Int)) = true := decide_eq_true (by omega)
        have c2 : decide (j < ls.size) = true := decide_eq_true (by omega)
        have q5 : (j < ls.size) = True := eq_true (by omega)
        have hb := HLA.out j hj
        have hx5 : ∀ h : j < ls.size, ((ls[j]'h).toNat : Int) = ((97 + j : Nat) : Int) := fun h => by rw [← hb]; exact bt_at ls (j : Int) h
        have q6 : ((j : Int) < (ls.size : Int)) = True := eq_true (by omega)
        have ej : wrap64 ((j : Int) + 1) = ((j + 1 : Nat) : Int) := by unfold wrap64; omega
        have EJ := Aside0.mk ej
        have r1 : ((97 + j : Nat) : Int) < 128 := by omega
        have z0 : wr.cell? ⟨g, 97 + j, none⟩ = some (.bool false) := by rw [cell_of_row _ _ _ _ _ _ HQ.out, setC_get j (97 + j) (by omega)]; simp
        have f0 := blk_frozen HQ.out (97 + j)
        clear hb ej
        go_wp2_with fail
        go_roundg k1
        case measure => omega
        case rel => exact ⟨j + 1, by first | (simp; done) | rw [EJ.out], ⟨by have := HK.out; omega, by omega⟩, ⟨by rw [← setC_step j hj]; exact blk_set HQ.out (97 + j) _⟩, ⟨HB.out.setCell (p := ⟨g, 97 + j, none⟩) HG.out _⟩⟩
      · have ej : j = 26 := by have := HK.out; omega
        subst ej
        obtain ⟨cs, hcs⟩ : ∃ cs, cs = (setC 26).toArray := ⟨_, rfl⟩
        rw [← hcs] at HQ
        have hcz : cs.size = 256 := by rw [hcs, List.size_toArray, setC_len]
        have hone : cs.all (·.oneCell') = true := by rw [hcs]; decide +kernel
        have hif : (Tryd.prog.info? 105).map (·.size) = some cs.size := by rw [hcz]; kernel_rfl
        have hld : (Instr.loadAt 105 (.pointer (some ⟨g, 0, none⟩))).run Tryd.prog wr = .ok (.agg cs) wr := by
          simp only [Instr.loadAt, Instr.sureAddr, Sem.run_bind, Sem.run_pure, Result.andThen_ok]
          exact run_loadVar_row wr g 105 105 cs (0, 0) _ HQ.out Tryd.underlying105 rfl hif
        have hst : (Instr.storeAt 105 (.pointer (some ⟨g, 0, none⟩)) (.agg cs)).run Tryd.prog wr = .ok () (wr.setRow g cs) := by
          simp only [Instr.storeAt, Instr.sureAddr, Sem.run_bind, Sem.run_pure, Result.andThen_ok]
          exact run_storeVar_row wr g 105 105 cs cs HQ.out hif rfl hone
        have HW := Aside0.mk (show (wr.setRow g cs).heap[g]? = some (.cells cs 105 (0, 0)) from setRow_heap wr g cs cs 105 (0, 0) HQ.out)
        have HBW := Aside0.mk (below_setRow HB.out HG.out cs)
        have HIF := Aside0.mk hif
        have HCS := Aside0.mk hcs
        have HONE := Aside0.mk hone
        clear hcs hcz hone hif hld hst
        have hcz : cs.size = 256 := by rw [HCS.out, List.size_toArray, setC_len]
        have hsc : (storeCells ⟨g, 0, none⟩ cs.toList).run Tryd.prog wr = .ok () (wr.setRow g cs) := by
          have h := run_storeCells_from (P := Tryd.prog) g 105 cs.toList 0 cs wr HQ.out (by simp) (fun v hv => (Array.all_eq_true_iff_forall_mem.1 HONE.out) v (by simpa using hv))
          simpa using h
        go_wp2_with fail
        refine wp_load_row 105 (.tmp 2) rfl g rfl 105 cs (0, 0) _ HQ.out Tryd.underlying105 rfl HIF.out ?_
        go_wp2_with fail
        (try rw [Exit.noGoto_ret])
        (try simp only [Exit.inBlock, Exit.then])
        refine bodyPost_ret (results_ct rfl _ _ g 105 cs (0, 0) _ rfl HW.out Tryd.underlying105 rfl HIF.out) rfl ?_
        rw [← HCS.out]
        exact ⟨rfl, HBW.out⟩
end Go.Proofs.YtefiadocljnpjaaDoor.Row
/- strings.Trim at the small letters. -/
namespace Go.Proofs.YtefiadocljnpjaaDoor.Row
open Go.Proofs.Tree Go.RowKit Go.Proofs.YtefiadocljnpjaaDoorW.PrintWords Go.Proofs.YtefiadocljnpjaaDoorW.PrintLast Go.Proofs.YtefiadocljnpjaaDoorW.PrintMore Go.Proofs.YtefiadocljnpjaaDoor.PK
set_option linter.unusedVariables false
set_option linter.unusedSimpArgs false
set_option maxHeartbeats 4000000
set_option maxRecDepth 100000
theorem Trim (s : ByteArray) (w : World) (hs : s.size ≤ 1000000) (h0 : 0 < s.size) : Calls Tryd.prog 91 #[.string s, .string letters] w fun e w' => ∃ u, e = .returned (.string u) ∧ (allL s ↔ u.size = 0) ∧ Below w.heap.size w w' := by
  have HM := Aside0.mk (MakeSet)
  have HS := Aside0.mk hs
  have hsz : letters.size = 26 := rfl
  have hne : letters.toList.isEmpty = false := by decide +kernel
  have hse : s.toList.isEmpty = false := by
    rw [ByteArray.toList_eq]
    rw [List.isEmpty_eq_false_iff]
    intro e
    have : s.data.toList.length = 0 := by rw [e]; rfl
    rw [Array.length_toList] at this
    exact absurd h0 (by show ¬ 0 < s.data.size; omega)
  obtain ⟨ls, hls⟩ : ∃ ls, ls = letters := ⟨_, rfl⟩
  obtain ⟨cs, hcs⟩ : ∃ cs, cs = (setC 26).toArray := ⟨_, rfl⟩
  rw [← hls, ← hcs] at HM
  rw [← hls] at hsz hne ⊢
  have HCS := Aside0.mk hcs
  clear hls hcs hs h0
  go_enter Tryd.func91, Tryd.ntmps91
  go_wp2_with fail
  refine (HM.out _).mono ?_; rintro e w1 ⟨rfl, hB1⟩
  have hcz : cs.size = 256 := by rw [HCS.out, List.size_toArray, setC_len]
  have HONE := Aside0.mk (show cs.all (·.oneCell') = true by rw [HCS.out]; decide +kernel)
  have HZ := Aside0.mk (show Tryd.zeroCells105.size = 256 by rw [zero_set, List.size_toArray, setC_len])
  have HN := Aside0.mk (heap_new w1 (.cells Tryd.zeroCells105 105))
  have hsc : (storeCells ⟨w1.heap.size, 0, none⟩ cs.toList).run Tryd.prog (w1.alloc (.cells Tryd.zeroCells105 105)) = .ok () ((w1.alloc (.cells Tryd.zeroCells105 105)).setRow w1.heap.size cs) := by
    have h := run_storeCells_from (P := Tryd.prog) w1.heap.size 105 cs.toList 0 Tryd.zeroCells105 _ HN.out (by rw [Array.length_toList, HZ.out, hcz]) (fun v hv => (Array.all_eq_true_iff_forall_mem.1 HONE.out) v (by simpa using hv))
    simpa using h
  have HB1 := Aside0.mk (below_setRow (hB1.alloc hB1.size (.cells Tryd.zeroCells105 105)) hB1.size cs)
  have HQ := Aside0.mk (setRow_heap _ w1.heap.size Tryd.zeroCells105 cs 105 (0, 0) HN.out)
  clear hB1 HM
  obtain ⟨w2, hw2⟩ : ∃ w2, w2 = (w1.alloc (.cells Tryd.zeroCells105 105)).setRow w1.heap.size cs := ⟨_, rfl⟩
  rw [← hw2] at hsc HB1 HQ
  clear hw2
  have HSA := Aside0.mk (show SetAt w2 w1.heap.size from fun b h0 h1 => by
    rw [blk_cell HQ.out, HCS.out, setC_get 26 b.toNat (by omega)]
    congr 2
    unfold isL
    rw [show decide (97 ≤ b.toNat) = decide (97 ≤ b) by rw [decide_eq_decide]; omega, show decide (b.toNat < 97 + 26) = decide (b ≤ 122) by rw [decide_eq_decide]; omega])
  clear HQ HN HZ HONE HCS
  go_wp2_with fail
  refine (TrimR s _ _ HSA.out HS.out).mono ?_; rintro e w3 ⟨u, rfl, hu, hB3⟩
  have HB3 := Aside0.mk (Aid_bthen HB1.out hB3)
  have HS3 := Aside0.mk (HSA.out.below hB3)
  have HU := Aside0.mk hu
  clear hB3 HB1 HSA hu
  go_wp2_with fail
  refine (TrimL u _ _ HS3.out).mono ?_; rintro e w4 ⟨v, rfl, hv, hB4⟩
  have HB4 := Aside0.mk (Aid_bthen HB3.out hB4)
  have HV := Aside0.mk hv
  clear hB4 HB3 HS3 hv
  go_wp2_with fail
  go_ret
  exact ⟨v, rfl, HU.out.trans HV.out, HB4.out⟩
end Go.Proofs.YtefiadocljnpjaaDoor.Row
/- The names that may be: named, walked by hand; the variable words lies as its text lays it. -/
namespace Go.Proofs.YtefiadocljnpjaaDoor.Row
open Go.Proofs.Tree Go.RowKit Go.Proofs.YtefiadocljnpjaaDoorW.PrintWords Go.Proofs.YtefiadocljnpjaaDoorW.PrintLast Go.Proofs.YtefiadocljnpjaaDoorW.PrintMore Go.Proofs.YtefiadocljnpjaaDoor.PK
set_option linter.unusedVariables false
set_option linter.unusedSimpArgs false
set_option maxHeartbeats 4000000
set_option maxRecDepth 100000
def w0 : ByteArray := ⟨#[115, 107, 105, 112]⟩
def w1 : ByteArray := ⟨#[116, 104, 114, 111, 119]⟩
def w2 : ByteArray := ⟨#[121, 105, 101, 108, 100]⟩
def w3 : ByteArray := ⟨#[115, 107, 105, 112, 112]⟩
def w4 : ByteArray := ⟨#[116, 104, 114, 111, 119, 119]⟩
def w5 : ByteArray := ⟨#[121, 105, 101, 108, 100, 100]⟩
def wordsL : List ByteArray := [w0, w1, w2, w3, w4, w5]
/-- The variable words, as it is laid. -/
def Laid (W : World) : Prop := Kd.C Kd.string W (some ⟨1, 0, none⟩) 6 wordsL
theorem Laid.below {W W' : World} (h : Laid W) (hb : Below W.heap.size W W') : Laid W' := Kd.C_below h hb
/-- Is a text one of the words? -/
def wd (s : ByteArray) : Bool := decide (s.toList = w0.toList) || decide (s.toList = w1.toList) || decide (s.toList = w2.toList) || decide (s.toList = w3.toList) || decide (s.toList = w4.toList) || decide (s.toList = w5.toList)
theorem words_has (s : ByteArray) : slices_Contains_string_string.f 7 wordsL s = some (wd s) := by
  have hx : ∀ i : Nat, ((i : Int)) = (i : Int) := fun _ => rfl
  unfold slices_Contains_string_string.f slices_Index_string_string.f wd
  have r0 : rdOf ByteArray.empty wordsL 0 = w0 := rfl
  have r1 : rdOf ByteArray.empty wordsL 1 = w1 := rfl
  have r2 : rdOf ByteArray.empty wordsL 2 = w2 := rfl
  have r3 : rdOf ByteArray.empty wordsL 3 = w3 := rfl
  have r4 : rdOf ByteArray.empty wordsL 4 = w4 := rfl
  have r5 : rdOf ByteArray.empty wordsL 5 = w5 := rfl
  have hl : ((wordsL.length : Nat) : Int) = 6 := rfl
  have t0 : wrap64 (0 + 1) = 1 := by decide +kernel
  have t1 : wrap64 (1 + 1) = 2 := by decide +kernel
  have t2 : wrap64 (2 + 1) = 3 := by decide +kernel
  have t3 : wrap64 (3 + 1) = 4 := by decide +kernel
  have t4 : wrap64 (4 + 1) = 5 := by decide +kernel
  have t5 : wrap64 (5 + 1) = 6 := by decide +kernel
  simp only [slices_Index_string_string.l0, hl, t0, t1, t2, t3, t4, t5, r0, r1, r2, r3, r4, r5]
  clear hx r0 r1 r2 r3 r4 r5 hl t0 t1 t2 t3 t4 t5
  generalize s.toList = a
  generalize w0.toList = b0
  generalize w1.toList = b1
  generalize w2.toList = b2
  generalize w3.toList = b3
  generalize w4.toList = b4
  generalize w5.toList = b5
  by_cases h0 : a = b0
  · subst h0
    simp
  by_cases h1 : a = b1
  · subst h1
    simp [h0]
  by_cases h2 : a = b2
  · subst h2
    simp [h0, h1]
  by_cases h3 : a = b3
  · subst h3
    simp [h0, h1, h2]
  by_cases h4 : a = b4
  · subst h4
    simp [h0, h1, h2, h3]
  by_cases h5 : a = b5
  · subst h5
    simp [h0, h1, h2, h3, h4]
  simp [h0, h1, h2, h3, h4, h5]
instance (s : ByteArray) : Decidable (allL s) := by unfold allL; infer_instance
/-- May a name be? -/
def nm (s : ByteArray) : Bool := decide (0 < s.size) && decide (s.size ≤ 8) && decide (allL s) && !wd s
theorem isEmpty_size (s : ByteArray) : s.toList.isEmpty = decide (s.size = 0) := by
  rw [ByteArray.toList_eq]
  rcases Nat.eq_zero_or_pos s.size with h | h
  · have : s.data.toList = [] := by apply List.eq_nil_of_length_eq_zero; rw [Array.length_toList]; exact h
    rw [this, decide_eq_true h]; rfl
  · rw [decide_eq_false (by omega), List.isEmpty_eq_false_iff]
    intro e
    have : s.data.toList.length = 0 := by rw [e]; rfl
    rw [Array.length_toList] at this
    exact absurd h (by show ¬ 0 < s.data.size; omega)
theorem Named (s : ByteArray) (w : World) (h : Laid w) : Calls Tryd.prog 70 #[.string s] w fun e w' => e = .returned (.bool (nm s)) ∧ Below w.heap.size w w' := by
  have HL := Aside0.mk h
  have HW := Aside0.mk (fun W hW => slices_Contains_string_string.calls 7 (some ⟨1, 0, none⟩) 6 wordsL s (wd s) W hW (by decide) (words_has s))
  have hlet : (⟨#[97, 98, 99, 100, 101, 102, 103, 104, 105, 106, 107, 108, 109, 110, 111, 112, 113, 114, 115, 116, 117, 118, 119, 120, 121, 122]⟩ : ByteArray) = letters := rfl
  have HT := Aside0.mk (fun W h1 h2 => Trim s W h1 h2)
  rw [← hlet] at HT
  clear h hlet
  have hse := isEmpty_size s
  have HB := Aside0.mk (Below.refl w.heap.size w)
  by_cases h0 : 0 < s.size
  · rw [decide_eq_false (by omega)] at hse
    by_cases h8 : s.size ≤ 8
    · have c8 : decide ((s.size : Int) ≤ 8) = true := decide_eq_true (by omega)
      have c8' : decide (s.size ≤ 8) = true := decide_eq_true h8
      have HS := Aside0.mk (show s.size ≤ 1000000 ∧ 0 < s.size by omega)
      have HNM := Aside0.mk (show nm s = (decide (allL s) && !wd s) by unfold nm; rw [decide_eq_true h0, decide_eq_true h8]; rfl)
      clear h0 h8
      go_enter Tryd.func70, Tryd.ntmps70
      go_wp2_with fail
      refine (HT.out _ HS.out.1 HS.out.2).mono ?_; rintro e w1 ⟨u, rfl, hu, hB1⟩
      have HB1 := Aside0.mk hB1
      have hue := isEmpty_size u
      have HU := Aside0.mk hu
      clear hB1 hu HT HB
      by_cases ha : allL s
      · rw [decide_eq_true (HU.out.1 ha)] at hue
        have HNM2 := Aside0.mk (show nm s = !wd s by rw [HNM.out, decide_eq_true ha]; rfl)
        clear ha HNM
        go_wp2_with fail
        refine (HW.out _ (HL.out.below HB1.out)).mono ?_; rintro e w2 ⟨rfl, hd2⟩
        have HB2 := Aside0.mk (Aid_bthen HB1.out hd2.below)
        clear hd2 HB1
        go_wp2_with fail
        go_ret
        exact ⟨by rw [HNM2.out]; rfl, HB2.out⟩
      · rw [decide_eq_false (fun e => ha (HU.out.2 e))] at hue
        have HNM2 := Aside0.mk (show nm s = false by rw [HNM.out, decide_eq_false ha]; rfl)
        clear ha HNM
        go_wp2_with fail
        go_ret
        exact ⟨by rw [HNM2.out]; rfl, HB1.out⟩
    · have c8 : decide ((s.size : Int) ≤ 8) = false := decide_eq_false (by omega)
      have c8' : decide (s.size ≤ 8) = false := decide_eq_false h8
      have HNM := Aside0.mk (show nm s = false by unfold nm; rw [decide_eq_false h8]; simp)
      clear h0 h8
      go_enter Tryd.func70, Tryd.ntmps70
      go_wp2_with fail
      go_ret
      exact ⟨by rw [HNM.out]; rfl, HB.out⟩
  · rw [decide_eq_true (by omega)] at hse
    have HNM := Aside0.mk (show nm s = false by unfold nm; rw [decide_eq_false h0]; simp)
    clear h0
    go_enter Tryd.func70, Tryd.ntmps70
    go_wp2_with fail
    go_ret
    exact ⟨by rw [HNM.out]; rfl, HB.out⟩
end Go.Proofs.YtefiadocljnpjaaDoor.Row
/- Which nodes may be: Right, walked by hand. -/
namespace Go.Proofs.YtefiadocljnpjaaDoor.Row
open Go.Proofs.Tree Go.RowKit Go.Proofs.YtefiadocljnpjaaDoorW.PrintWords Go.Proofs.YtefiadocljnpjaaDoorW.PrintLast Go.Proofs.YtefiadocljnpjaaDoorW.PrintMore Go.Proofs.YtefiadocljnpjaaDoor.PK
set_option linter.unusedVariables false
set_option linter.unusedSimpArgs false
set_option maxHeartbeats 4000000
set_option maxRecDepth 100000
/-- May a node be? -/
def rt (n : S48) : Bool :=
  if n.f0 = 1 then decide (n.f2 = 0) && nm n.f1
  else if n.f0 = 11 ∨ n.f0 = 14 then decide (n.f1.size = 0) && decide (1 ≤ n.f2) && decide (n.f2 ≤ 3)
  else decide (n.f1.size = 0) && decide (n.f2 = 0) && decide (0 ≤ ar n.f0)
theorem Right (n : S48) (w : World) (h : Laid w) : Calls Tryd.prog 33 #[.agg #[.int .i64 n.f0, .string n.f1, .int .i64 n.f2]] w fun e w' => e = .returned (.bool (rt n)) ∧ Below w.heap.size w w' := by
  have HL := Aside0.mk h
  have HB := Aside0.mk (Below.refl w.heap.size w)
  obtain ⟨k, hk⟩ : ∃ k, k = n.f0 := ⟨_, rfl⟩
  obtain ⟨s, hs⟩ : ∃ s, s = n.f1 := ⟨_, rfl⟩
  obtain ⟨g, hg⟩ : ∃ g, g = n.f2 := ⟨_, rfl⟩
  have HR : Aside0 (rt n = if k = 1 then decide (g = 0) && nm s else if k = 11 ∨ k = 14 then decide (s.size = 0) && decide (1 ≤ g) && decide (g ≤ 3) else decide (s.size = 0) && decide (g = 0) && decide (0 ≤ ar k)) := ⟨by unfold rt; rw [hk, hs, hg]⟩
  rw [← hk, ← hs, ← hg]
  clear h hk hs hg
  by_cases k1 : k = 1
  · subst k1
    have HR1 := Aside0.mk (show rt n = (decide (g = 0) && nm s) from HR.out)
    clear HR
    by_cases hg : g = 0
    · subst hg
      have HR2 := Aside0.mk (show rt n = nm s by rw [HR1.out]; simp)
      clear HR1
      have HB2 := Aside0.mk (((Below.refl w.heap.size w).alloc (Nat.le_refl _) (.cells #[.int .i64 1, .string s, .int .i64 0] 48)).alloc (by simp) (.cells #[.int .i64 1, .string s, .int .i64 0] 48))
      clear HB
      go_enter Tryd.func33, Tryd.ntmps33
      go_wp2_with fail
      refine (Named s _ (HL.out.below HB2.out)).mono ?_; rintro e w3 ⟨rfl, hB3⟩
      have HB3 := Aside0.mk (Aid_bthen HB2.out hB3)
      clear hB3 HB2
      go_wp2_with fail
      go_ret
      exact ⟨by rw [HR2.out]; rfl, HB3.out⟩
    · have HR2 := Aside0.mk (show rt n = false by rw [HR1.out, decide_eq_false hg]; rfl)
      have HB2 := Aside0.mk (((Below.refl w.heap.size w).alloc (Nat.le_refl _) (.cells #[.int .i64 1, .string s, .int .i64 g] 48)).alloc (by simp) (.cells #[.int .i64 1, .string s, .int .i64 0] 48))
      have hg' : (g == 0) = false := beq_eq_false_iff_ne.2 hg
      clear HR1 HB
      go_enter Tryd.func33, Tryd.ntmps33
      go_wp2_with fail
      go_ret
      exact ⟨by rw [HR2.out]; rfl, HB2.out⟩
  · have hse := isEmpty_size s
    have e1 : (k == 1) = false := beq_eq_false_iff_ne.2 k1
    by_cases k11 : k = 11 ∨ k = 14
    · have HR1 := Aside0.mk (show rt n = (decide (s.size = 0) && decide (1 ≤ g) && decide (g ≤ 3)) by rw [HR.out, if_neg k1, if_pos k11])
      clear HR k1
      have HB2 := Aside0.mk (((Below.refl w.heap.size w).alloc (Nat.le_refl _) (.cells #[.int .i64 k, .string s, .int .i64 g] 48)).alloc (by simp) (.cells #[.int .i64 k, .string ⟨#[]⟩, .int .i64 g] 48))
      clear HB
      by_cases hs : s.size = 0
      · rw [decide_eq_true hs] at hse HR1
        clear hs
        by_cases hg : 1 ≤ g
        · rw [decide_eq_true hg] at HR1
          have HR2 := Aside0.mk (show rt n = decide (g ≤ 3) from HR1.out)
          clear HR1
          rcases k11 with rfl | rfl
          all_goals
            go_enter Tryd.func33, Tryd.ntmps33
            go_wp2_with fail
            go_ret
            exact ⟨by rw [HR2.out]; rfl, HB2.out⟩
        · rw [decide_eq_false hg] at HR1
          have HR2 := Aside0.mk (show rt n = false from HR1.out)
          have hg' : g < 1 := by omega
          clear HR1 hg
          rcases k11 with rfl | rfl
          all_goals
            go_enter Tryd.func33, Tryd.ntmps33
            go_wp2_with fail
            go_ret
            exact ⟨by rw [HR2.out]; rfl, HB2.out⟩
      · rw [decide_eq_false hs] at hse HR1
        have HR2 := Aside0.mk (show rt n = false from HR1.out)
        clear hs HR1
        rcases k11 with rfl | rfl
        all_goals
          go_enter Tryd.func33, Tryd.ntmps33
          go_wp2_with fail
          go_ret
          exact ⟨by rw [HR2.out]; rfl, HB2.out⟩
    · have HR1 := Aside0.mk (show rt n = (decide (s.size = 0) && decide (g = 0) && decide (0 ≤ ar k)) by rw [HR.out, if_neg k1, if_neg k11])
      have e2 : (k == 11) = false := beq_eq_false_iff_ne.2 (fun e => k11 (.inl e))
      have e3 : (k == 14) = false := beq_eq_false_iff_ne.2 (fun e => k11 (.inr e))
      clear HR k1 k11
      have HB2 := Aside0.mk (((Below.refl w.heap.size w).alloc (Nat.le_refl _) (.cells #[.int .i64 k, .string s, .int .i64 g] 48)).alloc (by simp) (.cells #[.int .i64 k, .string ⟨#[]⟩, .int .i64 0] 48))
      clear HB
      by_cases hs : s.size = 0
      · rw [decide_eq_true hs] at hse HR1
        clear hs
        by_cases hg : g = 0
        · subst hg
          have HR2 := Aside0.mk (show rt n = decide (0 ≤ ar k) by rw [HR1.out]; simp)
          clear HR1
          go_enter Tryd.func33, Tryd.ntmps33
          go_wp2_with fail
          refine (Arity k _).mono ?_; rintro e w3 ⟨rfl, hd3⟩
          have HB3 := Aside0.mk (Aid_bthen HB2.out hd3.below)
          clear hd3 HB2
          go_wp2_with fail
          go_ret
          exact ⟨by rw [HR2.out]; rfl, HB3.out⟩
        · have hg' : (g == 0) = false := beq_eq_false_iff_ne.2 hg
          have HR2 := Aside0.mk (show rt n = false by rw [HR1.out, decide_eq_false hg]; rfl)
          clear HR1 hg
          go_enter Tryd.func33, Tryd.ntmps33
          go_wp2_with fail
          go_ret
          exact ⟨by rw [HR2.out]; rfl, HB2.out⟩
      · rw [decide_eq_false hs] at hse HR1
        have HR2 := Aside0.mk (show rt n = false from HR1.out)
        clear hs HR1
        go_enter Tryd.func33, Tryd.ntmps33
        go_wp2_with fail
        go_ret
        exact ⟨by rw [HR2.out]; rfl, HB2.out⟩
end Go.Proofs.YtefiadocljnpjaaDoor.Row
/- Is a row one tree? Whole, walked by hand, with its closure, ContainsFunc and IndexFunc. -/
namespace Go.Proofs.YtefiadocljnpjaaDoor.Row
open Go.Proofs.Tree Go.RowKit Go.Proofs.YtefiadocljnpjaaDoorW.PrintWords Go.Proofs.YtefiadocljnpjaaDoorW.PrintLast Go.Proofs.YtefiadocljnpjaaDoorW.PrintMore Go.Proofs.YtefiadocljnpjaaDoor.PK
set_option linter.unusedVariables false
set_option linter.unusedSimpArgs false
set_option maxHeartbeats 4000000
set_option maxRecDepth 100000
theorem Bad (n : S48) (w : World) (h : Laid w) : Calls Tryd.prog 73 #[.agg #[.int .i64 n.f0, .string n.f1, .int .i64 n.f2]] w fun e w' => e = .returned (.bool (!rt n)) ∧ Below w.heap.size w w' := by
  have HL := Aside0.mk h
  have HB2 := Aside0.mk ((Below.refl w.heap.size w).alloc (Nat.le_refl _) (.cells #[.int .i64 n.f0, .string n.f1, .int .i64 n.f2] 48))
  clear h
  go_enter Tryd.func73, Tryd.ntmps73
  go_wp2_with fail
  refine (Right n _ (HL.out.below HB2.out)).mono ?_; rintro e w3 ⟨rfl, hB3⟩
  have HB3 := Aside0.mk (Aid_bthen HB2.out hB3)
  clear hB3 HB2
  go_wp2_with fail
  go_ret
  exact ⟨rfl, HB3.out⟩
/-- The place of the first node that may not be. -/
def ix : List S48 → Nat → Int
  | [], _ => -1
  | x :: r, k => if rt x then ix r (k + 1) else k
theorem IndexFunc (A0 : Option Addr) (c0 : Nat) (l0 : List S48) (w : World) (h : Laid w) (hr0 : Kd.C k48 w A0 l0.length l0) (hc0 : l0.length ≤ c0) :
    Calls Tryd.prog 92 #[.slice A0 l0.length c0, .func (.func 73) #[] #[]] w fun e w' => e = .returned (.int .i64 (ix l0 0)) ∧ Below w.heap.size w w' := by
  have HL := Aside0.mk h
  have HR := Aside0.mk hr0
  have HB := Aside0.mk (Below.refl w.heap.size w)
  have HM := Aside0.mk (Kd.C_max hr0)
  obtain ⟨r, hr⟩ : ∃ r, r = ix l0 0 := ⟨_, rfl⟩
  rw [← hr]
  have HE := Aside0.mk hr
  clear hr0 hc0 h hr
  go_enter Tryd.func92, Tryd.ntmps92
  go_wp2_with fail
  go_loopg [8] (l0.length + 1) (fun kq v8 w' => ∃ (j : Nat), v8 = .int .i64 (j : Int) ∧ Aside0 (kq + j = l0.length + 1 ∧ j ≤ l0.length) ∧ Aside0 (r = ix (l0.drop j) j) ∧ Aside0 (Below w.heap.size w w'))
  case atStart => exact ⟨0, rfl, ⟨by omega, by omega⟩, ⟨HE.out⟩, HB⟩
  case round =>
    clear HB HE
    obtain ⟨j, rfl, HK, HE, HB⟩ := hrel
    cases gk with
    | zero => exact absurd HK.out (by omega)
    | succ k1 =>
      by_cases hj : j < l0.length
      · have c14 : decide ((j : Int) < (l0.length : Int)) = true := decide_eq_true (by omega)
        have p0 : (0 : Int) ≤ (j : Int) := by omega
        have q0 : (j : Int) < (l0.length : Int) := by omega
        obtain ⟨ad, e7, x0, x1, x2⟩ := at_T48 HR.out (j : Int) p0 q0
        subst e7
        obtain ⟨n, hn⟩ : ∃ n, n = rd_T48 l0 (j : Int) := ⟨_, rfl⟩
        rw [← hn] at x0 x1 x2
        have hd : l0.drop j = n :: l0.drop (j + 1) := by
          rw [hn, List.drop_eq_getElem_cons hj]; unfold rd_T48; simp [List.getD_eq_getElem?_getD, List.getElem?_eq_getElem hj]
        have HE2 := Aside0.mk (show r = ix (n :: l0.drop (j + 1)) j by rw [← hd]; exact HE.out)
        simp only [Int.toNat_natCast] at x0 x1 x2
        replace x0 := (HB.out.cell (World.block_lt_of_cell? w _ x0)).trans x0
        replace x1 := (HB.out.cell (World.block_lt_of_cell? w _ x1)).trans x1
        replace x2 := (HB.out.cell (World.block_lt_of_cell? w _ x2)).trans x2
        clear hn hd HE
        go_wp2_with fail
        refine (Bad n _ (HL.out.below HB.out)).mono ?_; rintro e w7 ⟨rfl, hB7⟩
        have HB7 := Aside0.mk (Aid_bthen HB.out hB7)
        clear hB7 HB x0 x1 x2
        unfold ix at HE2
        have ew : wrap64 ((j : Int) + 1) = ((j + 1 : Nat) : Int) := by have := HM.out; unfold wrap64; omega
        have EJ := Aside0.mk ew
        clear ew
        by_cases hm0 : rt n = true
        · rw [if_pos hm0] at HE2
          go_wp2_with fail
          go_roundg k1
          case measure => omega
          case rel => exact ⟨j + 1, by rw [EJ.out], ⟨by have := HK.out; omega, by omega⟩, HE2, HB7⟩
        · rw [if_neg hm0] at HE2
          have hm1 : rt n = false := by simpa using hm0
          go_wp2_with fail
          (try rw [Exit.noGoto_ret])
          go_ret
          exact ⟨by rw [HE2.out]; rfl, HB7.out⟩
      · have c14 : decide ((j : Int) < (l0.length : Int)) = false := decide_eq_false (by omega)
        have hr : r = -1 := by rw [HE.out, List.drop_eq_nil_of_le (by omega)]; rfl
        subst hr
        go_wp2_with fail
        (try rw [Exit.noGoto_ret])
        go_ret
        exact ⟨rfl, HB.out⟩
/-- May all nodes of a row be? -/
def rts (l : List S48) : Bool := l.all rt
theorem ix_ge (l : List S48) (k : Nat) : decide ((0 : Int) ≤ ix l k) = !rts l := by
  induction l generalizing k with
  | nil => rfl
  | cons x r ih =>
    unfold ix rts
    by_cases h : rt x = true
    · rw [if_pos h, List.all_cons, h]; exact ih (k + 1)
    · rw [if_neg h, List.all_cons]; simp at h; rw [h]; simp
theorem ContainsFunc (A0 : Option Addr) (c0 : Nat) (l0 : List S48) (w : World) (h : Laid w) (hr0 : Kd.C k48 w A0 l0.length l0) (hc0 : l0.length ≤ c0) :
    Calls Tryd.prog 74 #[.slice A0 l0.length c0, .func (.func 73) #[] #[]] w fun e w' => e = .returned (.bool (!rts l0)) ∧ Below w.heap.size w w' := by
  have HC := Aside0.mk (IndexFunc A0 c0 l0 w h hr0 hc0)
  have HG := Aside0.mk (ix_ge l0 0)
  clear h hr0 hc0
  go_enter Tryd.func74, Tryd.ntmps74
  go_wp2_with fail
  refine HC.out.mono ?_; rintro e w7 ⟨rfl, hB7⟩
  have HB7 := Aside0.mk hB7
  clear hB7
  go_wp2_with fail
  go_ret
  exact ⟨by rw [← HG.out]; rfl, HB7.out⟩
/-- Is a row one tree? -/
def wh (l : List S48) : Bool := decide (0 < l.length) && decide (l.length ≤ 200) && rts l && decide (sz l 1 0 = (l.length : Int))
theorem Whole (A0 : Option Addr) (c0 : Nat) (l0 : List S48) (w : World) (h : Laid w) (hr0 : Kd.C k48 w A0 l0.length l0) (hc0 : l0.length ≤ c0) :
    Calls Tryd.prog 40 #[.slice A0 l0.length c0] w fun e w' => e = .returned (.bool (wh l0)) ∧ Below w.heap.size w w' := by
  have HC := Aside0.mk (ContainsFunc A0 c0 l0 w h hr0 hc0)
  have HS := Aside0.mk (fun W hB => row_Size.calls A0 c0 l0 (sz l0 1 0) W (Kd.C_below hr0 hB) hc0 rfl)
  have HM := Aside0.mk (Kd.C_max hr0)
  have HB := Aside0.mk (Below.refl w.heap.size w)
  clear h hr0 hc0
  by_cases h0 : 0 < l0.length
  · have c0' : decide ((0 : Int) < (l0.length : Int)) = true := decide_eq_true (by omega)
    by_cases h2 : l0.length ≤ 200
    · have c2 : decide ((l0.length : Int) ≤ 200) = true := decide_eq_true (by omega)
      have c2' : decide (l0.length ≤ 200) = true := decide_eq_true h2
      have HNM := Aside0.mk (show wh l0 = (rts l0 && decide (sz l0 1 0 = (l0.length : Int))) by unfold wh; rw [decide_eq_true h0, decide_eq_true h2]; rfl)
      clear HB
      go_enter Tryd.func40, Tryd.ntmps40
      go_wp2_with fail
      refine HC.out.mono ?_; rintro e w7 ⟨rfl, hB7⟩
      have HB7 := Aside0.mk hB7
      clear hB7 HC
      by_cases hr : rts l0 = true
      · have HNM2 := Aside0.mk (show wh l0 = decide (sz l0 1 0 = (l0.length : Int)) by rw [HNM.out, hr]; rfl)
        clear HNM
        obtain ⟨s, hs⟩ : ∃ s, s = sz l0 1 0 := ⟨_, rfl⟩
        rw [← hs] at HNM2 HS
        clear hs
        go_wp2_with fail
        refine (HS.out _ HB7.out).mono ?_; rintro e w8 ⟨rfl, hB8⟩
        have HB8 := Aside0.mk (Aid_bthen HB7.out hB8)
        clear hB8 HB7
        go_wp2_with fail
        go_ret
        exact ⟨by rw [HNM2.out]; rfl, HB8.out⟩
      · have hr2 : rts l0 = false := by simpa using hr
        have HNM2 := Aside0.mk (show wh l0 = false by rw [HNM.out, hr2]; rfl)
        clear HNM hr
        go_wp2_with fail
        go_ret
        exact ⟨by rw [HNM2.out]; rfl, HB7.out⟩
    · have c2 : decide ((l0.length : Int) ≤ 200) = false := decide_eq_false (by omega)
      have c2' : decide (l0.length ≤ 200) = false := decide_eq_false h2
      have HNM := Aside0.mk (show wh l0 = false by unfold wh; rw [decide_eq_false h2]; simp)
      go_enter Tryd.func40, Tryd.ntmps40
      go_wp2_with fail
      go_ret
      exact ⟨by rw [HNM.out]; rfl, HB.out⟩
  · have c0' : decide ((0 : Int) < (l0.length : Int)) = false := decide_eq_false (by omega)
    have c0'' : decide (0 < l0.length) = false := decide_eq_false h0
    have HNM := Aside0.mk (show wh l0 = false by unfold wh; rw [c0'']; simp)
    go_enter Tryd.func40, Tryd.ntmps40
    go_wp2_with fail
    go_ret
    exact ⟨by rw [HNM.out]; rfl, HB.out⟩
end Go.Proofs.YtefiadocljnpjaaDoor.Row
/- slices.Grow of nothing, and slices.Concat of rows of nodes: their contracts, walked by hand. -/
namespace Go.Proofs.YtefiadocljnpjaaDoor.Row
open Go.Proofs.Tree Go.RowKit Go.Proofs.YtefiadocljnpjaaDoorW.PrintWords Go.Proofs.YtefiadocljnpjaaDoorW.PrintLast Go.Proofs.YtefiadocljnpjaaDoorW.PrintMore Go.Proofs.YtefiadocljnpjaaDoor.PK
set_option linter.unusedVariables false
set_option linter.unusedSimpArgs false
set_option maxHeartbeats 4000000
set_option maxRecDepth 100000
theorem Grow (n : Nat) (hn : n ≤ 1000000) (w : World) : Calls Tryd.prog 93 #[.slice none 0 0, .int .i64 (n : Int)] w fun e w' => ∃ v0_ : Value, e = .returned (v0_) ∧ Kd.R k48 48 w' w.heap.size (fun _ => True) v0_ ([] : List S48) ∧ Below w.heap.size w w' := by
  have HB := Aside0.mk (Below.refl w.heap.size w)
  have c1 : decide ((n : Int) < 0) = false := decide_eq_false (by omega)
  have e1 : wrap64 (0 - 0) = 0 := by decide +kernel
  have e2 : wrap64 ((n : Int) - 0) = (n : Int) := by unfold wrap64; omega
  have e3 : wrap64 (n : Int) = (n : Int) := by unfold wrap64; omega
  have HN := Aside0.mk hn
  have E3 := Aside0.mk e3
  clear hn
  by_cases h0 : 0 < n
  · have c2 : decide ((0 : Int) < (n : Int)) = true := decide_eq_true (by omega)
    have hcut := cut_to (P := Tryd.prog) 51 48 .i64 Tryd.underlying51 (i := _) rfl none 0 0 0 (by omega) (by omega) (by omega)
    have c3 : decide (0 < n) = true := decide_eq_true h0
    clear h0
    go_enter Tryd.func93, Tryd.ntmps93
    go_wp2_with (first | ((with_reducible refine gate_builtin (b := .append) (xs := #[.tmp 20, .tmp 21]) rfl ?_); at_builtin; (refine Kd.R_append_zeros k48 (w0 := w) w.heap.size rfl (.tmp 20) (.tmp 21) 51 3 48 (.agg #[.int .i64 0, .string ⟨#[]⟩, .int .i64 0]) 32 rfl Tryd.underlying51 (k := .i64) Tryd.underlying3 info48 rfl (by decide) (by omega) (.slice none 0 0) ([] : List S48) z48 (kx := .i64) (wrap64 (n : Int)) (fun _ => True) rfl rfl ?aZ (fun _ _ => trivial) ?aO (by rw [E3.out]; omega) HB.out (Nat.le_refl _) ?aL ?_); (case aZ => exact k48_mkM _ _ _ z48); (case aO => exact Kd.R_nil _ _ _ _ _); (case aL => have := HN.out; rw [E3.out]; simp; omega); intro v22 w4 ho hb hg hat; have HB4 := Aside0.mk hb; have HO4 := Aside0.mk ho; clear ho hb hg hat; have hm22 := Kd.R_slice HO4.out; obtain ⟨A22, c22, e22⟩ := hm22; subst e22; have hl22 := (Kd.R_reads' HO4.out).2.1; have hcut2 := cut_to (P := Tryd.prog) 51 48 .i64 Tryd.underlying51 (i := _) rfl A22 _ c22 0 (by omega) (by omega) hl22; have HT := Aside0.mk (Kd.R_take HO4.out (m := 0) (by omega)); clear hl22 HO4))
    go_ret
    exact ⟨_, rfl, HT.out, HB4.out⟩
  · have hz : n = 0 := by omega
    subst hz
    go_enter Tryd.func93, Tryd.ntmps93
    go_wp2_with fail
    go_ret
    exact ⟨_, rfl, Kd.R_nil _ _ _ _ _, HB.out⟩
/-- How many nodes all rows have. -/
def tot (ls : List (List S48)) : Nat := ls.flatten.length
theorem tot_cons (l : List S48) (ls : List (List S48)) : tot (l :: ls) = l.length + tot ls := by unfold tot; simp
theorem tot_drop (ls : List (List S48)) (j : Nat) : tot (ls.drop j) ≤ tot ls := by
  unfold tot
  have : ls.flatten.length = (ls.take j).flatten.length + (ls.drop j).flatten.length := by rw [← List.length_append, ← List.flatten_append, List.take_append_drop]
  omega
theorem flat_take (ls : List (List S48)) (j : Nat) (hj : j < ls.length) : (ls.take j).flatten ++ rd_L9 ls (j : Int) = (ls.take (j + 1)).flatten := by
  rw [List.take_succ_eq_append_getElem hj, List.flatten_append]
  unfold rd_L9
  simp [List.getD_eq_getElem?_getD, List.getElem?_eq_getElem hj]
theorem flat_le (ls : List (List S48)) (j : Nat) : (ls.take j).flatten.length ≤ tot ls := by
  unfold tot
  have : ls.flatten.length = (ls.take j).flatten.length + (ls.drop j).flatten.length := by rw [← List.length_append, ← List.flatten_append, List.take_append_drop]
  omega
theorem Concat (A0 : Option Addr) (c0 : Nat) (l0 : List (List S48)) (w : World) (hr0 : Kd.C (Kd.slice 48 k48) w A0 l0.length l0) (hc0 : l0.length ≤ c0) (ht : tot l0 ≤ 1000000) :
    Calls Tryd.prog 76 #[.slice A0 l0.length c0] w fun e w' => ∃ v0_ : Value, e = .returned (v0_) ∧ Kd.R k48 48 w' w.heap.size (fun _ => True) v0_ l0.flatten ∧ Below w.heap.size w w' := by
  have HR := Aside0.mk hr0
  have HB := Aside0.mk (Below.refl w.heap.size w)
  have HM := Aside0.mk (Kd.C_max hr0)
  have HT := Aside0.mk ht
  clear hr0 hc0 ht
  go_enter Tryd.func76, Tryd.ntmps76
  go_wp2_with fail
  go_loopg [3, 11] (l0.length + 1) (fun kq v3 v11 w' => ∃ (j : Nat), v3 = .int .i64 (((l0.take j).flatten.length : Nat) : Int) ∧ v11 = .int .i64 (j : Int) ∧ Aside0 (kq + j = l0.length + 1 ∧ j ≤ l0.length) ∧ Aside0 (Below w.heap.size w w'))
  case atStart => exact ⟨0, rfl, rfl, ⟨by omega, by omega⟩, HB⟩
  case round =>
    clear HB
    obtain ⟨j, rfl, rfl, HK, HB⟩ := hrel
    cases gk with
    | zero => exact absurd HK.out (by omega)
    | succ k1 =>
      by_cases hj : j < l0.length
      · have c14 : decide ((j : Int) < (l0.length : Int)) = true := decide_eq_true (by omega)
        have p0 : (0 : Int) ≤ (j : Int) := by omega
        have q0 : (j : Int) < (l0.length : Int) := by omega
        obtain ⟨ad, A1, c1, e7, x0, hl1, hi1⟩ := at_L9 HR.out (j : Int) p0 q0
        subst e7
        have hf := flat_take l0 j hj
        have hle := flat_le l0 (j + 1)
        rw [← hf] at hle
        have hsum : (((l0.take (j + 1)).flatten.length : Nat) : Int) = (((l0.take j).flatten.length : Nat) : Int) + ((rd_L9 l0 (j : Int)).length : Int) := by rw [← hf, List.length_append]; omega
        rw [List.length_append] at hle
        obtain ⟨m, hm⟩ : ∃ m, m = (l0.take j).flatten.length := ⟨_, rfl⟩
        obtain ⟨l1, hl⟩ : ∃ l1, l1 = rd_L9 l0 (j : Int) := ⟨_, rfl⟩
        rw [← hl] at x0 hl1 hi1 hsum hle
        rw [← hm] at hsum hle ⊢
        have HS := Aside0.mk hsum
        simp only [Int.toNat_natCast] at x0
        replace x0 := (HB.out.cell (World.block_lt_of_cell? w _ x0)).trans x0
        have ew : wrap64 ((j : Int) + 1) = ((j + 1 : Nat) : Int) := by have := HM.out; unfold wrap64; omega
        have EJ := Aside0.mk ew
        have es : wrap64 ((m : Int) + (l1.length : Int)) = (m : Int) + (l1.length : Int) := by have := HT.out; unfold wrap64; omega
        have cs : decide ((m : Int) + (l1.length : Int) < 0) = false := decide_eq_false (by omega)
        clear hm hl hf hsum hle ew hl1 hi1 hj
        go_wp2_with fail
        go_roundg k1
        case measure => omega
        case rel => exact ⟨j + 1, by rw [HS.out, es], by rw [EJ.out], ⟨by have := HK.out; omega, by have := HK.out; omega⟩, HB⟩
      · have c14 : decide ((j : Int) < (l0.length : Int)) = false := decide_eq_false (by omega)
        have c14' : decide (j < l0.length) = false := decide_eq_false hj
        have hjl : l0.take j = l0 := List.take_of_length_le (by omega)
        rw [hjl]
        have HT2 := Aside0.mk (show l0.flatten.length ≤ 1000000 from HT.out)
        obtain ⟨m, hm⟩ : ∃ m, m = l0.flatten.length := ⟨_, rfl⟩
        rw [← hm] at HT2 ⊢
        have HMM := Aside0.mk hm
        clear hj hjl hm HK
        go_wp2_with fail
        refine (Grow m HT2.out _).mono ?_; rintro e w2 ⟨v6, rfl, hR6, hB6⟩
        have HB2 := Aside0.mk (Aid_bthen HB.out hB6)
        have HR6 := Aside0.mk (Kd.R_lower hR6 HB.out.size)
        clear hR6 hB6 HB HT2 HMM
        go_wp2_with fail
        go_loopg [6, 27] (l0.length + 1) (fun kq v6 v27 w' => ∃ (j : Nat), v27 = .int .i64 (j : Int) ∧ Aside0 (kq + j = l0.length + 1 ∧ j ≤ l0.length) ∧ Aside0 (Kd.R k48 48 w' w.heap.size (fun _ => True) v6 (l0.take j).flatten) ∧ Aside0 (Below w.heap.size w w'))
        case atStart => exact ⟨0, rfl, ⟨by omega, by omega⟩, ⟨HR6.out⟩, HB2⟩
        case round =>
          clear HB2 HR6
          obtain ⟨j, rfl, HK, HR6, HB⟩ := hrel
          cases gk with
          | zero => exact absurd HK.out (by omega)
          | succ k1 =>
            by_cases hj : j < l0.length
            · have c14 : decide ((j : Int) < (l0.length : Int)) = true := decide_eq_true (by omega)
              have p0 : (0 : Int) ≤ (j : Int) := by omega
              have q0 : (j : Int) < (l0.length : Int) := by omega
              obtain ⟨ad, A1, c1, e7, x0, hl1, hi1⟩ := at_L9 HR.out (j : Int) p0 q0
              subst e7
              have hf := flat_take l0 j hj
              have hle := flat_le l0 (j + 1)
              rw [← hf] at hle
              rw [List.length_append] at hle
              obtain ⟨xs, hxs⟩ : ∃ xs, xs = (l0.take j).flatten := ⟨_, rfl⟩
              obtain ⟨l1, hl⟩ : ∃ l1, l1 = rd_L9 l0 (j : Int) := ⟨_, rfl⟩
              rw [← hl] at x0 hl1 hi1 hle hf
              rw [← hxs] at hf hle HR6
              have HF := Aside0.mk hf
              have HLE := Aside0.mk (show xs.length + l1.length ≤ 1000000 by have := HT.out; omega)
              simp only [Int.toNat_natCast] at x0
              replace x0 := (HB.out.cell (World.block_lt_of_cell? w _ x0)).trans x0
              have ew : wrap64 ((j : Int) + 1) = ((j + 1 : Nat) : Int) := by have := HM.out; unfold wrap64; omega
              have EJ := Aside0.mk ew
              have HI := Aside0.mk (Kd.C_below hi1 HB.out)
              clear hxs hl hf hle ew hl1 hi1 hj
              go_wp2_with (first | ((with_reducible refine gate_builtin (b := .append) (xs := #[.tmp 31, .tmp 32]) rfl ?_); at_builtin; refine Kd.R_append_rows k48 (w0 := w) w.heap.size rfl (.tmp 31) (.tmp 32) 51 48 (.agg #[.int .i64 0, .string ⟨#[]⟩, .int .i64 0]) 32 rfl Tryd.underlying51 info48 rfl (by decide) (by omega) u6 xs l1 _ _ _ (fun _ => True) (fun _ => False) rfl rfl ?aO ?aR (fun _ _ h => h) (fun _ h => h.elim) ?aF ?aB ?aS ?aL ?_; (case aR => exact HI.out); (case aB => exact HB.out); (case aF => exact (fun _ _ => trivial)); (case aO => exact HR6.out); (case aS => exact HB.out.size); (case aL => have := HLE.out; omega); intro v7 w4 ho hb hg hat; have HB4 := Aside0.mk hb; have HO4 := Aside0.mk ho; clear ho hb hg hat))
              go_roundg k1
              case measure => omega
              case rel => exact ⟨j + 1, by rw [EJ.out], ⟨by have := HK.out; omega, by have := HK.out; omega⟩, ⟨by rw [← HF.out]; exact HO4.out⟩, HB4⟩
            · have c14 : decide ((j : Int) < (l0.length : Int)) = false := decide_eq_false (by omega)
              have c14' : decide (j < l0.length) = false := decide_eq_false hj
              have hjl : l0.take j = l0 := List.take_of_length_le (by omega)
              rw [hjl] at HR6
              clear hj hjl HK
              go_wp2_with fail
              go_ret
              exact ⟨_, rfl, HR6.out, HB.out⟩
end Go.Proofs.YtefiadocljnpjaaDoor.Row
/- A node and trees behind it: Make, walked by hand. -/
namespace Go.Proofs.YtefiadocljnpjaaDoor.Row
open Go.Proofs.Tree Go.RowKit Go.Proofs.YtefiadocljnpjaaDoorW.PrintWords Go.Proofs.YtefiadocljnpjaaDoorW.PrintLast Go.Proofs.YtefiadocljnpjaaDoorW.PrintMore Go.Proofs.YtefiadocljnpjaaDoor.PK
set_option linter.unusedVariables false
set_option linter.unusedSimpArgs false
set_option maxHeartbeats 4000000
set_option maxRecDepth 100000
theorem one_rep (w : World) (base : Nat) (ok : Nat → Prop) (n : S48) : Reps (k48.M w base ok) k48.sz [n] [.int .i64 n.f0, .string n.f1, .int .i64 n.f2] := by
  have h := (Reps.none (k48.M w base ok) k48.sz).snoc (k48_mkM w base ok n) rfl
  simpa using h
theorem lit1 (W : World) (n : S48) (base : Nat) (hb : base ≤ W.heap.size) : Kd.R k48 48 (W.alloc (.cells #[.int .i64 n.f0, .string n.f1, .int .i64 n.f2] 48)) base (fun _ => True) (.slice (some ⟨W.heap.size, 0, none⟩) 1 1) [n] := by
  refine ⟨fun _ _ => trivial, [.int .i64 n.f0, .string n.f1, .int .i64 n.f2], ?_, ?_⟩
  · have h2 := World.ownsRow_lit (base := base) (e := 48) (size := 3) W #[.int .i64 n.f0, .string n.f1, .int .i64 n.f2] 1 hb (by decide) (by rfl)
    exact h2
  · exact one_rep _ _ _ n
theorem Make (n : S48) (A0 : Option Addr) (c0 : Nat) (l0 : List (List S48)) (w : World) (hr0 : Kd.C (Kd.slice 48 k48) w A0 l0.length l0) (hc0 : l0.length ≤ c0) (ht : tot l0 ≤ 1000000) :
    Calls Tryd.prog 45 #[.agg #[.int .i64 n.f0, .string n.f1, .int .i64 n.f2], .slice A0 l0.length c0] w fun e w' => ∃ v0_ : Value, e = .returned (v0_) ∧ Kd.R k48 48 w' w.heap.size (fun _ => True) v0_ (n :: l0.flatten) ∧ Below w.heap.size w w' := by
  have HC := Aside0.mk (fun W hW => Concat A0 c0 l0 W hW hc0 ht)
  have HR := Aside0.mk hr0
  have HB := Aside0.mk (Below.refl w.heap.size w)
  have HT := Aside0.mk (show l0.flatten.length ≤ 1000000 from ht)
  clear hr0 hc0 ht
  obtain ⟨fl, hfl⟩ : ∃ fl, fl = l0.flatten := ⟨_, rfl⟩
  rw [← hfl] at HT HC ⊢
  clear hfl
  go_enter Tryd.func45, Tryd.ntmps45
  go_upto_region 1 with fail
  obtain ⟨x, hx⟩ : ∃ x, x = w.heap.size := ⟨_, rfl⟩
  obtain ⟨w6, hw6⟩ : ∃ w6, w6 = w.alloc (.cells #[.int .i64 n.f0, .string n.f1, .int .i64 n.f2] 48) := ⟨_, rfl⟩
  have hb6 := HB.out.alloc HB.out.size (.cells #[.int .i64 n.f0, .string n.f1, .int .i64 n.f2] 48)
  have hx6 := heap_new w (.cells #[.int .i64 n.f0, .string n.f1, .int .i64 n.f2] 48)
  rw [← hw6] at hb6 hx6 ⊢
  rw [← hx] at hx6 ⊢
  have z0 : w6.cell? ⟨x, 0, none⟩ = some (.int .i64 n.f0) := by rw [cell_of_row _ _ _ _ _ _ hx6]; rfl
  have z1 : w6.cell? ⟨x, 1, none⟩ = some (.string n.f1) := by rw [cell_of_row _ _ _ _ _ _ hx6]; rfl
  have z2 : w6.cell? ⟨x, 2, none⟩ = some (.int .i64 n.f2) := by rw [cell_of_row _ _ _ _ _ _ hx6]; rfl
  have HB6 := Aside0.mk hb6
  have HX6 := Aside0.mk hx6
  have HXX := Aside0.mk hx
  clear hb6 hx6 hw6 HB hx
  go_region_law (first
    | (refine Kd.R_append_rows_step k48 (w0 := w) w.heap.size (by rfl) (.tmp 6) (.tmp 8) 51 48 (.agg #[.int .i64 0, .string ⟨#[]⟩, .int .i64 0]) 32 (by rfl) Tryd.underlying51 info48 rfl (by decide) (by omega) _ [n] fl _ _ _ (fun _ => True) (fun _ => False) (by rfl) (by rfl) ?aO ?aR (fun _ _ h => h) (fun _ h => h.elim) ?aF ?aB ?aS ?aL ?_; (case aR => first | exact HR8.out | exact Kd.C_alloc HR8.out _ | exact Kd.C_drew (Kd.C_alloc HR8.out _)); (case aB => first | exact HB8.out | exact below_alloc HB8.out _ | exact below_drew (below_alloc HB8.out _)); (case aF => exact (fun _ _ => trivial)); (case aO => first | exact HO8.out | exact lit1 _ n _ HB8.out.size | exact Kd.R_drew (lit1 _ n _ HB8.out.size)); (case aS => first | exact HB8.out.size | exact (below_alloc HB8.out _).size | exact (below_drew (below_alloc HB8.out _)).size); (case aL => have := HT.out; simp; omega); intro v9 w9 hO9 hB9 hg9 ha9; have HO9 := Aside0.mk hO9; have HB9 := Aside0.mk hB9; clear hO9 hB9 hg9 ha9)
    | (go_simp; go_at_call 76; refine (HC.out _ (Kd.C_below HR.out (by first | exact HB6.out | exact below_alloc HB6.out _ | exact below_drew HB6.out | exact below_drew (below_alloc HB6.out _)))).mono ?_; rintro e w8 ⟨v8, rfl, hR8, hB8⟩; obtain ⟨A8, c8, e8⟩ := Kd.R_slice hR8; subst e8; have HR8 := Aside0.mk (Kd.R_reads' hR8).2.2; (first | (have HO8 := Aside0.mk (Kd.R_below (Kd.R_drew (lit1 w6 n w.heap.size HB6.out.size)) hB8); have HB8 := Aside0.mk ((below_drew (below_alloc HB6.out _)).trans (hB8.mono (below_drew (below_alloc HB6.out _)).size))) | (have HO8 := True.intro; have HB8 := Aside0.mk ((below_drew HB6.out).trans (hB8.mono (below_drew HB6.out).size)); have y0 := pw_cell_below hB8 z0; have y1 := pw_cell_below hB8 z1; have y2 := pw_cell_below hB8 z2)); clear hR8 hB8)
    | fail)
  all_goals
    go_wp2
    (try rw [Exit.noGoto_ret])
    go_ret
    exact ⟨_, rfl, HO9.out, HB9.out⟩
end Go.Proofs.YtefiadocljnpjaaDoor.Row
