/- The document's dealer: what is told of it; the law's Same. -/
import Derived.Test.YtohenapbgencbaaH1
namespace Go.Proofs.Ytohenapbgencbaa
open Go.RowKit Go.Proofs.YtohenapbgencbaaW.PrintWords Go.Proofs.YtohenapbgencbaaW.PrintLast Go.Proofs.YtohenapbgencbaaW.PrintMore Go.Proofs.Ytohenapbgencbaa.PK
set_option linter.unusedVariables false
set_option linter.unusedSimpArgs false
set_option maxHeartbeats 4000000
set_option maxRecDepth 100000
namespace Deal

theorem same53_l (l : List S53) (hl : l.length ≤ 1000000) : ∀ d i k, i + d = l.length → d < k → redressref20_Same.l0 k l l (i : Int) = some true := by
  intro d
  induction d with
  | zero =>
    intro i k hi hk
    obtain ⟨k, rfl⟩ : ∃ m, k = m + 1 := ⟨k - 1, by omega⟩
    simp only [redressref20_Same.l0]
    rw [if_neg (by omega)]
  | succ d ih =>
    intro i k hi hk
    obtain ⟨k, rfl⟩ : ∃ m, k = m + 1 := ⟨k - 1, by omega⟩
    simp only [redressref20_Same.l0]
    rw [if_pos (by omega), if_pos (by omega), if_pos (by omega), wrapS (by omega)]
    have h := ih (i + 1) k (by omega) (by omega)
    simpa using h
theorem RefSame (A0 : Option Addr) (c0 : Nat) (A1 : Option Addr) (c1 : Nat) (l : List S53) (w : World) (hr0 : Kd.C k53 w A0 l.length l) (hc0 : l.length ≤ c0) (hr1 : Kd.C k53 w A1 l.length l) (hc1 : l.length ≤ c1) (hl : l.length ≤ 1000000) :
    Calls Try.prog 23 #[.slice A0 l.length c0, .slice A1 l.length c1] w fun e w' => e = .returned (.bool true) ∧ Below w.heap.size w w' := by
  refine (redressref20_Same.calls (l.length + 1) A0 c0 l A1 c1 l true w hr0 hc0 hr1 hc1 ?_).mono ?_
  · unfold redressref20_Same.f
    rw [if_pos rfl]
    exact same53_l l hl l.length 0 (l.length + 1) (by omega) (by omega)
  · rintro e w' ⟨rfl, h⟩
    exact ⟨rfl, by first | exact h | exact h.below⟩
theorem done_l (r : List Int) (l : List S53) (a : Int) (hl : l.length ≤ 1000000) : ∀ d i k, i + d = l.length → d < k → redressref20_Done.l0 k (pick (fun x => x.f2) (l.take i)) (i : Int) r l a = some (pick (fun x => x.f2) l) := by
  intro d
  induction d with
  | zero =>
    intro i k hi hk
    obtain ⟨k, rfl⟩ : ∃ m, k = m + 1 := ⟨k - 1, by omega⟩
    simp only [redressref20_Done.l0]
    rw [if_neg (by omega), List.take_of_length_le (by omega)]
  | succ d ih =>
    intro i k hi hk
    obtain ⟨k, rfl⟩ : ∃ m, k = m + 1 := ⟨k - 1, by omega⟩
    have hlt : i < l.length := by omega
    have hp := pick_snoc (fun x => x.f2) (l.take i) l[i]
    rw [← List.take_succ_eq_append_getElem hlt] at hp
    have h := ih (i + 1) k (by omega) (by omega)
    have hpl : (pick (fun x => x.f2) (l.take i)).length ≤ 1000000 := Nat.le_trans (pick_len _ _) (by rw [List.length_take]; omega)
    simp only [redressref20_Done.l0]
    rw [if_pos (by omega), if_pos (by omega), wrapS (by omega), rd53 l i hlt]
    by_cases hf : l[i].f2 = true
    · rw [if_pos hf] at hp
      rw [if_pos hf, if_pos (by omega), ← hp]
      exact h
    · rw [if_neg hf] at hp
      rw [if_neg hf, ← hp]
      exact h
theorem RefDone (A0 : Option Addr) (c0 : Nat) (r : List Int) (A1 : Option Addr) (c1 : Nat) (l : List S53) (a : Int) (w : World) (hr0 : Kd.C (Kd.int .i64) w A0 r.length r) (hc0 : r.length ≤ c0) (hr1 : Kd.C k53 w A1 l.length l) (hc1 : l.length ≤ c1) (hl : l.length ≤ 1000000) :
    Calls Try.prog 24 #[.agg #[.slice A0 r.length c0, .slice A1 l.length c1, .int .i64 a]] w (Made Kd.string 9 w (pick (fun x => x.f2) l)) := by
  refine redressref20_Done.calls (l.length + 1) A0 c0 r A1 c1 l a _ w hr0 hc0 hr1 hc1 ?_
  unfold redressref20_Done.f
  exact done_l r l a hl l.length 0 (l.length + 1) (by omega) (by omega)
theorem ref_in (r : List Int) (l : List S53) (a : Int) (hl : l.length ≤ 1000000) (out : List ByteArray) (ho : out.length ≤ 1000000) (j : Nat) (hj : j < l.length) : ∀ e i k met, i + e = out.length →
    redressref20_Refused.l1 (k + e + 1) out (j : Int) met (i : Int) r l a = if (met || hasS (out.drop i) l[j].f1) = true then redressref20_Refused.l0 k out ((j + 1 : Nat) : Int) r l a else redressref20_Refused.l0 k (out ++ [l[j].f1]) ((j + 1 : Nat) : Int) r l a := by
  intro e
  induction e with
  | zero =>
    intro i k met hi
    simp only [redressref20_Refused.l1]
    rw [if_neg (by omega), List.drop_of_length_le (by omega), wrapS (by omega), rd53 l j hj]
    cases met
    · rw [if_neg (by decide), if_pos (by omega), if_pos (by omega), if_pos (by omega), if_neg (by simp [hasS])]
    · rw [if_pos rfl, if_pos (by rfl)]
  | succ e ih =>
    intro i k met hi
    have hlt : i < out.length := by omega
    have hrd : rdOf ByteArray.empty out (i : Int) = out[i] := by simp [rdOf, List.getD_eq_getElem?_getD, hlt]
    have hd : hasS (out.drop i) l[j].f1 = (decide (out[i] = l[j].f1) || hasS (out.drop (i + 1)) l[j].f1) := by
      rw [List.drop_eq_getElem_cons hlt]; unfold hasS; rfl
    have ih' := fun met => ih (i + 1) k met (by omega)
    rw [show k + (e + 1) + 1 = (k + e + 1) + 1 by omega]
    generalize k + e + 1 = m at ih' ⊢
    simp only [redressref20_Refused.l1]
    rw [if_pos (by omega)]
    cases met
    · rw [if_neg (by decide), if_pos (by omega), if_pos (by omega), if_pos (by omega), wrapS (by omega), rd53 l j hj, hrd, ih' _, hd]
      have e2 : (out[i].toList == l[j].f1.toList) = decide (out[i] = l[j].f1) := by
        rw [Bool.eq_iff_iff]
        simp only [beq_iff_eq, decide_eq_true_eq]
        exact ⟨toList_inj, fun h => by rw [h]⟩
      rw [e2, Bool.false_or]
    · rw [if_pos rfl, wrapS (by omega), ih' true]
      rw [if_pos (by rfl), if_pos (by rfl)]
theorem ref_out (r : List Int) (l : List S53) (a : Int) (hl : l.length ≤ 1000000) : ∀ d j K, j + d = l.length → (d + 1) * (l.length + 3) ≤ K → redressref20_Refused.l0 K (uniq (pick (fun x => !x.f2) (l.take j))) (j : Int) r l a = some (uniq (pick (fun x => !x.f2) l)) := by
  intro d
  induction d with
  | zero =>
    intro j K hj hK
    obtain ⟨K, rfl⟩ : ∃ m, K = m + 1 := ⟨K - 1, by omega⟩
    simp only [redressref20_Refused.l0]
    rw [if_neg (by omega), List.take_of_length_le (by omega)]
  | succ d ih =>
    intro j K hj hK
    have hlt : j < l.length := by omega
    obtain ⟨out, hout⟩ : ∃ out, out = uniq (pick (fun x => !x.f2) (l.take j)) := ⟨_, rfl⟩
    have hol : out.length ≤ l.length := by rw [hout]; exact Nat.le_trans (uniq_len _) (Nat.le_trans (pick_len _ _) (by rw [List.length_take]; omega))
    have hp := pick_snoc (fun x => !x.f2) (l.take j) l[j]
    rw [← List.take_succ_eq_append_getElem hlt] at hp
    have hmul : (d + 1 + 1) * (l.length + 3) = (d + 1) * (l.length + 3) + (l.length + 3) := by rw [Nat.succ_mul]
    obtain ⟨K2, rfl⟩ : ∃ m, K = (m + out.length + 1) + 1 := ⟨K - out.length - 2, by omega⟩
    rw [← hout]
    simp only [redressref20_Refused.l0]
    rw [if_pos (by omega), if_pos (by omega), rd53 l j hlt]
    have h1 := ref_in r l a hl out (by omega) j hlt out.length 0 K2 l[j].f2 (by omega)
    have h1' : redressref20_Refused.l1 (K2 + out.length + 1) out (j : Int) l[j].f2 0 r l a = _ := h1
    rw [h1', List.drop_zero]
    have h2 := ih (j + 1) K2 (by omega) (by omega)
    rw [hp] at h2
    cases hf : l[j].f2
    · rw [hf] at h2
      rw [if_pos (by rfl), uniq_snoc, ← hout] at h2
      rw [Bool.false_or]
      cases hs : hasS out l[j].f1
      · rw [hs, if_neg (by decide)] at h2
        rw [if_neg (by decide)]
        exact h2
      · rw [hs, if_pos rfl] at h2
        rw [if_pos rfl]
        exact h2
    · rw [hf] at h2
      rw [if_neg (by decide), ← hout] at h2
      rw [if_pos (by rfl)]
      exact h2
theorem RefRefused (A0 : Option Addr) (c0 : Nat) (r : List Int) (A1 : Option Addr) (c1 : Nat) (l : List S53) (a : Int) (w : World) (hr0 : Kd.C (Kd.int .i64) w A0 r.length r) (hc0 : r.length ≤ c0) (hr1 : Kd.C k53 w A1 l.length l) (hc1 : l.length ≤ c1) (hl : l.length ≤ 1000000) :
    Calls Try.prog 25 #[.agg #[.slice A0 r.length c0, .slice A1 l.length c1, .int .i64 a]] w (Made Kd.string 9 w (uniq (pick (fun x => !x.f2) l))) := by
  refine redressref20_Refused.calls ((l.length + 1) * (l.length + 3)) A0 c0 r A1 c1 l a _ w hr0 hc0 hr1 hc1 ?_
  unfold redressref20_Refused.f
  exact ref_out r l a hl l.length 0 _ (by omega) (Nat.le_refl _)
theorem Same {w : World} {own : Nat → Prop} {g : Nat} {s : DS} (h : At w own g s) (RA : Option Addr) (Rc : Nat) (DA : Option Addr) (Dc : Nat) (hr : Kd.C (Kd.int .i64) w RA s.refuses.length s.refuses) (hc : s.refuses.length ≤ Rc) (hd : Kd.C k53 w DA s.deeds.length s.deeds) (hdc : s.deeds.length ≤ Dc) (hl : s.deeds.length ≤ 100000) :
    Calls Try.prog 14 #[.pointer (some ⟨g, 0, none⟩), .agg #[.slice RA s.refuses.length Rc, .slice DA s.deeds.length Dc, .int .i64 s.asked]] w fun e w' => e = .returned (.bool true) ∧ Below w.heap.size w w' := by
  have H := Aside0.mk h; clear h
  have HR := Aside0.mk hr; clear hr
  have HD := Aside0.mk hd; clear hd
  have HL := Aside0.mk hl
  go_enter Try.func14, Try.ntmps14
  go_upto_region 2 with fail
  obtain ⟨w1, hw1⟩ : ∃ w1, w1 = w.alloc (Obj.cells #[.slice RA s.refuses.length Rc, .slice DA s.deeds.length Dc, .int .i64 s.asked] 30) := ⟨_, rfl⟩
  rw [← hw1]
  have hb1 : Below w.heap.size w w1 := by rw [hw1]; exact (Below.refl _ _).alloc (Nat.le_refl _) _
  have HX1 := Aside0.mk (show w1.heap[w.heap.size]? = some (.cells #[.slice RA s.refuses.length Rc, .slice DA s.deeds.length Dc, .int .i64 s.asked] 30 (0, 0)) by rw [hw1]; exact Aid.heap_new w _)
  have HB1 := Aside0.mk hb1
  clear hw1 hb1
  obtain ⟨q, hq⟩ : ∃ q, q = w.heap.size := ⟨_, rfl⟩
  rw [← hq] at HX1 ⊢
  clear hq
  go_wp2_with fail
  refine (Deeds (H.out.below HB1.out) (by omega)).mono ?_; rintro e w2 ⟨v2, rfl, hR, hb⟩
  obtain ⟨A2, c2, rfl, hc2, hC2⟩ := Kd.R_reads hR
  have HO2 := Aside0.mk (Kd.R_mono (Kd.R_bound hR) (ok' := fun k => k < w2.heap.size) (fun k hk => hk.2.2.1))
  have HB2 := Aside0.mk (Aid.bthen HB1.out hb)
  have HX2 := Aside0.mk ((hb.block _ (blk_lt HX1.out)).trans HX1.out)
  clear hR hb hC2 HX1 HB1
  go_wp2_with fail
  go_loopg [5, 11] (s.deeds.length + 1) (fun kq v5 v11 w' => ∃ (j : Nat), v11 = .int .i64 (j : Int) ∧ Aside0 (kq + j = s.deeds.length + 1 ∧ j ≤ s.deeds.length) ∧ Aside0 (Kd.R k53 53 w' w.heap.size (fun k => w2.heap.size ≤ k) v5 (s.deeds.take j) ∧ w2.heap.size ≤ w'.heap.size) ∧ Aside0 (Kd.R k53 42 w' w1.heap.size (fun k => k < w2.heap.size) (.slice A2 s.deeds.length c2) s.deeds) ∧ Aside0 (w'.heap[q]? = some (.cells #[.slice RA s.refuses.length Rc, .slice DA s.deeds.length Dc, .int .i64 s.asked] 30 (0, 0))) ∧ Aside0 (Below w.heap.size w w'))
  case atStart => exact ⟨0, rfl, ⟨by omega, by omega⟩, ⟨Kd.R_nil _ _ _ _ _, Nat.le_refl _⟩, HO2, HX2, HB2⟩
  case round =>
    have HQ2 := Aside0.mk (blk_lt HX2.out)
    clear HO2 HX2 HB2
    obtain ⟨j, rfl, HK, HO, HC, HX, HB⟩ := hrel
    cases gk with
    | zero => exact absurd HK.out (by omega)
    | succ k1 =>
      by_cases hj : j < s.deeds.length
      · have c14 : decide ((j : Int) < (s.deeds.length : Int)) = true := decide_eq_true (by omega)
        have p0 : (0 : Int) ≤ (j : Int) := by omega
        have q0 : (j : Int) < (s.deeds.length : Int) := by omega
        have ej : IntKind.i64.wrap ((j : Int) + 1) = ((j + 1 : Nat) : Int) := by rw [IntKind.wrap_i64]; omega
        obtain ⟨ad, e7, y0, y1, y2⟩ := at_T53 (Kd.R_reads' HC.out).2.2 (j : Int) p0 q0
        cases e7
        rw [rd53 s.deeds j hj] at y0 y1 y2
        obtain ⟨o, ho⟩ : ∃ o, o = s.deeds[j] := ⟨_, rfl⟩
        rw [← ho] at y0 y1 y2
        simp only [Int.toNat_natCast] at y0 y1 y2
        have HT := Aside0.mk (show s.deeds.take (j + 1) = s.deeds.take j ++ [o] by rw [List.take_succ_eq_append_getElem hj, ho])
        have HTL := Aside0.mk (show (s.deeds.take j).length ≤ 100000 by rw [List.length_take]; omega)
        clear ho
        go_upto_region 5 with fail
        obtain ⟨w6, hw6⟩ : ∃ w6, w6 = wr.alloc (.cells #[.int .i64 o.f0, .string o.f1, .bool o.f2] 42) := ⟨_, rfl⟩
        rw [← hw6]
        have hb6 : Below wr.heap.size wr w6 := by rw [hw6]; exact (Below.refl _ _).alloc (Nat.le_refl _) _
        have hx6 : w6.heap[wr.heap.size]? = some (.cells #[.int .i64 o.f0, .string o.f1, .bool o.f2] 42 (0, 0)) := by rw [hw6]; exact Aid.heap_new wr _
        have z0 : w6.cell? ⟨wr.heap.size, 0, none⟩ = some (.int .i64 o.f0) := by rw [cell_of_row _ _ _ _ _ _ hx6]; rfl
        have z1 : w6.cell? ⟨wr.heap.size, 1, none⟩ = some (.string o.f1) := by rw [cell_of_row _ _ _ _ _ _ hx6]; rfl
        have z2 : w6.cell? ⟨wr.heap.size, 2, none⟩ = some (.bool o.f2) := by rw [cell_of_row _ _ _ _ _ _ hx6]; rfl
        have HB6 := Aside0.mk (Aid.bthen HB.out hb6)
        have HX6 := Aside0.mk ((hb6.block _ (blk_lt HX.out)).trans HX.out)
        have HO6 := Aside0.mk (Kd.R_kept HO.out.1 (Kept.of_below hb6 (fun _ => False)) (fun _ _ hf => hf))
        have HC6 := Aside0.mk (Kd.R_kept HC.out (Kept.of_below hb6 (fun _ => False)) (fun _ _ hf => hf))
        have HS6 := Aside0.mk (Nat.le_trans HO.out.2 hb6.size)
        clear hw6 hb6 hx6 y0 y1 y2 HB HX HO HC
        go_wp2_with ((with_reducible refine gate_builtin (b := .append) (xs := #[.tmp 15, .tmp 17]) rfl ?_); at_builtin; refine Kd.R_append k53 (w0 := w) w.heap.size rfl (.tmp 15) (.tmp 17) 28 53 (.agg #[.int .i64 0, .string ⟨#[]⟩, .bool false]) 32 rfl Try.underlying28 info53 rfl (by decide) (by omega) u5 (s.deeds.take j) o [.int .i64 o.f0, .string o.f1, .bool o.f2] (fun k => w2.heap.size ≤ k) (fun _ => False) rfl rfl ?aP (fun _ hk => hk.elim) ?aF ?aO ?aB ?aS ?aL ?_; (case aP => exact k53_mkM _ _ _ o); (case aB => exact HB6.out); (case aF => exact (fun k hk => Nat.le_trans HS6.out hk)); (case aO => exact HO6.out); (case aS => exact HB6.out.size); (case aL => have := HTL.out; omega); intro v9 w9 ho hb hg hat; rw [← HT.out] at ho; have HB9 := Aside0.mk hb; have HO9 := Aside0.mk (And.intro ho (Nat.le_trans HS6.out hg.size)); have HK9 := Aside0.mk (Kept.of_grown hg (Kept.refl w6 (fun k => w2.heap.size ≤ k)) (fun k e => .inl (HO6.out.1 k e))); clear ho hb hg hat z0 z1 z2)
        have HC9 := Aside0.mk (Kd.R_kept HC6.out HK9.out (fun k hk hn => by omega))
        have HX9 := Aside0.mk (blk_kept HX6.out HK9.out (by have := HQ2.out; omega))
        clear HC6 HX6 HO6 HB6 HK9 HS6
        go_roundg k1
        case measure => omega
        case rel => exact ⟨j + 1, by first | (simp; done) | rw [ej], ⟨by have := HK.out; omega, by omega⟩, HO9, HC9, HX9, HB9⟩
      · have c14 : decide ((j : Int) < (s.deeds.length : Int)) = false := decide_eq_false (by omega)
        have htk : s.deeds.take j = s.deeds := List.take_of_length_le (by omega)
        rw [htk] at HO
        obtain ⟨A5, c5, rfl, hc5, hC5⟩ := Kd.R_reads HO.out.1
        have HC5 := Aside0.mk hC5
        clear HK htk HO hC5 HC
        go_wp2_with fail
        have r0 : wr.cell? ⟨q, 0, none⟩ = some (.slice RA s.refuses.length Rc) := by rw [cell_of_row _ _ _ _ _ _ HX.out]; rfl
        have r1 : wr.cell? ⟨q, 1, none⟩ = some (.slice DA s.deeds.length Dc) := by rw [cell_of_row _ _ _ _ _ _ HX.out]; rfl
        have r2 : wr.cell? ⟨q, 2, none⟩ = some (.int .i64 s.asked) := by rw [cell_of_row _ _ _ _ _ _ HX.out]; rfl
        have keepS : ∀ W W' : World, (Below wr.heap.size wr W ∧ W.cell? ⟨q, 0, none⟩ = some (.slice RA s.refuses.length Rc) ∧ W.cell? ⟨q, 1, none⟩ = some (.slice DA s.deeds.length Dc) ∧ W.cell? ⟨q, 2, none⟩ = some (.int .i64 s.asked)) → Below W.heap.size W W' →
            (Below wr.heap.size wr W' ∧ W'.cell? ⟨q, 0, none⟩ = some (.slice RA s.refuses.length Rc) ∧ W'.cell? ⟨q, 1, none⟩ = some (.slice DA s.deeds.length Dc) ∧ W'.cell? ⟨q, 2, none⟩ = some (.int .i64 s.asked)) := fun W W' hS hb =>
          ⟨Aid.bthen hS.1 hb, (hb.cell (World.block_lt_of_cell? W _ hS.2.1)).trans hS.2.1, (hb.cell (World.block_lt_of_cell? W _ hS.2.2.1)).trans hS.2.2.1, (hb.cell (World.block_lt_of_cell? W _ hS.2.2.2)).trans hS.2.2.2⟩
        have KS := Aside0.mk keepS; clear keepS
        obtain ⟨P1, hP1⟩ : ∃ P, P = pick (fun x => x.f2) s.deeds := ⟨_, rfl⟩
        obtain ⟨P2, hP2⟩ : ∃ P, P = uniq (pick (fun x => !x.f2) s.deeds) := ⟨_, rfl⟩
        have HPL := Aside0.mk (show P1.length ≤ 1000000 ∧ P2.length ≤ 1000000 by rw [hP1, hP2]; exact ⟨Nat.le_trans (pick_len _ _) (by omega), Nat.le_trans (uniq_len _) (Nat.le_trans (pick_len _ _) (by omega))⟩)
        have D1 := fun W (h : At W own g s) => Done h (show s.deeds.length ≤ 1000000 by omega)
        have D2 := fun W h => RefDone RA Rc s.refuses DA Dc s.deeds s.asked W h hc
        have D3 := fun W (h : At W own g s) => Refused h (show s.deeds.length ≤ 1000000 by omega)
        have D4 := fun W h => RefRefused RA Rc s.refuses DA Dc s.deeds s.asked W h hc
        rw [← hP1] at D1 D2
        rw [← hP2] at D3 D4
        have DD1 := Aside0.mk D1; have DD2 := Aside0.mk D2; have DD3 := Aside0.mk D3; have DD4 := Aside0.mk D4
        clear D1 D2 D3 D4 hP1 hP2
        go_region_held3 (fun W => Below wr.heap.size wr W ∧ W.cell? ⟨q, 0, none⟩ = some (.slice RA s.refuses.length Rc) ∧ W.cell? ⟨q, 1, none⟩ = some (.slice DA s.deeds.length Dc) ∧ W.cell? ⟨q, 2, none⟩ = some (.int .i64 s.asked)) (first | assumption | exact ⟨(Below.refl _ _).drew, r0, r1, r2⟩)
          (first
            | (go_simp; go_at_call 23; have hS_ := ‹Below wr.heap.size wr _ ∧ _›; refine (RefSame A5 c5 DA Dc s.deeds _ (Kd.C_below HC5.out hS_.1) hc5 (Kd.C_below HD.out (Aid.bthen HB.out hS_.1)) hdc (by have := HL.out; omega)).mono ?_; rintro e w' ⟨rfl, hB⟩; have hS2_ := KS.out _ _ hS_ hB)
            | (go_simp; go_at_call 18; have hS_ := ‹Below wr.heap.size wr _ ∧ _›; refine (DD1.out _ (H.out.below (Aid.bthen HB.out hS_.1))).mono ?_; rintro e w' ⟨v18, rfl, hR, hB⟩; obtain ⟨A18, c18, rfl, hc18, hC18⟩ := Kd.R_reads hR; have hS2_ := KS.out _ _ hS_ hB; have HC18 := Aside0.mk hC18; clear hC18 hR; (first | (have hm := Kd.C_below HC24.out hB; clear HC24; have HC24 := Aside0.mk hm; clear hm) | skip))
            | (go_simp; go_at_call 24; have hS_ := ‹Below wr.heap.size wr _ ∧ _›; refine (DD2.out _ (Kd.C_below HR.out (Aid.bthen HB.out hS_.1)) (Kd.C_below HD.out (Aid.bthen HB.out hS_.1)) hdc (by have := HL.out; omega)).mono ?_; rintro e w' ⟨v24, rfl, hR, hB⟩; obtain ⟨A24, c24, rfl, hc24, hC24⟩ := Kd.R_reads hR; have hS2_ := KS.out _ _ hS_ hB; have HC24 := Aside0.mk hC24; clear hC24 hR; (first | (have hm := Kd.C_below HC18.out hB; clear HC18; have HC18 := Aside0.mk hm; clear hm) | skip))
            | (go_simp; go_at_call 17; have hS_ := ‹Below wr.heap.size wr _ ∧ _›; refine (DD3.out _ (H.out.below (Aid.bthen HB.out hS_.1))).mono ?_; rintro e w' ⟨v17, rfl, hR, hB⟩; obtain ⟨A17, c17, rfl, hc17, hC17⟩ := Kd.R_reads hR; have hS2_ := KS.out _ _ hS_ hB; have HC17 := Aside0.mk hC17; clear hC17 hR; (first | (have hm := Kd.C_below HC25.out hB; clear HC25; have HC25 := Aside0.mk hm; clear hm) | skip))
            | (go_simp; go_at_call 25; have hS_ := ‹Below wr.heap.size wr _ ∧ _›; refine (DD4.out _ (Kd.C_below HR.out (Aid.bthen HB.out hS_.1)) (Kd.C_below HD.out (Aid.bthen HB.out hS_.1)) hdc (by have := HL.out; omega)).mono ?_; rintro e w' ⟨v25, rfl, hR, hB⟩; obtain ⟨A25, c25, rfl, hc25, hC25⟩ := Kd.R_reads hR; have hS2_ := KS.out _ _ hS_ hB; have HC25 := Aside0.mk hC25; clear hC25 hR; (first | (have hm := Kd.C_below HC17.out hB; clear HC17; have HC17 := Aside0.mk hm; clear hm) | skip))
            | (go_simp; go_at_call_of 19 (Value.slice A18 P1.length c18); have hS_ := ‹Below wr.heap.size wr _ ∧ _›; refine (TextsT A18 c18 A24 c24 P1 _ HC18.out hc18 HC24.out hc24 HPL.out.1).mono ?_; rintro e w' ⟨rfl, hd⟩; have hS2_ := KS.out _ _ hS_ hd.below)
            | (go_simp; go_at_call 19; have hS_ := ‹Below wr.heap.size wr _ ∧ _›; refine (TextsT A17 c17 A25 c25 P2 _ HC17.out hc17 HC25.out hc25 HPL.out.2).mono ?_; rintro e w' ⟨rfl, hd⟩; have hS2_ := KS.out _ _ hS_ hd.below)
            | (go_simp; go_at_call 16; have hS_ := ‹Below wr.heap.size wr _ ∧ _›; refine (Asked (H.out.below (Aid.bthen HB.out hS_.1))).mono ?_; rintro e w' ⟨rfl, hd⟩; have hS2_ := KS.out _ _ hS_ hd.below))
        all_goals
          have hS_ := ‹Below wr.heap.size wr _ ∧ _›
          have HF := Aside0.mk (Aid.bthen HB.out hS_.1)
          clear hS_ KS
          go_wp2_with fail
          go_ret
          exact ⟨rfl, HF.out⟩
end Deal
end Go.Proofs.Ytohenapbgencbaa
