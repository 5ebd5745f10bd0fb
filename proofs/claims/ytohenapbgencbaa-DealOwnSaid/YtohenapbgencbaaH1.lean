/- The document's dealer: its Ask. -/
import Derived.Test.YtohenapbgencbaaE
import Derived.Test.YtohenapbgencbaaPKx6
import Derived.Test.YtohenapbgencbaaPKx8
import Derived.Test.YtohenapbgencbaaPKx9
import Derived.Test.YtohenapbgencbaaPKx10
import Derived.StillTailTactics
import Derived.Deep.RegionHeld3
namespace Go.Proofs.Ytohenapbgencbaa
open Go.RowKit Go.Proofs.YtohenapbgencbaaW.PrintWords Go.Proofs.YtohenapbgencbaaW.PrintLast Go.Proofs.YtohenapbgencbaaW.PrintMore Go.Proofs.Ytohenapbgencbaa.PK
set_option linter.unusedVariables false
set_option linter.unusedSimpArgs false
set_option maxHeartbeats 4000000
set_option maxRecDepth 100000
namespace Deal

theorem in_l (l : List Int) (a : Int) (hl : l.length ≤ 1000000) : ∀ d i k, i + d = l.length → d < k → redressref20_in.l0 k l a (i : Int) = some (decide (a ∈ l.drop i)) := by
  intro d
  induction d with
  | zero =>
    intro i k hi hk
    obtain ⟨k, rfl⟩ : ∃ m, k = m + 1 := ⟨k - 1, by omega⟩
    simp only [redressref20_in.l0]
    rw [if_neg (by omega), List.drop_of_length_le (by omega)]
    simp
  | succ d ih =>
    intro i k hi hk
    obtain ⟨k, rfl⟩ : ∃ m, k = m + 1 := ⟨k - 1, by omega⟩
    have hlt : i < l.length := by omega
    simp only [redressref20_in.l0]
    rw [if_pos (by omega), if_pos (by omega), rd_at l i hlt, wrapS (by omega), ih (i + 1) k (by omega) (by omega)]
    rw [List.drop_eq_getElem_cons hlt]
    by_cases h : l[i] = a
    · rw [if_pos h]; simp [h]
    · rw [if_neg h]
      congr 1
      rw [Bool.eq_iff_iff]
      simp only [decide_eq_true_eq, List.mem_cons]
      exact ⟨fun hh => .inr hh, fun hh => hh.elim (fun e => absurd e.symm h) id⟩
theorem RefIn (A : Option Addr) (c : Nat) (l : List Int) (a : Int) (w : World) (hr : Kd.C (Kd.int .i64) w A l.length l) (hc : l.length ≤ c) (hl : l.length ≤ 1000000) :
    Calls Try.prog 21 #[.slice A l.length c, .int .i64 a] w fun e w' => e = .returned (.bool (decide (a ∈ l))) ∧ Drawn0 w w' := by
  refine redressref20_in.calls (l.length + 1) A c l a _ w hr hc ?_
  unfold redressref20_in.f
  exact in_l l a hl l.length 0 (l.length + 1) (by omega) (by omega)
theorem known_at (l : List S53) (i : Int) (k : Nat) (h : k < l.length) (hb : ∀ j (hj : j < l.length), j < k → l[j].f0 ≠ i) (he : l[k].f0 = i) : known l i = some l[k].f2 := by
  unfold known
  have : l.find? (fun d => d.f0 == i) = some l[k] := by
    rw [List.find?_eq_some_iff_getElem]
    refine ⟨by simpa using he, k, h, rfl, fun j hj => ?_⟩
    simpa using hb j (by omega) hj
  rw [this]; rfl
theorem known_no (l : List S53) (i : Int) (hb : ∀ j (hj : j < l.length), l[j].f0 ≠ i) : known l i = none := by
  unfold known
  rw [Option.map_eq_none_iff, List.find?_eq_none]
  intro x hx
  obtain ⟨j, hj, rfl⟩ := List.mem_iff_getElem.1 hx
  simpa using hb j hj
/-- Three blocks that were just made. -/
structure Three (w W : World) (x3 x6 x8 : Array Value) : Prop where
  h3 : W.heap[w.heap.size]? = some (.cells x3 30 (0, 0))
  h6 : W.heap[w.heap.size + 1]? = some (.cells x6 30 (0, 0))
  h8 : W.heap[w.heap.size + 2]? = some (.cells x8 30 (0, 0))
  low : Below w.heap.size w W
theorem Three.made (w : World) (x3 x6 x8 : Array Value) : Three w (((w.alloc (Obj.cells x3 30)).alloc (Obj.cells x6 30)).alloc (Obj.cells x8 30)) x3 x6 x8 := by
  have h1 := Aid.heap_new w (Obj.cells x3 30)
  have h2 := Aid.heap_new (w.alloc (Obj.cells x3 30)) (Obj.cells x6 30)
  have h3 := Aid.heap_new ((w.alloc (Obj.cells x3 30)).alloc (Obj.cells x6 30)) (Obj.cells x8 30)
  have s1 : (w.alloc (Obj.cells x3 30)).heap.size = w.heap.size + 1 := by simp
  have s2 : ((w.alloc (Obj.cells x3 30)).alloc (Obj.cells x6 30)).heap.size = w.heap.size + 2 := by simp
  rw [s1] at h2
  rw [s2] at h3
  refine ⟨?_, ?_, h3, (((Below.refl _ _).alloc (Nat.le_refl _) _).alloc (by simp) _).alloc (by simp; omega) _⟩
  · exact (Below.heap_alloc _ _ _ (by rw [s2]; omega)).trans ((Below.heap_alloc _ _ _ (by rw [s1]; omega)).trans h1)
  · exact (Below.heap_alloc _ _ _ (by rw [s2]; omega)).trans h2
theorem Three.cells {w W : World} {u0 u1 u2 x6 v0 v1 v2} (h : Three w W #[u0, u1, u2] x6 #[v0, v1, v2]) {q3 q6 q8 : Nat} (e3 : q3 = w.heap.size) (e6 : q6 = w.heap.size + 1) (e8 : q8 = w.heap.size + 2) :
    W.cell? ⟨q3, 0, none⟩ = some u0 ∧ W.cell? ⟨q3, 1, none⟩ = some u1 ∧ W.cell? ⟨q3, 2, none⟩ = some u2 ∧ W.cell? ⟨q8, 0, none⟩ = some v0 ∧ W.cell? ⟨q8, 1, none⟩ = some v1 ∧ W.cell? ⟨q8, 2, none⟩ = some v2 := by
  subst e3; subst e6; subst e8
  refine ⟨?_, ?_, ?_, ?_, ?_, ?_⟩
  all_goals first
    | (rw [cell_of_row _ _ _ _ _ _ h.h3]; rfl)
    | (rw [cell_of_row _ _ _ _ _ _ h.h8]; rfl)
theorem Three.c6 {w W : World} {u0 u1 u2 : Value} {x3 x8 : Array Value} (h : Three w W x3 #[u0, u1, u2] x8) {q6 : Nat} (e6 : q6 = w.heap.size + 1) : W.cell? ⟨q6, 0, none⟩ = some u0 ∧ W.cell? ⟨q6, 1, none⟩ = some u1 ∧ W.cell? ⟨q6, 2, none⟩ = some u2 := by
  subst e6
  refine ⟨?_, ?_, ?_⟩
  all_goals (rw [cell_of_row _ _ _ _ _ _ h.h6]; rfl)
theorem Three.f6 {w W : World} {x3 x6 x8 : Array Value} (h : Three w W x3 x6 x8) {q6 : Nat} (e6 : q6 = w.heap.size + 1) (j : Nat) : W.frozen? ⟨q6, j, none⟩ = false := by subst e6; exact blk_frozen h.h6 j
theorem cell_set3 (W : World) (q : Nat) (v0 v1 v2 : Value) (a : Addr) (h : a.block ≠ q) : (((W.setCell ⟨q, 0, none⟩ v0).setCell ⟨q, 1, none⟩ v1).setCell ⟨q, 2, none⟩ v2).drew.cell? a = W.cell? a := by
  have e : ((((W.setCell ⟨q, 0, none⟩ v0).setCell ⟨q, 1, none⟩ v1).setCell ⟨q, 2, none⟩ v2).drew).heap[a.block]? = W.heap[a.block]? :=
    (heap_setCell_other _ _ _ _ h).trans ((heap_setCell_other _ _ _ _ h).trans (heap_setCell_other _ _ _ _ h))
  simp only [World.cell?, e]
theorem Three.drewN {w W : World} {x3 x6 x8 : Array Value} (h : Three w W x3 x6 x8) (m : Nat) : Three w (W.drewN m) x3 x6 x8 := ⟨h.h3, h.h6, h.h8, pw_below_drewN h.low m⟩
theorem Three.far {w W : World} {x3 x6 x8 : Array Value} (h : Three w W x3 x6 x8) {k : Nat} (hk : W.heap.size ≤ k) : w.heap.size + 2 < k := by have := blk_lt h.h8; omega
theorem Three.grown {w W W' : World} {x3 x6 x8 : Array Value} {row : Option Nat} (h : Three w W x3 x6 x8) (hg : W.grownBy W' row) (hr : ∀ k, row = some k → w.heap.size + 2 < k) (hb : Below w.heap.size w W') : Three w W' x3 x6 x8 := by
  have key : ∀ i, i < W.heap.size → i ≤ w.heap.size + 2 → W'.heap[i]? = W.heap[i]? := fun i h1 h2 => hg.block i h1 (fun e => by have := hr i e.symm; omega)
  exact ⟨(key _ (blk_lt h.h3) (by omega)).trans h.h3, (key _ (blk_lt h.h6) (by omega)).trans h.h6, (key _ (blk_lt h.h8) (by omega)).trans h.h8, hb⟩
theorem Three.f8 {w W : World} {x3 x6 x8 : Array Value} (h : Three w W x3 x6 x8) {q8 : Nat} (e8 : q8 = w.heap.size + 2) (j : Nat) : W.frozen? ⟨q8, j, none⟩ = false := by subst e8; exact blk_frozen h.h8 j
/-- What the document's Ask hands back. -/
def RefAsked (w : World) (ok : Nat → Prop) (RA : Option Addr) (Rc : Nat) (r : Bool) (t : DS) (e : Ending) (w' : World) : Prop :=
  ∃ DA Dc, e = .returned (.tuple #[.agg #[.slice RA t.refuses.length Rc, .slice DA t.deeds.length Dc, .int .i64 t.asked], .bool r]) ∧ Kd.R k53 53 w' 0 (fun k => ok k ∨ w.heap.size ≤ k) (.slice DA t.deeds.length Dc) t.deeds ∧ Below w.heap.size w w'
theorem RefAsk (RA : Option Addr) (Rc : Nat) (DA : Option Addr) (Dc : Nat) (s : DS) (id : Int) (name : ByteArray) (w : World) (ok : Nat → Prop) (hr : Kd.C (Kd.int .i64) w RA s.refuses.length s.refuses) (hc : s.refuses.length ≤ Rc) (hd : Kd.R k53 53 w 0 ok (.slice DA s.deeds.length Dc) s.deeds)
    (ha : 0 ≤ s.asked ∧ s.asked ≤ 1000000) (hl : s.deeds.length ≤ 100000) (hrl : s.refuses.length ≤ 100000) :
    Calls Try.prog 12 #[.agg #[.slice RA s.refuses.length Rc, .slice DA s.deeds.length Dc, .int .i64 s.asked], .int .i64 id, .string name] w (RefAsked w ok RA Rc (s.ask id name).1 (s.ask id name).2) := by
  have HR := Aside0.mk hr; clear hr
  have HD := Aside0.mk hd; clear hd
  have ea : IntKind.i64.wrap (s.asked + 1) = s.asked + 1 := by rw [IntKind.wrap_i64]; omega
  go_enter Try.func12, Try.ntmps12
  go_upto_region 2 with fail
  obtain ⟨w1, hw1⟩ : ∃ w1, w1 = (((w.alloc (Obj.cells #[.slice RA s.refuses.length Rc, .slice DA s.deeds.length Dc, .int .i64 s.asked] 30)).alloc (Obj.cells #[.slice none 0 0, .slice none 0 0, .int .i64 0] 30)).alloc (Obj.cells #[.slice RA s.refuses.length Rc, .slice DA s.deeds.length Dc, .int .i64 (s.asked + 1)] 30)) := ⟨_, rfl⟩
  rw [← hw1]
  have hT : Three w w1 #[.slice RA s.refuses.length Rc, .slice DA s.deeds.length Dc, .int .i64 s.asked] #[.slice none 0 0, .slice none 0 0, .int .i64 0] #[.slice RA s.refuses.length Rc, .slice DA s.deeds.length Dc, .int .i64 (s.asked + 1)] := by
    rw [hw1]; exact Three.made w _ _ _
  have HT := Aside0.mk hT
  clear hT hw1
  obtain ⟨q3, hq3⟩ : ∃ q, q = w.heap.size := ⟨_, rfl⟩
  obtain ⟨q6, hq6⟩ : ∃ q, q = w.heap.size + 1 := ⟨_, rfl⟩
  obtain ⟨q8, hq8⟩ : ∃ q, q = w.heap.size + 2 := ⟨_, rfl⟩
  have HQ := Aside0.mk (And.intro hq3 (And.intro hq6 hq8))
  rw [← hq8, ← hq6, ← hq3]
  clear hq3 hq6 hq8
  go_wp2_with fail
  go_loopg [9] (s.deeds.length + 1) (fun kq v9 w' => ∃ (j : Nat), v9 = .int .i64 (j : Int) ∧ Aside0 (kq + j = s.deeds.length + 1 ∧ j ≤ s.deeds.length) ∧ Aside0 (∀ i (hi : i < s.deeds.length), i < j → s.deeds[i].f0 ≠ id) ∧ Aside0 (Three w w' #[.slice RA s.refuses.length Rc, .slice DA s.deeds.length Dc, .int .i64 s.asked] #[.slice none 0 0, .slice none 0 0, .int .i64 0] #[.slice RA s.refuses.length Rc, .slice DA s.deeds.length Dc, .int .i64 (s.asked + 1)]))
  case atStart => exact ⟨0, rfl, ⟨by omega, by omega⟩, ⟨fun i _ h => by omega⟩, HT⟩
  case round =>
    clear HT
    obtain ⟨j, rfl, HK, HNO, HT⟩ := hrel
    cases gk with
    | zero => exact absurd HK.out (by omega)
    | succ k1 =>
      obtain ⟨a1, a2, a3, b1, b2, b3⟩ := HT.out.cells HQ.out.1 HQ.out.2.1 HQ.out.2.2
      by_cases hj : j < s.deeds.length
      · have c14 : decide ((j : Int) < (s.deeds.length : Int)) = true := decide_eq_true (by omega)
        have p0 : (0 : Int) ≤ (j : Int) := by omega
        have q0 : (j : Int) < (s.deeds.length : Int) := by omega
        have ej : IntKind.i64.wrap ((j : Int) + 1) = ((j + 1 : Nat) : Int) := by rw [IntKind.wrap_i64]; omega
        have hC := Kd.C_below (Kd.R_reads' HD.out).2.2 HT.out.low
        obtain ⟨ad, e7, y0, y1, y2⟩ := at_T53 hC (j : Int) p0 q0
        cases e7
        rw [rd53 s.deeds j hj] at y0 y1 y2
        obtain ⟨o, ho⟩ : ∃ o, o = s.deeds[j] := ⟨_, rfl⟩
        rw [← ho] at y0 y1 y2
        have HOJ := Aside0.mk ho
        simp only [Int.toNat_natCast] at y0 y1 y2
        clear hC ho
        by_cases hid : o.f0 = id
        · have ei : (o.f0 == id) = true := by simp [hid]
          have HKN := Aside0.mk (known_at s.deeds id j hj (fun i hi h => HNO.out i hi h) (by rw [← HOJ.out]; exact hid))
          clear hid
          have c6 := HT.out.c6 HQ.out.2.1
          have f6 := HT.out.f6 HQ.out.2.1
          have c60 := c6.1; have c61 := c6.2.1; have c62 := c6.2.2
          have f60 := f6 0; have f61 := f6 1; have f62 := f6 2
          clear c6 f6
          go_wp2_with fail
          have hne8 : q8 ≠ q6 := by have := HQ.out; omega
          have hne3 : q3 ≠ q6 := by have := HQ.out; omega
          have hnea : ad.block ≠ q6 := by
            obtain ⟨ad', e', y0', _, _⟩ := at_T53 (Kd.R_reads' HD.out).2.2 (j : Int) p0 q0
            cases e'
            have h := World.block_lt_of_cell? w _ y0'
            have e2 : (ad.add ((j : Int).toNat * 3)).block = ad.block := by unfold Addr.add; split <;> rfl
            rw [e2] at h
            have := HQ.out
            omega
          have e2 : (ad.add (j * 3)).block = ad.block := by unfold Addr.add; split <;> rfl
          have KEEP := Aside0.mk (And.intro ((cell_set3 wr q6 (.slice RA s.refuses.length Rc) (.slice (some ad) s.deeds.length Dc) (.int .i64 (s.asked + 1)) ⟨q8, 0, none⟩ hne8).trans b1) (And.intro ((cell_set3 wr q6 (.slice RA s.refuses.length Rc) (.slice (some ad) s.deeds.length Dc) (.int .i64 (s.asked + 1)) ⟨q8, 1, none⟩ hne8).trans b2) (And.intro ((cell_set3 wr q6 (.slice RA s.refuses.length Rc) (.slice (some ad) s.deeds.length Dc) (.int .i64 (s.asked + 1)) ⟨q8, 2, none⟩ hne8).trans b3) (And.intro ((cell_set3 wr q6 (.slice RA s.refuses.length Rc) (.slice (some ad) s.deeds.length Dc) (.int .i64 (s.asked + 1)) ⟨q3, 1, none⟩ hne3).trans a2) ((cell_set3 wr q6 (.slice RA s.refuses.length Rc) (.slice (some ad) s.deeds.length Dc) (.int .i64 (s.asked + 1)) ⟨(ad.add (j * 3)).block, (ad.add (j * 3)).off + 2, none⟩ (by rw [e2]; exact hnea)).trans y2)))))
          clear e2 hnea hne3 hne8
          go_region_held3 (fun W => W.cell? ⟨q8, 0, none⟩ = some (.slice RA s.refuses.length Rc) ∧ W.cell? ⟨q8, 1, none⟩ = some (.slice (some ad) s.deeds.length Dc) ∧ W.cell? ⟨q8, 2, none⟩ = some (.int .i64 (s.asked + 1)) ∧ W.cell? ⟨q3, 1, none⟩ = some (.slice (some ad) s.deeds.length Dc) ∧ W.cell? ⟨(ad.add (j * 3)).block, (ad.add (j * 3)).off + 2, none⟩ = some (.bool o.f2)) (first | assumption | exact ⟨b1, b2, b3, a2, y2⟩ | exact KEEP.out) (fail)
          go_wp2_with fail
          obtain ⟨wz, hwz⟩ : ∃ wz, wz = (((wr.setCell ⟨q6, 0, none⟩ (.slice RA s.refuses.length Rc)).setCell ⟨q6, 1, none⟩ (.slice (some ad) s.deeds.length Dc)).setCell ⟨q6, 2, none⟩ (.int .i64 (s.asked + 1))).drew := ⟨_, rfl⟩
          rw [← hwz]
          have hb6 : wz.heap[q6]? = some (.cells #[.slice RA s.refuses.length Rc, .slice (some ad) s.deeds.length Dc, .int .i64 (s.asked + 1)] 30 (0, 0)) := by
            rw [hwz]
            have h6 := HT.out.h6
            rw [← HQ.out.2.1] at h6
            exact heap_setCell_same _ q6 2 _ 30 _ (heap_setCell_same _ q6 1 _ 30 _ (heap_setCell_same wr q6 0 _ 30 _ h6))
          have hbz : Below w.heap.size w wz := by
            rw [hwz]
            have hq : w.heap.size ≤ q6 := by have := HQ.out; omega
            exact pw_below_drewN (((HT.out.low.setCell (p := ⟨q6, 0, none⟩) hq _).setCell (p := ⟨q6, 1, none⟩) hq _).setCell (p := ⟨q6, 2, none⟩) hq _) 1
          have z0 : wz.cell? ⟨q6, 0, none⟩ = some (.slice RA s.refuses.length Rc) := by rw [cell_of_row _ _ _ _ _ _ hb6]; rfl
          have z1 : wz.cell? ⟨q6, 1, none⟩ = some (.slice (some ad) s.deeds.length Dc) := by rw [cell_of_row _ _ _ _ _ _ hb6]; rfl
          have z2 : wz.cell? ⟨q6, 2, none⟩ = some (.int .i64 (s.asked + 1)) := by rw [cell_of_row _ _ _ _ _ _ hb6]; rfl
          have he : s.ask id name = (o.f2, { s with asked := s.asked + 1 }) := by unfold DS.ask; rw [HKN.out, ← HOJ.out]
          rw [he]
          refine bodyPost_ret (v := .tuple #[.agg #[.slice RA s.refuses.length Rc, .slice (some ad) s.deeds.length Dc, .int .i64 (s.asked + 1)], .bool o.f2]) (by simp [results, Try.results12, go_sem, z0, z1, z2]) rfl ?_
          exact ⟨some ad, Dc, rfl, Kd.R_mono (Kd.R_kept HD.out (Kept.of_below hbz (fun _ => False)) (fun _ _ hf => hf)) (fun k hk => .inl hk), hbz⟩
        · have ei : (o.f0 == id) = false := by simp [hid]
          have HN2 := Aside0.mk (show ∀ i (hi : i < s.deeds.length), i < j + 1 → s.deeds[i].f0 ≠ id from fun i hi h => by
            by_cases e : i = j
            · subst e; rw [← HOJ.out]; exact hid
            · exact HNO.out i hi (by omega))
          clear hid
          go_wp2_with fail
          go_roundg k1
          case measure => omega
          case rel => exact ⟨j + 1, by first | (simp; done) | rw [ej], ⟨by have := HK.out; omega, by omega⟩, HN2, HT⟩
      · have c14 : decide ((j : Int) < (s.deeds.length : Int)) = false := decide_eq_false (by omega)
        have HKN := Aside0.mk (known_no s.deeds id (fun i hi => HNO.out i hi (by omega)))
        clear HK HNO
        go_wp2_with fail
        refine (RefIn RA Rc s.refuses id wr (Kd.C_below HR.out HT.out.low) hc (by omega)).mono ?_; rintro e w2 ⟨rfl, ⟨m, rfl⟩⟩
        obtain ⟨w2, hw2⟩ : ∃ w2, w2 = wr.drewN m := ⟨_, rfl⟩
        rw [← hw2]
        have HT2 := Aside0.mk (show Three w w2 #[.slice RA s.refuses.length Rc, .slice DA s.deeds.length Dc, .int .i64 s.asked] #[.slice none 0 0, .slice none 0 0, .int .i64 0] #[.slice RA s.refuses.length Rc, .slice DA s.deeds.length Dc, .int .i64 (s.asked + 1)] by rw [hw2]; exact HT.out.drewN m)
        clear hw2 HT a1 a2 a3 b1 b2 b3
        obtain ⟨v, hv⟩ : ∃ v, v = !decide (id ∈ s.refuses) := ⟨_, rfl⟩
        have HE := Aside0.mk (show s.ask id name = (v, { s with deeds := s.deeds ++ [⟨id, name, v⟩], asked := s.asked + 1 }) by unfold DS.ask; rw [HKN.out, hv])
        rw [show decide (id ∈ s.refuses) = !v by rw [hv]; simp]
        clear hv
        obtain ⟨a1, a2, a3, b1, b2, b3⟩ := HT2.out.cells HQ.out.1 HQ.out.2.1 HQ.out.2.2
        go_upto_region 8 with fail
        go_upto_region 9 with (first | ((with_reducible refine gate_dst (N := 46) rfl ?_); refine Kd.R_lit k53 (w0 := w) w.heap.size 53 ?hg (N := 46) ?hd (xs := ([] : List S53)) (inner := []) (ok := fun k => w2.heap.size ≤ k) (okp := fun _ => False) ?hr ?hp (fun _ hk => hk.elim) (Nat.le_refl _) HT2.out.low HT2.out.low.size (by simp) ?_; (case hd => rfl); (case hg => rfl); (case hr => first | (go_simp; done) | (go_simp; rfl)); (case hp => exact (Reps.none _ _)); intro v46 w3 ho9 hb hg_ hnew_; have HB3 := Aside0.mk hb; have HO3 := Aside0.mk ho9; have HS3 := Aside0.mk hg_.size; have HT3 := Aside0.mk (HT2.out.grown hg_ (fun k e => by cases e) hb); obtain ⟨d1, d2, d3, e1, e2, e3⟩ := HT3.out.cells HQ.out.1 HQ.out.2.1 HQ.out.2.2; clear hb ho9 hg_ hnew_ a1 a2 a3 b1 b2 b3 d1 d3 e1 e2 e3) | ((with_reducible refine gate_builtin (b := .append) (xs := #[.tmp 46, .tmp 48]) rfl ?_); at_builtin; refine Kd.R_append_rows k53 (w0 := w) w.heap.size rfl (.tmp 46) (.tmp 48) 28 53 (.agg #[.int .i64 0, .string ⟨#[]⟩, .bool false]) 32 rfl Try.underlying28 info53 rfl (by decide) (by omega) v46 ([] : List S53) s.deeds _ _ _ (fun k => w2.heap.size ≤ k) (fun _ => False) rfl rfl ?aO ?aR (fun _ _ h => h) (fun _ h => h.elim) ?aF ?aB ?aS ?aL ?_; (case aR => exact (Kd.C_below (Kd.R_reads' HD.out).2.2 HB3.out)); (case aB => exact HB3.out); (case aF => exact (fun k hk => Nat.le_trans HS3.out hk)); (case aO => exact HO3.out); (case aS => exact HB3.out.size); (case aL => simp; omega); intro v49 w4 ho hb hg hat; rw [List.nil_append] at ho; have HT4 := Aside0.mk (HT3.out.grown hg (fun k e => HT2.out.far (HO3.out.1 k e)) hb); have HB4 := Aside0.mk hb; have HO4 := Aside0.mk ho; have HS4 := Aside0.mk (Nat.le_trans HS3.out hg.size); clear ho hb hg hat d2) | ((with_reducible refine gate_builtin (b := .append) (xs := #[.tmp 49, .tmp 54]) rfl ?_); at_builtin; refine Kd.R_append k53 (w0 := w) w.heap.size rfl (.tmp 49) (.tmp 54) 28 53 (.agg #[.int .i64 0, .string ⟨#[]⟩, .bool false]) 32 rfl Try.underlying28 info53 rfl (by decide) (by omega) v49 s.deeds (⟨id, name, v⟩ : S53) [.int .i64 id, .string name, .bool v] (fun k => w2.heap.size ≤ k) (fun _ => False) rfl rfl ?aP (fun _ hk => hk.elim) ?aF ?aO ?aB ?aS ?aL ?_; (case aP => exact k53_mkM _ _ _ (⟨id, name, v⟩ : S53)); (case aB => exact HB4.out); (case aF => exact (fun k hk => Nat.le_trans HS4.out hk)); (case aO => exact HO4.out); (case aS => exact HB4.out.size); (case aL => omega); intro v55 w5 ho hb hg hat; obtain ⟨A9, c9, e9⟩ := Kd.R_slice ho; subst e9; have HT5 := Aside0.mk (HT4.out.grown hg (fun k e => HT2.out.far (HO4.out.1 k e)) hb); have HO5 := Aside0.mk ho; obtain ⟨d1, d2, d3, e1, e2, e3⟩ := HT5.out.cells HQ.out.1 HQ.out.2.1 HQ.out.2.2; have f80 := HT5.out.f8 HQ.out.2.2 1; clear ho hb hg hat d1 d2 d3))
        obtain ⟨w6, hw6⟩ : ∃ w6, w6 = w5.setCell ⟨q8, 1, none⟩ (.slice A9 (s.deeds.length + 1) c9) := ⟨_, rfl⟩
        rw [← hw6]
        have hq8 : w.heap.size ≤ q8 := by have := HQ.out; omega
        have h8 : w6.heap[q8]? = some (.cells #[.slice RA s.refuses.length Rc, .slice A9 (s.deeds.length + 1) c9, .int .i64 (s.asked + 1)] 30 (0, 0)) := by
          rw [hw6]
          have h := HT5.out.h8
          rw [← HQ.out.2.2] at h
          exact heap_setCell_same w5 q8 1 _ 30 _ h
        have h6 : w6.heap[q6]? = some (.cells #[.slice none 0 0, .slice none 0 0, .int .i64 0] 30 (0, 0)) := by
          have h := HT5.out.h6
          rw [← HQ.out.2.1] at h
          rw [hw6]
          exact (heap_setCell_other w5 _ _ _ (by show q6 ≠ q8; have := HQ.out; omega)).trans h
        have HB6 := Aside0.mk (show Below w.heap.size w w6 by rw [hw6]; exact HT5.out.low.setCell (p := ⟨q8, 1, none⟩) hq8 _)
        have HO6 := Aside0.mk (show Kd.R k53 53 w6 w.heap.size (fun k => w2.heap.size ≤ k) (.slice A9 (s.deeds ++ [(⟨id, name, v⟩ : S53)]).length c9) (s.deeds ++ [(⟨id, name, v⟩ : S53)]) by
          rw [hw6]
          exact Kd.R_kept HO5.out ((Kept.refl w5 (fun k => k = q8)).setCell (p := ⟨q8, 1, none⟩) (.inl rfl) _) (fun k hk e => by have := HT2.out.far hk; have := HQ.out; omega))
        have H6 := Aside0.mk h6
        clear hw6 e1 e2 e3 f80 HT5 HO5 hq8
        have b1 : w6.cell? ⟨q8, 0, none⟩ = some (.slice RA s.refuses.length Rc) := by rw [cell_of_row _ _ _ _ _ _ h8]; rfl
        have b2 : w6.cell? ⟨q8, 1, none⟩ = some (.slice A9 (s.deeds.length + 1) c9) := by rw [cell_of_row _ _ _ _ _ _ h8]; rfl
        have b3 : w6.cell? ⟨q8, 2, none⟩ = some (.int .i64 (s.asked + 1)) := by rw [cell_of_row _ _ _ _ _ _ h8]; rfl
        have c60 : w6.cell? ⟨q6, 0, none⟩ = some (.slice none 0 0) := by rw [cell_of_row _ _ _ _ _ _ h6]; rfl
        have c61 : w6.cell? ⟨q6, 1, none⟩ = some (.slice none 0 0) := by rw [cell_of_row _ _ _ _ _ _ h6]; rfl
        have c62 : w6.cell? ⟨q6, 2, none⟩ = some (.int .i64 0) := by rw [cell_of_row _ _ _ _ _ _ h6]; rfl
        have f60 := blk_frozen h6 0
        have f61 := blk_frozen h6 1
        have f62 := blk_frozen h6 2
        clear h6 h8
        go_wp2_with fail
        obtain ⟨wz, hwz⟩ : ∃ wz, wz = (((w6.setCell ⟨q6, 0, none⟩ (.slice RA s.refuses.length Rc)).setCell ⟨q6, 1, none⟩ (.slice A9 (s.deeds.length + 1) c9)).setCell ⟨q6, 2, none⟩ (.int .i64 (s.asked + 1))) := ⟨_, rfl⟩
        rw [← hwz]
        have hb6 : wz.heap[q6]? = some (.cells #[.slice RA s.refuses.length Rc, .slice A9 (s.deeds.length + 1) c9, .int .i64 (s.asked + 1)] 30 (0, 0)) := by
          rw [hwz]
          exact heap_setCell_same _ q6 2 _ 30 _ (heap_setCell_same _ q6 1 _ 30 _ (heap_setCell_same w6 q6 0 _ 30 _ H6.out))
        have hq : w.heap.size ≤ q6 := by have := HQ.out; omega
        have hbz : Below w.heap.size w wz := by
          rw [hwz]
          exact ((HB6.out.setCell (p := ⟨q6, 0, none⟩) hq _).setCell (p := ⟨q6, 1, none⟩) hq _).setCell (p := ⟨q6, 2, none⟩) hq _
        have hkz : Kept w6 wz (fun k => k = q6) := by
          rw [hwz]
          exact (((Kept.refl w6 (fun k => k = q6)).setCell (p := ⟨q6, 0, none⟩) (.inl rfl) _).setCell (p := ⟨q6, 1, none⟩) (.inl rfl) _).setCell (p := ⟨q6, 2, none⟩) (.inl rfl) _
        have z0 : wz.cell? ⟨q6, 0, none⟩ = some (.slice RA s.refuses.length Rc) := by rw [cell_of_row _ _ _ _ _ _ hb6]; rfl
        have z1 : wz.cell? ⟨q6, 1, none⟩ = some (.slice A9 (s.deeds.length + 1) c9) := by rw [cell_of_row _ _ _ _ _ _ hb6]; rfl
        have z2 : wz.cell? ⟨q6, 2, none⟩ = some (.int .i64 (s.asked + 1)) := by rw [cell_of_row _ _ _ _ _ _ hb6]; rfl
        rw [HE.out]
        refine bodyPost_ret (v := .tuple #[.agg #[.slice RA s.refuses.length Rc, .slice A9 (s.deeds.length + 1) c9, .int .i64 (s.asked + 1)], .bool v]) (by simp [results, Try.results12, go_sem, z0, z1, z2]) rfl ?_
        refine ⟨A9, c9, by rw [show (s.deeds ++ [(⟨id, name, v⟩ : S53)]).length = s.deeds.length + 1 by simp], ?_, hbz⟩
        exact Kd.R_lower (Kd.R_mono (Kd.R_kept HO6.out hkz (fun k hk e => by have := HT2.out.far hk; have := HQ.out; omega)) (fun k hk => .inr (by have := HT2.out.far hk; omega))) (Nat.zero_le _)
end Deal
end Go.Proofs.Ytohenapbgencbaa
