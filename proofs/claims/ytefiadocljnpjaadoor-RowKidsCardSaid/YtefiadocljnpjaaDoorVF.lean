/- RowKids: the law, walked by hand: the kids are the call's own, and may be written. -/
import Derived.Test.YtefiadocljnpjaaDoorVC
namespace Go.Proofs.YtefiadocljnpjaaDoor.Row
open Go.Proofs.Tree Go.RowKit Go.Proofs.YtefiadocljnpjaaDoorW.PrintWords Go.Proofs.YtefiadocljnpjaaDoorW.PrintLast Go.Proofs.YtefiadocljnpjaaDoorW.PrintMore Go.Proofs.YtefiadocljnpjaaDoor.PK
set_option linter.unusedVariables false
set_option linter.unusedSimpArgs false
set_option maxHeartbeats 4000000
set_option maxRecDepth 100000
/-- A block that has n cells at least, which may be written. -/
def Blk (W : World) (g t n : Nat) : Prop := ∃ cs : Array Value, W.heap[g]? = some (.cells cs t (0, 0)) ∧ n ≤ cs.size
theorem Blk.cell {W : World} {g t n : Nat} (h : Blk W g t n) (j : Nat) (hj : j < n) : (∃ v, W.cell? ⟨g, j, none⟩ = some v) ∧ W.frozen? ⟨g, j, none⟩ = false := by
  obtain ⟨cs, h1, h2⟩ := h
  refine ⟨⟨cs[j]'(by omega), ?_⟩, blk_frozen h1 j⟩
  rw [cell_of_row _ _ _ _ _ _ h1]
  exact Array.getElem?_eq_getElem (by omega)
theorem Blk.set {W : World} {g t n : Nat} (h : Blk W g t n) (j : Nat) (v : Value) : Blk (W.setCell ⟨g, j, none⟩ v) g t n := by
  obtain ⟨cs, h1, h2⟩ := h
  exact ⟨_, heap_setCell_same W g j cs t v h1, by simpa using h2⟩
theorem Blk.move {W W' : World} {g t n : Nat} (h : Blk W g t n) (e : W'.heap[g]? = W.heap[g]?) : Blk W' g t n := by
  obtain ⟨cs, h1, h2⟩ := h
  exact ⟨cs, e.trans h1, h2⟩
theorem Blk.lt {W : World} {g t n : Nat} (h : Blk W g t n) : g < W.heap.size := by
  obtain ⟨cs, h1, _⟩ := h
  exact blk_lt h1
theorem Blk.any {W : World} {g t n : Nat} (h : Blk W g t n) (g2 j : Nat) (v : Value) : Blk (W.setCell ⟨g2, j, none⟩ v) g t n := by
  by_cases e : g = g2
  · subst e; exact h.set j v
  · exact h.move (heap_setCell_other W _ _ _ e)
theorem Blk.below {W W' : World} {g t n : Nat} (h : Blk W g t n) (hb : Below W.heap.size W W') : Blk W' g t n := h.move (hb.block _ h.lt)
/-- The block of a row of one's own. -/
theorem row_blk {α : Type} {d : Kd α} {e : Nat} {W : World} {base : Nat} {ok : Nat → Prop} {A : Option Addr} {n c : Nat} {xs : List α} (h : d.R e W base ok (.slice A n c) xs) :
    ∃ gx, 0 < xs.length → A = some ⟨gx, 0, none⟩ ∧ base ≤ gx ∧ ok gx ∧ Blk W gx e (xs.length * d.sz) := by
  obtain ⟨hok, inner, hown, hrep⟩ := h
  obtain ⟨hxl, hown2⟩ := hown
  rcases hown2 with ⟨he, h0⟩ | ⟨g, cp, cur, he, hbg, hheap, hnc, hcm, hcs, htk⟩
  · exact ⟨0, fun hp => by omega⟩
  · refine ⟨g, fun _ => ?_⟩
    injection he with ha _ hc
    refine ⟨ha, hbg, hok g (by rw [ha]; rfl), cur, hheap, ?_⟩
    rw [hcs]
    exact Nat.mul_le_mul_right _ hnc
theorem add_at' (g o j : Nat) : (⟨g, o, none⟩ : Addr).add j = ⟨g, o + j, none⟩ := add_at g o j
/-- The kids' rows: their blocks are of S, and may be written; the row that holds them lies in gA. -/
structure Kst (W : World) (S : Nat → Prop) (gA : Nat) (ks : List (List S48)) : Prop where
  k : ∀ j, j < ks.length → ∃ g A c, W.cell? ⟨gA, j, none⟩ = some (.slice A (rd_L9 ks (j : Int)).length c) ∧ (rd_L9 ks (j : Int)).length ≤ c ∧ (0 < (rd_L9 ks (j : Int)).length → A = some ⟨g, 0, none⟩ ∧ S g ∧ Blk W g 48 ((rd_L9 ks (j : Int)).length * 3))
  n : ¬ S gA
theorem Kst.below {W W' : World} {S : Nat → Prop} {gA : Nat} {ks : List (List S48)} (h : Kst W S gA ks) (hb : Below W.heap.size W W') : Kst W' S gA ks :=
  ⟨fun j hj => by
    obtain ⟨g, A, c, h1, h2, h3⟩ := h.k j hj
    exact ⟨g, A, c, pw_cell_below hb h1, h2, fun hp => ⟨(h3 hp).1, (h3 hp).2.1, (h3 hp).2.2.below hb⟩⟩, h.n⟩
theorem Kst.set {W : World} {S : Nat → Prop} {gA : Nat} {ks : List (List S48)} (h : Kst W S gA ks) (g i : Nat) (v : Value) (hg : S g) : Kst (W.setCell ⟨g, i, none⟩ v) S gA ks :=
  ⟨fun j hj => by
    obtain ⟨g2, A, c, h1, h2, h3⟩ := h.k j hj
    refine ⟨g2, A, c, ?_, h2, fun hp => ⟨(h3 hp).1, (h3 hp).2.1, (h3 hp).2.2.any g i v⟩⟩
    exact cell_of_heap h1 (Below.heap_setCell W ⟨g, i, none⟩ v gA (fun e => h.n (by rw [e]; exact hg))), h.n⟩
theorem Kst.of_S {W W0 : World} {AK : Option Addr} {cK : Nat} {ks : List (List S48)} (h : Kd.S (Kd.slice 48 k48) 51 W W0.heap.size (fun _ => True) (.slice AK ks.length cK) ks) (h0 : 0 < ks.length) :
    ∃ gA, AK = some ⟨gA, 0, none⟩ ∧ W0.heap.size ≤ gA ∧ gA < W.heap.size ∧ Kst W (fun k => W0.heap.size ≤ k ∧ k < W.heap.size ∧ k ≠ gA) gA ks := by
  obtain ⟨g, cap, e, hb, hlt, _⟩ := Kd.S_form h h0
  injection e with e1 _ e3
  subst e1; subst e3
  refine ⟨g, rfl, hb, hlt, fun j hj => ?_, fun e => e.2.2 rfl⟩
  obtain ⟨oki, c, hcl, hM, hcc, _, hoki, _⟩ := Kd.S_elem h ([] : List S48) (j : Int) (by omega) (by omega)
  obtain ⟨v, hv, hR⟩ := hM
  subst hv
  have hrd : ks.getD ((j : Int)).toNat ([] : List S48) = rd_L9 ks (j : Int) := rfl
  rw [hrd] at hR
  obtain ⟨A, c2, hv⟩ := Kd.R_slice hR
  subst hv
  have hx := hcc 0 _ rfl
  rw [Int.toNat_natCast] at hx
  have hle := (Kd.R_reads' hR).2.1
  obtain ⟨gx, hgx⟩ := row_blk hR
  refine ⟨gx, A, c2, ?_, hle, fun hp => ?_⟩
  · have : j * (Kd.slice 48 k48).sz + 0 = j := by show j * 1 + 0 = j; omega
    rw [this] at hx; exact hx
  · obtain ⟨e1, e2, e3, e4⟩ := hgx hp
    exact ⟨e1, ⟨e2, e4.lt, (hoki gx e3).2⟩, e4⟩
/-- What the writes leave. -/
structure Kw (w w8 W : World) (S : Nat → Prop) (gA : Nat) (ks : List (List S48)) : Prop where
  s : Kst W S gA ks
  k : Kept w8 W S
  b : Below w.heap.size w W
theorem Kw.set {w w8 W : World} {S : Nat → Prop} {gA : Nat} {ks : List (List S48)} (h : Kw w w8 W S gA ks) (g i : Nat) (v : Value) (hg : S g) (hS : ∀ k, S k → w.heap.size ≤ k) : Kw w w8 (W.setCell ⟨g, i, none⟩ v) S gA ks :=
  ⟨h.s.set g i v hg, h.k.setCell (p := ⟨g, i, none⟩) (.inl hg) v, h.b.setCell (p := ⟨g, i, none⟩) (hS g hg) v⟩
theorem C48_kept {W W' : World} {S : Nat → Prop} {A : Option Addr} {n : Nat} {xs : List S48} (h : Kd.C k48 W A n xs) (hk : Kept W W' S) (hn : ∀ ad, A = some ad → ¬ S ad.block) : Kd.C k48 W' A n xs := by
  refine ⟨h.1, h.2.1, fun h0 => ?_⟩
  obtain ⟨ad, e, hc⟩ := h.2.2 h0
  refine ⟨ad, e, fun j p hj => ?_⟩
  obtain ⟨c, hs, hr, hcell⟩ := hc j p hj
  refine ⟨c, hs, by rw [k48_open hr]; exact k48_mk W' p, fun i u hu => ?_⟩
  have hcu := hcell i u hu
  have hlt := World.block_lt_of_cell? W _ hcu
  have hblk : (ad.add (j * k48.sz + i)).block = ad.block := by unfold Addr.add; split <;> rfl
  exact cell_of_heap hcu (hk.2 _ hlt (by rw [hblk]; exact hn ad e))
theorem head_kids (l : List S48) (h : size S48.f0 l ≠ 0) : rd_T48 l 0 :: (kidsL l).flatten = l.take (size S48.f0 l) ∧ 0 < l.length := by
  unfold size kidsL at *
  cases e : tree S48.f0 l with
  | none => rw [e] at h; exact absurd rfl h
  | some p =>
    obtain ⟨t, r⟩ := p
    obtain ⟨hok, h2⟩ := tree_some _ e
    subst h2
    have hl : (t.flat ++ r).take t.len = t.flat := by unfold Tr.len; rw [List.take_left]
    dsimp only
    rw [hl]
    have hp := Tr.len_pos t
    refine ⟨?_, by rw [List.length_append]; omega⟩
    cases t with
    | n0 x => rfl
    | n1 x a => simp [Tr.kids, Tr.flat, rd_T48]
    | n2 x a b => simp [Tr.kids, Tr.flat, rd_T48]
end Go.Proofs.YtefiadocljnpjaaDoor.Row
