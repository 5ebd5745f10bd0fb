/- The dealer: its functions. -/
import Derived.Test.YtohenapbgencbaaB
import Derived.WideMake
namespace Go.Proofs.Ytohenapbgencbaa
open Go.RowKit Go.Proofs.YtohenapbgencbaaW.PrintWords Go.Proofs.YtohenapbgencbaaW.PrintLast Go.Proofs.YtohenapbgencbaaW.PrintMore Go.Proofs.Ytohenapbgencbaa.PK
set_option linter.unusedVariables false
set_option linter.unusedSimpArgs false
set_option maxHeartbeats 4000000
set_option maxRecDepth 100000
namespace Deal

/-- A dealer in block g, its map in block mb; all its blocks are among own. -/
structure AtX (W : World) (own : Nat → Prop) (g mb : Nat) (RA : Option Addr) (Rc : Nat) (DA : Option Addr) (Dc : Nat) (s : DS) : Prop where
  hg : W.heap[g]? = some (.cells #[.slice RA s.refuses.length Rc, .slice DA s.deeds.length Dc, .map (some mb), .int .i64 s.asked] 52 (0, 0))
  og : own g
  om : own mb
  rr : Kd.R (Kd.int .i64) 3 W 0 (fun k => own k ∧ k ≠ g ∧ k ≠ mb) (.slice RA s.refuses.length Rc) s.refuses
  rd : Kd.R k53 42 W 0 (fun k => own k ∧ k ≠ g ∧ k ≠ mb ∧ some k ≠ (Value.slice RA s.refuses.length Rc).ownBlock) (.slice DA s.deeds.length Dc) s.deeds
  mp : MapIs W mb s.deeds.length (known s.deeds)
def At (W : World) (own : Nat → Prop) (g : Nat) (s : DS) : Prop := ∃ mb RA Rc DA Dc, AtX W own g mb RA Rc DA Dc s
theorem AtX.keep {W W' : World} {own S : Nat → Prop} {g mb : Nat} {RA : Option Addr} {Rc : Nat} {DA : Option Addr} {Dc : Nat} {s : DS} (h : AtX W own g mb RA Rc DA Dc s) (hk : Kept W W' S) (hn : ∀ k, own k → ¬ S k) : AtX W' own g mb RA Rc DA Dc s :=
  ⟨blk_kept h.hg hk (hn g h.og), h.og, h.om, Kd.R_kept h.rr hk (fun k hh => hn k hh.1), Kd.R_kept h.rd hk (fun k hh => hn k hh.1), h.mp.move (hk.2 mb h.mp.lt (hn mb h.om))⟩
theorem At.keep {W W' : World} {own S : Nat → Prop} {g : Nat} {s : DS} (h : At W own g s) (hk : Kept W W' S) (hn : ∀ k, own k → ¬ S k) : At W' own g s := by
  obtain ⟨mb, RA, Rc, DA, Dc, h⟩ := h
  exact ⟨mb, RA, Rc, DA, Dc, h.keep hk hn⟩
theorem At.below {W W' : World} {own : Nat → Prop} {g : Nat} {s : DS} (h : At W own g s) (hb : Below W.heap.size W W') : At W' own g s := h.keep (Kept.of_below hb (fun _ => False)) (fun _ _ hf => hf)
theorem At.only {W W' : World} {own P : Nat → Prop} {g : Nat} {s : DS} (h : At W own g s) (ho : Only P W W') (hn : ∀ k, own k → ¬ P k) : At W' own g s := h.keep ho.kept hn
theorem At.drewN {W : World} {own : Nat → Prop} {g : Nat} {s : DS} (h : At W own g s) (m : Nat) : At (W.drewN m) own g s := h.keep ((Kept.refl W (fun _ => False)).drewN m) (fun _ _ hf => hf)
theorem At.mono {W : World} {own own' : Nat → Prop} {g : Nat} {s : DS} (h : At W own g s) (hn : ∀ k, own k → own' k) : At W own' g s := by
  obtain ⟨mb, RA, Rc, DA, Dc, h⟩ := h
  exact ⟨mb, RA, Rc, DA, Dc, h.hg, hn _ h.og, hn _ h.om, Kd.R_mono h.rr (fun k hk => ⟨hn k hk.1, hk.2⟩), Kd.R_mono h.rd (fun k hk => ⟨hn k hk.1, hk.2⟩), h.mp⟩
theorem At.lt {W : World} {own : Nat → Prop} {g : Nat} {s : DS} (h : At W own g s) : g < W.heap.size := by
  obtain ⟨mb, RA, Rc, DA, Dc, h⟩ := h
  exact blk_lt h.hg

theorem Asked {W : World} {own : Nat → Prop} {g : Nat} {s : DS} (h : At W own g s) :
    Calls Try.prog 16 #[.pointer (some ⟨g, 0, none⟩)] W fun e w' => e = .returned (.int .i64 s.asked) ∧ Drawn0 W w' := by
  obtain ⟨mb, RA, Rc, DA, Dc, h⟩ := h
  have c3 : W.cell? ⟨g, 3, none⟩ = some (.int .i64 s.asked) := by rw [cell_of_row _ _ _ _ _ _ h.hg]; rfl
  clear h
  go_enter Try.func16, Try.ntmps16
  go_wp2_with fail
  go_ret
  exact ⟨rfl, ⟨0, rfl⟩⟩
theorem Deeds {W : World} {own : Nat → Prop} {g : Nat} {s : DS} (h : At W own g s) (hl : s.deeds.length ≤ 1000000) :
    Calls Try.prog 15 #[.pointer (some ⟨g, 0, none⟩)] W (Made k53 42 W s.deeds) := by
  obtain ⟨mb, RA, Rc, DA, Dc, h⟩ := h
  have c1 : W.cell? ⟨g, 1, none⟩ = some (.slice DA s.deeds.length Dc) := by rw [cell_of_row _ _ _ _ _ _ h.hg]; rfl
  have HC := Aside0.mk (CloneD DA Dc s.deeds W (Kd.R_reads' h.rd).2.2 (Kd.R_reads' h.rd).2.1 hl)
  clear h
  go_enter Try.func15, Try.ntmps15
  go_wp2_with fail
  refine HC.out.mono ?_; rintro e w1 ⟨v, rfl, hR, hB⟩
  go_wp2_with fail
  go_ret
  exact ⟨_, rfl, hR, hB⟩
theorem Done {W : World} {own : Nat → Prop} {g : Nat} {s : DS} (h : At W own g s) (hl : s.deeds.length ≤ 1000000) :
    Calls Try.prog 18 #[.pointer (some ⟨g, 0, none⟩)] W (Made Kd.string 9 W (pick (fun x => x.f2) s.deeds)) := by
  obtain ⟨mb, RA, Rc, DA, Dc, h⟩ := h
  have c1 : W.cell? ⟨g, 1, none⟩ = some (.slice DA s.deeds.length Dc) := by rw [cell_of_row _ _ _ _ _ _ h.hg]; rfl
  have HC := Aside0.mk (Picked31 DA Dc s.deeds W (Kd.R_reads' h.rd).2.2 (Kd.R_reads' h.rd).2.1 hl)
  clear h
  go_enter Try.func18, Try.ntmps18
  go_wp2_with fail
  refine HC.out.mono ?_; rintro e w1 ⟨v, rfl, hR, hB⟩
  go_wp2_with fail
  go_ret
  exact ⟨_, rfl, hR, hB⟩
def uniq (l : List ByteArray) : List ByteArray := l.foldl (fun out s => if hasS out s = true then out else out ++ [s]) []
theorem uniq_snoc (l : List ByteArray) (x : ByteArray) : uniq (l ++ [x]) = if hasS (uniq l) x = true then uniq l else uniq l ++ [x] := by
  unfold uniq; rw [List.foldl_append]; rfl
theorem uniq_len (l : List ByteArray) : (uniq l).length ≤ l.length := by
  have key : ∀ (l out : List ByteArray), (l.foldl (fun out s => if hasS out s = true then out else out ++ [s]) out).length ≤ out.length + l.length := by
    intro l
    induction l with
    | nil => intro out; simp
    | cons x l ih =>
      intro out
      rw [List.foldl_cons]
      refine Nat.le_trans (ih _) ?_
      split
      · simp
      · simp; omega
  have := key l []
  unfold uniq
  simpa using this
theorem Refused {W : World} {own : Nat → Prop} {g : Nat} {s : DS} (h : At W own g s) (hl : s.deeds.length ≤ 1000000) :
    Calls Try.prog 17 #[.pointer (some ⟨g, 0, none⟩)] W (Made Kd.string 9 W (uniq (pick (fun x => !x.f2) s.deeds))) := by
  obtain ⟨mb, RA, Rc, DA, Dc, h⟩ := h
  have c1 : W.cell? ⟨g, 1, none⟩ = some (.slice DA s.deeds.length Dc) := by rw [cell_of_row _ _ _ _ _ _ h.hg]; rfl
  have HC := Aside0.mk (Picked28 DA Dc s.deeds W (Kd.R_reads' h.rd).2.2 (Kd.R_reads' h.rd).2.1 hl)
  have hl2 := Nat.le_trans (pick_len (fun x => !x.f2) s.deeds) hl
  obtain ⟨l, hl3⟩ : ∃ l, l = pick (fun x => !x.f2) s.deeds := ⟨_, rfl⟩
  rw [← hl3] at HC hl2 ⊢
  clear h hl3 hl
  go_enter Try.func17, Try.ntmps17
  go_wp2_with fail
  refine HC.out.mono ?_; rintro e w1 ⟨v, rfl, hR, hB⟩
  obtain ⟨A, c, rfl, hc, hC⟩ := Kd.R_reads hR
  have HB1 := Aside0.mk hB
  have HC1 := Aside0.mk (Kd.R_mono (Kd.R_bound hR) (ok' := fun k => k < w1.heap.size) (fun k hk => hk.2.2.1))
  clear hR hB hC HC c1
  go_wp2_with fail
  go_loopg [3, 12] (l.length + 1) (fun kq v3 v12 w' => ∃ (j : Nat), v12 = .int .i64 (j : Int) ∧ Aside0 (kq + j = l.length + 1 ∧ j ≤ l.length) ∧ Aside0 (Kd.R Kd.string 9 w' W.heap.size (fun k => w1.heap.size ≤ k) v3 (uniq (l.take j)) ∧ w1.heap.size ≤ w'.heap.size) ∧ Aside0 (Kd.R Kd.string 9 w' W.heap.size (fun k => k < w1.heap.size) (.slice A l.length c) l) ∧ Aside0 (Below W.heap.size W w'))
  case atStart => exact ⟨0, rfl, ⟨by omega, by omega⟩, ⟨Kd.R_nil _ _ _ _ _, Nat.le_refl _⟩, HC1, HB1⟩
  case round =>
    clear HC1 HB1
    obtain ⟨j, rfl, HK, HO, HC, HB⟩ := hrel
    cases gk with
    | zero => exact absurd HK.out (by omega)
    | succ k1 =>
      by_cases hj : j < l.length
      · have c14 : decide ((j : Int) < (l.length : Int)) = true := decide_eq_true (by omega)
        have p0 : (0 : Int) ≤ (j : Int) := by omega
        have q0 : (j : Int) < (l.length : Int) := by omega
        obtain ⟨ad, e7, hx⟩ := Kd.at_string (Kd.R_reads' HC.out).2.2 (j : Int) p0 q0
        cases e7
        obtain ⟨o, ho⟩ : ∃ o, o = rdOf ByteArray.empty l (j : Int) := ⟨_, rfl⟩
        simp only [Int.toNat_natCast] at hx
        have ho2 : o = l[j] := by rw [ho]; simp [rdOf, List.getD_eq_getElem?_getD, List.getElem?_eq_getElem hj]
        rw [← ho] at hx
        have hp := uniq_snoc (l.take j) o
        rw [ho2, ← List.take_succ_eq_append_getElem hj, ← ho2] at hp
        have HP := Aside0.mk hp
        have HPL := Aside0.mk (show (uniq (l.take j)).length ≤ 1000000 from Nat.le_trans (uniq_len _) (by rw [List.length_take]; omega))
        clear ho ho2 hp
        have ej : IntKind.i64.wrap ((j : Int) + 1) = ((j + 1 : Nat) : Int) := by rw [IntKind.wrap_i64]; omega
        obtain ⟨A3, c3, rfl, hc3, hC3⟩ := Kd.R_reads HO.out.1
        have HC3 := Aside0.mk hC3
        clear hC3
        obtain ⟨b, hb⟩ : ∃ b, b = hasS (uniq (l.take j)) o := ⟨_, rfl⟩
        have CS := Aside0.mk (ContainsS A3 c3 (uniq (l.take j)) o wr HC3.out hc3 HPL.out)
        rw [← hb] at CS HP
        clear hb
        obtain ⟨ul, hul⟩ : ∃ ul, ul = uniq (l.take j) := ⟨_, rfl⟩
        rw [← hul] at HO HC3 CS HP HPL hc3 ⊢
        clear hul
        go_wp2_with fail
        refine CS.out.mono ?_; rintro e w3 ⟨rfl, ⟨m3, rfl⟩⟩
        cases b
        · have HP2 := Aside0.mk (HP.out.trans (if_neg (by decide)))
          clear HP CS
          go_wp2_with ((with_reducible refine gate_builtin (b := .append) (xs := #[.tmp 20, .tmp 22]) rfl ?_); at_builtin; refine Kd.R_append Kd.string (w0 := W) W.heap.size rfl (.tmp 20) (.tmp 22) 44 9 (.string ⟨#[]⟩) 16 rfl Try.underlying44 info9 rfl (by decide) (by omega) (.slice A3 ul.length c3) ul o [.string o] (fun k => w1.heap.size ≤ k) (fun _ => False) rfl rfl ?aP (fun _ hk => hk.elim) ?aF ?aO ?aB ?aS ?aL ?_; (case aP => exact rfl); (case aB => exact (pw_below_drewN HB.out m3)); (case aF => exact (fun k hk => Nat.le_trans HO.out.2 hk)); (case aO => exact (Kd.R_drewN HO.out.1 m3)); (case aS => exact (below_size (pw_below_drewN HB.out m3))); (case aL => have := HPL.out; omega); intro v9 w9 ho hb hg hat; rw [← HP2.out] at ho; have HB9 := Aside0.mk hb; have HO9 := Aside0.mk ho; have HG9 := Aside0.mk hg; clear ho hb hg hat)
          have HC9 := Aside0.mk (Kd.R_kept HC.out (Kept.of_grown HG9.out ((Kept.refl wr (fun k => w1.heap.size ≤ k)).drewN m3) (fun k hk => .inl (HO.out.1.1 k hk.symm.symm))) (fun k hk hn => by omega))
          have HS9 := Aside0.mk (show w1.heap.size ≤ w9.heap.size from Nat.le_trans HO.out.2 HG9.out.size)
          go_roundg k1
          case measure => omega
          case rel => exact ⟨j + 1, by first | (simp; done) | rw [ej], ⟨by have := HK.out; omega, by omega⟩, ⟨HO9.out, HS9.out⟩, HC9, HB9⟩
        · have HP2 := Aside0.mk (HP.out.trans (if_pos rfl))
          clear HP CS
          go_wp2_with fail
          have HO9 := Aside0.mk (show Kd.R Kd.string 9 (wr.drewN m3) W.heap.size (fun k => w1.heap.size ≤ k) (.slice A3 ul.length c3) (uniq (l.take (j + 1))) by rw [HP2.out]; exact Kd.R_drewN HO.out.1 m3)
          go_roundg k1
          case measure => omega
          case rel => exact ⟨j + 1, by first | (simp; done) | rw [ej], ⟨by have := HK.out; omega, by omega⟩, ⟨HO9.out, HO.out.2⟩, ⟨Kd.R_drewN HC.out m3⟩, ⟨pw_below_drewN HB.out m3⟩⟩
      · have c14 : decide ((j : Int) < (l.length : Int)) = false := decide_eq_false (by omega)
        have HO9 := HO
        rw [List.take_of_length_le (by omega)] at HO9
        clear HK HO
        go_wp2_with fail
        go_ret
        exact ⟨_, rfl, Kd.R_mono HO9.out.1 (fun _ _ => trivial), HB.out⟩
theorem New (A : Option Addr) (c : Nat) (l : List Int) (w : World) (hr : Kd.C (Kd.int .i64) w A l.length l) (hc : l.length ≤ c) (hl : l.length ≤ 1000000) :
    Calls Try.prog 11 #[.slice A l.length c] w fun e w' => ∃ g, e = .returned (.pointer (some ⟨g, 0, none⟩)) ∧ At w' (fun k => w.heap.size ≤ k ∧ k < w'.heap.size) g ⟨l, [], 0⟩ ∧ Below w.heap.size w w' := by
  have HC := Aside0.mk (CloneI A c l w hr hc hl)
  clear hr
  go_enter Try.func11, Try.ntmps11
  go_wp2_with fail
  refine HC.out.mono ?_; rintro e w1 ⟨v, rfl, hR, hB⟩
  obtain ⟨A1, c1, rfl, hc1, hC1⟩ := Kd.R_reads hR
  have HR := Aside0.mk hR; have HB := Aside0.mk hB; clear hR hB hC1 HC
  have hm := Go.run_makeMap_plain (P := Try.prog) (w := w1) 50
  go_wp2_with fail
  go_ret
  have hg := Aid.heap_new (w1.alloc (Obj.map #[] 0)) (Obj.cells #[.slice A1 l.length c1, .slice none 0 0, .map (some w1.heap.size), .int .i64 0] 52)
  obtain ⟨w2, hw2⟩ : ∃ w2, w2 = (w1.alloc (Obj.map #[] 0)).alloc (Obj.cells #[.slice A1 l.length c1, .slice none 0 0, .map (some w1.heap.size), .int .i64 0] 52) := ⟨_, rfl⟩
  rw [← hw2] at hg ⊢
  have hb2 : Below w1.heap.size w1 w2 := by rw [hw2]; exact ((Below.refl _ _).alloc (Nat.le_refl _) _).alloc (by simp) _
  have hz : w2.heap.size = w1.heap.size + 2 := by rw [hw2]; simp
  rw [show (w1.alloc (Obj.map #[] 0)).heap.size = w1.heap.size + 1 by simp] at hg
  have hs := HB.out.size
  refine ⟨_, rfl, ⟨w1.heap.size, A1, c1, none, 0, hg, ⟨by omega, by omega⟩, ⟨by omega, by omega⟩, ?_, ?_, ?_⟩, Aid.bthen HB.out hb2⟩
  · have h1 := Kd.R_bound HR.out
    have h2 := Kd.R_kept h1 (Kept.of_below hb2 (fun _ => False)) (fun _ _ hf => hf)
    exact Kd.R_mono (Kd.R_lower h2 (Nat.zero_le _)) (fun k hk => ⟨⟨hk.2.1, by have := hk.2.2.1; omega⟩, by have := hk.2.2.1; omega, by have := hk.2.2.1; omega⟩)
  · exact Kd.R_nil _ _ _ _ _
  · have hm2 := (MapIs.made w1).move (W' := w2) (by rw [hw2]; exact Below.heap_alloc _ _ _ (by simp))
    exact hm2.same (fun i => rfl)
/-- What an ask makes of a dealer. -/
def DS.ask (s : DS) (id : Int) (name : ByteArray) : Bool × DS :=
  match known s.deeds id with
  | some b => (b, { s with asked := s.asked + 1 })
  | none => (!decide (id ∈ s.refuses), { s with deeds := s.deeds ++ [⟨id, name, !decide (id ∈ s.refuses)⟩], asked := s.asked + 1 })
theorem known_snoc (l : List S53) (x : S53) (h : known l x.f0 = none) (i : Int) : upd (known l) x.f0 x.f2 i = known (l ++ [x]) i := by
  unfold upd known at *
  rw [List.find?_append]
  by_cases e : i = x.f0
  · subst e
    rw [if_pos rfl]
    have h2 : l.find? (fun d => d.f0 == x.f0) = none := by simpa using h
    rw [h2]
    simp
  · rw [if_neg e]
    have h3 : (x.f0 == i) = false := by simpa using fun hh => e hh.symm
    cases h4 : l.find? (fun d => d.f0 == i) with
    | some y => simp
    | none => simp [List.find?_cons, h3]
def Asked1 (own : Nat → Prop) (g : Nat) (w : World) (r : Bool) (t : DS) (e : Ending) (w' : World) : Prop :=
  e = .returned (.bool r) ∧ At w' (fun k => own k ∨ (w.heap.size ≤ k ∧ k < w'.heap.size)) g t ∧ Only own w w'
theorem Ask {w : World} {own : Nat → Prop} {g : Nat} {s : DS} (h : At w own g s) (id : Int) (name : ByteArray) (hi : wfI id) (ha : 0 ≤ s.asked ∧ s.asked ≤ 1000000) (hl : s.deeds.length ≤ 100000) (hrl : s.refuses.length ≤ 100000) :
    Calls Try.prog 13 #[.pointer (some ⟨g, 0, none⟩), .int .i64 id, .string name] w (Asked1 own g w (s.ask id name).1 (s.ask id name).2) := by
  obtain ⟨mb, RA, Rc, DA, Dc, h⟩ := h
  have hne : g ≠ mb := by
    intro e
    obtain ⟨D, ⟨es, clock, hb, _⟩, _⟩ := h.mp
    rw [← e, h.hg] at hb
    cases hb
  have c0 : w.cell? ⟨g, 0, none⟩ = some (.slice RA s.refuses.length Rc) := by rw [cell_of_row _ _ _ _ _ _ h.hg]; rfl
  have c1 : w.cell? ⟨g, 1, none⟩ = some (.slice DA s.deeds.length Dc) := by rw [cell_of_row _ _ _ _ _ _ h.hg]; rfl
  have c2 : w.cell? ⟨g, 2, none⟩ = some (.map (some mb)) := by rw [cell_of_row _ _ _ _ _ _ h.hg]; rfl
  have c3 : w.cell? ⟨g, 3, none⟩ = some (.int .i64 s.asked) := by rw [cell_of_row _ _ _ _ _ _ h.hg]; rfl
  have f3 : w.frozen? ⟨g, 3, none⟩ = false := blk_frozen h.hg 3
  have ea : IntKind.i64.wrap (s.asked + 1) = s.asked + 1 := by rw [IntKind.wrap_i64]; omega
  have HH := Aside0.mk h; clear h
  have HNE := Aside0.mk hne; clear hne
  go_enter Try.func13, Try.ntmps13
  go_upto_region 2 with fail
  obtain ⟨w1, hw1⟩ : ∃ w1, w1 = w.setCell ⟨g, 3, none⟩ (.int .i64 (s.asked + 1)) := ⟨_, rfl⟩
  rw [← hw1]
  have ho1 : Only own w w1 := by rw [hw1]; exact (Only.refl own w).set HH.out.og 3 _
  have hk1 : Kept w w1 (fun k => k = g) := by rw [hw1]; exact (Kept.refl w (fun k => k = g)).setCell (p := ⟨g, 3, none⟩) (.inl rfl) _
  have hx1 : AtX w1 own g mb RA Rc DA Dc { s with asked := s.asked + 1 } :=
    ⟨by rw [hw1]; exact heap_setCell_same w g 3 _ 52 _ HH.out.hg, HH.out.og, HH.out.om, Kd.R_kept HH.out.rr hk1 (fun k hk e => hk.2.1 e), Kd.R_kept HH.out.rd hk1 (fun k hk e => hk.2.1 e), HH.out.mp.move (hk1.2 mb HH.out.mp.lt (fun e => HNE.out e.symm))⟩
  have HX1 := Aside0.mk hx1
  have HO1 := Aside0.mk ho1
  clear c0 c1 c2 c3 f3 hw1 ho1 hk1 hx1 ea HH
  have c0 : w1.cell? ⟨g, 0, none⟩ = some (.slice RA s.refuses.length Rc) := by rw [cell_of_row _ _ _ _ _ _ HX1.out.hg]; rfl
  have c2 : w1.cell? ⟨g, 2, none⟩ = some (.map (some mb)) := by rw [cell_of_row _ _ _ _ _ _ HX1.out.hg]; rfl
  have lk := HX1.out.mp.look id hi
  have lk2 : (Instr.lookup 50 (.map (some mb)) (.int .i64 id) true).run Try.prog w1 = .ok (.tuple #[.bool ((known s.deeds id).getD false), .bool (known s.deeds id).isSome]) w1 := lk
  clear lk
  cases hk : known s.deeds id with
  | some b =>
    have HE := Aside0.mk (show s.ask id name = (b, { s with asked := s.asked + 1 }) by unfold DS.ask; rw [hk])
    rw [hk] at lk2
    have lk3 : (Instr.lookup 50 (.map (some mb)) (.int .i64 id) true).run Try.prog w1 = .ok (.tuple #[.bool b, .bool true]) w1 := lk2
    clear lk2 hk
    go_wp2_with fail
    go_ret
    rw [HE.out]
    exact ⟨rfl, At.mono ⟨mb, RA, Rc, DA, Dc, HX1.out⟩ (fun k hk => .inl hk), HO1.out⟩
  | none =>
    have HE := Aside0.mk (show s.ask id name = (!decide (id ∈ s.refuses), { s with deeds := s.deeds ++ [⟨id, name, !decide (id ∈ s.refuses)⟩], asked := s.asked + 1 }) by unfold DS.ask; rw [hk])
    rw [hk] at lk2
    have lk3 : (Instr.lookup 50 (.map (some mb)) (.int .i64 id) true).run Try.prog w1 = .ok (.tuple #[.bool false, .bool false]) w1 := lk2
    have HKN := Aside0.mk hk
    clear lk2 hk
    have CT := Aside0.mk (Contains RA Rc s.refuses id w1 (Kd.R_reads' HX1.out.rr).2.2 (Kd.R_reads' HX1.out.rr).2.1 (by omega))
    obtain ⟨v, hv⟩ : ∃ v, v = !decide (id ∈ s.refuses) := ⟨_, rfl⟩
    rw [show decide (id ∈ s.refuses) = !v by rw [hv]; simp] at CT
    rw [← hv] at HE
    clear hv
    go_wp2_with fail
    refine CT.out.mono ?_; rintro e w2 ⟨rfl, ⟨m, rfl⟩⟩
    obtain ⟨w2, hw2⟩ : ∃ w2, w2 = w1.drewN m := ⟨_, rfl⟩
    rw [← hw2]
    have hx2 : AtX w2 own g mb RA Rc DA Dc { s with asked := s.asked + 1 } := by rw [hw2]; exact HX1.out.keep ((Kept.refl w1 (fun _ => False)).drewN m) (fun _ _ hf => hf)
    have ho2 : Only own w w2 := by rw [hw2]; exact HO1.out.drewN m
    have HX2 := Aside0.mk hx2
    have HO2 := Aside0.mk ho2
    clear c0 c2 hw2 hx2 ho2 lk3 CT HX1 HO1
    have c2 : w2.cell? ⟨g, 2, none⟩ = some (.map (some mb)) := by rw [cell_of_row _ _ _ _ _ _ HX2.out.hg]; rfl
    obtain ⟨w3, hrun, hm3, hg3⟩ := HX2.out.mp.store id hi v (Nat.lt_of_le_of_lt hl (by decide))
    have HM3 := Aside0.mk hm3
    have HG3 := Aside0.mk hg3
    clear hm3 hg3
    go_upto_region 6 with fail
    clear hrun c2
    have hk3 : Kept w2 w3 (fun k => k = mb) := Kept.of_grown HG3.out (Kept.refl _ _) (fun k e => .inl (by injection e with e; exact e.symm))
    have hb3 := blk_kept HX2.out.hg hk3 HNE.out
    have HR3 := Aside0.mk (Kd.R_kept HX2.out.rr hk3 (fun k hk e => hk.2.2 e))
    have HD3 := Aside0.mk (Kd.R_kept HX2.out.rd hk3 (fun k hk e => hk.2.2.1 e))
    have HO3 := Aside0.mk (HO2.out.grown HG3.out (fun k e => .inl (by injection e with e; rw [← e]; exact HX2.out.om)))
    have HB3 := Aside0.mk hb3
    have HOG := Aside0.mk HX2.out.og
    have HOM := Aside0.mk HX2.out.om
    have c1 : w3.cell? ⟨g, 1, none⟩ = some (.slice DA s.deeds.length Dc) := by rw [cell_of_row _ _ _ _ _ _ hb3]; rfl
    clear hk3 hb3 HX2 HO2 HG3
    go_wp2_with ((with_reducible refine gate_builtin (b := .append) (xs := #[.tmp 44, .tmp 49]) rfl ?_); at_builtin; refine Kd.R_append k53 (w0 := w3) 0 rfl (.tmp 44) (.tmp 49) 38 42 (.agg #[.int .i64 0, .string ⟨#[]⟩, .bool false]) 32 rfl Try.underlying38 info42 rfl (by decide) (by omega) (.slice DA s.deeds.length Dc) s.deeds (⟨id, name, v⟩ : S53) [.int .i64 id, .string name, .bool v] (fun k => (own k ∧ k ≠ g ∧ k ≠ mb ∧ some k ≠ (Value.slice RA s.refuses.length Rc).ownBlock) ∨ w3.heap.size ≤ k) (fun _ => False) rfl rfl ?aP (fun _ hk => hk.elim) ?aF ?aO ?aB ?aS ?aL ?_; (case aP => exact k53_mkM _ _ _ (⟨id, name, v⟩ : S53)); (case aB => exact Below.refl _ _); (case aF => exact (fun k hk => .inr hk)); (case aO => exact Kd.R_mono HD3.out (fun k hk => .inl hk)); (case aS => exact Nat.zero_le _); (case aL => omega); intro v9 w9 ho hb hg hat; obtain ⟨A9, c9, e9⟩ := Kd.R_slice ho; subst e9; have hk9 := Kept.of_grown hg (Kept.refl w3 (fun k => (Value.slice DA s.deeds.length Dc).ownBlock = some k)) (fun k e => .inl e); have hb9 := blk_kept HB3.out hk9 (fun e => (HD3.out.1 g e).2.1 rfl); have c1' : w9.cell? ⟨g, 1, none⟩ = some (.slice DA s.deeds.length Dc) := (by rw [cell_of_row _ _ _ _ _ _ hb9]; rfl); have f1' := blk_frozen hb9 1; have HD9 := Aside0.mk ho; have HK9 := Aside0.mk hk9; have HB9 := Aside0.mk hb9; have HG9 := Aside0.mk hg; clear ho hb hg hat hk9 hb9 c1)
    go_ret
    rw [HE.out]
    obtain ⟨w10, hw10⟩ : ∃ w10, w10 = w9.setCell ⟨g, 1, none⟩ (Value.slice A9 (s.deeds.length + 1) c9) := ⟨_, rfl⟩
    rw [← hw10]
    have hk10 : Kept w9 w10 (fun k => k = g) := by rw [hw10]; exact (Kept.refl w9 (fun k => k = g)).setCell (p := ⟨g, 1, none⟩) (.inl rfl) _
    have hz : w10.heap.size = w9.heap.size := by rw [hw10]; simp
    have hs3 := HO3.out.size
    have hs9 := HG9.out.size
    refine ⟨rfl, ⟨mb, RA, Rc, A9, c9, ?_, .inl HOG.out, .inl HOM.out, ?_, ?_, ?_⟩, ?_⟩
    · have h1 : w10.heap[g]? = some (.cells #[.slice RA s.refuses.length Rc, .slice A9 (s.deeds.length + 1) c9, .map (some mb), .int .i64 (s.asked + 1)] 52 (0, 0)) := by rw [hw10]; exact heap_setCell_same w9 g 1 _ 52 _ HB9.out
      show w10.heap[g]? = some (.cells #[_, .slice A9 (s.deeds ++ [(⟨id, name, v⟩ : S53)]).length c9, _, _] 52 (0, 0))
      rw [List.length_append]
      exact h1
    · have h1 : Kd.R (Kd.int .i64) 3 w3 0 (fun k => (own k ∧ k ≠ g ∧ k ≠ mb) ∧ (Value.slice RA s.refuses.length Rc).ownBlock = some k) (.slice RA s.refuses.length Rc) s.refuses := Kd.R_flat (fun h => h) HR3.out (fun k e h => ⟨h, e⟩)
      have h2 := Kd.R_kept h1 HK9.out (fun k hk e => (HD3.out.1 k e).2.2.2 hk.2.symm)
      exact Kd.R_kept (Kd.R_mono h2 (fun k hk => ⟨.inl hk.1.1, hk.1.2⟩)) hk10 (fun k hk e => hk.2.1 e)
    · refine Kd.R_kept (Kd.R_mono (Kd.R_bound HD9.out) ?_) hk10 (fun k hk e => hk.2.1 e)
      intro k hk
      rcases hk.1 with h1 | h1
      · exact ⟨.inl h1.1, h1.2⟩
      · have h2 := hk.2.2.1
        have h3 := blk_lt HB3.out
        have h4 := HM3.out.lt
        refine ⟨.inr ⟨by omega, by omega⟩, by omega, by omega, fun e => ?_⟩
        have h5 := ((Kd.R_bound HR3.out).1 k e.symm).2.2.1
        omega
    · have hlt := HM3.out.lt
      have e1 : w10.heap[mb]? = w3.heap[mb]? := (hk10.2 mb (by omega) (fun e => HNE.out e.symm)).trans (HK9.out.2 mb hlt (fun e => (HD3.out.1 mb e).2.2.1 rfl))
      have h1 := (HM3.out.move e1).same (known_snoc s.deeds ⟨id, name, v⟩ HKN.out)
      show MapIs w10 mb (s.deeds ++ [(⟨id, name, v⟩ : S53)]).length _
      rw [List.length_append]
      exact h1
    · rw [hw10]
      exact (HO3.out.grown HG9.out (fun k e => .inl (HD3.out.1 k e).1)).set HOG.out 1 _
end Deal
end Go.Proofs.Ytohenapbgencbaa
