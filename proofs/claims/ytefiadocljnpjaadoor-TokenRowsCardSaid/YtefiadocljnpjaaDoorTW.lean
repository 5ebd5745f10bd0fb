/- Layer 5: the law TokenWords (printed by wip/lex/genW.py). -/
import Derived.Test.YtefiadocljnpjaaDoorTJ
import Derived.Laws.Bits128
namespace Go.Proofs.YtefiadocljnpjaaDoor.Row
open Go.Proofs.Tree Go.RowKit Go.Proofs.YtefiadocljnpjaaDoorW.PrintWords Go.Proofs.YtefiadocljnpjaaDoorW.PrintLast Go.Proofs.YtefiadocljnpjaaDoorW.PrintMore Go.Proofs.YtefiadocljnpjaaDoor.PK
set_option linter.unusedVariables false
set_option linter.unusedSimpArgs false
set_option maxHeartbeats 4000000
set_option maxRecDepth 100000
attribute [local go_sem high] eqA37
theorem i64_and1 (n : Int) : bits .and .i64 n 1 = n % 2 := by
  have h1 : (BitVec.ofInt 64 1).toNat = 2 ^ 1 - 1 := by decide
  have key : (BitVec.ofInt 64 n &&& BitVec.ofInt 64 1).toNat = (n % ((2 ^ 64 : Nat) : Int)).toNat % 2 ^ 1 := by
    rw [BitVec.toNat_and, BitVec.toNat_ofInt, h1, Nat.and_two_pow_sub_one_eq_mod]
  show IntKind.i64.wrap ((BitVec.ofInt 64 n &&& BitVec.ofInt 64 1).toNat : Nat) = n % 2
  rw [key, IntKind.wrap_i64]
  omega
def blockW (W : World) (g : Nat) : Prop := W.heap[g]? = some (.cells (fw.map Value.string).toArray 9 (0, 0))
theorem LexOne (n : ByteArray) (hn : Nam n) (W : World) : Calls Tryd.prog 22 #[.string n] W fun e w' => ∃ A c, e = .returned (.tuple #[.slice (some A) 1 c, .int .i64 (n.size : Int), .int .i64 0]) ∧ w'.cell? A = some (.int .i64 10) ∧ w'.cell? ⟨A.block, A.off + 1, none⟩ = some (.int .i64 0) ∧ w'.cell? ⟨A.block, A.off + 2, none⟩ = some (.string n) ∧ Below W.heap.size W w' := by
  have h := lex_one 10 n (.inl ⟨rfl, hn⟩)
  have e : tx 10 n = n := by unfold tx; rw [if_pos rfl]
  rw [e] at h
  refine (Lex n _ h W).mono ?_
  rintro e w' ⟨A, c, rfl, hc, hC, hB⟩
  obtain ⟨ad, ead, x0, x1, x2⟩ := at_T37 (show Kd.C k37 w' A 1 (([⟨10, 0, n⟩] : List S34).map t37) from hC) 0 (by decide) (by decide)
  subst ead
  have e0 : ad.add (Int.toNat 0 * 3) = ad := by show ad.add 0 = ad; unfold Addr.add; rw [if_pos rfl]
  rw [e0] at x0 x1 x2
  exact ⟨ad, c, rfl, x0, x1, x2, hB⟩
theorem WordC (n : ByteArray) (r : Int) (h : redressref05_Word.f n = some r) (w : World) : Calls Tryd.prog 29 #[.string n] w fun e w' => e = .returned (.int .i64 r) ∧ Below w.heap.size w w' :=
  (redressref05_Word.calls n r w h).mono fun e w' ⟨he, hd⟩ => ⟨he, hd.below⟩
theorem nam0 : Nam ⟨#[115, 107, 105, 112]⟩ := by decide +kernel
theorem word0 : redressref05_Word.f ⟨#[115, 107, 105, 112]⟩ = some 1 := by decide +kernel
theorem cellW0 {W : World} {g : Nat} (h : blockW W g) : W.cell? ⟨g, 0, none⟩ = some (.string ⟨#[115, 107, 105, 112]⟩) := by
  unfold blockW at h
  rw [cell_of_row _ _ _ _ _ _ h]; rfl
theorem nam1 : Nam ⟨#[116, 104, 114, 111, 119]⟩ := by decide +kernel
theorem word1 : redressref05_Word.f ⟨#[116, 104, 114, 111, 119]⟩ = some 2 := by decide +kernel
theorem cellW1 {W : World} {g : Nat} (h : blockW W g) : W.cell? ⟨g, 1, none⟩ = some (.string ⟨#[116, 104, 114, 111, 119]⟩) := by
  unfold blockW at h
  rw [cell_of_row _ _ _ _ _ _ h]; rfl
theorem nam2 : Nam ⟨#[121, 105, 101, 108, 100]⟩ := by decide +kernel
theorem word2 : redressref05_Word.f ⟨#[121, 105, 101, 108, 100]⟩ = some 3 := by decide +kernel
theorem cellW2 {W : World} {g : Nat} (h : blockW W g) : W.cell? ⟨g, 2, none⟩ = some (.string ⟨#[121, 105, 101, 108, 100]⟩) := by
  unfold blockW at h
  rw [cell_of_row _ _ _ _ _ _ h]; rfl
theorem nam3 : Nam ⟨#[115, 107, 105, 112, 112]⟩ := by decide +kernel
theorem word3 : redressref05_Word.f ⟨#[115, 107, 105, 112, 112]⟩ = some 4 := by decide +kernel
theorem cellW3 {W : World} {g : Nat} (h : blockW W g) : W.cell? ⟨g, 3, none⟩ = some (.string ⟨#[115, 107, 105, 112, 112]⟩) := by
  unfold blockW at h
  rw [cell_of_row _ _ _ _ _ _ h]; rfl
theorem nam4 : Nam ⟨#[116, 104, 114, 111, 119, 119]⟩ := by decide +kernel
theorem word4 : redressref05_Word.f ⟨#[116, 104, 114, 111, 119, 119]⟩ = some 5 := by decide +kernel
theorem cellW4 {W : World} {g : Nat} (h : blockW W g) : W.cell? ⟨g, 4, none⟩ = some (.string ⟨#[116, 104, 114, 111, 119, 119]⟩) := by
  unfold blockW at h
  rw [cell_of_row _ _ _ _ _ _ h]; rfl
theorem nam5 : Nam ⟨#[121, 105, 101, 108, 100, 100]⟩ := by decide +kernel
theorem word5 : redressref05_Word.f ⟨#[121, 105, 101, 108, 100, 100]⟩ = some 6 := by decide +kernel
theorem cellW5 {W : World} {g : Nat} (h : blockW W g) : W.cell? ⟨g, 5, none⟩ = some (.string ⟨#[121, 105, 101, 108, 100, 100]⟩) := by
  unfold blockW at h
  rw [cell_of_row _ _ _ _ _ _ h]; rfl
theorem TokenWords (k : Int) (w : World) (hL : Laid5 w) : Calls Tryd.prog 8 #[.int .i64 k] w fun e w' => e = .returned (.bool true) ∧ Below w.heap.size w w' := by
  have HL := Aside0.mk hL
  clear hL
  have hk : k % 2 = 0 ∨ k % 2 = 1 := by omega
  go_enter Tryd.func8, Tryd.ntmps8
  go_wp2_with fail
  refine (Words _ HL.out).mono ?_; rintro e w1 ⟨rfl, e1⟩
  obtain ⟨g, hg⟩ : ∃ g, g = w.heap.size := ⟨_, rfl⟩
  have h1 : Below w.heap.size w w1 := by rw [e1]; exact below_alloc (Below.refl _ _) _
  have hx : blockW w1 g := by unfold blockW; rw [e1, hg]; exact heap_new w _
  rw [← hg]
  have HG := Aside0.mk (Nat.le_of_eq hg.symm)
  have H1 := Aside0.mk (And.intro hx h1)
  clear hg e1 h1 hx
  go_wp2_with fail
  go_loopg [12] 7 (fun kq v12 W => ∃ (i : Nat), v12 = .int .i64 (i : Int) ∧ Aside0 (kq + i = 7 ∧ i ≤ 6) ∧ Aside0 (blockW W g ∧ Below w.heap.size w W))
  case atStart => exact ⟨0, rfl, ⟨by omega, by omega⟩, H1⟩
  case round =>
    clear H1
    obtain ⟨i, rfl, HI, HW⟩ := hrel
    cases gk with
    | zero => exact absurd HI.out (by omega)
    | succ k1 =>
      have hi : i = 0 ∨ i = 1 ∨ i = 2 ∨ i = 3 ∨ i = 4 ∨ i = 5 ∨ i = 6 := by have := HI.out; omega
      rcases hi with rfl | rfl | rfl | rfl | rfl | rfl | rfl
      · have z := cellW0 HW.out.1
        go_wp2_with fail
        refine (LexOne _ nam0 _).mono ?_; rintro e w2 ⟨A, c, rfl, x0, x1, x2, h2⟩
        have HW2 := Aside0.mk (show blockW w2 g ∧ Below w.heap.size w w2 from ⟨blk_below HW.out.1 h2, Aid_bthen HW.out.2 h2⟩)
        have HX := Aside0.mk (And.intro x0 (And.intro x1 x2))
        clear h2 z HW x0 x1 x2
        go_wp2_with fail
        refine (WordC _ _ word0 _).mono ?_; rintro e w3 ⟨rfl, h3⟩
        have HW3 := Aside0.mk (show blockW w3 g ∧ Below w.heap.size w w3 from ⟨blk_below HW2.out.1 h3, Aid_bthen HW2.out.2 h3⟩)
        have x0 := pw_cell_below h3 HX.out.1
        have x1 := pw_cell_below h3 HX.out.2.1
        have x2 := pw_cell_below h3 HX.out.2.2
        clear h3 HW2 HX
        go_wp2_with fail
        go_roundg k1
        case measure => omega
        case rel => exact ⟨1, rfl, ⟨by have := HI.out; omega, by omega⟩, HW3⟩
      · have z := cellW1 HW.out.1
        go_wp2_with fail
        refine (LexOne _ nam1 _).mono ?_; rintro e w2 ⟨A, c, rfl, x0, x1, x2, h2⟩
        have HW2 := Aside0.mk (show blockW w2 g ∧ Below w.heap.size w w2 from ⟨blk_below HW.out.1 h2, Aid_bthen HW.out.2 h2⟩)
        have HX := Aside0.mk (And.intro x0 (And.intro x1 x2))
        clear h2 z HW x0 x1 x2
        go_wp2_with fail
        refine (WordC _ _ word1 _).mono ?_; rintro e w3 ⟨rfl, h3⟩
        have HW3 := Aside0.mk (show blockW w3 g ∧ Below w.heap.size w w3 from ⟨blk_below HW2.out.1 h3, Aid_bthen HW2.out.2 h3⟩)
        have x0 := pw_cell_below h3 HX.out.1
        have x1 := pw_cell_below h3 HX.out.2.1
        have x2 := pw_cell_below h3 HX.out.2.2
        clear h3 HW2 HX
        go_wp2_with fail
        go_roundg k1
        case measure => omega
        case rel => exact ⟨2, rfl, ⟨by have := HI.out; omega, by omega⟩, HW3⟩
      · have z := cellW2 HW.out.1
        go_wp2_with fail
        refine (LexOne _ nam2 _).mono ?_; rintro e w2 ⟨A, c, rfl, x0, x1, x2, h2⟩
        have HW2 := Aside0.mk (show blockW w2 g ∧ Below w.heap.size w w2 from ⟨blk_below HW.out.1 h2, Aid_bthen HW.out.2 h2⟩)
        have HX := Aside0.mk (And.intro x0 (And.intro x1 x2))
        clear h2 z HW x0 x1 x2
        go_wp2_with fail
        refine (WordC _ _ word2 _).mono ?_; rintro e w3 ⟨rfl, h3⟩
        have HW3 := Aside0.mk (show blockW w3 g ∧ Below w.heap.size w w3 from ⟨blk_below HW2.out.1 h3, Aid_bthen HW2.out.2 h3⟩)
        have x0 := pw_cell_below h3 HX.out.1
        have x1 := pw_cell_below h3 HX.out.2.1
        have x2 := pw_cell_below h3 HX.out.2.2
        clear h3 HW2 HX
        go_wp2_with fail
        go_roundg k1
        case measure => omega
        case rel => exact ⟨3, rfl, ⟨by have := HI.out; omega, by omega⟩, HW3⟩
      · have z := cellW3 HW.out.1
        go_wp2_with fail
        refine (LexOne _ nam3 _).mono ?_; rintro e w2 ⟨A, c, rfl, x0, x1, x2, h2⟩
        have HW2 := Aside0.mk (show blockW w2 g ∧ Below w.heap.size w w2 from ⟨blk_below HW.out.1 h2, Aid_bthen HW.out.2 h2⟩)
        have HX := Aside0.mk (And.intro x0 (And.intro x1 x2))
        clear h2 z HW x0 x1 x2
        go_wp2_with fail
        refine (WordC _ _ word3 _).mono ?_; rintro e w3 ⟨rfl, h3⟩
        have HW3 := Aside0.mk (show blockW w3 g ∧ Below w.heap.size w w3 from ⟨blk_below HW2.out.1 h3, Aid_bthen HW2.out.2 h3⟩)
        have x0 := pw_cell_below h3 HX.out.1
        have x1 := pw_cell_below h3 HX.out.2.1
        have x2 := pw_cell_below h3 HX.out.2.2
        clear h3 HW2 HX
        go_wp2_with fail
        go_roundg k1
        case measure => omega
        case rel => exact ⟨4, rfl, ⟨by have := HI.out; omega, by omega⟩, HW3⟩
      · have z := cellW4 HW.out.1
        go_wp2_with fail
        refine (LexOne _ nam4 _).mono ?_; rintro e w2 ⟨A, c, rfl, x0, x1, x2, h2⟩
        have HW2 := Aside0.mk (show blockW w2 g ∧ Below w.heap.size w w2 from ⟨blk_below HW.out.1 h2, Aid_bthen HW.out.2 h2⟩)
        have HX := Aside0.mk (And.intro x0 (And.intro x1 x2))
        clear h2 z HW x0 x1 x2
        go_wp2_with fail
        refine (WordC _ _ word4 _).mono ?_; rintro e w3 ⟨rfl, h3⟩
        have HW3 := Aside0.mk (show blockW w3 g ∧ Below w.heap.size w w3 from ⟨blk_below HW2.out.1 h3, Aid_bthen HW2.out.2 h3⟩)
        have x0 := pw_cell_below h3 HX.out.1
        have x1 := pw_cell_below h3 HX.out.2.1
        have x2 := pw_cell_below h3 HX.out.2.2
        clear h3 HW2 HX
        go_wp2_with fail
        go_roundg k1
        case measure => omega
        case rel => exact ⟨5, rfl, ⟨by have := HI.out; omega, by omega⟩, HW3⟩
      · have z := cellW5 HW.out.1
        go_wp2_with fail
        refine (LexOne _ nam5 _).mono ?_; rintro e w2 ⟨A, c, rfl, x0, x1, x2, h2⟩
        have HW2 := Aside0.mk (show blockW w2 g ∧ Below w.heap.size w w2 from ⟨blk_below HW.out.1 h2, Aid_bthen HW.out.2 h2⟩)
        have HX := Aside0.mk (And.intro x0 (And.intro x1 x2))
        clear h2 z HW x0 x1 x2
        go_wp2_with fail
        refine (WordC _ _ word5 _).mono ?_; rintro e w3 ⟨rfl, h3⟩
        have HW3 := Aside0.mk (show blockW w3 g ∧ Below w.heap.size w w3 from ⟨blk_below HW2.out.1 h3, Aid_bthen HW2.out.2 h3⟩)
        have x0 := pw_cell_below h3 HX.out.1
        have x1 := pw_cell_below h3 HX.out.2.1
        have x2 := pw_cell_below h3 HX.out.2.2
        clear h3 HW2 HX
        go_wp2_with fail
        go_roundg k1
        case measure => omega
        case rel => exact ⟨6, rfl, ⟨by have := HI.out; omega, by omega⟩, HW3⟩
      · have HL2 := Aside0.mk (HL.out.below HW.out.2)
        have f0 := blk_frozen (show wr.heap[g]? = some (.cells (fw.map Value.string).toArray 9 (0, 0)) from HW.out.1) 0
        have f1 := blk_frozen (show wr.heap[g]? = some (.cells (fw.map Value.string).toArray 9 (0, 0)) from HW.out.1) 1
        have z0 := cellW0 HW.out.1
        have z1 := cellW1 HW.out.1
        rcases hk with hk | hk
        · have ka : bits .and .i64 k 1 = 0 := by rw [i64_and1, hk]
          clear hk
          go_upto_region 12 with fail
          obtain ⟨w2, hw2⟩ : ∃ w2, w2 = wr.setCell ⟨g, 0, none⟩ (.string ⟨#[120]⟩) := ⟨_, rfl⟩
          rw [← hw2]
          have H2 := Aside0.mk (show Laid5 w2 ∧ Below w.heap.size w w2 by rw [hw2]; exact ⟨laid_set HL.out HW.out.2 HG.out, below_set HW.out.2 HG.out⟩)
          clear hw2 HW HL2 f0 f1 z0 z1
          go_wp2_with fail
          refine (Alive5 _ H2.out.1).mono ?_; rintro e w3 ⟨rfl, h3⟩
          have H3 := Aside0.mk (show Laid5 w3 ∧ Below w.heap.size w w3 from ⟨H2.out.1.below h3, Aid_bthen H2.out.2 h3⟩)
          clear h3 H2
          go_wp2_with fail
          refine (Words _ H3.out.1).mono ?_; rintro e w4 ⟨rfl, e4⟩
          obtain ⟨g4, hg4⟩ : ∃ g4, g4 = w3.heap.size := ⟨_, rfl⟩
          have H4 := Aside0.mk (show Below w.heap.size w w4 by rw [e4]; exact below_alloc H3.out.2 _)
          have hx : blockW w4 g4 := by unfold blockW; rw [e4, hg4]; exact heap_new w3 _
          rw [← hg4]
          have z := cellW0 hx
          clear hg4 e4 hx H3
          go_wp2_with fail
          refine (WordC _ _ word0 _).mono ?_; rintro e w5 ⟨rfl, h5⟩
          have H5 := Aside0.mk (Aid_bthen H4.out h5)
          clear h5 z H4
          go_wp2_with fail
          (try rw [Exit.noGoto_ret])
          go_ret
          exact ⟨rfl, H5.out⟩
        · have ka : bits .and .i64 k 1 = 1 := by rw [i64_and1, hk]
          clear hk
          go_upto_region 12 with fail
          obtain ⟨w2, hw2⟩ : ∃ w2, w2 = wr.setCell ⟨g, 1, none⟩ (.string ⟨#[120]⟩) := ⟨_, rfl⟩
          rw [← hw2]
          have H2 := Aside0.mk (show Laid5 w2 ∧ Below w.heap.size w w2 by rw [hw2]; exact ⟨laid_set HL.out HW.out.2 HG.out, below_set HW.out.2 HG.out⟩)
          clear hw2 HW HL2 f0 f1 z0 z1
          go_wp2_with fail
          refine (Alive5 _ H2.out.1).mono ?_; rintro e w3 ⟨rfl, h3⟩
          have H3 := Aside0.mk (show Laid5 w3 ∧ Below w.heap.size w w3 from ⟨H2.out.1.below h3, Aid_bthen H2.out.2 h3⟩)
          clear h3 H2
          go_wp2_with fail
          refine (Words _ H3.out.1).mono ?_; rintro e w4 ⟨rfl, e4⟩
          obtain ⟨g4, hg4⟩ : ∃ g4, g4 = w3.heap.size := ⟨_, rfl⟩
          have H4 := Aside0.mk (show Below w.heap.size w w4 by rw [e4]; exact below_alloc H3.out.2 _)
          have hx : blockW w4 g4 := by unfold blockW; rw [e4, hg4]; exact heap_new w3 _
          rw [← hg4]
          have z := cellW1 hx
          clear hg4 e4 hx H3
          go_wp2_with fail
          refine (WordC _ _ word1 _).mono ?_; rintro e w5 ⟨rfl, h5⟩
          have H5 := Aside0.mk (Aid_bthen H4.out h5)
          clear h5 z H4
          go_wp2_with fail
          (try rw [Exit.noGoto_ret])
          go_ret
          exact ⟨rfl, H5.out⟩
end Go.Proofs.YtefiadocljnpjaaDoor.Row
