/- alive (layer 5), walked by hand. -/
import Derived.Test.YtefiadocljnpjaaDoorTG
namespace Go.Proofs.YtefiadocljnpjaaDoor.Row
open Go.Proofs.Tree Go.RowKit Go.Proofs.YtefiadocljnpjaaDoorW.PrintWords Go.Proofs.YtefiadocljnpjaaDoorW.PrintLast Go.Proofs.YtefiadocljnpjaaDoorW.PrintMore Go.Proofs.YtefiadocljnpjaaDoor.PK
set_option linter.unusedVariables false
set_option linter.unusedSimpArgs false
set_option maxHeartbeats 4000000
set_option maxRecDepth 100000
theorem eqA37 (d : Nat) (w : World) (x0 y0 : Int) (x1 y1 : Int) (x2 y2 : ByteArray) :
    (Op.equalIn (d + 2) 37 (.agg #[.int .i64 x0, .int .i64 x1, .string x2]) (.agg #[.int .i64 y0, .int .i64 y1, .string y2])).run Tryd.prog w = .ok (x0 == y0 && (x1 == y1 && (x2.toList == y2.toList))) w := by
  refine eqA_of Tryd.underlying37 (by kernel_rfl) ?_
  refine eqf_cons (by rfl) (by go_simp; rfl) (by go_simp; rfl) (by go_simp) ?_
  refine eqf_cons (by rfl) (by go_simp; rfl) (by go_simp; rfl) (by go_simp) ?_
  exact eqf_last (by rfl) (by go_simp; rfl) (by go_simp; rfl) (by go_simp)
attribute [local go_sem high] eqA37
/-- A text whose tokens the kernel finds. -/
theorem lex_of (s : ByteArray) (k : Nat) (R : List S34 × Int × Int) (h : redressref05_Lex.f k s = some R) : LexIs s R := by
  obtain ⟨r, hr⟩ := LexIs.some s
  obtain ⟨K, hK⟩ := RefLex s r hr
  have up : ∀ d : Nat, redressref05_Lex.f (k + d) s = some R := by
    intro d
    induction d with
    | zero => exact h
    | succ d ih => exact redressref05_Lex.mono s (k + d) R ih
  have h1 := up K
  have h2 := hK (k + K) (by omega)
  have e : some R = some r := h1.symm.trans h2
  cases e
  exact hr
def textA : ByteArray := ⟨#[91, 97, 47, 98, 93, 32, 59, 99]⟩
def textB : ByteArray := ⟨#[97, 32, 49]⟩
def textC : ByteArray := ⟨#[59, 32, 97, 98, 99, 100, 101, 102, 103, 104, 105]⟩
def toksA : List S34 := [⟨3, 0, ⟨#[]⟩⟩, ⟨10, 1, ⟨#[97]⟩⟩, ⟨9, 2, ⟨#[]⟩⟩, ⟨10, 3, ⟨#[98]⟩⟩, ⟨4, 4, ⟨#[]⟩⟩, ⟨5, 6, ⟨#[]⟩⟩, ⟨10, 7, ⟨#[99]⟩⟩]
theorem lexA : LexIs textA (toksA, 8, 0) := lex_of textA 40 _ (by kernel_rfl)
theorem lexB : LexIs textB ([], 2, 50) := lex_of textB 40 _ (by kernel_rfl)
theorem lexC : LexIs textC ([], 2, 51) := lex_of textC 40 _ (by kernel_rfl)
theorem printA : tprint 8 ⟨#[]⟩ = (⟨#[62]⟩, true) := by
  have h : Can 8 ⟨#[]⟩ := .inr ⟨by decide, by decide, rfl⟩
  rw [tprint_can 8 _ h]
  exact congrArg (fun x => (x, true)) (show tx 8 ⟨#[]⟩ = ⟨#[62]⟩ by decide +kernel)
theorem printB : tprint 10 ⟨#[]⟩ = (⟨#[]⟩, false) := by
  unfold tprint
  rw [if_pos rfl, if_neg (by decide)]
theorem fw_cells (g : Nat) (W : World) (h : W.heap[g]? = some (.cells (fw.map Value.string).toArray 9 (0, 0))) : W.cell? ⟨g, 4, none⟩ = some (.string ⟨#[116, 104, 114, 111, 119, 119]⟩) := by
  rw [cell_of_row _ _ _ _ _ _ h]; rfl
theorem LexA (W : World) : Calls Tryd.prog 22 #[.string textA] W fun e w' => ∃ A c, e = .returned (.tuple #[.slice A 7 c, .int .i64 8, .int .i64 0]) ∧ 7 ≤ c ∧ Kd.C k37 w' A 7 (toksA.map t37) ∧ Below W.heap.size W w' := Lex textA _ lexA W
theorem LexB (W : World) : Calls Tryd.prog 22 #[.string textB] W fun e w' => ∃ A c, e = .returned (.tuple #[.slice A 0 c, .int .i64 2, .int .i64 50]) ∧ Below W.heap.size W w' := (Lex textB _ lexB W).mono fun e w' ⟨A, c, he, _, _, hb⟩ => ⟨A, c, he, hb⟩
theorem LexC (W : World) : Calls Tryd.prog 22 #[.string textC] W fun e w' => ∃ A c, e = .returned (.tuple #[.slice A 0 c, .int .i64 2, .int .i64 51]) ∧ Below W.heap.size W w' := (Lex textC _ lexC W).mono fun e w' ⟨A, c, he, _, _, hb⟩ => ⟨A, c, he, hb⟩
theorem Alive5 (w : World) (h : Laid5 w) : Calls Tryd.prog 21 #[] w fun e w' => e = .returned (.bool true) ∧ Below w.heap.size w w' := by
  have HL := Aside0.mk h
  clear h
  go_enter Tryd.func21, Tryd.ntmps21
  go_wp2_with fail
  refine (LexA _).mono ?_; rintro e w1 ⟨A, c, rfl, hc, hC, h1⟩
  have HC := Aside0.mk hC
  have H1 := Aside0.mk h1
  clear hc hC h1
  go_wp2_with fail
  refine (LexB _).mono ?_; rintro e w2 ⟨A2, c2, rfl, h2⟩
  have HC2 := Aside0.mk (Kd.C_below HC.out h2)
  have H2 := Aside0.mk (Aid_bthen H1.out h2)
  clear h2 HC H1
  go_wp2_with fail
  refine (LexC _).mono ?_; rintro e w3 ⟨A3, c3, rfl, h3⟩
  have HC3 := Aside0.mk (Kd.C_below HC2.out h3)
  have H3 := Aside0.mk (Aid_bthen H2.out h3)
  clear h3 HC2 H2
  go_wp2_with fail
  refine (Print 8 9 ⟨#[]⟩ _ _ (by decide) printA _).mono ?_; rintro e w4 ⟨rfl, h4⟩
  have HC4 := Aside0.mk (Kd.C_below HC3.out h4)
  have H4 := Aside0.mk (Aid_bthen H3.out h4)
  clear h4 HC3 H3
  go_wp2_with fail
  refine (Print 10 0 ⟨#[]⟩ _ _ (by decide) printB _).mono ?_; rintro e w5 ⟨rfl, h5⟩
  have HC5 := Aside0.mk (Kd.C_below HC4.out h5)
  have H5 := Aside0.mk (Aid_bthen H4.out h5)
  clear h5 HC4 H4
  go_wp2_with fail
  refine (Words _ (HL.out.below H5.out)).mono ?_; rintro e w6' ⟨rfl, e6⟩
  obtain ⟨g, hg⟩ : ∃ g, g = w5.heap.size := ⟨_, rfl⟩
  have h6 : Below w5.heap.size w5 w6' := by rw [e6]; exact below_alloc (Below.refl _ _) _
  have hx : w6'.heap[g]? = some (.cells (fw.map Value.string).toArray 9 (0, 0)) := by rw [e6, hg]; exact heap_new w5 _
  have z4 := fw_cells g w6' hx
  have hC6 := Kd.C_below HC5.out h6
  have H6 := Aside0.mk (Aid_bthen H5.out h6)
  rw [← hg]
  clear hg e6 h6 hx HC5 H5
  obtain ⟨ad, ead, x50, x51, x52⟩ := at_T37 hC6 5 (by decide) (by decide)
  obtain ⟨ad', ead', x60, x61, x62⟩ := at_T37 hC6 6 (by decide) (by decide)
  subst ead
  cases ead'
  have y50 : w6'.cell? ⟨ad.block, ad.off + 15, none⟩ = some (.int .i64 5) := x50
  have y51 : w6'.cell? ⟨ad.block, ad.off + 15 + 1, none⟩ = some (.int .i64 6) := x51
  have y52 : w6'.cell? ⟨ad.block, ad.off + 15 + 2, none⟩ = some (.string ⟨#[]⟩) := x52
  have y60 : w6'.cell? ⟨ad.block, ad.off + 18, none⟩ = some (.int .i64 10) := x60
  have y61 : w6'.cell? ⟨ad.block, ad.off + 18 + 1, none⟩ = some (.int .i64 7) := x61
  have y62 : w6'.cell? ⟨ad.block, ad.off + 18 + 2, none⟩ = some (.string ⟨#[99]⟩) := x62
  clear hC6 x50 x51 x52 x60 x61 x62
  go_wp2_with fail
  go_ret
  exact ⟨rfl, H6.out⟩
end Go.Proofs.YtefiadocljnpjaaDoor.Row
