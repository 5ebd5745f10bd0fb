/- RowNodes: the law, walked by hand. -/
import Derived.Test.YtefiadocljnpjaaDoorMV
namespace Go.Proofs.YtefiadocljnpjaaDoor.Row
open Go.Proofs.Tree Go.RowKit Go.Proofs.YtefiadocljnpjaaDoorW.PrintWords Go.Proofs.YtefiadocljnpjaaDoorW.PrintLast Go.Proofs.YtefiadocljnpjaaDoorW.PrintMore Go.Proofs.YtefiadocljnpjaaDoor.PK
set_option linter.unusedVariables false
set_option linter.unusedSimpArgs false
set_option maxHeartbeats 4000000
set_option maxRecDepth 100000
theorem RowNodes (n : S48) (w : World) (hL : Laid w) (hs : n.f1.size ≤ maxLen) :
    Calls Tryd.prog 9 #[.agg #[.int .i64 n.f0, .string n.f1, .int .i64 n.f2]] w fun e w' => e = .returned (.bool true) ∧ Below w.heap.size w w' := by
  have HS := Aside0.mk (show n.f1.size ≤ 9223372036854775807 from hs)
  have HL := Aside0.mk hL
  have HB := Aside0.mk (Below.refl w.heap.size w)
  clear hL hs
  have named : ∀ (x : Nat) (wr : World), wr.heap[x]? = some (.cells #[.int .i64 n.f0, .string n.f1, .int .i64 n.f2] 48 (0, 0)) → wr.cell? ⟨x, 0, none⟩ = some (.int .i64 n.f0) ∧ wr.cell? ⟨x, 1, none⟩ = some (.string n.f1) ∧ wr.cell? ⟨x, 2, none⟩ = some (.int .i64 n.f2) := fun x wr h => by
    rw [cell_of_row _ _ _ _ _ _ h, cell_of_row _ _ _ _ _ _ h, cell_of_row _ _ _ _ _ _ h]
    exact ⟨rfl, rfl, rfl⟩
  have HN := Aside0.mk named
  clear named
  by_cases h1 : n.f1.size ≤ 100
  · have c1 : decide ((100 : Int) < (n.f1.size : Int)) = false := decide_eq_false (by omega)
    have c1' : decide (100 < n.f1.size) = false := decide_eq_false (by omega)
    clear h1
    go_enter Tryd.func9, Tryd.ntmps9
    go_upto_region 1 with fail
    obtain ⟨x, hx⟩ : ∃ x, x = w.heap.size := ⟨_, rfl⟩
    obtain ⟨wr, hw6⟩ : ∃ w6, w6 = w.alloc (.cells #[.int .i64 n.f0, .string n.f1, .int .i64 n.f2] 48) := ⟨_, rfl⟩
    have hb6 := HB.out.alloc HB.out.size (.cells #[.int .i64 n.f0, .string n.f1, .int .i64 n.f2] 48)
    have hx6 := heap_new w (.cells #[.int .i64 n.f0, .string n.f1, .int .i64 n.f2] 48)
    rw [← hw6] at hb6 hx6 ⊢
    rw [← hx] at hx6 ⊢
    obtain ⟨z0, z1, z2⟩ := HN.out x wr hx6
    have HB6 := Aside0.mk hb6
    have HXX := Aside0.mk hx
    have keepS : ∀ W W', (Below wr.heap.size wr W ∧ W.cell? ⟨x, 0, none⟩ = some (.int .i64 n.f0) ∧ W.cell? ⟨x, 1, none⟩ = some (.string n.f1) ∧ W.cell? ⟨x, 2, none⟩ = some (.int .i64 n.f2)) → Below W.heap.size W W' →
        (Below wr.heap.size wr W' ∧ W'.cell? ⟨x, 0, none⟩ = some (.int .i64 n.f0) ∧ W'.cell? ⟨x, 1, none⟩ = some (.string n.f1) ∧ W'.cell? ⟨x, 2, none⟩ = some (.int .i64 n.f2)) := fun W W' hS hb =>
      ⟨Aid_bthen hS.1 hb, (hb.cell (World.block_lt_of_cell? W _ hS.2.1)).trans hS.2.1, (hb.cell (World.block_lt_of_cell? W _ hS.2.2.1)).trans hS.2.2.1, (hb.cell (World.block_lt_of_cell? W _ hS.2.2.2)).trans hS.2.2.2⟩
    have KS := Aside0.mk keepS
    clear hb6 hx6 hw6 HB hx keepS HN
    go_upto_region 3 with fail
    go_region_held3 (fun W => Below wr.heap.size wr W ∧ W.cell? ⟨x, 0, none⟩ = some (.int .i64 n.f0) ∧ W.cell? ⟨x, 1, none⟩ = some (.string n.f1) ∧ W.cell? ⟨x, 2, none⟩ = some (.int .i64 n.f2)) (first | assumption | exact ⟨Below.refl _ _, z0, z1, z2⟩ | exact ⟨(Below.refl _ _).drew, z0, z1, z2⟩)
      (first
        | (go_simp; go_at_call 30; have hS_ := ‹Below wr.heap.size wr _ ∧ _›; refine (Alive _ (HL.out.below (Aid_bthen HB6.out hS_.1))).mono ?_; rintro e w' ⟨rfl, hB⟩; have hS2_ := KS.out _ _ hS_ hB)
        | (go_simp; go_at_call 31; have hS_ := ‹Below wr.heap.size wr _ ∧ _›; refine (Arity _ _).mono ?_; rintro e w' ⟨rfl, hB⟩; have hS2_ := KS.out _ _ hS_ hB.below)
        | (go_simp; go_at_call 32; have hS_ := ‹Below wr.heap.size wr _ ∧ _›; refine (RefArity _ _).mono ?_; rintro e w' ⟨rfl, hB⟩; have hS2_ := KS.out _ _ hS_ hB.below)
        | (go_simp; go_at_call 33; have hS_ := ‹Below wr.heap.size wr _ ∧ _›; refine (Right n _ (HL.out.below (Aid_bthen HB6.out hS_.1))).mono ?_; rintro e w' ⟨rfl, hB⟩; have hS2_ := KS.out _ _ hS_ hB)
        | (go_simp; go_at_call 34; have hS_ := ‹Below wr.heap.size wr _ ∧ _›; refine (RefRight n _ HS.out).mono ?_; rintro e w' ⟨rfl, hB⟩; have hS2_ := KS.out _ _ hS_ hB))
    all_goals
      have hS_ := ‹Below wr.heap.size wr _ ∧ _›
      have HF := Aside0.mk (Aid_bthen HB6.out hS_.1)
      clear hS_ KS
      go_wp2_with fail
      go_ret
      exact ⟨by simp, HF.out⟩
  · have c1 : decide ((100 : Int) < (n.f1.size : Int)) = true := decide_eq_true (by omega)
    have c1' : decide (100 < n.f1.size) = true := decide_eq_true (by omega)
    clear h1
    go_enter Tryd.func9, Tryd.ntmps9
    go_upto_region 1 with fail
    obtain ⟨x, hx⟩ : ∃ x, x = w.heap.size := ⟨_, rfl⟩
    obtain ⟨wr, hw6⟩ : ∃ w6, w6 = w.alloc (.cells #[.int .i64 n.f0, .string n.f1, .int .i64 n.f2] 48) := ⟨_, rfl⟩
    have hb6 := HB.out.alloc HB.out.size (.cells #[.int .i64 n.f0, .string n.f1, .int .i64 n.f2] 48)
    have hx6 := heap_new w (.cells #[.int .i64 n.f0, .string n.f1, .int .i64 n.f2] 48)
    rw [← hw6] at hb6 hx6 ⊢
    rw [← hx] at hx6 ⊢
    obtain ⟨z0, z1, z2⟩ := HN.out x wr hx6
    have HB6 := Aside0.mk hb6
    clear hb6 hx6 hw6 HB hx HN
    go_wp2_with fail
    refine (Alive _ (HL.out.below HB6.out)).mono ?_; rintro e w2 ⟨rfl, h2⟩
    have HF := Aside0.mk (Aid_bthen HB6.out h2)
    clear h2
    go_wp2_with fail
    go_ret
    exact ⟨rfl, HF.out⟩
end Go.Proofs.YtefiadocljnpjaaDoor.Row
