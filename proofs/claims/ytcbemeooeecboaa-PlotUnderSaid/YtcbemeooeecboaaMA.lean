/- Rows of nodes: Arity in plain words, and Size: its contract, walked by hand. -/
import Derived.Test.YtcbemeooeecboaaPKx0
import Derived.Test.YtcbemeooeecboaaMT
import Derived.Test.YtcbemeooeecboaaPKx4
import Derived.WalkLawsBesides
import Derived.WalkSpells
namespace Go.Proofs.Ytcbemeooeecboaa.PK
open Go.Proofs.Tree Go.RowKit Go.Proofs.YtcbemeooeecboaaW.PrintWords Go.Proofs.YtcbemeooeecboaaW.PrintLast Go.Proofs.YtcbemeooeecboaaW.PrintMore
set_option linter.unusedVariables false
set_option linter.unusedSimpArgs false
set_option maxHeartbeats 4000000
set_option maxRecDepth 100000
theorem arity (k : Nat) (a : Int) (hk : 2 < k) : row_Arity.f k a = some (ar a) := by
  obtain ⟨k, rfl⟩ : ∃ m, k = m + 3 := ⟨k - 3, by omega⟩
  by_cases h1 : a = 1
  · subst h1; rfl
  by_cases h2 : a = 2
  · subst h2; rfl
  by_cases h3 : a = 3
  · subst h3; rfl
  by_cases h4 : a = 4
  · subst h4; rfl
  by_cases h5 : a = 5
  · subst h5; rfl
  by_cases h6 : a = 6
  · subst h6; rfl
  by_cases h7 : a = 7
  · subst h7; rfl
  by_cases h8 : a = 8
  · subst h8; rfl
  by_cases h9 : a = 9
  · subst h9; rfl
  by_cases h10 : a = 10
  · subst h10; rfl
  by_cases h11 : a = 11
  · subst h11; rfl
  by_cases h12 : a = 12
  · subst h12; rfl
  by_cases h13 : a = 13
  · subst h13; rfl
  by_cases h14 : a = 14
  · subst h14; rfl
  unfold row_Arity.f ar
  simp [row_Arity.j0, row_Arity.j1, h1, h2, h3, h4, h5, h6, h7, h8, h9, h10, h11, h12, h13, h14]
theorem Arity (a : Int) (w : World) : Calls Try.prog 31 #[.int .i64 a] w fun e w' => e = .returned (.int .i64 (ar a)) ∧ Drawn0 w w' := row_Arity.calls 3 a (ar a) w (arity 3 a (by decide))
/-- Size: the nodes that are left, how many trees are still to come, the place. -/
def sz (l : List S44) (o k : Int) : Int := szw S44.f0 l o k
theorem sz_cons (x : S44) (r : List S44) (o k : Int) : sz (x :: r) o k = if ar x.f0 < 0 then 0 else if wrap64 (o + wrap64 (ar x.f0 - 1)) = 0 then wrap64 (k + 1) else sz r (wrap64 (o + wrap64 (ar x.f0 - 1))) (wrap64 (k + 1)) := rfl
def row_Size.f (l : List S44) : Option Int := some (sz l 1 0)
theorem heap_new (w : World) (o : Obj) : (w.alloc o).heap[w.heap.size]? = some o := by simp [World.alloc, -World.alloc_eq]
theorem row_Size.calls (A0 : Option Addr) (c0 : Nat) (l0 : List S44) (r : Int) (w : World) (hr0 : Kd.C k44 w A0 l0.length l0) (hc0 : l0.length ≤ c0) (h : row_Size.f l0 = some r) :
    Calls Try.prog 24 #[.slice A0 l0.length c0] w fun e w' => e = .returned (.int .i64 r) ∧ Below w.heap.size w w' := by
  have HR := Aside0.mk hr0
  have HE := Aside0.mk (Option.some.inj h)
  have HB := Aside0.mk (Below.refl w.heap.size w)
  have HM := Aside0.mk (Kd.C_max hr0)
  clear hr0 hc0 h
  go_enter Try.func24, Try.ntmps24
  go_wp2_with fail
  go_step3
  go_wp2_with fail
  go_step3
  go_wp2_with fail
  go_loopg [3, 9] (l0.length + 1) (fun kq v3 v9 w' => ∃ (j : Nat) (o : Int), v3 = .int .i64 o ∧ v9 = .int .i64 (j : Int) ∧ Aside0 (kq + j = l0.length + 1 ∧ j ≤ l0.length) ∧ Aside0 (r = sz (l0.drop j) o (j : Int)) ∧ Aside0 (Below w.heap.size w w'))
  case atStart => exact ⟨0, 1, rfl, rfl, ⟨by omega, by omega⟩, ⟨HE.out.symm⟩, HB⟩
  case round =>
    clear HB HE
    obtain ⟨j, o, rfl, rfl, HK, HE, HB⟩ := hrel
    cases gk with
    | zero => exact absurd HK.out (by omega)
    | succ k1 =>
      by_cases hj : j < l0.length
      · have c14 : decide ((j : Int) < (l0.length : Int)) = true := decide_eq_true (by omega)
        have p0 : (0 : Int) ≤ (j : Int) := by omega
        have q0 : (j : Int) < (l0.length : Int) := by omega
        obtain ⟨ad, e7, x0, x1, x2⟩ := at_T44 HR.out (j : Int) p0 q0
        subst e7
        obtain ⟨n, hn⟩ : ∃ n, n = rd_T44 l0 (j : Int) := ⟨_, rfl⟩
        rw [← hn] at x0 x1 x2
        have hd : l0.drop j = n :: l0.drop (j + 1) := by
          rw [hn, List.drop_eq_getElem_cons hj]; unfold rd_T44; simp [List.getD_eq_getElem?_getD, List.getElem?_eq_getElem hj]
        have HE2 := Aside0.mk (show r = sz (n :: l0.drop (j + 1)) o (j : Int) by rw [← hd]; exact HE.out)
        simp only [Int.toNat_natCast] at x0 x1 x2
        replace x0 := (HB.out.cell (World.block_lt_of_cell? w _ x0)).trans x0
        replace x1 := (HB.out.cell (World.block_lt_of_cell? w _ x1)).trans x1
        replace x2 := (HB.out.cell (World.block_lt_of_cell? w _ x2)).trans x2
        clear hn hd HE
        go_upto_region 5 with fail
        obtain ⟨x, hx⟩ : ∃ x, x = wr.heap.size := ⟨_, rfl⟩
        obtain ⟨w6, hw6⟩ : ∃ w6, w6 = wr.alloc (.cells #[.int .i64 n.f0, .string n.f1, .int .i64 n.f2] 44) := ⟨_, rfl⟩
        have hb6 := HB.out.alloc HB.out.size (.cells #[.int .i64 n.f0, .string n.f1, .int .i64 n.f2] 44)
        have hx6 := heap_new wr (.cells #[.int .i64 n.f0, .string n.f1, .int .i64 n.f2] 44)
        rw [← hw6] at hb6 hx6 ⊢
        rw [← hx] at hx6 ⊢
        have z0 : w6.cell? ⟨x, 0, none⟩ = some (.int .i64 n.f0) := by rw [cell_of_row _ _ _ _ _ _ hx6]; rfl
        have HB6 := Aside0.mk hb6
        clear hb6 hx6 hw6 hx x0 x1 x2 HB
        go_wp2_with fail
        refine (Arity n.f0 _).mono ?_; rintro e w7 ⟨rfl, hd7⟩
        have HB7 := Aside0.mk (HB6.out.trans (hd7.below.mono HB6.out.size))
        clear hd7 HB6 z0
        obtain ⟨m, hm⟩ : ∃ m, m = ar n.f0 := ⟨_, rfl⟩
        have hml := ar_le n.f0
        rw [sz_cons] at HE2
        rw [← hm] at HE2 hml ⊢
        clear hm
        have em : wrap64 (m - 1) = m - 1 := by unfold wrap64; omega
        have ew : wrap64 ((j : Int) + 1) = ((j + 1 : Nat) : Int) := by have := HM.out; unfold wrap64; omega
        rw [em, ew] at HE2
        have EJ := Aside0.mk ew
        clear ew
        by_cases hm0 : m < 0
        · rw [if_pos hm0] at HE2
          have hr := HE2.out
          subst hr
          clear HE2
          go_wp2_with fail
          (try rw [Exit.noGoto_ret])
          go_ret
          exact ⟨rfl, HB7.out⟩
        · rw [if_neg hm0] at HE2
          obtain ⟨o2, ho2⟩ : ∃ o2, o2 = wrap64 (o + (m - 1)) := ⟨_, rfl⟩
          rw [← ho2] at HE2
          have hm1 : 0 ≤ m := by omega
          by_cases ho0 : o2 = 0
          · rw [if_pos ho0] at HE2
            have hr := HE2.out
            have hz : (wrap64 (o + (m - 1)) == 0) = true := by rw [← ho2, ho0]; rfl
            subst hr
            clear HE2 ho2 ho0
            go_wp2_with fail
            (try rw [Exit.noGoto_ret])
            go_ret
            exact ⟨by show Ending.returned (.int .i64 (wrap64 ((j : Int) + 1))) = _; rw [EJ.out], HB7.out⟩
          · rw [if_neg ho0] at HE2
            have hz : (wrap64 (o + (m - 1)) == 0) = false := by rw [← ho2]; exact beq_eq_false_iff_ne.2 ho0
            have HO := Aside0.mk ho2
            clear ho2 ho0
            go_wp2_with fail
            go_roundg k1
            case measure => omega
            case rel => exact ⟨j + 1, o2, by rw [HO.out], by rw [EJ.out], ⟨by have := HK.out; omega, by omega⟩, HE2, HB7⟩
      · have c14 : decide ((j : Int) < (l0.length : Int)) = false := decide_eq_false (by omega)
        have hr : r = 0 := by rw [HE.out, List.drop_eq_nil_of_le (by omega)]; rfl
        subst hr
        go_wp2_with fail
        (try rw [Exit.noGoto_ret])
        go_ret
        exact ⟨rfl, HB.out⟩
end Go.Proofs.Ytcbemeooeecboaa.PK
