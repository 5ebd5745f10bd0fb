/- The reference's Size, Depth and Arity of rows: what the printed functions tell in plain words. -/
import Derived.Test.YtcbemeooeecboaaRG
import Derived.Test.YtcbemeooeecboaaPKx3
namespace Go.Proofs.Ytcbemeooeecboaa.Rng
open Go.Proofs.Tree Go.RowKit Go.Proofs.YtcbemeooeecboaaW.PrintWords Go.Proofs.YtcbemeooeecboaaW.PrintLast Go.Proofs.YtcbemeooeecboaaW.PrintMore Go.Proofs.Ytcbemeooeecboaa.PK
set_option linter.unusedVariables false
set_option linter.unusedSimpArgs false
theorem refArity (k : Nat) (a : Int) (hk : 2 < k) : redressref03_Arity.f k a = some (ar a) := by
  obtain ⟨k, rfl⟩ : ∃ m, k = m + 3 := ⟨k - 3, by omega⟩
  by_cases h1 : a = 1
  · subst h1; rfl
  by_cases h2 : a = 2
  · subst h2; rfl
  by_cases h3 : a = 3
  · subst h3; rfl
  by_cases h4 : a = 4
  · subst h4; rfl
  by_cases h5 : a = 5
  · subst h5; rfl
  by_cases h6 : a = 6
  · subst h6; rfl
  by_cases h7 : a = 7
  · subst h7; rfl
  by_cases h8 : a = 8
  · subst h8; rfl
  by_cases h9 : a = 9
  · subst h9; rfl
  by_cases h10 : a = 10
  · subst h10; rfl
  by_cases h11 : a = 11
  · subst h11; rfl
  by_cases h12 : a = 12
  · subst h12; rfl
  by_cases h13 : a = 13
  · subst h13; rfl
  by_cases h14 : a = 14
  · subst h14; rfl
  unfold redressref03_Arity.f ar
  simp [redressref03_Arity.j0, redressref03_Arity.j1, h1, h2, h3, h4, h5, h6, h7, h8, h9, h10, h11, h12, h13, h14]
theorem refArity_ev (a : Int) : Ev (fun k => redressref03_Arity.f k a) (ar a) := ⟨3, fun k hk => refArity k a (by omega)⟩
/-- With an equation for one round more. -/
theorem ev_step {α : Type} {g f : Nat → Option α} {r : α} (k : Ev f r) (h : ∀ k, g (k + 1) = f k) : Ev g r := Ev.step h k
theorem ev_if {α : Type} {c : Prop} [Decidable c] {g h : Nat → Option α} {r : α} (hc : c) (k : Ev g r) : Ev (fun n => if c then g n else h n) r := by
  rw [show (fun n => if c then g n else h n) = g from funext fun n => if_pos hc]; exact k
theorem ev_else {α : Type} {c : Prop} [Decidable c] {g h : Nat → Option α} {r : α} (hc : ¬ c) (k : Ev h r) : Ev (fun n => if c then g n else h n) r := by
  rw [show (fun n => if c then g n else h n) = h from funext fun n => if_neg hc]; exact k
theorem drop_rd (l : List S44) (j : Nat) (h : j < l.length) : l.drop j = rd_T44 l (j : Int) :: l.drop (j + 1) := by
  rw [List.drop_eq_getElem_cons h]; unfold rd_T44; simp [List.getD_eq_getElem?_getD, List.getElem?_eq_getElem h]
theorem w64 (n : Int) (h0 : -9223372036854775808 ≤ n) (h1 : n < 9223372036854775808) : wrap64 n = n := by unfold wrap64; omega
/-- What Walk tells. -/
def wkv (l : List S44) (j : Nat) : Int × Int := match tree S44.f0 (l.drop j) with | some (t, _) => (((j + t.len : Nat) : Int), (t.dep : Int)) | none => (-1, 0)
theorem dep_le (t : Tr S44) : 1 ≤ t.dep ∧ t.dep ≤ t.len := by
  induction t with
  | n0 x => exact ⟨Nat.le_refl _, Nat.le_refl _⟩
  | n1 x a ih => simp [Tr.dep, Tr.len, Tr.flat] at *; omega
  | n2 x a b iha ihb => simp [Tr.dep, Tr.len, Tr.flat] at *; omega
theorem refWalk (l : List S44) (hl : l.length < 4611686018427387904) (n : Nat) : ∀ j : Nat, l.length - j ≤ n → j ≤ l.length → Ev (fun k => redressref03_Walk.f k l (j : Int)) (wkv l j) := by
  induction n with
  | zero =>
    intro j hn hj
    refine ev_step (f := fun k => redressref03_Walk.j0 k l (j : Int) true) ?_ (fun k => by simp only [redressref03_Walk.f]; rw [if_pos (by omega)])
    refine ev_step (f := fun k => some ((-1 : Int), (0 : Int))) ?_ (fun k => by simp only [redressref03_Walk.j0]; rw [if_pos trivial])
    have : wkv l j = (-1, 0) := by unfold wkv; rw [List.drop_eq_nil_of_le (by omega)]; rfl
    rw [this]; exact Ev.now _
  | succ n ih =>
    intro j hn hj
    by_cases hlt : j < l.length
    · have hd := drop_rd l j hlt
      obtain ⟨x, hx⟩ : ∃ x, x = rd_T44 l (j : Int) := ⟨_, rfl⟩
      refine ev_step (f := fun k => (redressref03_Arity.f k x.f0).bind fun t182 => redressref03_Walk.j0 k l (j : Int) (decide (t182 < 0))) ?_ (fun k => by simp only [redressref03_Walk.f]; rw [if_neg (by omega), if_pos (by omega), if_pos (by omega), hx])
      refine Ev.bind (refArity_ev x.f0) ?_
      have ej : wrap64 ((j : Int) + 1) = ((j + 1 : Nat) : Int) := by rw [w64 _ (by omega) (by omega)]; omega
      have hw : wkv l j = match tree S44.f0 (x :: l.drop (j + 1)) with | some (t, _) => (((j + t.len : Nat) : Int), (t.dep : Int)) | none => (-1, 0) := by unfold wkv; rw [hd, hx]
      rw [tree_cons] at hw
      -- a round of the loop
      have round : ∀ (nx dp : Int) (c : Nat), ((redressref03_Walk.l0 · l (j : Int) nx dp (c : Int)) ∘ Nat.succ) = fun k => (redressref03_Arity.f k x.f0).bind fun t184 => (if (c : Int) < t184 then ((redressref03_Walk.f k l nx).bind fun bt185 => (if bt185.1 < 0 then (some ((-1), 0)) else (if bt185.2 > dp then (redressref03_Walk.l0 k l (j : Int) bt185.1 bt185.2 (wrap64 ((c : Int) + 1))) else (redressref03_Walk.l0 k l (j : Int) bt185.1 dp (wrap64 ((c : Int) + 1)))))) else (some (nx, wrap64 (dp + 1)))) := by
        intro nx dp c
        funext k
        show redressref03_Walk.l0 (k + 1) l (j : Int) nx dp (c : Int) = _
        simp only [redressref03_Walk.l0]
        rw [if_pos (by omega), if_pos (by omega), hx]
      have fin : ∀ (nx dp : Int) (c : Nat), ¬ ((c : Int) < ar x.f0) → Ev (fun k => redressref03_Walk.l0 k l (j : Int) nx dp (c : Int)) (nx, wrap64 (dp + 1)) := by
        intro nx dp c hc
        refine ev_step (f := _) ?_ (fun k => congrFun (round nx dp c) k)
        refine Ev.bind (refArity_ev x.f0) ?_
        exact ev_else hc (Ev.now _)
      have more : ∀ (nx : Nat) (dp : Nat) (c : Nat) (r : Int × Int), ((c : Int) < ar x.f0) → nx ≤ l.length → l.length - nx ≤ n → c ≤ 1 →
          (tree S44.f0 (l.drop nx) = none → r = (-1, 0)) → (∀ t rest, tree S44.f0 (l.drop nx) = some (t, rest) → Ev (fun k => redressref03_Walk.l0 k l (j : Int) ((nx + t.len : Nat) : Int) ((max dp t.dep : Nat) : Int) ((c + 1 : Nat) : Int)) r) →
          Ev (fun k => redressref03_Walk.l0 k l (j : Int) (nx : Int) (dp : Int) (c : Int)) r := by
        intro nx dp c r hc hnx hn2 hc1 h0 h1
        refine ev_step (f := _) ?_ (fun k => congrFun (round (nx : Int) (dp : Int) c) k)
        refine Ev.bind (refArity_ev x.f0) ?_
        refine ev_if hc ?_
        refine Ev.bind (ih nx hn2 hnx) ?_
        have ec : wrap64 ((c : Int) + 1) = ((c + 1 : Nat) : Int) := by rw [w64 _ (by omega) (by omega)]; omega
        rw [ec]
        unfold wkv
        cases e : tree S44.f0 (l.drop nx) with
        | none => rw [h0 e]; dsimp only; exact ev_if (by decide) (Ev.now _)
        | some p =>
          obtain ⟨t, rest⟩ := p
          have h2 := h1 t rest e
          dsimp only
          refine ev_else (by omega) ?_
          by_cases hg : (t.dep : Int) > (dp : Int)
          · refine ev_if hg ?_
            rwa [show max dp t.dep = t.dep by omega] at h2
          · refine ev_else hg ?_
            rwa [show max dp t.dep = dp by omega] at h2
      rcases ar_is x.f0 with ha | ha | ha | ha
      · rw [ha]
        rw [ha, if_pos rfl] at hw
        refine ev_step (f := fun k => redressref03_Walk.l0 k l (j : Int) ((j + 1 : Nat) : Int) 0 0) ?_ (fun k => by simp only [redressref03_Walk.j0]; rw [if_neg (by decide), ej])
        have := fin ((j + 1 : Nat) : Int) 0 0 (by rw [ha]; decide)
        rw [show (wkv l j) = (((j + 1 : Nat) : Int), wrap64 (0 + 1)) from hw.trans (Prod.ext rfl (show (1 : Int) = wrap64 (0 + 1) by decide +kernel))]
        exact this
      · rw [ha]
        rw [ha, if_neg (by decide), if_pos rfl] at hw
        refine ev_step (f := fun k => redressref03_Walk.l0 k l (j : Int) ((j + 1 : Nat) : Int) 0 0) ?_ (fun k => by simp only [redressref03_Walk.j0]; rw [if_neg (by decide), ej])
        refine more (j + 1) 0 0 _ (by rw [ha]; decide) (by omega) (by omega) (by omega) (fun e => by rw [hw, e]) (fun t rest e => ?_)
        rw [e] at hw
        have hb := dep_le t
        have hlen : t.len ≤ l.length := by have := (tree_some _ e).2; have h3 := congrArg List.length this; simp [Tr.len] at h3 ⊢; omega
        have := fin ((j + 1 + t.len : Nat) : Int) ((max 0 t.dep : Nat) : Int) 1 (by rw [ha]; decide)
        rw [show (wkv l j) = (((j + 1 + t.len : Nat) : Int), wrap64 (((max 0 t.dep : Nat) : Int) + 1)) by rw [hw, w64 _ (by omega) (by omega)]; simp only [Tr.len, Tr.dep, Tr.flat, List.length_cons]; refine Prod.ext ?_ ?_ <;> (show (_ : Int) = _) <;> omega]
        exact this
      · rw [ha]
        rw [ha, if_neg (by decide), if_neg (by decide), if_pos rfl] at hw
        refine ev_step (f := fun k => redressref03_Walk.l0 k l (j : Int) ((j + 1 : Nat) : Int) 0 0) ?_ (fun k => by simp only [redressref03_Walk.j0]; rw [if_neg (by decide), ej])
        refine more (j + 1) 0 0 _ (by rw [ha]; decide) (by omega) (by omega) (by omega) (fun e => by rw [hw, e]) (fun t rest e => ?_)
        rw [e] at hw
        dsimp only at hw
        have hrest : l.drop (j + 1 + t.len) = rest := by
          have := (tree_some _ e).2
          rw [← List.drop_drop, this, Tr.len, List.drop_left]
        have hlen : j + 1 + t.len + rest.length = l.length := by have := (tree_some _ e).2; have h3 := congrArg List.length this; simp [Tr.len] at h3 ⊢; omega
        have hb := dep_le t
        rw [← hrest] at hw
        refine more (j + 1 + t.len) (max 0 t.dep) 1 _ (by rw [ha]; decide) (by omega) (by omega) (by omega) (fun e2 => by rw [hw, e2]) (fun t2 rest2 e2 => ?_)
        rw [e2] at hw
        have hb2 := dep_le t2
        have hlen2 : t2.len ≤ l.length := by have := (tree_some _ e2).2; have h3 := congrArg List.length this; simp [Tr.len] at h3 ⊢; omega
        have := fin ((j + 1 + t.len + t2.len : Nat) : Int) ((max (max 0 t.dep) t2.dep : Nat) : Int) 2 (by rw [ha]; decide)
        rw [show (wkv l j) = (((j + 1 + t.len + t2.len : Nat) : Int), wrap64 (((max (max 0 t.dep) t2.dep : Nat) : Int) + 1)) by rw [hw, w64 _ (by omega) (by omega)]; simp only [Tr.len, Tr.dep, Tr.flat, List.length_cons, List.length_append]; refine Prod.ext ?_ ?_ <;> (show (_ : Int) = _) <;> omega]
        exact this
      · rw [ha]
        rw [ha, if_neg (by decide), if_neg (by decide), if_neg (by decide)] at hw
        refine ev_step (f := fun k => some ((-1 : Int), (0 : Int))) ?_ (fun k => by simp only [redressref03_Walk.j0]; rw [if_pos (by decide)])
        rw [hw]; exact Ev.now _
    · refine ev_step (f := fun k => redressref03_Walk.j0 k l (j : Int) true) ?_ (fun k => by simp only [redressref03_Walk.f]; rw [if_pos (by omega)])
      refine ev_step (f := fun k => some ((-1 : Int), (0 : Int))) ?_ (fun k => by simp only [redressref03_Walk.j0]; rw [if_pos trivial])
      have : wkv l j = (-1, 0) := by unfold wkv; rw [List.drop_eq_nil_of_le (by omega)]; rfl
      rw [this]; exact Ev.now _
theorem refWalk0 (l : List S44) (hl : l.length < 4611686018427387904) (j : Nat) (hj : j ≤ l.length) : Ev (fun k => redressref03_Walk.f k l (j : Int)) (wkv l j) := refWalk l hl _ j (Nat.le_refl _) hj
theorem refSize_ev (l : List S44) (hl : l.length < 4611686018427387904) : Ev (fun k => redressref03_Size.f k l) (size S44.f0 l : Int) := by
  unfold redressref03_Size.f
  refine Ev.bind (refWalk0 l hl 0 (Nat.zero_le _)) ?_
  unfold wkv size
  rw [List.drop_zero]
  cases e : tree S44.f0 l with
  | none => exact ev_if (by decide) (Ev.now _)
  | some p => obtain ⟨t, r⟩ := p; dsimp only; refine ev_else (by omega) ?_; rw [Nat.zero_add]; exact Ev.now _
theorem refDepth_ev (l : List S44) (hl : l.length < 4611686018427387904) : Ev (fun k => redressref03_Depth.f k l) (depth S44.f0 l : Int) := by
  unfold redressref03_Depth.f
  refine Ev.bind (refWalk0 l hl 0 (Nat.zero_le _)) ?_
  unfold wkv depth
  rw [List.drop_zero]
  cases e : tree S44.f0 l with
  | none => exact Ev.now _
  | some p => obtain ⟨t, r⟩ := p; exact Ev.now _
theorem row_max {k : Kd S44} {W : World} {A : Option Addr} {l : List S44} (h : Kd.C k W A l.length l) : l.length ≤ 9223372036854775807 := Kd.C_max h
theorem RefSize (A0 : Option Addr) (c0 : Nat) (l0 : List S44) (w : World) (hr0 : Kd.C k44 w A0 l0.length l0) (hc0 : l0.length ≤ c0) (hl : l0.length < 4611686018427387904) :
    Calls Try.prog 21 #[.slice A0 l0.length c0] w fun e w' => e = .returned (.int .i64 (size S44.f0 l0 : Int)) ∧ Drawn0 w w' := by
  obtain ⟨k, hk⟩ := (refSize_ev l0 hl).rounds
  exact redressref03_Size.calls k A0 c0 l0 _ w hr0 hc0 hk
theorem RefDepth (A0 : Option Addr) (c0 : Nat) (l0 : List S44) (w : World) (hr0 : Kd.C k44 w A0 l0.length l0) (hc0 : l0.length ≤ c0) (hl : l0.length < 4611686018427387904) :
    Calls Try.prog 29 #[.slice A0 l0.length c0] w fun e w' => e = .returned (.int .i64 (depth S44.f0 l0 : Int)) ∧ Drawn0 w w' := by
  obtain ⟨k, hk⟩ := (refDepth_ev l0 hl).rounds
  exact redressref03_Depth.calls k A0 c0 l0 _ w hr0 hc0 hk
theorem RefArity (a : Int) (w : World) : Calls Try.prog 35 #[.int .i64 a] w fun e w' => e = .returned (.int .i64 (ar a)) ∧ Drawn0 w w' :=
  redressref03_Arity.calls 3 a (ar a) w (refArity 3 a (by decide))
end Go.Proofs.Ytcbemeooeecboaa.Rng
