/- What the reference's functions of rows tell: values of the printed functions in plain words. -/
import Derived.Test.YtefiadocljnpjaaDoorMA
import Derived.Test.YtefiadocljnpjaaDoorPKx23
import Derived.Test.YtefiadocljnpjaaDoorMR
import Derived.Test.YtefiadocljnpjaaDoorPKx14
import Derived.Test.YtefiadocljnpjaaDoorPKx24
import Derived.Test.YtefiadocljnpjaaDoorPKx16
import Derived.Test.YtefiadocljnpjaaDoorPKx17
import Derived.Test.YtefiadocljnpjaaDoorPKx20
import Derived.Test.YtefiadocljnpjaaDoorPKx25
import Derived.Test.YtefiadocljnpjaaDoorPKx26
namespace Go.Proofs.YtefiadocljnpjaaDoor.Row
open Go.Proofs.Tree Go.RowKit Go.Proofs.YtefiadocljnpjaaDoorW.PrintWords Go.Proofs.YtefiadocljnpjaaDoorW.PrintLast Go.Proofs.YtefiadocljnpjaaDoorW.PrintMore Go.Proofs.YtefiadocljnpjaaDoor.PK
set_option linter.unusedVariables false
set_option linter.unusedSimpArgs false
theorem refArity (k : Nat) (a : Int) (hk : 2 < k) : redressref03_Arity.f k a = some (ar a) := by
  obtain ⟨k, rfl⟩ : ∃ m, k = m + 3 := ⟨k - 3, by omega⟩
  by_cases h1 : a = 1
  · subst h1; rfl
  by_cases h2 : a = 2
  · subst h2; rfl
  by_cases h3 : a = 3
  · subst h3; rfl
  by_cases h4 : a = 4
  · subst h4; rfl
  by_cases h5 : a = 5
  · subst h5; rfl
  by_cases h6 : a = 6
  · subst h6; rfl
  by_cases h7 : a = 7
  · subst h7; rfl
  by_cases h8 : a = 8
  · subst h8; rfl
  by_cases h9 : a = 9
  · subst h9; rfl
  by_cases h10 : a = 10
  · subst h10; rfl
  by_cases h11 : a = 11
  · subst h11; rfl
  by_cases h12 : a = 12
  · subst h12; rfl
  by_cases h13 : a = 13
  · subst h13; rfl
  by_cases h14 : a = 14
  · subst h14; rfl
  unfold redressref03_Arity.f ar
  simp [redressref03_Arity.j0, redressref03_Arity.j1, h1, h2, h3, h4, h5, h6, h7, h8, h9, h10, h11, h12, h13, h14]
theorem refArity_ev (a : Int) : Ev (fun k => redressref03_Arity.f k a) (ar a) := ⟨3, fun k hk => refArity k a (by omega)⟩
theorem arity_ev (a : Int) : Ev (fun k => row_Arity.f k a) (ar a) := ⟨3, fun k hk => arity k a (by omega)⟩
/-- With an equation for one round more. -/
theorem ev_step {α : Type} {g f : Nat → Option α} {r : α} (k : Ev f r) (h : ∀ k, g (k + 1) = f k) : Ev g r := Ev.step h k
theorem ev_if {α : Type} {c : Prop} [Decidable c] {g h : Nat → Option α} {r : α} (hc : c) (k : Ev g r) : Ev (fun n => if c then g n else h n) r := by
  rw [show (fun n => if c then g n else h n) = g from funext fun n => if_pos hc]; exact k
theorem ev_else {α : Type} {c : Prop} [Decidable c] {g h : Nat → Option α} {r : α} (hc : ¬ c) (k : Ev h r) : Ev (fun n => if c then g n else h n) r := by
  rw [show (fun n => if c then g n else h n) = h from funext fun n => if_neg hc]; exact k
theorem drop_rd (l : List S48) (j : Nat) (h : j < l.length) : l.drop j = rd_T48 l (j : Int) :: l.drop (j + 1) := by
  rw [List.drop_eq_getElem_cons h]; unfold rd_T48; simp [List.getD_eq_getElem?_getD, List.getElem?_eq_getElem h]
theorem w64 (n : Int) (h0 : -9223372036854775808 ≤ n) (h1 : n < 9223372036854775808) : wrap64 n = n := by unfold wrap64; omega
/-- What Walk tells. -/
def wkv (l : List S48) (j : Nat) : Int × Int := match tree S48.f0 (l.drop j) with | some (t, _) => (((j + t.len : Nat) : Int), (t.dep : Int)) | none => (-1, 0)
theorem dep_le (t : Tr S48) : 1 ≤ t.dep ∧ t.dep ≤ t.len := by
  induction t with
  | n0 x => exact ⟨Nat.le_refl _, Nat.le_refl _⟩
  | n1 x a ih => simp [Tr.dep, Tr.len, Tr.flat] at *; omega
  | n2 x a b iha ihb => simp [Tr.dep, Tr.len, Tr.flat] at *; omega
theorem refWalk (l : List S48) (hl : l.length < 4611686018427387904) (n : Nat) : ∀ j : Nat, l.length - j ≤ n → j ≤ l.length → Ev (fun k => redressref03_Walk.f k l (j : Int)) (wkv l j) := by
  induction n with
  | zero =>
    intro j hn hj
    refine ev_step (f := fun k => redressref03_Walk.j0 k l (j : Int) true) ?_ (fun k => by simp only [redressref03_Walk.f]; rw [if_pos (by omega)])
    refine ev_step (f := fun k => some ((-1 : Int), (0 : Int))) ?_ (fun k => by simp only [redressref03_Walk.j0]; rw [if_pos trivial])
    have : wkv l j = (-1, 0) := by unfold wkv; rw [List.drop_eq_nil_of_le (by omega)]; rfl
    rw [this]; exact Ev.now _
  | succ n ih =>
    intro j hn hj
    by_cases hlt : j < l.length
    · have hd := drop_rd l j hlt
      obtain ⟨x, hx⟩ : ∃ x, x = rd_T48 l (j : Int) := ⟨_, rfl⟩
      refine ev_step (f := fun k => (redressref03_Arity.f k x.f0).bind fun t182 => redressref03_Walk.j0 k l (j : Int) (decide (t182 < 0))) ?_ (fun k => by simp only [redressref03_Walk.f]; rw [if_neg (by omega), if_pos (by omega), if_pos (by omega), hx])
      refine Ev.bind (refArity_ev x.f0) ?_
      have ej : wrap64 ((j : Int) + 1) = ((j + 1 : Nat) : Int) := by rw [w64 _ (by omega) (by omega)]; omega
      have hw : wkv l j = match tree S48.f0 (x :: l.drop (j + 1)) with | some (t, _) => (((j + t.len : Nat) : Int), (t.dep : Int)) | none => (-1, 0) := by unfold wkv; rw [hd, hx]
      rw [tree_cons] at hw
      -- a round of the loop
      have round : ∀ (nx dp : Int) (c : Nat), ((redressref03_Walk.l0 · l (j : Int) nx dp (c : Int)) ∘ Nat.succ) = fun k => (redressref03_Arity.f k x.f0).bind fun t184 => (if (c : Int) < t184 then ((redressref03_Walk.f k l nx).bind fun bt185 => (if bt185.1 < 0 then (some ((-1), 0)) else (if bt185.2 > dp then (redressref03_Walk.l0 k l (j : Int) bt185.1 bt185.2 (wrap64 ((c : Int) + 1))) else (redressref03_Walk.l0 k l (j : Int) bt185.1 dp (wrap64 ((c : Int) + 1)))))) else (some (nx, wrap64 (dp + 1)))) := by
        intro nx dp c
        funext k
        show redressref03_Walk.l0 (k + 1) l (j : Int) nx dp (c : Int) = _
        simp only [redressref03_Walk.l0]
        rw [if_pos (by omega), if_pos (by omega), hx]
      have fin : ∀ (nx dp : Int) (c : Nat), ¬ ((c : Int) < ar x.f0) → Ev (fun k => redressref03_Walk.l0 k l (j : Int) nx dp (c : Int)) (nx, wrap64 (dp + 1)) := by
        intro nx dp c hc
        refine ev_step (f := _) ?_ (fun k => congrFun (round nx dp c) k)
        refine Ev.bind (refArity_ev x.f0) ?_
        exact ev_else hc (Ev.now _)
      have more : ∀ (nx : Nat) (dp : Nat) (c : Nat) (r : Int × Int), ((c : Int) < ar x.f0) → nx ≤ l.length → l.length - nx ≤ n → c ≤ 1 →
          (tree S48.f0 (l.drop nx) = none → r = (-1, 0)) → (∀ t rest, tree S48.f0 (l.drop nx) = some (t, rest) → Ev (fun k => redressref03_Walk.l0 k l (j : Int) ((nx + t.len : Nat) : Int) ((max dp t.dep : Nat) : Int) ((c + 1 : Nat) : Int)) r) →
          Ev (fun k => redressref03_Walk.l0 k l (j : Int) (nx : Int) (dp : Int) (c : Int)) r := by
        intro nx dp c r hc hnx hn2 hc1 h0 h1
        refine ev_step (f := _) ?_ (fun k => congrFun (round (nx : Int) (dp : Int) c) k)
        refine Ev.bind (refArity_ev x.f0) ?_
        refine ev_if hc ?_
        refine Ev.bind (ih nx hn2 hnx) ?_
        have ec : wrap64 ((c : Int) + 1) = ((c + 1 : Nat) : Int) := by rw [w64 _ (by omega) (by omega)]; omega
        rw [ec]
        unfold wkv
        cases e : tree S48.f0 (l.drop nx) with
        | none => rw [h0 e]; dsimp only; exact ev_if (by decide) (Ev.now _)
        | some p =>
          obtain ⟨t, rest⟩ := p
          have h2 := h1 t rest e
          dsimp only
          refine ev_else (by omega) ?_
          by_cases hg : (t.dep : Int) > (dp : Int)
          · refine ev_if hg ?_
            rwa [show max dp t.dep = t.dep by omega] at h2
          · refine ev_else hg ?_
            rwa [show max dp t.dep = dp by omega] at h2
      rcases ar_is x.f0 with ha | ha | ha | ha
      · rw [ha]
        rw [ha, if_pos rfl] at hw
        refine ev_step (f := fun k => redressref03_Walk.l0 k l (j : Int) ((j + 1 : Nat) : Int) 0 0) ?_ (fun k => by simp only [redressref03_Walk.j0]; rw [if_neg (by decide), ej])
        have := fin ((j + 1 : Nat) : Int) 0 0 (by rw [ha]; decide)
        rw [show (wkv l j) = (((j + 1 : Nat) : Int), wrap64 (0 + 1)) from hw.trans (Prod.ext rfl (show (1 : Int) = wrap64 (0 + 1) by decide +kernel))]
        exact this
      · rw [ha]
        rw [ha, if_neg (by decide), if_pos rfl] at hw
        refine ev_step (f := fun k => redressref03_Walk.l0 k l (j : Int) ((j + 1 : Nat) : Int) 0 0) ?_ (fun k => by simp only [redressref03_Walk.j0]; rw [if_neg (by decide), ej])
        refine more (j + 1) 0 0 _ (by rw [ha]; decide) (by omega) (by omega) (by omega) (fun e => by rw [hw, e]) (fun t rest e => ?_)
        rw [e] at hw
        have hb := dep_le t
        have hlen : t.len ≤ l.length := by have := (tree_some _ e).2; have h3 := congrArg List.length this; simp [Tr.len] at h3 ⊢; omega
        have := fin ((j + 1 + t.len : Nat) : Int) ((max 0 t.dep : Nat) : Int) 1 (by rw [ha]; decide)
        rw [show (wkv l j) = (((j + 1 + t.len : Nat) : Int), wrap64 (((max 0 t.dep : Nat) : Int) + 1)) by rw [hw, w64 _ (by omega) (by omega)]; simp only [Tr.len, Tr.dep, Tr.flat, List.length_cons]; refine Prod.ext ?_ ?_ <;> (show (_ : Int) = _) <;> omega]
        exact this
      · rw [ha]
        rw [ha, if_neg (by decide), if_neg (by decide), if_pos rfl] at hw
        refine ev_step (f := fun k => redressref03_Walk.l0 k l (j : Int) ((j + 1 : Nat) : Int) 0 0) ?_ (fun k => by simp only [redressref03_Walk.j0]; rw [if_neg (by decide), ej])
        refine more (j + 1) 0 0 _ (by rw [ha]; decide) (by omega) (by omega) (by omega) (fun e => by rw [hw, e]) (fun t rest e => ?_)
        rw [e] at hw
        dsimp only at hw
        have hrest : l.drop (j + 1 + t.len) = rest := by
          have := (tree_some _ e).2
          rw [← List.drop_drop, this, Tr.len, List.drop_left]
        have hlen : j + 1 + t.len + rest.length = l.length := by have := (tree_some _ e).2; have h3 := congrArg List.length this; simp [Tr.len] at h3 ⊢; omega
        have hb := dep_le t
        rw [← hrest] at hw
        refine more (j + 1 + t.len) (max 0 t.dep) 1 _ (by rw [ha]; decide) (by omega) (by omega) (by omega) (fun e2 => by rw [hw, e2]) (fun t2 rest2 e2 => ?_)
        rw [e2] at hw
        have hb2 := dep_le t2
        have hlen2 : t2.len ≤ l.length := by have := (tree_some _ e2).2; have h3 := congrArg List.length this; simp [Tr.len] at h3 ⊢; omega
        have := fin ((j + 1 + t.len + t2.len : Nat) : Int) ((max (max 0 t.dep) t2.dep : Nat) : Int) 2 (by rw [ha]; decide)
        rw [show (wkv l j) = (((j + 1 + t.len + t2.len : Nat) : Int), wrap64 (((max (max 0 t.dep) t2.dep : Nat) : Int) + 1)) by rw [hw, w64 _ (by omega) (by omega)]; simp only [Tr.len, Tr.dep, Tr.flat, List.length_cons, List.length_append]; refine Prod.ext ?_ ?_ <;> (show (_ : Int) = _) <;> omega]
        exact this
      · rw [ha]
        rw [ha, if_neg (by decide), if_neg (by decide), if_neg (by decide)] at hw
        refine ev_step (f := fun k => some ((-1 : Int), (0 : Int))) ?_ (fun k => by simp only [redressref03_Walk.j0]; rw [if_pos (by decide)])
        rw [hw]; exact Ev.now _
    · refine ev_step (f := fun k => redressref03_Walk.j0 k l (j : Int) true) ?_ (fun k => by simp only [redressref03_Walk.f]; rw [if_pos (by omega)])
      refine ev_step (f := fun k => some ((-1 : Int), (0 : Int))) ?_ (fun k => by simp only [redressref03_Walk.j0]; rw [if_pos trivial])
      have : wkv l j = (-1, 0) := by unfold wkv; rw [List.drop_eq_nil_of_le (by omega)]; rfl
      rw [this]; exact Ev.now _
theorem refWalk0 (l : List S48) (hl : l.length < 4611686018427387904) (j : Nat) (hj : j ≤ l.length) : Ev (fun k => redressref03_Walk.f k l (j : Int)) (wkv l j) := refWalk l hl _ j (Nat.le_refl _) hj
theorem refSize_ev (l : List S48) (hl : l.length < 4611686018427387904) : Ev (fun k => redressref03_Size.f k l) (size S48.f0 l : Int) := by
  unfold redressref03_Size.f
  refine Ev.bind (refWalk0 l hl 0 (Nat.zero_le _)) ?_
  unfold wkv size
  rw [List.drop_zero]
  cases e : tree S48.f0 l with
  | none => exact ev_if (by decide) (Ev.now _)
  | some p => obtain ⟨t, r⟩ := p; dsimp only; refine ev_else (by omega) ?_; rw [Nat.zero_add]; exact Ev.now _
theorem refDepth_ev (l : List S48) (hl : l.length < 4611686018427387904) : Ev (fun k => redressref03_Depth.f k l) (depth S48.f0 l : Int) := by
  unfold redressref03_Depth.f
  refine Ev.bind (refWalk0 l hl 0 (Nat.zero_le _)) ?_
  unfold wkv depth
  rw [List.drop_zero]
  cases e : tree S48.f0 l with
  | none => exact Ev.now _
  | some p => obtain ⟨t, r⟩ := p; exact Ev.now _
theorem row_max {k : Kd S48} {W : World} {A : Option Addr} {l : List S48} (h : Kd.C k W A l.length l) : l.length ≤ 9223372036854775807 := Kd.C_max h
theorem RefSize (A0 : Option Addr) (c0 : Nat) (l0 : List S48) (w : World) (hr0 : Kd.C k48 w A0 l0.length l0) (hc0 : l0.length ≤ c0) (hl : l0.length < 4611686018427387904) :
    Calls Tryd.prog 37 #[.slice A0 l0.length c0] w fun e w' => e = .returned (.int .i64 (size S48.f0 l0 : Int)) ∧ Drawn0 w w' := by
  obtain ⟨k, hk⟩ := (refSize_ev l0 hl).rounds
  exact redressref03_Size.calls k A0 c0 l0 _ w hr0 hc0 hk
theorem RefDepth (A0 : Option Addr) (c0 : Nat) (l0 : List S48) (w : World) (hr0 : Kd.C k48 w A0 l0.length l0) (hc0 : l0.length ≤ c0) (hl : l0.length < 4611686018427387904) :
    Calls Tryd.prog 39 #[.slice A0 l0.length c0] w fun e w' => e = .returned (.int .i64 (depth S48.f0 l0 : Int)) ∧ Drawn0 w w' := by
  obtain ⟨k, hk⟩ := (refDepth_ev l0 hl).rounds
  exact redressref03_Depth.calls k A0 c0 l0 _ w hr0 hc0 hk
end Go.Proofs.YtefiadocljnpjaaDoor.Row
/- What the functions of rows tell: kids, depth, counts, sameness. -/
namespace Go.Proofs.YtefiadocljnpjaaDoor.Row
open Go.Proofs.Tree Go.RowKit Go.Proofs.YtefiadocljnpjaaDoorW.PrintWords Go.Proofs.YtefiadocljnpjaaDoorW.PrintLast Go.Proofs.YtefiadocljnpjaaDoorW.PrintMore Go.Proofs.YtefiadocljnpjaaDoor.PK
set_option linter.unusedVariables false
set_option linter.unusedSimpArgs false
/-- The trees behind the first node. -/
def kidsL (l : List S48) : List (List S48) := match tree S48.f0 l with | some (t, _) => t.kids.map Tr.flat | none => []
theorem mid_of (p a q : List S48) : ((p ++ (a ++ q)).take (p.length + a.length)).drop p.length = a := by
  rw [List.take_append, List.drop_append]
  simp
theorem rd_head (x : S48) (l : List S48) : rd_T48 (x :: l) 0 = x := rfl
theorem wkv_at (l p q : List S48) (t : Tr S48) (h : t.ok S48.f0) (e : l = p ++ (t.flat ++ q)) : wkv l p.length = (((p.length + t.len : Nat) : Int), (t.dep : Int)) := by
  unfold wkv
  rw [e, List.drop_left, tree_of _ t q h]
theorem refKids_ev (l : List S48) (hl : l.length < 4611686018427387904) : Ev (fun k => redressref03_Kids.f k l) (kidsL l) := by
  unfold redressref03_Kids.f
  refine Ev.bind (refSize_ev l hl) ?_
  unfold size kidsL
  cases e : tree S48.f0 l with
  | none => exact ev_if (by decide) (Ev.now _)
  | some p =>
    obtain ⟨t, r⟩ := p
    obtain ⟨hok, hl2⟩ := tree_some _ e
    have hp := Tr.len_pos t
    dsimp only
    refine ev_else (by simp only [Tr.len]; omega) ?_
    have round : ∀ (x : S48) (m : List S48) (out : List (List S48)) (nx : Int) (c : Nat), l = x :: m → ∀ k, redressref03_Kids.l0 (k + 1) l out nx (c : Int) = (redressref03_Arity.f k x.f0).bind fun t197 => (if (c : Int) < t197 then ((redressref03_Walk.f k l nx).bind fun bt198 => (if 0 ≤ nx then (if nx ≤ bt198.1 then (if bt198.1 ≤ (l.length : Int) then (if out.length < 5864062014805 then (redressref03_Kids.l0 k l (out ++ [((l.take (bt198.1 : Int).toNat).drop (nx : Int).toNat)]) bt198.1 (wrap64 ((c : Int) + 1))) else (none)) else (none)) else (none)) else (none))) else (some out)) := by
      intro x m out nx c hx k
      simp only [redressref03_Kids.l0]
      rw [if_pos (by rw [hx]; simp only [List.length_cons]; omega)]
      rw [show rd_T48 l 0 = x by rw [hx]; rfl]
    have fin : ∀ (x : S48) (m : List S48) (out : List (List S48)) (nx : Int) (c : Nat), l = x :: m → ¬ ((c : Int) < ar x.f0) → Ev (fun k => redressref03_Kids.l0 k l out nx (c : Int)) out := by
      intro x m out nx c hx hc
      refine ev_step (f := _) ?_ (round x m out nx c hx)
      exact Ev.bind (refArity_ev x.f0) (ev_else hc (Ev.now _))
    have more : ∀ (x : S48) (m : List S48) (out : List (List S48)) (p q : List S48) (s : Tr S48) (c : Nat) (res : List (List S48)), l = x :: m → l = p ++ (s.flat ++ q) → s.ok S48.f0 → c ≤ 1 → out.length ≤ 1 → (c : Int) < ar x.f0 →
        Ev (fun k => redressref03_Kids.l0 k l (out ++ [s.flat]) ((p.length + s.len : Nat) : Int) ((c + 1 : Nat) : Int)) res → Ev (fun k => redressref03_Kids.l0 k l out (p.length : Int) (c : Int)) res := by
      intro x m out p q s c res hx hpq hs hc1 ho hc h
      refine ev_step (f := _) ?_ (round x m out (p.length : Int) c hx)
      refine Ev.bind (refArity_ev x.f0) (ev_if hc ?_)
      have hlen : p.length + s.len + q.length = l.length := by rw [hpq]; simp [Tr.len]; omega
      refine Ev.bind (refWalk0 l hl p.length (by omega)) ?_
      rw [wkv_at l p q s hs hpq]
      dsimp only
      refine ev_if (by omega) (ev_if (by omega) (ev_if (by omega) (ev_if (by omega) ?_)))
      have ec : wrap64 ((c : Int) + 1) = ((c + 1 : Nat) : Int) := by rw [w64 _ (by omega) (by omega)]; omega
      rw [ec]
      have em : (l.take (((p.length + s.len : Nat) : Int)).toNat).drop ((p.length : Int)).toNat = s.flat := by
        rw [Int.toNat_natCast, Int.toNat_natCast, hpq]; exact mid_of p s.flat q
      rw [em]
      exact h
    cases t with
    | n0 x =>
      have hx : l = x :: r := by rw [hl2]; rfl
      have h0 : ar x.f0 = 0 := hok
      exact fin x r [] 1 0 hx (by rw [h0]; decide)
    | n1 x a =>
      have hx : l = x :: (a.flat ++ r) := by rw [hl2]; rfl
      have h0 : ar x.f0 = 1 := hok.1
      refine more x _ [] [x] r a 0 _ hx hx hok.2 (by omega) (by simp) (by rw [h0]; decide) ?_
      exact fin x _ _ _ 1 hx (by rw [h0]; decide)
    | n2 x a b =>
      have hx : l = x :: (a.flat ++ (b.flat ++ r)) := by rw [hl2]; simp [Tr.flat]
      have h0 : ar x.f0 = 2 := hok.1
      refine more x _ [] [x] (b.flat ++ r) a 0 _ hx hx hok.2.1 (by omega) (by simp) (by rw [h0]; decide) ?_
      have hx2 : l = (x :: a.flat) ++ (b.flat ++ r) := by rw [hx]; rfl
      have := more x _ [a.flat] (x :: a.flat) r b 1 [a.flat, b.flat] hx hx2 hok.2.2 (by omega) (by simp) (by rw [h0]; decide) (fin x _ _ _ 2 hx (by rw [h0]; decide))
      rw [show (x :: a.flat).length = [x].length + a.len by simp [Tr.len]; omega] at this
      exact this
theorem cell_of_heap {W W' : World} {a : Addr} {v : Value} (h : W.cell? a = some v) (e : W'.heap[a.block]? = W.heap[a.block]?) : W'.cell? a = some v := by
  unfold World.cell? at h ⊢
  rw [e]; exact h
theorem F48 {W : World} {A : Option Addr} {n : Nat} {xs : List S48} (h : Kd.C k48 W A n xs) : Kd.F k48 W (fun k => k < W.heap.size) A n xs := fun W' hW => ⟨h.1, h.2.1, fun hn => by
  obtain ⟨ad, e, hc⟩ := h.2.2 hn
  refine ⟨ad, e, fun j p hj => ?_⟩
  obtain ⟨c, hs, hr, hcell⟩ := hc j p hj
  refine ⟨c, hs, by rw [k48_open hr]; exact k48_mk W' p, fun i u hu => ?_⟩
  have hcu := hcell i u hu
  have hlt := World.block_lt_of_cell? W _ hcu
  exact cell_of_heap hcu (hW _ hlt hlt)⟩
/-- The reference's Kids: rows that read as the kids. -/
theorem RefKids (A0 : Option Addr) (c0 : Nat) (l0 : List S48) (w : World) (hr0 : Kd.C k48 w A0 l0.length l0) (hc0 : l0.length ≤ c0) (hl : l0.length < 4611686018427387904) :
    Calls Tryd.prog 43 #[.slice A0 l0.length c0] w fun e w' => ∃ (A : Option Addr) (c : Nat), e = .returned (.slice A (kidsL l0).length c) ∧ (kidsL l0).length ≤ c ∧ Kd.C (Kd.slice 48 k48) w' A (kidsL l0).length (kidsL l0) ∧ Below w.heap.size w w' := by
  obtain ⟨k, hk⟩ := (refKids_ev l0 hl).rounds
  refine (redressref03_Kids.calls k (fun k => k < w.heap.size) A0 c0 l0 _ w ⟨A0, c0, rfl, hc0, F48 hr0⟩ hk).mono ?_
  rintro e w' ⟨v, rfl, hN, hB⟩
  obtain ⟨A, c, rfl, hc, hC⟩ := Kd.N_reads hN
  exact ⟨A, c, rfl, hc, hC, hB⟩
theorem kids_round (k : Nat) (l : List S48) (out : List (List S48)) (p n c s : Nat) (rest m : List S48) (hc : (c : Int) < (n : Int)) (g1 : (0 : Int) ≤ (p : Int)) (g2 : (p : Int) ≤ (l.length : Int)) (g3 : (p : Int) ≤ ((p + s : Nat) : Int)) (g4 : ((p + s : Nat) : Int) ≤ (l.length : Int)) (g5 : out.length < 5864062014805)
    (hd : l.drop (p : Int).toNat = rest) (hs : row_Size.f rest = some ((s : Nat) : Int)) (ea : wrap64 ((p : Int) + (s : Int)) = ((p + s : Nat) : Int)) (em : (l.take (((p + s : Nat) : Int)).toNat).drop (p : Int).toNat = m) (hcl : api_Node_75.f m = some m) (ec : wrap64 ((c : Int) + 1) = ((c + 1 : Nat) : Int)) :
    row_Kids.l0 (k + 1) l out (p : Int) (n : Int) (c : Int) = row_Kids.l0 k l (out ++ [m]) ((p + s : Nat) : Int) (n : Int) ((c + 1 : Nat) : Int) := by
  simp only [row_Kids.l0]
  rw [if_pos hc, if_pos g1, if_pos g2, hd, hs, Option.bind_some, ea, if_pos g3, if_pos g4, em, hcl, Option.bind_some, if_pos g5, ec]
theorem rowKids_ev (l : List S48) (hl : l.length < 2305843009213693952) (hcl : l.length < 4398046511104) : Ev (fun k => row_Kids.f k l) (kidsL l) := by
  unfold row_Kids.f
  have hsz : row_Size.f l = some ((size S48.f0 l : Nat) : Int) := by unfold row_Size.f sz; rw [szw_size _ l hl]
  rw [hsz]
  simp only [Option.bind_some]
  unfold size kidsL
  cases e : tree S48.f0 l with
  | none => exact ev_if (by decide) (Ev.now _)
  | some p =>
    obtain ⟨t, r⟩ := p
    obtain ⟨hok, hl2⟩ := tree_some _ e
    have hp := Tr.len_pos t
    dsimp only
    refine ev_else (by simp only [Tr.len]; omega) ?_
    have fin : ∀ (out : List (List S48)) (nx : Int) (n c : Nat), ¬ ((c : Int) < (n : Int)) → Ev (fun k => row_Kids.l0 k l out nx (n : Int) (c : Int)) out := by
      intro out nx n c hc
      refine ev_step (f := _) (Ev.now out) (fun k => by simp only [row_Kids.l0]; rw [if_neg hc])
    have more : ∀ (out : List (List S48)) (p q : List S48) (s : Tr S48) (n c : Nat) (res : List (List S48)), l = p ++ (s.flat ++ q) → s.ok S48.f0 → c ≤ 1 → out.length ≤ 1 → (c : Int) < (n : Int) →
        Ev (fun k => row_Kids.l0 k l (out ++ [s.flat]) ((p.length + s.len : Nat) : Int) (n : Int) ((c + 1 : Nat) : Int)) res → Ev (fun k => row_Kids.l0 k l out (p.length : Int) (n : Int) (c : Int)) res := by
      intro out p q s n c res hpq hs hc1 ho hc h
      have hlen : p.length + s.len + q.length = l.length := by rw [hpq]; simp [Tr.len]; omega
      have EC := Aside0.mk (show wrap64 ((c : Int) + 1) = ((c + 1 : Nat) : Int) by rw [w64 _ (by omega) (by omega)]; omega)
      have EA := Aside0.mk (show wrap64 ((p.length : Int) + (s.len : Int)) = ((p.length + s.len : Nat) : Int) by rw [w64 _ (by omega) (by omega)]; omega)
      have hdrop : l.drop ((p.length : Int)).toNat = s.flat ++ q := by rw [Int.toNat_natCast, hpq, List.drop_left]
      have hs2 : row_Size.f (s.flat ++ q) = some ((s.len : Nat) : Int) := by
        unfold row_Size.f sz
        rw [szw_size _ _ (by simp [Tr.len] at hlen ⊢; omega)]
        unfold size
        rw [tree_of _ s q hs]
      have em : (l.take (((p.length + s.len : Nat) : Int)).toNat).drop ((p.length : Int)).toNat = s.flat := by
        rw [Int.toNat_natCast, Int.toNat_natCast, hpq]; exact mid_of p s.flat q
      have hcl2 : api_Node_75.f s.flat = some s.flat := by unfold api_Node_75.f; rw [if_pos (by simp [Tr.len] at hlen ⊢; omega)]
      have g1 : (0 : Int) ≤ (p.length : Int) := by omega
      have g2 : (p.length : Int) ≤ (l.length : Int) := by omega
      have g3 : (p.length : Int) ≤ ((p.length + s.len : Nat) : Int) := by omega
      have g4 : ((p.length + s.len : Nat) : Int) ≤ (l.length : Int) := by omega
      have g5 : out.length < 5864062014805 := by omega
      refine ev_step (f := _) h (fun k => ?_)
      clear h
      exact kids_round k l out p.length n c s.len (s.flat ++ q) s.flat hc g1 g2 g3 g4 g5 hdrop hs2 EA.out em hcl2 EC.out
    cases t with
    | n0 x =>
      have hx : l = x :: r := by rw [hl2]; rfl
      have h0 : ar x.f0 = 0 := hok
      refine ev_if (by rw [hx]; simp only [List.length_cons]; omega) ?_
      rw [show rd_T48 l 0 = x by rw [hx]; rfl]
      refine Ev.bind (arity_ev x.f0) ?_
      rw [h0]
      exact fin [] 1 0 0 (by decide)
    | n1 x a =>
      have hx : l = x :: (a.flat ++ r) := by rw [hl2]; rfl
      have h0 : ar x.f0 = 1 := hok.1
      refine ev_if (by rw [hx]; simp only [List.length_cons]; omega) ?_
      rw [show rd_T48 l 0 = x by rw [hx]; rfl]
      refine Ev.bind (arity_ev x.f0) ?_
      rw [h0]
      refine more [] [x] r a 1 0 _ hx hok.2 (by omega) (by simp) (by decide) ?_
      exact fin _ _ 1 1 (by decide)
    | n2 x a b =>
      have hx : l = x :: (a.flat ++ (b.flat ++ r)) := by rw [hl2]; simp [Tr.flat]
      have h0 : ar x.f0 = 2 := hok.1
      refine ev_if (by rw [hx]; simp only [List.length_cons]; omega) ?_
      rw [show rd_T48 l 0 = x by rw [hx]; rfl]
      refine Ev.bind (arity_ev x.f0) ?_
      rw [h0]
      refine more [] [x] (b.flat ++ r) a 2 0 _ hx hok.2.1 (by omega) (by simp) (by decide) ?_
      have hx2 : l = (x :: a.flat) ++ (b.flat ++ r) := by rw [hx]; rfl
      have := more [a.flat] (x :: a.flat) r b 2 1 [a.flat, b.flat] hx2 hok.2.2 (by omega) (by simp) (by decide) (fin _ _ 2 2 (by decide))
      rw [show (x :: a.flat).length = [x].length + a.len by simp [Tr.len]; omega] at this
      exact this
/-- Kids: rows of the call's own. -/
theorem Kids (A0 : Option Addr) (c0 : Nat) (l0 : List S48) (w : World) (hr0 : Kd.C k48 w A0 l0.length l0) (hc0 : l0.length ≤ c0) (hl : l0.length ≤ 1000000) :
    Calls Tryd.prog 42 #[.slice A0 l0.length c0] w fun e w' => ∃ (A : Option Addr) (c : Nat), e = .returned (.slice A (kidsL l0).length c) ∧ Kd.S (Kd.slice 48 k48) 51 w' w.heap.size (fun _ => True) (.slice A (kidsL l0).length c) (kidsL l0) ∧ Below w.heap.size w w' := by
  obtain ⟨k, hk⟩ := (rowKids_ev l0 (by omega) (by omega)).rounds
  refine (row_Kids.calls k A0 c0 l0 _ w hr0 hc0 hk).mono ?_
  rintro e w' ⟨v, rfl, hS, hB⟩
  obtain ⟨A, c, rfl⟩ := Kd.S_slice hS
  exact ⟨A, c, rfl, hS, hB⟩
end Go.Proofs.YtefiadocljnpjaaDoor.Row
/- What the functions of rows tell: depth, counts, sameness, which nodes may be, by the reference too. -/
namespace Go.Proofs.YtefiadocljnpjaaDoor.Row
open Go.Proofs.Tree Go.RowKit Go.Proofs.YtefiadocljnpjaaDoorW.PrintWords Go.Proofs.YtefiadocljnpjaaDoorW.PrintLast Go.Proofs.YtefiadocljnpjaaDoorW.PrintMore Go.Proofs.YtefiadocljnpjaaDoor.PK
set_option linter.unusedVariables false
set_option linter.unusedSimpArgs false
theorem mx_max (a b : Nat) : mx (a : Int) (b : Int) = ((max a b : Nat) : Int) := by unfold mx; split <;> omega
theorem kidsL_of (t : Tr S48) (r : List S48) (h : t.ok S48.f0) : kidsL (t.flat ++ r) = t.kids.map Tr.flat := by unfold kidsL; rw [tree_of _ t r h]
theorem rowSize_some (l : List S48) (hl : l.length < 2305843009213693952) : row_Size.f l = some ((size S48.f0 l : Nat) : Int) := by unfold row_Size.f sz; rw [szw_size _ l hl]
theorem depth_round (k : Nat) (d : Int) (ks : List (List S48)) (n c : Nat) (e : Int) (m : List S48) (hc : (c : Int) < (n : Int)) (g1 : (0 : Int) ≤ (c : Int)) (g2 : (c : Int) < (ks.length : Int)) (hm : rd_L9 ks (c : Int) = m) (hd : row_Depth.f k m = some e) :
    row_Depth.l0 (k + 1) d ks (n : Int) (c : Int) = row_Depth.l0 k (mx d e) ks (n : Int) (wrap64 ((c : Int) + 1)) := by
  simp only [row_Depth.l0]
  rw [if_pos hc, if_pos g1, if_pos g2, hm, hd, Option.bind_some]
theorem depth_end (k : Nat) (d : Int) (ks : List (List S48)) (n c : Nat) (hc : ¬ (c : Int) < (n : Int)) : row_Depth.l0 (k + 1) d ks (n : Int) (c : Int) = some (wrap64 (d + 1)) := by
  simp only [row_Depth.l0]
  rw [if_neg hc]
theorem ev_depth_step {d : Int} {ks : List (List S48)} {n c : Nat} {e r : Int} {m : List S48} (hc : c < n) (hn : n = ks.length) (hb : n ≤ 2) (hm : rd_L9 ks (c : Int) = m) (hd : Ev (fun k => row_Depth.f k m) e) (h : Ev (fun k => row_Depth.l0 k (mx d e) ks (n : Int) ((c + 1 : Nat) : Int)) r) : Ev (fun k => row_Depth.l0 k d ks (n : Int) (c : Int)) r := by
  obtain ⟨K1, h1⟩ := hd
  obtain ⟨K2, h2⟩ := h
  refine ⟨K1 + K2 + 1, fun k hk => ?_⟩
  obtain ⟨k, rfl⟩ : ∃ m, k = m + 1 := ⟨k - 1, by omega⟩
  show row_Depth.l0 (k + 1) d ks (n : Int) (c : Int) = some r
  have ec : wrap64 ((c : Int) + 1) = ((c + 1 : Nat) : Int) := by rw [w64 _ (by omega) (by omega)]; omega
  rw [depth_round k d ks n c e m (by omega) (by omega) (by omega) hm (h1 k (by omega)), ec]
  exact h2 k (by omega)
theorem ev_depth_end (d : Int) (ks : List (List S48)) (n c : Nat) (hc : ¬ c < n) : Ev (fun k => row_Depth.l0 k d ks (n : Int) (c : Int)) (wrap64 (d + 1)) :=
  ev_step (f := _) (Ev.now (wrap64 (d + 1))) (fun k => depth_end k d ks n c (by omega))
theorem depth_tree (t : Tr S48) : ∀ (r : List S48), t.ok S48.f0 → (t.flat ++ r).length ≤ 1000000 → Ev (fun k => row_Depth.f k (t.flat ++ r)) ((t.dep : Nat) : Int) := by
  have start : ∀ (t : Tr S48) (r : List S48), t.ok S48.f0 → (t.flat ++ r).length ≤ 1000000 → ∀ res : Int, Ev (fun k => row_Depth.l0 k 0 (t.kids.map Tr.flat) (((t.kids.map Tr.flat).length : Nat) : Int) 0) res → Ev (fun k => row_Depth.f k (t.flat ++ r)) res := by
    intro t r h hl res hres
    obtain ⟨K1, h1⟩ := rowKids_ev (t.flat ++ r) (by omega) (by omega)
    obtain ⟨K2, h2⟩ := hres
    refine ⟨K1 + K2 + 1, fun k hk => ?_⟩
    obtain ⟨k, rfl⟩ : ∃ m, k = m + 1 := ⟨k - 1, by omega⟩
    show row_Depth.f (k + 1) (t.flat ++ r) = some res
    have hs := rowSize_some (t.flat ++ r) (by omega)
    have hsz : size S48.f0 (t.flat ++ r) = t.len := by unfold size; rw [tree_of _ t r h]
    have hp := Tr.len_pos t
    have hz : ¬ ((t.len : Nat) : Int) = 0 := by unfold Tr.len; omega
    have hk1 : row_Kids.f k (t.flat ++ r) = some (kidsL (t.flat ++ r)) := h1 k (by omega)
    have hk2 : row_Depth.l0 k 0 (t.kids.map Tr.flat) (((t.kids.map Tr.flat).length : Nat) : Int) 0 = some res := h2 k (by omega)
    rw [kidsL_of t r h] at hk1
    rw [hsz] at hs
    simp only [row_Depth.f]
    rw [hs, Option.bind_some, if_neg hz, hk1, Option.bind_some]
    exact hk2
  induction t with
  | n0 x =>
    intro r h hl
    refine start _ r h hl _ ?_
    have := ev_depth_end 0 [] 0 0 (by omega)
    rw [show wrap64 (0 + 1) = (1 : Int) by decide +kernel] at this
    exact this
  | n1 x a ih =>
    intro r h hl
    have hla : (a.flat ++ []).length ≤ 1000000 := by simp [Tr.flat] at hl ⊢; omega
    have hd := dep_le a
    have hlen : a.len ≤ 1000000 := by simpa [Tr.len] using hla
    have ia := ih [] h.2 hla
    rw [List.append_nil] at ia
    refine start _ r h hl _ ?_
    refine ev_depth_step (c := 0) (n := 1) (e := (a.dep : Int)) (m := a.flat) (by omega) rfl (by omega) rfl ia ?_
    have := ev_depth_end (mx 0 (a.dep : Int)) [a.flat] 1 1 (by omega)
    rw [show (((Tr.n1 x a).dep : Nat) : Int) = wrap64 (mx 0 (a.dep : Int) + 1) by rw [show (0 : Int) = ((0 : Nat) : Int) from rfl, mx_max, w64 _ (by omega) (by omega)]; simp only [Tr.dep]; omega]
    exact this
  | n2 x a b iha ihb =>
    intro r h hl
    have hla : (a.flat ++ []).length ≤ 1000000 := by simp [Tr.flat] at hl ⊢; omega
    have hlb : (b.flat ++ []).length ≤ 1000000 := by simp [Tr.flat] at hl ⊢; omega
    have hda := dep_le a
    have hdb := dep_le b
    have hlena : a.len ≤ 1000000 := by simpa [Tr.len] using hla
    have hlenb : b.len ≤ 1000000 := by simpa [Tr.len] using hlb
    have ia := iha [] h.2.1 hla
    have ib := ihb [] h.2.2 hlb
    rw [List.append_nil] at ia ib
    refine start _ r h hl _ ?_
    refine ev_depth_step (c := 0) (n := 2) (e := (a.dep : Int)) (m := a.flat) (by omega) rfl (by omega) rfl ia ?_
    refine ev_depth_step (c := 1) (n := 2) (e := (b.dep : Int)) (m := b.flat) (by omega) rfl (by omega) rfl ib ?_
    have := ev_depth_end (mx (mx 0 (a.dep : Int)) (b.dep : Int)) [a.flat, b.flat] 2 2 (by omega)
    rw [show (((Tr.n2 x a b).dep : Nat) : Int) = wrap64 (mx (mx 0 (a.dep : Int)) (b.dep : Int) + 1) by rw [show (0 : Int) = ((0 : Nat) : Int) from rfl, mx_max, mx_max, w64 _ (by omega) (by omega)]; simp only [Tr.dep]; omega]
    exact this
theorem rowDepth_ev (l : List S48) (hl : l.length ≤ 1000000) : Ev (fun k => row_Depth.f k l) ((depth S48.f0 l : Nat) : Int) := by
  cases e : tree S48.f0 l with
  | none =>
    have hs := rowSize_some l (by omega)
    have hz : size S48.f0 l = 0 := by unfold size; rw [e]
    have hd : depth S48.f0 l = 0 := by unfold depth; rw [e]
    rw [hz] at hs
    rw [hd]
    refine ⟨1, fun k hk => ?_⟩
    obtain ⟨k, rfl⟩ : ∃ m, k = m + 1 := ⟨k - 1, by omega⟩
    show row_Depth.f (k + 1) l = some _
    simp only [row_Depth.f]
    rw [hs, Option.bind_some, if_pos (by rfl)]
    rfl
  | some p =>
    obtain ⟨t, r⟩ := p
    obtain ⟨hok, hl2⟩ := tree_some _ e
    have hd : depth S48.f0 l = t.dep := by unfold depth; rw [e]
    rw [hd, hl2]
    exact depth_tree t r hok (by rw [← hl2]; exact hl)
theorem Depth (A0 : Option Addr) (c0 : Nat) (l0 : List S48) (w : World) (hr0 : Kd.C k48 w A0 l0.length l0) (hc0 : l0.length ≤ c0) (hl : l0.length ≤ 1000000) :
    Calls Tryd.prog 38 #[.slice A0 l0.length c0] w fun e w' => e = .returned (.int .i64 (depth S48.f0 l0 : Int)) ∧ Below w.heap.size w w' := by
  obtain ⟨k, hk⟩ := (rowDepth_ev l0 hl).rounds
  exact row_Depth.calls k A0 c0 l0 _ w hr0 hc0 hk
theorem Size (A0 : Option Addr) (c0 : Nat) (l0 : List S48) (w : World) (hr0 : Kd.C k48 w A0 l0.length l0) (hc0 : l0.length ≤ c0) (hl : l0.length < 2305843009213693952) :
    Calls Tryd.prog 36 #[.slice A0 l0.length c0] w fun e w' => e = .returned (.int .i64 (size S48.f0 l0 : Int)) ∧ Below w.heap.size w w' :=
  row_Size.calls A0 c0 l0 _ w hr0 hc0 (rowSize_some l0 hl)
end Go.Proofs.YtefiadocljnpjaaDoor.Row
/- What the functions of rows tell: counts, sameness, nodes put together. -/
namespace Go.Proofs.YtefiadocljnpjaaDoor.Row
open Go.Proofs.Tree Go.RowKit Go.Proofs.YtefiadocljnpjaaDoorW.PrintWords Go.Proofs.YtefiadocljnpjaaDoorW.PrintLast Go.Proofs.YtefiadocljnpjaaDoorW.PrintMore Go.Proofs.YtefiadocljnpjaaDoor.PK
set_option linter.unusedVariables false
set_option linter.unusedSimpArgs false
theorem wsucc (j : Nat) (n : Nat) (h : j < n) (hn : n ≤ 9223372036854775807) : wrap64 ((j : Int) + 1) = ((j + 1 : Nat) : Int) := by unfold wrap64; omega
theorem rd_int (l : List Int) (j : Nat) (h : j < l.length) : l.drop j = rd l (j : Int) :: l.drop (j + 1) := by
  rw [List.drop_eq_getElem_cons h]; unfold rd; simp [List.getD_eq_getElem?_getD, List.getElem?_eq_getElem h]
/-- The kind of a node is one of some. -/
def hasK (ks : List Int) (a : Int) : Bool := ks.any fun x => a == x
theorem index_ev (ks : List Int) (a : Int) (hn : ks.length ≤ 9223372036854775807) (d : Nat) : ∀ j : Nat, ks.length - j ≤ d → j ≤ ks.length →
    ∃ r, Ev (fun k => slices_Index_int_int.l0 k ks a (ks.length : Int) (j : Int)) r ∧ decide (r ≥ 0) = hasK (ks.drop j) a := by
  induction d with
  | zero =>
    intro j h h2
    refine ⟨-1, ev_step (f := _) (Ev.now _) (fun k => by simp only [slices_Index_int_int.l0]; rw [if_neg (by omega)]), ?_⟩
    rw [List.drop_eq_nil_of_le (by omega)]; rfl
  | succ d ih =>
    intro j h h2
    by_cases hj : j < ks.length
    · rw [rd_int ks j hj]
      by_cases e : a = rd ks (j : Int)
      · refine ⟨(j : Int), ev_step (f := _) (Ev.now _) (fun k => by simp only [slices_Index_int_int.l0]; rw [if_pos (by omega), if_pos (by omega), if_pos (by omega), if_pos e]), ?_⟩
        unfold hasK; rw [List.any_cons, ← e]; simp
      · obtain ⟨r, hr, hd⟩ := ih (j + 1) (by omega) (by omega)
        refine ⟨r, ev_step (f := _) hr (fun k => by simp only [slices_Index_int_int.l0]; rw [if_pos (by omega), if_pos (by omega), if_pos (by omega), if_neg e, wsucc j _ hj hn]), ?_⟩
        rw [hd]; unfold hasK; rw [List.any_cons]; simp [e]
    · refine ⟨-1, ev_step (f := _) (Ev.now _) (fun k => by simp only [slices_Index_int_int.l0]; rw [if_neg (by omega)]), ?_⟩
      rw [List.drop_eq_nil_of_le (by omega)]; rfl
theorem contains_ev (ks : List Int) (a : Int) (hn : ks.length ≤ 9223372036854775807) : Ev (fun k => slices_Contains_int_int.f k ks a) (hasK ks a) := by
  obtain ⟨r, hr, hd⟩ := index_ev ks a hn _ 0 (Nat.le_refl _) (Nat.zero_le _)
  rw [List.drop_zero] at hd
  unfold slices_Contains_int_int.f slices_Index_int_int.f
  refine Ev.bind hr ?_
  rw [hd]; exact Ev.now _
/-- How many nodes are of some kinds. -/
def cntL (l : List S48) (ks : List Int) : Nat := l.countP fun n => hasK ks n.f0
theorem count_ev (l : List S48) (ks : List Int) (hl : l.length ≤ 9223372036854775807) (hn : ks.length ≤ 9223372036854775807) (d : Nat) : ∀ (j m : Nat), l.length - j ≤ d → j ≤ l.length → m ≤ j →
    Ev (fun k => row_Count.l0 k ks (m : Int) l (l.length : Int) (j : Int)) ((m + cntL (l.drop j) ks : Nat) : Int) := by
  induction d with
  | zero =>
    intro j m h h2 h3
    rw [List.drop_eq_nil_of_le (by omega)]
    exact ev_step (f := _) (Ev.now _) (fun k => by simp only [row_Count.l0]; rw [if_neg (by omega)]; rfl)
  | succ d ih =>
    intro j m h h2 h3
    by_cases hj : j < l.length
    · rw [drop_rd l j hj]
      refine ev_step (f := fun k => (slices_Contains_int_int.f k ks ((rd_T48 l (j : Int)).f0)).bind fun t165 => (if t165 = true then (row_Count.l0 k ks (wrap64 ((m : Int) + 1)) l (l.length : Int) (wrap64 ((j : Int) + 1))) else (row_Count.l0 k ks (m : Int) l (l.length : Int) (wrap64 ((j : Int) + 1))))) ?_ (fun k => by simp only [row_Count.l0]; rw [if_pos (by omega), if_pos (by omega), if_pos (by omega)])
      refine Ev.bind (contains_ev ks _ hn) ?_
      rw [wsucc j _ hj hl, wsucc m l.length (by omega) hl]
      unfold cntL
      rw [List.countP_cons]
      by_cases hk : hasK ks (rd_T48 l (j : Int)).f0 = true
      · rw [if_pos hk]
        refine ev_if hk ?_
        have := ih (j + 1) (m + 1) (by omega) (by omega) (by omega)
        unfold cntL at this
        rw [show m + (List.countP (fun n => hasK ks n.f0) (List.drop (j + 1) l) + 1) = m + 1 + List.countP (fun n => hasK ks n.f0) (List.drop (j + 1) l) by omega]
        exact this
      · rw [if_neg hk]
        refine ev_else hk ?_
        exact ih (j + 1) m (by omega) (by omega) (by omega)
    · rw [List.drop_eq_nil_of_le (by omega)]
      exact ev_step (f := _) (Ev.now _) (fun k => by simp only [row_Count.l0]; rw [if_neg (by omega)]; rfl)
theorem Count (A0 : Option Addr) (c0 : Nat) (l0 : List S48) (A1 : Option Addr) (c1 : Nat) (l1 : List Int) (w : World) (hr0 : Kd.C k48 w A0 l0.length l0) (hc0 : l0.length ≤ c0) (hr1 : Kd.C (Kd.int .i64) w A1 l1.length l1) (hc1 : l1.length ≤ c1) :
    Calls Tryd.prog 47 #[.slice A0 l0.length c0, .slice A1 l1.length c1] w fun e w' => e = .returned (.int .i64 (cntL l0 l1 : Int)) ∧ Below w.heap.size w w' := by
  obtain ⟨k, hk⟩ := (count_ev l0 l1 (Kd.C_max hr0) (Kd.C_max hr1) _ 0 0 (Nat.le_refl _) (Nat.zero_le _) (Nat.le_refl _)).rounds
  rw [List.drop_zero, Nat.zero_add] at hk
  exact row_Count.calls k A0 c0 l0 A1 c1 l1 _ w hr0 hc0 hr1 hc1 hk
theorem refCount_in (l : List S48) (ks : List Int) (hn : ks.length ≤ 9223372036854775807) (x5 : Int) (j : Nat) (hj : j < l.length) (r : Int) (d : Nat) : ∀ (b : Bool) (i : Nat), ks.length - i ≤ d → i ≤ ks.length →
    (b = true ∨ hasK (ks.drop i) (rd_T48 l (j : Int)).f0 = true → Ev (fun k => redressref03_Count.l0 k l ks (wrap64 (x5 + 1)) (wrap64 ((j : Int) + 1))) r) →
    (b = false ∧ hasK (ks.drop i) (rd_T48 l (j : Int)).f0 = false → Ev (fun k => redressref03_Count.l0 k l ks x5 (wrap64 ((j : Int) + 1))) r) →
    Ev (fun k => redressref03_Count.l1 k l ks x5 (j : Int) b (i : Int)) r := by
  induction d with
  | zero =>
    intro b i h h2 ht hf
    cases b with
    | true => exact ev_step (f := _) (ht (.inl rfl)) (fun k => by simp only [redressref03_Count.l1]; rw [if_neg (by omega), if_pos trivial])
    | false => exact ev_step (f := _) (hf ⟨rfl, by rw [List.drop_eq_nil_of_le (by omega)]; rfl⟩) (fun k => by simp only [redressref03_Count.l1]; rw [if_neg (by omega), if_neg (by decide)])
  | succ d ih =>
    intro b i h h2 ht hf
    by_cases hi : i < ks.length
    · have ei := wsucc i _ hi hn
      cases b with
      | true =>
        refine ev_step (f := _) (ih true (i + 1) (by omega) (by omega) (fun _ => ht (.inl rfl)) (fun e => by cases e.1)) (fun k => by simp only [redressref03_Count.l1]; rw [if_pos (by omega), if_pos trivial, ei])
      | false =>
        have hcons : hasK (ks.drop i) (rd_T48 l (j : Int)).f0 = ((rd ks (i : Int) == (rd_T48 l (j : Int)).f0) || hasK (ks.drop (i + 1)) (rd_T48 l (j : Int)).f0) := by
          rw [rd_int ks i hi]; unfold hasK; rw [List.any_cons]
          congr 1
          exact Bool.eq_iff_iff.2 ⟨fun e => beq_iff_eq.2 (beq_iff_eq.1 e).symm, fun e => beq_iff_eq.2 (beq_iff_eq.1 e).symm⟩
        refine ev_step (f := _) (ih (rd ks (i : Int) == (rd_T48 l (j : Int)).f0) (i + 1) (by omega) (by omega) (fun e => ht (.inr ?_)) (fun e => hf ⟨rfl, ?_⟩)) (fun k => by simp only [redressref03_Count.l1]; rw [if_pos (by omega), if_neg (by decide), if_pos (by omega), if_pos (by omega), if_pos (by omega), ei])
        · rw [hcons]; rcases e with e | e <;> rw [e] <;> simp
        · rw [hcons, e.1, e.2]; rfl
    · cases b with
      | true => exact ev_step (f := _) (ht (.inl rfl)) (fun k => by simp only [redressref03_Count.l1]; rw [if_neg (by omega), if_pos trivial])
      | false => exact ev_step (f := _) (hf ⟨rfl, by rw [List.drop_eq_nil_of_le (by omega)]; rfl⟩) (fun k => by simp only [redressref03_Count.l1]; rw [if_neg (by omega), if_neg (by decide)])
theorem refCount_ev (l : List S48) (ks : List Int) (hl : l.length ≤ 9223372036854775807) (hn : ks.length ≤ 9223372036854775807) (d : Nat) : ∀ (j m : Nat), l.length - j ≤ d → j ≤ l.length → m ≤ j →
    Ev (fun k => redressref03_Count.l0 k l ks (m : Int) (j : Int)) ((m + cntL (l.drop j) ks : Nat) : Int) := by
  induction d with
  | zero =>
    intro j m h h2 h3
    rw [List.drop_eq_nil_of_le (by omega)]
    exact ev_step (f := _) (Ev.now _) (fun k => by simp only [redressref03_Count.l0]; rw [if_neg (by omega)]; rfl)
  | succ d ih =>
    intro j m h h2 h3
    by_cases hj : j < l.length
    · rw [drop_rd l j hj]
      refine ev_step (f := fun k => redressref03_Count.l1 k l ks (m : Int) (j : Int) false 0) ?_ (fun k => by simp only [redressref03_Count.l0]; rw [if_pos (by omega)])
      refine refCount_in l ks hn (m : Int) j hj _ _ false 0 (Nat.le_refl _) (Nat.zero_le _) (fun e => ?_) (fun e => ?_)
      · rw [List.drop_zero] at e
        have hk : hasK ks (rd_T48 l (j : Int)).f0 = true := by rcases e with e | e; · cases e
                                                               · exact e
        rw [wsucc j _ hj hl, wsucc m l.length (by omega) hl]
        unfold cntL
        rw [List.countP_cons, if_pos hk]
        have := ih (j + 1) (m + 1) (by omega) (by omega) (by omega)
        unfold cntL at this
        rw [show m + (List.countP (fun n => hasK ks n.f0) (List.drop (j + 1) l) + 1) = m + 1 + List.countP (fun n => hasK ks n.f0) (List.drop (j + 1) l) by omega]
        exact this
      · rw [List.drop_zero] at e
        rw [wsucc j _ hj hl]
        unfold cntL
        rw [List.countP_cons, if_neg (by rw [e.2]; decide)]
        exact ih (j + 1) m (by omega) (by omega) (by omega)
    · rw [List.drop_eq_nil_of_le (by omega)]
      exact ev_step (f := _) (Ev.now _) (fun k => by simp only [redressref03_Count.l0]; rw [if_neg (by omega)]; rfl)
theorem RefCount (A0 : Option Addr) (c0 : Nat) (l0 : List S48) (A1 : Option Addr) (c1 : Nat) (l1 : List Int) (w : World) (hr0 : Kd.C k48 w A0 l0.length l0) (hc0 : l0.length ≤ c0) (hr1 : Kd.C (Kd.int .i64) w A1 l1.length l1) (hc1 : l1.length ≤ c1) :
    Calls Tryd.prog 48 #[.slice A0 l0.length c0, .slice A1 l1.length c1] w fun e w' => e = .returned (.int .i64 (cntL l0 l1 : Int)) ∧ Drawn0 w w' := by
  obtain ⟨k, hk⟩ := (refCount_ev l0 l1 (Kd.C_max hr0) (Kd.C_max hr1) _ 0 0 (Nat.le_refl _) (Nat.zero_le _) (Nat.le_refl _)).rounds
  rw [List.drop_zero, Nat.zero_add] at hk
  exact redressref03_Count.calls k A0 c0 l0 A1 c1 l1 _ w hr0 hc0 hr1 hc1 hk
/-- Are two nodes the same? -/
def eqN (x y : S48) : Bool := (x.f0 == y.f0) && ((x.f1.toList == y.f1.toList) && (x.f2 == y.f2))
theorem toList_inj {a b : ByteArray} (h : a.toList = b.toList) : a = b := by
  rw [ByteArray.toList_eq, ByteArray.toList_eq] at h
  have : a.data = b.data := Array.ext' h
  cases a; cases b; simp at this; rw [this]
theorem eqN_iff (x y : S48) : eqN x y = true ↔ x = y := by
  unfold eqN
  constructor
  · intro h
    simp only [Bool.and_eq_true, beq_iff_eq] at h
    obtain ⟨h1, h2, h3⟩ := h
    have := toList_inj h2
    cases x; cases y; simp only at h1 this h3; rw [h1, this, h3]
  · rintro rfl; simp
/-- Are two rows the same? -/
def same : List S48 → List S48 → Bool
  | [], [] => true
  | x :: a, y :: b => eqN x y && same a b
  | _, _ => false
theorem same_iff : ∀ (a b : List S48), same a b = true ↔ a = b
  | [], [] => by simp [same]
  | [], _ :: _ => by simp [same]
  | _ :: _, [] => by simp [same]
  | x :: a, y :: b => by
    have := same_iff a b
    unfold same
    rw [Bool.and_eq_true, eqN_iff, this]
    exact ⟨fun ⟨h1, h2⟩ => by rw [h1, h2], fun h => by injection h with h1 h2; exact ⟨h1, h2⟩⟩
theorem same_len : ∀ (a b : List S48), a.length ≠ b.length → same a b = false := fun a b h => by
  cases e : same a b with
  | false => rfl
  | true => exact absurd (congrArg List.length ((same_iff a b).1 e)) h
theorem neN (x y : S48) : (!((x.f0) == (y.f0)) || (!(((x.f1).toList) == ((y.f1).toList)) || (!((x.f2) == (y.f2))))) = !eqN x y := by
  unfold eqN; cases (x.f0 == y.f0) <;> cases (x.f1.toList == y.f1.toList) <;> cases (x.f2 == y.f2) <;> rfl
theorem refSame_ev (a b : List S48) (hl : a.length ≤ 9223372036854775807) (he : a.length = b.length) (d : Nat) : ∀ (j : Nat), a.length - j ≤ d → j ≤ a.length → Ev (fun k => redressref03_Same.l0 k a b (j : Int)) (same (a.drop j) (b.drop j)) := by
  induction d with
  | zero =>
    intro j h h2
    rw [List.drop_eq_nil_of_le (by omega), List.drop_eq_nil_of_le (by omega)]
    exact ev_step (f := _) (Ev.now _) (fun k => by simp only [redressref03_Same.l0]; rw [if_neg (by omega)]; rfl)
  | succ d ih =>
    intro j h h2
    by_cases hj : j < a.length
    · rw [drop_rd a j hj, drop_rd b j (by omega)]
      unfold same
      by_cases e : eqN (rd_T48 a (j : Int)) (rd_T48 b (j : Int)) = true
      · rw [e, Bool.true_and]
        exact ev_step (f := _) (ih (j + 1) (by omega) (by omega)) (fun k => by simp only [redressref03_Same.l0]; rw [if_pos (by omega), if_pos (by omega), if_pos (by omega), if_neg (by rw [neN, e]; decide), wsucc j _ hj hl])
      · have e2 : eqN (rd_T48 a (j : Int)) (rd_T48 b (j : Int)) = false := by simpa using e
        rw [e2, Bool.false_and]
        exact ev_step (f := _) (Ev.now _) (fun k => by simp only [redressref03_Same.l0]; rw [if_pos (by omega), if_pos (by omega), if_pos (by omega), if_pos (by rw [neN, e2]; rfl)])
    · rw [List.drop_eq_nil_of_le (by omega), List.drop_eq_nil_of_le (by omega)]
      exact ev_step (f := _) (Ev.now _) (fun k => by simp only [redressref03_Same.l0]; rw [if_neg (by omega)]; rfl)
theorem RefSame (A0 : Option Addr) (c0 : Nat) (l0 : List S48) (A1 : Option Addr) (c1 : Nat) (l1 : List S48) (w : World) (hr0 : Kd.C k48 w A0 l0.length l0) (hc0 : l0.length ≤ c0) (hr1 : Kd.C k48 w A1 l1.length l1) (hc1 : l1.length ≤ c1) :
    Calls Tryd.prog 44 #[.slice A0 l0.length c0, .slice A1 l1.length c1] w fun e w' => e = .returned (.bool (same l0 l1)) ∧ Drawn0 w w' := by
  by_cases he : l0.length = l1.length
  · obtain ⟨k, hk⟩ := (refSame_ev l0 l1 (Kd.C_max hr0) he _ 0 (Nat.le_refl _) (Nat.zero_le _)).rounds
    rw [List.drop_zero, List.drop_zero] at hk
    exact redressref03_Same.calls k A0 c0 l0 A1 c1 l1 _ w hr0 hc0 hr1 hc1 (by unfold redressref03_Same.f; rw [if_pos (by omega)]; exact hk)
  · exact redressref03_Same.calls 0 A0 c0 l0 A1 c1 l1 _ w hr0 hc0 hr1 hc1 (by unfold redressref03_Same.f; rw [if_neg (by omega), same_len _ _ he])
theorem equal_ev (a b : List S48) (hl : a.length ≤ 9223372036854775807) (he : a.length = b.length) (d : Nat) : ∀ (j : Nat), a.length - j ≤ d → j ≤ a.length → Ev (fun k => api_Node_79.l0 k a b (a.length : Int) (j : Int)) (same (a.drop j) (b.drop j)) := by
  induction d with
  | zero =>
    intro j h h2
    rw [List.drop_eq_nil_of_le (by omega), List.drop_eq_nil_of_le (by omega)]
    exact ev_step (f := _) (Ev.now _) (fun k => by simp only [api_Node_79.l0]; rw [if_neg (by omega)]; rfl)
  | succ d ih =>
    intro j h h2
    by_cases hj : j < a.length
    · rw [drop_rd a j hj, drop_rd b j (by omega)]
      unfold same
      by_cases e : eqN (rd_T48 a (j : Int)) (rd_T48 b (j : Int)) = true
      · rw [e, Bool.true_and]
        exact ev_step (f := _) (ih (j + 1) (by omega) (by omega)) (fun k => by simp only [api_Node_79.l0]; rw [if_pos (by omega), if_pos (by omega), if_pos (by omega), if_pos (by omega), if_neg (by rw [neN, e]; decide), wsucc j _ hj hl])
      · have e2 : eqN (rd_T48 a (j : Int)) (rd_T48 b (j : Int)) = false := by simpa using e
        rw [e2, Bool.false_and]
        exact ev_step (f := _) (Ev.now _) (fun k => by simp only [api_Node_79.l0]; rw [if_pos (by omega), if_pos (by omega), if_pos (by omega), if_pos (by omega), if_pos (by rw [neN, e2]; rfl)])
    · rw [List.drop_eq_nil_of_le (by omega), List.drop_eq_nil_of_le (by omega)]
      exact ev_step (f := _) (Ev.now _) (fun k => by simp only [api_Node_79.l0]; rw [if_neg (by omega)]; rfl)
theorem Same (A0 : Option Addr) (c0 : Nat) (l0 : List S48) (A1 : Option Addr) (c1 : Nat) (l1 : List S48) (w : World) (hr0 : Kd.C k48 w A0 l0.length l0) (hc0 : l0.length ≤ c0) (hr1 : Kd.C k48 w A1 l1.length l1) (hc1 : l1.length ≤ c1) :
    Calls Tryd.prog 49 #[.slice A0 l0.length c0, .slice A1 l1.length c1] w fun e w' => e = .returned (.bool (same l0 l1)) ∧ Drawn0 w w' := by
  by_cases he : l0.length = l1.length
  · obtain ⟨k, hk⟩ := (equal_ev l0 l1 (Kd.C_max hr0) he _ 0 (Nat.le_refl _) (Nat.zero_le _)).rounds
    rw [List.drop_zero, List.drop_zero] at hk
    replace hk : api_Node_79.l0 k l0 l1 (l0.length : Int) 0 = some (same l0 l1) := hk
    exact row_Same.calls k A0 c0 l0 A1 c1 l1 (same l0 l1) w hr0 hc0 hr1 hc1 (by unfold row_Same.f api_Node_79.f; rw [if_pos (by omega), hk, Option.bind_some])
  · exact row_Same.calls 0 A0 c0 l0 A1 c1 l1 (same l0 l1) w hr0 hc0 hr1 hc1 (by unfold row_Same.f api_Node_79.f; rw [if_neg (by omega), same_len _ _ he, Option.bind_some])
theorem One (n : S48) (A1 : Option Addr) (c1 : Nat) (l1 : List S48) (w : World) (hr1 : Kd.C k48 w A1 l1.length l1) (hc1 : l1.length ≤ c1) (hl : l1.length ≤ 1000000) :
    Calls Tryd.prog 77 #[.agg #[.int .i64 n.f0, .string n.f1, .int .i64 n.f2], .slice A1 l1.length c1] w fun e w' => ∃ v0_ : Value, e = .returned (v0_) ∧ Kd.R k48 48 w' w.heap.size (fun _ => True) v0_ (n :: l1) ∧ Below w.heap.size w w' :=
  redressref03_One.calls n.f0 n.f1 n.f2 A1 c1 l1 (n :: l1) w hr1 hc1 (by unfold redressref03_One.f; rw [if_pos (by decide), Option.bind_some, if_pos (by simp; omega)]; rfl)
theorem Two (n : S48) (A1 : Option Addr) (c1 : Nat) (l1 : List S48) (A2 : Option Addr) (c2 : Nat) (l2 : List S48) (w : World) (hr1 : Kd.C k48 w A1 l1.length l1) (hc1 : l1.length ≤ c1) (hr2 : Kd.C k48 w A2 l2.length l2) (hc2 : l2.length ≤ c2) (hl : l1.length ≤ 1000000) (hl2 : l2.length ≤ 1000000) :
    Calls Tryd.prog 46 #[.agg #[.int .i64 n.f0, .string n.f1, .int .i64 n.f2], .slice A1 l1.length c1, .slice A2 l2.length c2] w fun e w' => ∃ v0_ : Value, e = .returned (v0_) ∧ Kd.R k48 48 w' w.heap.size (fun _ => True) v0_ (n :: (l1 ++ l2)) ∧ Below w.heap.size w w' :=
  redressref03_Two.calls n.f0 n.f1 n.f2 A1 c1 l1 A2 c2 l2 (n :: (l1 ++ l2)) w hr1 hc1 hr2 hc2 (by
    unfold redressref03_Two.f redressref03_One.f
    rw [if_pos (by decide), Option.bind_some, if_pos (by simp; omega), Option.bind_some, if_pos (by simp; omega)]
    simp)
end Go.Proofs.YtefiadocljnpjaaDoor.Row
/- Which nodes may be, and which rows are one tree, by the reference: as the program has it. -/
namespace Go.Proofs.YtefiadocljnpjaaDoor.Row
open Go.Proofs.Tree Go.RowKit Go.Proofs.YtefiadocljnpjaaDoorW.PrintWords Go.Proofs.YtefiadocljnpjaaDoorW.PrintLast Go.Proofs.YtefiadocljnpjaaDoorW.PrintMore Go.Proofs.YtefiadocljnpjaaDoor.PK
set_option linter.unusedVariables false
set_option linter.unusedSimpArgs false
theorem word_is (s : ByteArray) : redressref03_word.f s = some (wd s) := by
  unfold redressref03_word.f wd
  have t0 : w0.toList = ([115, 107, 105, 112] : List UInt8) := by decide +kernel
  have t1 : w1.toList = ([116, 104, 114, 111, 119] : List UInt8) := by decide +kernel
  have t2 : w2.toList = ([121, 105, 101, 108, 100] : List UInt8) := by decide +kernel
  have t3 : w3.toList = ([115, 107, 105, 112, 112] : List UInt8) := by decide +kernel
  have t4 : w4.toList = ([116, 104, 114, 111, 119, 119] : List UInt8) := by decide +kernel
  have t5 : w5.toList = ([121, 105, 101, 108, 100, 100] : List UInt8) := by decide +kernel
  rw [t0, t1, t2, t3, t4, t5]
  generalize ([115, 107, 105, 112] : List UInt8) = b0
  generalize ([116, 104, 114, 111, 119] : List UInt8) = b1
  generalize ([121, 105, 101, 108, 100] : List UInt8) = b2
  generalize ([115, 107, 105, 112, 112] : List UInt8) = b3
  generalize ([116, 104, 114, 111, 119, 119] : List UInt8) = b4
  generalize ([121, 105, 101, 108, 100, 100] : List UInt8) = b5
  by_cases h0 : s.toList = b0
  · rw [if_pos h0]; simp [h0]
  rw [if_neg h0]
  by_cases h1 : s.toList = b1
  · rw [if_pos h1]; simp [h1]
  rw [if_neg h1]
  by_cases h2 : s.toList = b2
  · rw [if_pos h2]; simp [h2]
  rw [if_neg h2]
  by_cases h3 : s.toList = b3
  · rw [if_pos h3]; simp [h3]
  rw [if_neg h3]
  by_cases h4 : s.toList = b4
  · rw [if_pos h4]; simp [h4]
  rw [if_neg h4]
  by_cases h5 : s.toList = b5
  · simp [h5]
  · simp [h0, h1, h2, h3, h4, h5]
theorem toList_nil (s : ByteArray) : s.toList = ([] : List UInt8) ↔ s.size = 0 := by
  have h := isEmpty_size s
  constructor
  · intro e
    rw [e] at h
    exact of_decide_eq_true h.symm
  · intro e
    rw [decide_eq_true e] at h
    exact List.isEmpty_iff.1 h
/-- All letters from a place on. -/
def allFrom (s : ByteArray) (j : Nat) : Prop := ∀ i : Nat, j ≤ i → i < s.size → isL (bt s (i : Int)) = true
theorem right_loop (n0 : Int) (s : ByteArray) (g : Int) (hs : s.size ≤ 9223372036854775807) (d : Nat) : ∀ j : Nat, s.size - j ≤ d → j ≤ s.size →
    (allFrom s j → Ev (fun k => redressref03_Right.l0 k (j : Int) n0 s g) (decide (0 < s.size) && (decide (s.size ≤ 8) && (decide (g = 0) && !wd s)))) ∧ (¬ allFrom s j → Ev (fun k => redressref03_Right.l0 k (j : Int) n0 s g) false) := by
  have last : ∀ j : Nat, ¬ j < s.size → Ev (fun k => redressref03_Right.l0 k (j : Int) n0 s g) (decide (0 < s.size) && (decide (s.size ≤ 8) && (decide (g = 0) && !wd s))) := by
    intro j hj
    refine ev_step (f := fun k => if (s.size : Int) ≥ 1 then (if (s.size : Int) ≤ 8 then (if g = 0 then ((redressref03_word.f s).bind fun t179 => (some (!t179))) else (some false)) else (some false)) else (some false)) ?_ (fun k => by simp only [redressref03_Right.l0]; rw [if_neg (by omega)])
    rw [word_is, Option.bind_some]
    by_cases h1 : 0 < s.size
    · refine ev_if (by omega) ?_
      rw [decide_eq_true h1, Bool.true_and]
      by_cases h2 : s.size ≤ 8
      · refine ev_if (by omega) ?_
        rw [decide_eq_true h2, Bool.true_and]
        by_cases h3 : g = 0
        · refine ev_if h3 ?_
          rw [decide_eq_true h3, Bool.true_and]; exact Ev.now _
        · refine ev_else h3 ?_
          rw [decide_eq_false h3, Bool.false_and]; exact Ev.now _
      · refine ev_else (by omega) ?_
        rw [decide_eq_false h2, Bool.false_and]; exact Ev.now _
    · refine ev_else (by omega) ?_
      rw [decide_eq_false h1, Bool.false_and]; exact Ev.now _
  induction d with
  | zero =>
    intro j h h2
    exact ⟨fun _ => last j (by omega), fun e => absurd (fun i h3 h4 => by omega) e⟩
  | succ d ih =>
    intro j h h2
    by_cases hj : j < s.size
    · have ei := wsucc j _ hj hs
      by_cases hb : isL (bt s (j : Int)) = true
      · have hb2 := hb
        unfold isL at hb2
        simp only [Bool.and_eq_true, decide_eq_true_eq] at hb2
        have hf : allFrom s j ↔ allFrom s (j + 1) := ⟨fun e i h3 h4 => e i (by omega) h4, fun e i h3 h4 => by
          rcases Nat.eq_or_lt_of_le h3 with h5 | h5
          · subst h5; exact hb
          · exact e i h5 h4⟩
        obtain ⟨i1, i2⟩ := ih (j + 1) (by omega) (by omega)
        have hst : ∀ k, redressref03_Right.l0 (k + 1) (j : Int) n0 s g = redressref03_Right.l0 k ((j + 1 : Nat) : Int) n0 s g := fun k => by
          simp only [redressref03_Right.l0]; rw [if_pos (by omega), if_pos (by omega), if_neg (by omega), if_neg (by omega), ei]
        exact ⟨fun e => ev_step (f := _) (i1 (hf.1 e)) hst, fun e => ev_step (f := _) (i2 (fun e2 => e (hf.2 e2))) hst⟩
      · have hb2 : ¬ (97 ≤ bt s (j : Int) ∧ bt s (j : Int) ≤ 122) := fun e => hb (by unfold isL; rw [decide_eq_true e.1, decide_eq_true e.2]; rfl)
        refine ⟨fun e => absurd (e j (Nat.le_refl _) hj) hb, fun _ => ?_⟩
        by_cases hc : bt s (j : Int) < 97
        · exact ev_step (f := _) (Ev.now _) (fun k => by simp only [redressref03_Right.l0]; rw [if_pos (by omega), if_pos (by omega), if_pos hc])
        · exact ev_step (f := _) (Ev.now _) (fun k => by simp only [redressref03_Right.l0]; rw [if_pos (by omega), if_pos (by omega), if_neg hc, if_pos (by omega)])
    · exact ⟨fun _ => last j hj, fun e => absurd (fun i h3 h4 => by omega) e⟩
theorem allFrom0 (s : ByteArray) : allFrom s 0 ↔ allL s := ⟨fun h i hi => h i (Nat.zero_le _) hi, fun h i _ hi => h i hi⟩
theorem refRight_ev (n : S48) (hs : n.f1.size ≤ 9223372036854775807) : Ev (fun k => redressref03_Right.f k n.f0 n.f1 n.f2) (rt n) := by
  unfold redressref03_Right.f
  refine Ev.bind (refArity_ev n.f0) ?_
  unfold rt
  by_cases h1 : n.f0 = 1
  · have ha : ar n.f0 = 0 := by rw [h1]; rfl
    rw [ha, if_pos h1]
    refine ev_else (by decide) (ev_if h1 ?_)
    obtain ⟨i1, i2⟩ := right_loop n.f0 n.f1 n.f2 hs _ 0 (Nat.le_refl _) (Nat.zero_le _)
    unfold nm
    by_cases hf : allL n.f1
    · have := i1 ((allFrom0 _).2 hf)
      rw [decide_eq_true hf]
      rw [show (decide (n.f2 = 0) && (decide (0 < n.f1.size) && decide (n.f1.size ≤ 8) && true && !wd n.f1)) = (decide (0 < n.f1.size) && (decide (n.f1.size ≤ 8) && (decide (n.f2 = 0) && !wd n.f1))) by
        cases decide (n.f2 = 0) <;> cases decide (0 < n.f1.size) <;> cases decide (n.f1.size ≤ 8) <;> cases wd n.f1 <;> rfl]
      exact this
    · have := i2 (fun e => hf ((allFrom0 _).1 e))
      rw [decide_eq_false hf]
      rw [show (decide (n.f2 = 0) && (decide (0 < n.f1.size) && decide (n.f1.size ≤ 8) && false && !wd n.f1)) = false by simp]
      exact this
  rw [if_neg (c := n.f0 = 1) h1]
  by_cases hneg : ar n.f0 < 0
  · refine ev_if hneg ?_
    have h11 : ¬ (n.f0 = 11 ∨ n.f0 = 14) := by
      rintro (e | e) <;> rw [e] at hneg <;> exact absurd hneg (by decide)
    rw [if_neg h11, decide_eq_false (p := 0 ≤ ar n.f0) (by omega), Bool.and_false]
    exact Ev.now _
  refine ev_else hneg (ev_else h1 ?_)
  have e0 : ∀ (b : Int → Bool), Ev (fun _ : Nat => if n.f1.toList = ([] : List UInt8) then (if n.f2 ≥ 1 then (some (decide (n.f2 ≤ 3))) else (some false)) else (some false)) (decide (n.f1.size = 0) && decide (1 ≤ n.f2) && decide (n.f2 ≤ 3)) := by
    intro _
    by_cases h2 : n.f1.size = 0
    · refine ev_if ((toList_nil _).2 h2) ?_
      rw [decide_eq_true h2, Bool.true_and]
      by_cases h3 : 1 ≤ n.f2
      · refine ev_if h3 ?_
        rw [decide_eq_true h3, Bool.true_and]; exact Ev.now _
      · refine ev_else h3 ?_
        rw [decide_eq_false h3, Bool.false_and]; exact Ev.now _
    · refine ev_else (fun e => h2 ((toList_nil _).1 e)) ?_
      rw [decide_eq_false h2, Bool.false_and, Bool.false_and]; exact Ev.now _
  by_cases h11 : n.f0 = 11
  · rw [if_pos (c := n.f0 = 11 ∨ n.f0 = 14) (.inl h11)]
    exact ev_if h11 (e0 fun _ => true)
  by_cases h14 : n.f0 = 14
  · rw [if_pos (c := n.f0 = 11 ∨ n.f0 = 14) (.inr h14)]
    exact ev_else h11 (ev_if h14 (e0 fun _ => true))
  rw [if_neg (c := n.f0 = 11 ∨ n.f0 = 14) (fun e => e.elim h11 h14)]
  refine ev_else h11 (ev_else h14 ?_)
  by_cases h2 : n.f1.size = 0
  · refine ev_if ((toList_nil _).2 h2) ?_
    rw [decide_eq_true h2, Bool.true_and, decide_eq_true (by omega : 0 ≤ ar n.f0), Bool.and_true]
    exact Ev.now _
  · refine ev_else (fun e => h2 ((toList_nil _).1 e)) ?_
    rw [decide_eq_false h2, Bool.false_and, Bool.false_and]; exact Ev.now _
theorem RefRight (n : S48) (w : World) (hs : n.f1.size ≤ 9223372036854775807) : Calls Tryd.prog 34 #[.agg #[.int .i64 n.f0, .string n.f1, .int .i64 n.f2]] w fun e w' => e = .returned (.bool (rt n)) ∧ Below w.heap.size w w' := by
  obtain ⟨k, hk⟩ := (refRight_ev n hs).rounds
  exact redressref03_Right.calls k n.f0 n.f1 n.f2 _ w hk
theorem RefArity (a : Int) (w : World) : Calls Tryd.prog 32 #[.int .i64 a] w fun e w' => e = .returned (.int .i64 (ar a)) ∧ Drawn0 w w' := redressref03_Arity.calls 3 a (ar a) w (refArity 3 a (by decide))
theorem refWhole_ev (l : List S48) (hl : l.length < 2305843009213693952) (hs : ∀ n ∈ l, n.f1.size ≤ 9223372036854775807) (d : Nat) : ∀ j : Nat, l.length - j ≤ d → j ≤ l.length →
    Ev (fun k => redressref03_Whole.l0 k l (j : Int)) (rts (l.drop j) && (decide (0 < l.length) && (decide (l.length ≤ 200) && decide (sz l 1 0 = (l.length : Int))))) := by
  have last : ∀ j : Nat, ¬ j < l.length → Ev (fun k => redressref03_Whole.l0 k l (j : Int)) (rts (l.drop j) && (decide (0 < l.length) && (decide (l.length ≤ 200) && decide (sz l 1 0 = (l.length : Int))))) := by
    intro j hj
    rw [List.drop_eq_nil_of_le (by omega), show rts ([] : List S48) = true from rfl, Bool.true_and]
    refine ev_step (f := fun k => if (l.length : Int) ≥ 1 then (if (l.length : Int) ≤ 200 then ((redressref03_Size.f k l).bind fun t193 => (some (t193 == (l.length : Int)))) else (some false)) else (some false)) ?_ (fun k => by simp only [redressref03_Whole.l0]; rw [if_neg (by omega)])
    by_cases h1 : 0 < l.length
    · refine ev_if (by omega) ?_
      rw [decide_eq_true h1, Bool.true_and]
      by_cases h2 : l.length ≤ 200
      · refine ev_if (by omega) ?_
        rw [decide_eq_true h2, Bool.true_and]
        refine Ev.bind (refSize_ev l (by omega)) ?_
        unfold sz
        rw [szw_size _ l hl]
        rw [show (((size S48.f0 l : Nat) : Int) == (l.length : Int)) = decide (((size S48.f0 l : Nat) : Int) = (l.length : Int)) from by
          by_cases h : ((size S48.f0 l : Nat) : Int) = (l.length : Int)
          · rw [decide_eq_true h]; exact beq_iff_eq.2 h
          · rw [decide_eq_false h]; exact beq_eq_false_iff_ne.2 h]
        exact Ev.now _
      · refine ev_else (by omega) ?_
        rw [decide_eq_false h2, Bool.false_and]; exact Ev.now _
    · refine ev_else (by omega) ?_
      rw [decide_eq_false h1, Bool.false_and]; exact Ev.now _
  induction d with
  | zero => intro j h h2; exact last j (by omega)
  | succ d ih =>
    intro j h h2
    by_cases hj : j < l.length
    · have hd := drop_rd l j hj
      have hm : rd_T48 l (j : Int) ∈ l := List.mem_of_mem_drop (i := j) (by rw [hd]; exact List.mem_cons_self)
      rw [hd, show rts (rd_T48 l (j : Int) :: l.drop (j + 1)) = (rt (rd_T48 l (j : Int)) && rts (l.drop (j + 1))) from rfl]
      refine ev_step (f := fun k => (redressref03_Right.f k ((rd_T48 l (j : Int)).f0) ((rd_T48 l (j : Int)).f1) ((rd_T48 l (j : Int)).f2)).bind fun t192 => (if t192 = true then (redressref03_Whole.l0 k l (wrap64 ((j : Int) + 1))) else (some false))) ?_ (fun k => by simp only [redressref03_Whole.l0]; rw [if_pos (by omega), if_pos (by omega)])
      refine Ev.bind (refRight_ev _ (hs _ hm)) ?_
      by_cases h3 : rt (rd_T48 l (j : Int)) = true
      · refine ev_if h3 ?_
        rw [h3, Bool.true_and, wsucc j _ hj (by omega)]
        exact ih (j + 1) (by omega) (by omega)
      · refine ev_else h3 ?_
        have h4 : rt (rd_T48 l (j : Int)) = false := by simpa using h3
        rw [h4, Bool.false_and, Bool.false_and]; exact Ev.now _
    · exact last j hj
theorem wh_alt (l : List S48) : wh l = (rts l && (decide (0 < l.length) && (decide (l.length ≤ 200) && decide (sz l 1 0 = (l.length : Int))))) := by
  unfold wh
  cases rts l <;> cases decide (0 < l.length) <;> cases decide (l.length ≤ 200) <;> simp
theorem RefWhole (A0 : Option Addr) (c0 : Nat) (l0 : List S48) (w : World) (hr0 : Kd.C k48 w A0 l0.length l0) (hc0 : l0.length ≤ c0) (hl : l0.length < 2305843009213693952) (hs : ∀ n ∈ l0, n.f1.size ≤ 9223372036854775807) :
    Calls Tryd.prog 41 #[.slice A0 l0.length c0] w fun e w' => e = .returned (.bool (wh l0)) ∧ Below w.heap.size w w' := by
  obtain ⟨k, hk⟩ := (refWhole_ev l0 hl hs _ 0 (Nat.le_refl _) (Nat.zero_le _)).rounds
  rw [List.drop_zero, ← wh_alt] at hk
  exact redressref03_Whole.calls k A0 c0 l0 _ w hr0 hc0 hk
end Go.Proofs.YtefiadocljnpjaaDoor.Row
