/- The dealer: its map of what was told; what its blocks hold. -/
import Derived.Test.YtohenapbgencbaaH
import Derived.Test.YtohenapbgencbaaPKx0
import Derived.Maps.OwnSet
import Derived.Maps.Views
namespace Go.Proofs.Ytohenapbgencbaa
open Go.RowKit Go.Proofs.YtohenapbgencbaaW.PrintWords Go.Proofs.YtohenapbgencbaaW.PrintLast Go.Proofs.YtohenapbgencbaaW.PrintMore Go.Proofs.Ytohenapbgencbaa.PK
set_option linter.unusedVariables false
set_option linter.unusedSimpArgs false
namespace Deal

def wfI (i : Int) : Prop := -9223372036854775808 ≤ i ∧ i ≤ 9223372036854775807
theorem wf_lit {i : Int} (h : wfI i) : (Lit.int .i64 i).wf = true := by
  unfold wfI at h
  simp [Lit.wf, IntKind.min, IntKind.max, IntKind.bits, IntKind.signed]
  omega
/-- Block b is a map that tells f. -/
def MapIs (W : World) (b n : Nat) (f : Int → Option Bool) : Prop :=
  ∃ D : DataW Unit, W.ownsMap Try.prog 3 (plainElem Try.prog 4) b n D ∧ Maps.IsMap D ∧ ∀ i, wfI i → Maps.has D (.int .i64 i) = (f i).isSome ∧ D.atKey (.int .i64 i) (.lit (.bool false)) = .lit (.bool ((f i).getD false))
theorem zero4 (W : World) : (zeroValue 4).run Try.prog W = .ok (.bool false) W := by
  have h : (Try.prog.info? 4).map (·.zero) = some (some (.bool false)) := by kernel_rfl
  obtain ⟨i, hi, hz⟩ := Option.map_eq_some_iff.1 h
  simp [zeroValue, typeInfo, hi, hz]
theorem MapIs.made (W : World) : MapIs (W.alloc (.map #[] 0)) W.heap.size 0 (fun _ => none) :=
  ⟨.map [], World.ownsMap_made W _ _ _, ⟨[], rfl⟩, fun i _ => ⟨rfl, rfl⟩⟩
theorem MapIs.look {W : World} {b n : Nat} {f : Int → Option Bool} (h : MapIs W b n f) (i : Int) (hi : wfI i) :
    (Instr.lookup 50 (.map (some b)) (.int .i64 i) true).run Try.prog W = .ok (.tuple #[.bool ((f i).getD false), .bool (f i).isSome]) W := by
  obtain ⟨D, ho, _, hf⟩ := h
  obtain ⟨h1, h2⟩ := hf i hi
  obtain ⟨v, ps, hrun, hv⟩ := ho.look_ok (Maps.int_keyed Try.underlying3) Try.underlying50 (zero4 W) (plainElem_bool Try.underlying4 false) (Maps.keyOf_int_mk Try.underlying3 (wf_lit hi))
  rw [h2] at hv
  rw [h1] at hrun
  have hb : v = .bool ((f i).getD false) := by
    unfold plainElem at hv
    rw [Try.underlying4] at hv
    split at hv
    · simp at hv
      rw [hv.1]
    all_goals (exfalso; simp_all; done)
  rw [hrun, hb]
def upd (f : Int → Option Bool) (i : Int) (b : Bool) : Int → Option Bool := fun j => if j = i then some b else f j
theorem MapIs.store {W : World} {b n : Nat} {f : Int → Option Bool} (h : MapIs W b n f) (i : Int) (hi : wfI i) (v : Bool) (hn : n < 1000000) :
    ∃ w', (Instr.mapUpdate 50 (.map (some b)) (.int .i64 i) (.bool v)).run Try.prog W = .ok () w' ∧ MapIs w' b (n + 1) (upd f i v) ∧ W.grownBy w' (some b) := by
  obtain ⟨D, ho, hm, hf⟩ := h
  obtain ⟨w', hrun, ho', hg⟩ := ho.update (Maps.int_keyed Try.underlying3) Try.underlying50 (by simp only [maxLen]; omega) (Maps.keyOf_int_mk Try.underlying3 (wf_lit hi)) (plainElem_bool Try.underlying4 v)
  refine ⟨w', hrun, ⟨_, ho', hm.put _ _, fun j hj => ?_⟩, hg⟩
  unfold upd
  by_cases he : j = i
  · subst he
    rw [if_pos rfl]
    exact ⟨Maps.has_put_same hm (by trivial) _, Maps.atKey_put_same hm (by trivial) _ _⟩
  · rw [if_neg he]
    have hne : (Lit.int .i64 j) ≠ (Lit.int .i64 i) := fun e => he (by injection e)
    rw [Maps.has_put_other hne, Maps.atKey_put_other hne]
    exact hf j hj
theorem MapIs.move {W W' : World} {b n : Nat} {f : Int → Option Bool} (h : MapIs W b n f) (e : W'.heap[b]? = W.heap[b]?) : MapIs W' b n f := by
  obtain ⟨D, ⟨es, clock, hb, F, hs, hD⟩, r⟩ := h
  exact ⟨D, ⟨es, clock, e.trans hb, F, hs, hD⟩, r⟩
theorem MapIs.lt {W : World} {b n : Nat} {f : Int → Option Bool} (h : MapIs W b n f) : b < W.heap.size := by
  obtain ⟨D, ho, _⟩ := h
  exact ho.lt
theorem MapIs.same {W : World} {b n : Nat} {f g : Int → Option Bool} (h : MapIs W b n f) (e : ∀ i, f i = g i) : MapIs W b n g := by
  obtain rfl : f = g := funext e
  exact h

/-- A dealer as a value. -/
structure DS where
  refuses : List Int
  deeds : List S53
  asked : Int
def known (l : List S53) (i : Int) : Option Bool := (l.find? (fun d => d.f0 == i)).map (·.f2)
/-- Blocks of the set P alone were written; nothing is gone. -/
structure Only (P : Nat → Prop) (w w' : World) : Prop where
  size : w.heap.size ≤ w'.heap.size
  keep : ∀ i, i < w.heap.size → ¬ P i → w'.heap[i]? = w.heap[i]?
  low : ∀ B, (∀ i, P i → B ≤ i) → B ≤ w.heap.size → Below B w w'
theorem Only.kept {P : Nat → Prop} {w w' : World} (h : Only P w w') : Kept w w' P := ⟨h.size, h.keep⟩
theorem Only.refl (P : Nat → Prop) (w : World) : Only P w w := ⟨Nat.le_refl _, fun _ _ _ => rfl, fun B _ _ => Below.refl B w⟩
theorem Only.drewN {P : Nat → Prop} {w w' : World} (h : Only P w w') (m : Nat) : Only P w (w'.drewN m) := ⟨h.size, h.keep, fun B h1 h2 => pw_below_drewN (h.low B h1 h2) m⟩
theorem Only.set {P : Nat → Prop} {w w' : World} (h : Only P w w') {g : Nat} (hg : P g) (j : Nat) (v : Value) : Only P w (w'.setCell ⟨g, j, none⟩ v) :=
  ⟨Nat.le_trans h.size (by simp), fun i hi hn => (heap_setCell_other w' _ _ _ (fun e => hn (by rw [show i = g from e]; exact hg))).trans (h.keep i hi hn), fun B h1 h2 => (h.low B h1 h2).setCell (p := ⟨g, j, none⟩) (h1 g hg) v⟩
theorem Only.alloc {P : Nat → Prop} {w w' : World} (h : Only P w w') (o : Obj) : Only P w (w'.alloc o) :=
  ⟨Nat.le_trans h.size (by simp), fun i hi hn => (Below.heap_alloc w' o i (Nat.lt_of_lt_of_le hi h.size)).trans (h.keep i hi hn), fun B h1 h2 => (h.low B h1 h2).alloc (Nat.le_trans h2 h.size) o⟩
theorem Only.below {P : Nat → Prop} {w w' : World} (h : Below w.heap.size w w') : Only P w w' := ⟨h.size, fun i hi _ => h.block i hi, fun B _ h2 => h.mono h2⟩
theorem Only.then_ {P Q : Nat → Prop} {w w1 w2 : World} (h : Only P w w1) (k : Only Q w1 w2) (hq : ∀ i, Q i → P i ∨ w.heap.size ≤ i) : Only P w w2 :=
  ⟨Nat.le_trans h.size k.size, fun i hi hn => (k.keep i (Nat.lt_of_lt_of_le hi h.size) (fun hh => (hq i hh).elim hn (fun h2 => by omega))).trans (h.keep i hi hn),
   fun B h1 h2 => (h.low B h1 h2).trans (k.low B (fun i hi => (hq i hi).elim (h1 i) (fun h3 => Nat.le_trans h2 h3)) (Nat.le_trans h2 h.size))⟩
theorem Only.grown {P : Nat → Prop} {w w1 w2 : World} (h : Only P w w1) {r : Option Nat} (k : w1.grownBy w2 r) (hr : ∀ g, r = some g → P g ∨ w.heap.size ≤ g) : Only P w w2 :=
  ⟨Nat.le_trans h.size k.size, fun i hi hn => (k.block i (Nat.lt_of_lt_of_le hi h.size) (fun e => (hr i e.symm).elim hn (fun h2 => by omega))).trans (h.keep i hi hn),
   fun B h1 h2 => (h.low B h1 h2).grown k (Nat.le_trans h2 h.size) (fun g e => (hr g e).elim (h1 g) (fun h3 => Nat.le_trans h2 h3))⟩
end Deal
end Go.Proofs.Ytohenapbgencbaa
