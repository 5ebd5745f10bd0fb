/- Small lemmas of this session over the printed words: rows that lie in a block just made; steps of 'Below'; and the imports that the walks by hand want. -/
import Derived.Test.YtnlljjcbfhagfaaProg
import Derived.Below
import Derived.Deep.Draws
import Derived.Deep.AppendLies
import Derived.Maps.AppendAt
import Derived.OwnWalk
import Derived.Laws.BytesArg
import Derived.Laws.MakeOwn
import Derived.Laws.OwnMore
import Derived.Deep.OwnRows
import Derived.Tactics
import Derived.Lib.ConvBytes
import Derived.Laws.Slices
import Derived.WalkKit
import Derived.KernelRfl
import Derived.RowKit3
import Derived.Deep.LoopGhost
import Derived.Deep.QuietTactic
import Derived.BigQuiet
import Derived.WideLaws
import Derived.Deep.DeepCutAuto
import Derived.Deep.CutBlock
import Derived.Deep.RegionHeld3
import Derived.Laws.Rows
import Derived.Lib.AppendStr
import Derived.ArgAppend
import Derived.Laws.IdiomCopy
import Derived.OrdersHeld
import Derived.Laws.BitsLemmas
import Derived.RowKit
import Derived.WalkLawsBesides
import Derived.WalkSpells
import Derived.Test.YtnlljjcbfhagfaaWWords
import Derived.Test.YtnlljjcbfhagfaaWLast
import Derived.Test.YtnlljjcbfhagfaaWTab
import Derived.Test.YtnlljjcbfhagfaaWFour
import Derived.Test.YtnlljjcbfhagfaaWQPut
import Derived.Test.YtnlljjcbfhagfaaWApart
import Derived.Test.YtnlljjcbfhagfaaWArr
import Derived.Test.YtnlljjcbfhagfaaWZeros
import Derived.Test.YtnlljjcbfhagfaaWFoot
import Derived.Test.YtnlljjcbfhagfaaWKept
import Derived.Test.YtnlljjcbfhagfaaWShare
import Derived.Test.YtnlljjcbfhagfaaWN
import Derived.Test.YtnlljjcbfhagfaaWFootNe
import Derived.Test.YtnlljjcbfhagfaaWAt
import Derived.Test.YtnlljjcbfhagfaaWEqStruct
import Derived.Test.YtnlljjcbfhagfaaWRepsOne
import Derived.Test.YtnlljjcbfhagfaaWInv
import Derived.Test.YtnlljjcbfhagfaaWInvWords
import Derived.Test.YtnlljjcbfhagfaaWGuard
import Derived.Test.YtnlljjcbfhagfaaWNEv
import Derived.Test.YtnlljjcbfhagfaaWMore
namespace Go.Proofs.Ytnlljjcbfhagfaa.Aid
open Go.RowKit Go.Proofs.YtnlljjcbfhagfaaW.PrintWords Go.Proofs.YtnlljjcbfhagfaaW.PrintLast Go.Proofs.YtnlljjcbfhagfaaW.PrintMore

theorem addr_add (b o n : Nat) : (⟨b, o, none⟩ : Addr).add n = ⟨b, o + n, none⟩ := by
  unfold Addr.add; split <;> simp_all

/-- A row of scalars in a block that was just made reads as what it was made of. -/
theorem C_new {α : Type} {enc : α → Value} {h1 : ∀ x, (enc x).oneCell' = true} (d : α) (W : World) (xs : List α) (cs : Array Value) (e : Nat) (fr : Nat × Nat) (hcs : cs.toList = xs.map enc) (hm : xs.length ≤ 9223372036854775807) :
    (Kd.scalar enc h1).C (W.alloc (.cells cs e fr)) (some ⟨W.heap.size, 0, none⟩) xs.length xs := by
  refine Kd.C_of_reads (d := d) ⟨rfl, hm, fun _ => ⟨_, rfl, fun j hj => ?_⟩⟩
  rw [addr_add, World.cell?_alloc_mark]
  have : cs[0 + j]? = cs.toList[j]? := by simp
  rw [this, hcs]
  simp [List.getElem?_eq_getElem hj, List.getD_eq_getElem?_getD]
/-- 'Below' from a call's own start on, step by step. -/
theorem bthen {w a b : World} (h : Below w.heap.size w a) (k : Below a.heap.size a b) : Below w.heap.size w b := h.trans (k.mono h.size)
theorem bdrew {w a : World} (h : Below w.heap.size w a) (n : Nat) : Below w.heap.size w (a.drewN n) := pw_below_drewN h n
theorem balloc {w a : World} (h : Below w.heap.size w a) (o : Obj) : Below w.heap.size w (a.alloc o) := h.alloc h.size o
/-- An operation, guarded or not, whose run is known. -/
theorem event_run_w {P : Program} {ops : Array Oper} {rest : List Oper} {o : Oper} {a : Act} {Q : Exit → Act → World → Prop} {W w1 : World} {v : Value}
    (hw : Region.wanted o (yielded ops a.tmps) = true) (hrun : (execOp a.eval o).run P W = .ok (.value v) w1) (h : wpList P ops Q rest (a.put o.dst v) w1) : wpList P ops Q (o :: rest) a W := by
  unfold wpList
  rw [if_pos hw]
  exact .inl (by unfold Oper.wp; rw [hrun]; exact h)

/-- An append, guarded or not, whose run is known. -/
theorem append_event {P : Program} {ops : Array Oper} {rest : List Oper} {o : Oper} {a : Act} {Q : Exit → Act → World → Prop} {W w1 : World} {v : Value}
    (s x : Operand) (t : TypeId) (hw : Region.wanted o (yielded ops a.tmps) = true) (ho : o.op = .call { callee := .builtin .append, args := #[s, x], argTypes := #[t, t] }) (u y : Value) (hs : a.eval s = u) (hx : a.eval x = y)
    (hr : (Builtin.append_ #[t, t] o.type #[u, y]).run P W = .ok v w1) (h : wpList P ops Q rest (a.put o.dst v) w1) : wpList P ops Q (o :: rest) a W := by
  refine event_run_w hw ?_ h
  simp [execOp, ho, resolve, invoke, builtin, hs, hx, hr, Result.andThen]

/-- 'append(a[:len(a):len(a)], b...)': a is left as it is; what comes back reads as a and b. -/
theorem app_cut {P : Program} {α : Type} {enc : α → Value} {h1 : ∀ x, (enc x).oneCell' = true} (d : α) (w : World) (t ty e : TypeId) (z : Value) (bytes : Nat)
    (ht : P.underlying t = some (.slice e)) (hinfo : (P.info? e).map (fun i => (i.zero, i.size, i.bytes)) = some (some z, 1, bytes)) (hz : z.cells.size = 1) (hb0 : 0 < bytes)
    (A B : Option Addr) (c : Nat) (xs ys : List α) (hx : (Kd.scalar enc h1).C w A xs.length xs) (hy : (Kd.scalar enc h1).C w B ys.length ys)
    (hl : (xs.length + ys.length) * bytes ≤ 140737488355328) :
    ∃ A' c' w', (Builtin.append_ #[t, t] ty #[.slice A xs.length xs.length, .slice B ys.length c]).run P w = .ok (.slice A' (xs ++ ys).length c') w' ∧ (xs ++ ys).length ≤ c' ∧
      (Kd.scalar enc h1).C w' A' (xs ++ ys).length (xs ++ ys) ∧ Below w.heap.size w w' := by
  obtain ⟨i0, hi, hzz⟩ := Option.map_eq_some_iff.1 hinfo
  simp only [Prod.mk.injEq] at hzz
  obtain ⟨hz0, hz1, hz2⟩ := hzz
  have hlen : xs.length + ys.length ≤ 140737488355328 := Nat.le_trans (Nat.le_mul_of_pos_right _ hb0) hl
  have rx := Kd.reads_of_C (d := d) hx
  have ry := Kd.reads_of_C (d := d) hy
  rcases Nat.eq_zero_or_pos ys.length with h0 | h0
  · obtain rfl : ys = [] := List.eq_nil_of_length_eq_zero h0
    refine ⟨A, xs.length, w, ?_, by simp, by simpa using hx, Below.refl _ _⟩
    have hf : ∀ B', (Builtin.firstCells 1 0 (.slice B' 0 c)).run P w = .ok #[] w := by
      intro B'
      cases B' with
      | none => simp [Builtin.firstCells]
      | some b => exact run_firstCells_some (P := P) w 1 0 b 0 c [] rfl (by simp)
    have hst : ∀ q, (storeCells q []).run P w = .ok () w := by intro q; simp [storeCells]
    cases A with
    | none => simp [Builtin.append_, run_underlying ht, sizeOf, typeInfo, hi, hz1, Builtin.lenOf, hf]
    | some q => simp [Builtin.append_, run_underlying ht, sizeOf, typeInfo, hi, hz1, Builtin.lenOf, hf, hst]
  · obtain ⟨b, rfl, hbc⟩ := ry.2.2 h0
    have hnews : ∀ j u, (ys.map enc)[j]? = some u → w.cell? (b.add j) = some u := by
      intro j u hj
      obtain ⟨hjl, hju⟩ := List.getElem?_eq_some_iff.1 hj
      simp only [List.length_map] at hjl
      rw [hbc j hjl, ← hju]
      simp [List.getD_eq_getElem?_getD, List.getElem?_eq_getElem hjl]
    have h1s : ∀ u ∈ ys.map enc, u.oneCell' = true := by
      intro u hu
      obtain ⟨y, _, rfl⟩ := List.mem_map.1 hu
      exact h1 y
    have fin : ∀ v' w', w'.ownsRow w.heap.size e 1 v' (xs.length + ys.length) (xs.map enc ++ ys.map enc) → w.grownBy w' none →
        ∃ A' c', v' = .slice A' (xs ++ ys).length c' ∧ (xs ++ ys).length ≤ c' ∧ (Kd.scalar enc h1).C w' A' (xs ++ ys).length (xs ++ ys) ∧ Below w.heap.size w w' := by
      intro v' w' hown hg
      have hR := Kd.R_of_own (enc := enc) (h1 := h1) (xs := xs ++ ys) (ok := fun _ => True) (by simpa [encs] using hown) (fun _ _ => trivial)
      obtain ⟨A', c', hv, hc', hC⟩ := Kd.R_reads hR
      exact ⟨A', c', hv, hc', hC, (Below.refl _ _).grown hg (Nat.le_refl _) (by simp)⟩
    rcases Nat.eq_zero_or_pos xs.length with g0 | g0
    · obtain rfl : xs = [] := List.eq_nil_of_length_eq_zero g0
      cases A with
      | none =>
        obtain ⟨v', w', hr, hown, hg, _⟩ := run_append_own (P := P) w w.heap.size t ty e i0 z 1 bytes ht hi hz0 hz1 hz2 hz (by omega) (.slice none 0 0) 0 [] (World.ownsRow_nil _ _ _ _) b ys.length c (ys.map enc) (by simp) hnews h1s (by simp only [maxLen]; simp at hlen; omega) (by simpa using hl) (Nat.le_refl _)
        obtain ⟨A', c', rfl, h2, h3, h4⟩ := fin v' w' (by simpa using hown) (by simpa [Value.ownBlock] using hg)
        exact ⟨A', c', w', hr, h2, h3, h4⟩
      | some q =>
        obtain ⟨v', w', hr, hown, hg⟩ := run_append_arg_grows (P := P) w t ty e i0 z 1 bytes ht hi hz0 hz1 hz2 hz (by omega) q 0 0 [] rfl (by simp) b ys.length c (ys.map enc) (by simp) hnews (by omega) (by simp only [maxLen]; simp at hlen; omega) (by simpa using hl)
        obtain ⟨A', c', rfl, h2, h3, h4⟩ := fin v' w' (by simpa using hown) hg
        exact ⟨A', c', w', hr, h2, h3, h4⟩
    · obtain ⟨q, rfl, hqc⟩ := rx.2.2 g0
      have holds : ∀ j u, (xs.map enc)[j]? = some u → w.cell? (q.add j) = some u := by
        intro j u hj
        obtain ⟨hjl, hju⟩ := List.getElem?_eq_some_iff.1 hj
        simp only [List.length_map] at hjl
        rw [hqc j hjl, ← hju]
        simp [List.getD_eq_getElem?_getD, List.getElem?_eq_getElem hjl]
      obtain ⟨v', w', hr, hown, hg⟩ := run_append_arg_grows (P := P) w t ty e i0 z 1 bytes ht hi hz0 hz1 hz2 hz (by omega) q xs.length xs.length (xs.map enc) (by simp) holds b ys.length c (ys.map enc) (by simp) hnews (by omega) (by simp only [maxLen]; omega) hl
      obtain ⟨A', c', rfl, h2, h3, h4⟩ := fin v' w' hown hg
      exact ⟨A', c', w', hr, h2, h3, h4⟩
end Go.Proofs.Ytnlljjcbfhagfaa.Aid
