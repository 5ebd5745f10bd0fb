/- Small lemmas of this session over the printed words: rows that lie in a block just made; steps of 'Below'; and the imports that the walks by hand want. -/
import Derived.Test.YtnlljjcbfhagfaaProg
import Derived.Below
import Derived.Deep.Draws
import Derived.Deep.AppendLies
import Derived.Maps.AppendAt
import Derived.OwnWalk
import Derived.Laws.BytesArg
import Derived.Laws.MakeOwn
import Derived.Laws.OwnMore
import Derived.Deep.OwnRows
import Derived.Tactics
import Derived.Lib.ConvBytes
import Derived.Laws.Slices
import Derived.WalkKit
import Derived.KernelRfl
import Derived.RowKit3
import Derived.Deep.LoopGhost
import Derived.Deep.QuietTactic
import Derived.BigQuiet
import Derived.WideLaws
import Derived.Deep.DeepCutAuto
import Derived.Deep.CutBlock
import Derived.Deep.RegionHeld3
import Derived.Laws.Rows
import Derived.Lib.AppendStr
import Derived.ArgAppend
import Derived.Laws.IdiomCopy
import Derived.OrdersHeld
import Derived.Laws.BitsLemmas
import Derived.RowKit
import Derived.WalkLawsBesides
import Derived.WalkSpells
import Derived.Test.YtnlljjcbfhagfaaWWords
import Derived.Test.YtnlljjcbfhagfaaWLast
import Derived.Test.YtnlljjcbfhagfaaWTab
import Derived.Test.YtnlljjcbfhagfaaWFour
import Derived.Test.YtnlljjcbfhagfaaWQPut
import Derived.Test.YtnlljjcbfhagfaaWApart
import Derived.Test.YtnlljjcbfhagfaaWArr
import Derived.Test.YtnlljjcbfhagfaaWZeros
import Derived.Test.YtnlljjcbfhagfaaWFoot
import Derived.Test.YtnlljjcbfhagfaaWKept
import Derived.Test.YtnlljjcbfhagfaaWShare
import Derived.Test.YtnlljjcbfhagfaaWN
import Derived.Test.YtnlljjcbfhagfaaWFootNe
import Derived.Test.YtnlljjcbfhagfaaWAt
import Derived.Test.YtnlljjcbfhagfaaWEqStruct
import Derived.Test.YtnlljjcbfhagfaaWRepsOne
import Derived.Test.YtnlljjcbfhagfaaWInv
import Derived.Test.YtnlljjcbfhagfaaWInvWords
import Derived.Test.YtnlljjcbfhagfaaWGuard
import Derived.Test.YtnlljjcbfhagfaaWNEv
import Derived.Test.YtnlljjcbfhagfaaWMore
namespace Go.Proofs.Ytnlljjcbfhagfaa.H
open Go.RowKit Go.Proofs.YtnlljjcbfhagfaaW.PrintWords Go.Proofs.YtnlljjcbfhagfaaW.PrintLast Go.Proofs.YtnlljjcbfhagfaaW.PrintMore

theorem addr_add (b o n : Nat) : (⟨b, o, none⟩ : Addr).add n = ⟨b, o + n, none⟩ := by
  unfold Addr.add; split <;> simp_all

/-- A row of scalars in a block that was just made reads as what it was made of. -/
theorem C_new {α : Type} {enc : α → Value} {h1 : ∀ x, (enc x).oneCell' = true} (d : α) (W : World) (xs : List α) (cs : Array Value) (e : Nat) (fr : Nat × Nat) (hcs : cs.toList = xs.map enc) (hm : xs.length ≤ 9223372036854775807) :
    (Kd.scalar enc h1).C (W.alloc (.cells cs e fr)) (some ⟨W.heap.size, 0, none⟩) xs.length xs := by
  refine Kd.C_of_reads (d := d) ⟨rfl, hm, fun _ => ⟨_, rfl, fun j hj => ?_⟩⟩
  rw [addr_add, World.cell?_alloc_mark]
  have : cs[0 + j]? = cs.toList[j]? := by simp
  rw [this, hcs]
  simp [List.getElem?_eq_getElem hj, List.getD_eq_getElem?_getD]
/-- 'Below' from a call's own start on, step by step. -/
theorem bthen {w a b : World} (h : Below w.heap.size w a) (k : Below a.heap.size a b) : Below w.heap.size w b := h.trans (k.mono h.size)
theorem bdrew {w a : World} (h : Below w.heap.size w a) (n : Nat) : Below w.heap.size w (a.drewN n) := pw_below_drewN h n
theorem balloc {w a : World} (h : Below w.heap.size w a) (o : Obj) : Below w.heap.size w (a.alloc o) := h.alloc h.size o
end Go.Proofs.Ytnlljjcbfhagfaa.H
