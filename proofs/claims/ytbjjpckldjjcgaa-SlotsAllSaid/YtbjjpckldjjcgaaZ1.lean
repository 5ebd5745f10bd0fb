/- The disk in the heap: what its two blocks hold; the program's functions that only read it. -/
import Derived.Test.YtbjjpckldjjcgaaH
import Derived.Test.YtbjjpckldjjcgaaYB
import Derived.Deep.MidRow
import Derived.Deep.WholeRow
import Derived.StillTailTactics
import Derived.Test.YtbjjpckldjjcgaaPKx0
import Derived.Test.YtbjjpckldjjcgaaPKx1
import Derived.Test.YtbjjpckldjjcgaaPKx2
import Derived.Test.YtbjjpckldjjcgaaPKx3
import Derived.Test.YtbjjpckldjjcgaaPKx4
import Derived.Test.YtbjjpckldjjcgaaPKx5
import Derived.Test.YtbjjpckldjjcgaaPKx6
import Derived.Test.YtbjjpckldjjcgaaPKx7
import Derived.Test.YtbjjpckldjjcgaaPKx8
import Derived.Deep.RegionHeld3
import Derived.Test.YtbjjpckldjjcgaaY1
namespace Go.Proofs.Ytbjjpckldjjcgaa
open Go.RowKit Go.Proofs.YtbjjpckldjjcgaaW.PrintWords Go.Proofs.YtbjjpckldjjcgaaW.PrintLast Go.Proofs.YtbjjpckldjjcgaaW.PrintMore
set_option linter.unusedVariables false
set_option linter.unusedSimpArgs false
namespace Disk

/-- The walk stands at a goal that is no walk's. -/
def Stop (p : Prop) : Prop := p
theorem stop {p : Prop} (h : Stop p) : p := h
theorem Stop.go {p : Prop} (h : p) : Stop p := h

def okb (l : List Int) : Bool := l.all fun x => decide (0 ≤ x) && decide (x < 256)
theorem okb_iff (l : List Int) : okb l = true ↔ ∀ x ∈ l, 0 ≤ x ∧ x < 256 := by unfold okb; simp [List.all_eq_true]

theorem info5 : (Try.prog.info? 5).map (fun i => (i.zero, i.size, i.bytes)) = some (some (.int .u8 0), 1, 1) := by kernel_rfl
/-- A disk: block g holds its four fields, block b its bytes. -/
structure At (W : World) (g b n : Nat) (db : List Int) (many : Int) (cut : Bool) (left : Int) : Prop where
  hg : W.heap[g]? = some (.cells #[.slice (some ⟨b, 0, none⟩) n n, .int .i64 many, .bool cut, .int .i64 left] 71 (0, 0))
  hb : W.heap[b]? = some (.cells (db.map (Value.int .u8)).toArray 79 (0, 0))
  len : db.length = 16 * n
  n1 : 1 ≤ n
  n2 : n ≤ 1024

section
variable {W W' : World} {g b n : Nat} {db : List Int} {many left : Int} {cut : Bool}
theorem At.ne (h : At W g b n db many cut left) : g ≠ b := by
  intro e
  have h1 := h.hg
  have h2 := h.hb
  rw [e, h2] at h1
  injection h1 with h1
  injection h1 with _ h3
  cases h3
theorem At.drewN (h : At W g b n db many cut left) (m : Nat) : At (W.drewN m) g b n db many cut left := ⟨h.hg, h.hb, h.len, h.n1, h.n2⟩
theorem At.lt (h : At W g b n db many cut left) : g < W.heap.size ∧ b < W.heap.size := by
  constructor
  · rcases Nat.lt_or_ge g W.heap.size with hl | hl
    · exact hl
    · have := h.hg; rw [Array.getElem?_eq_none hl] at this; cases this
  · rcases Nat.lt_or_ge b W.heap.size with hl | hl
    · exact hl
    · have := h.hb; rw [Array.getElem?_eq_none hl] at this; cases this
theorem At.move (h : At W g b n db many cut left) (e1 : W'.heap[g]? = W.heap[g]?) (e2 : W'.heap[b]? = W.heap[b]?) : At W' g b n db many cut left :=
  ⟨e1.trans h.hg, e2.trans h.hb, h.len, h.n1, h.n2⟩
theorem At.below (h : At W g b n db many cut left) (hB : Below W.heap.size W W') : At W' g b n db many cut left :=
  h.move (hB.block _ h.lt.1) (hB.block _ h.lt.2)
theorem At.c0 (h : At W g b n db many cut left) : W.cell? ⟨g, 0, none⟩ = some (.slice (some ⟨b, 0, none⟩) n n) := by rw [cell_of_row W g 0 _ _ _ h.hg]; rfl
theorem At.c1 (h : At W g b n db many cut left) : W.cell? ⟨g, 1, none⟩ = some (.int .i64 many) := by rw [cell_of_row W g 1 _ _ _ h.hg]; rfl
theorem At.c2 (h : At W g b n db many cut left) : W.cell? ⟨g, 2, none⟩ = some (.bool cut) := by rw [cell_of_row W g 2 _ _ _ h.hg]; rfl
theorem At.c3 (h : At W g b n db many cut left) : W.cell? ⟨g, 3, none⟩ = some (.int .i64 left) := by rw [cell_of_row W g 3 _ _ _ h.hg]; rfl
theorem At.f (h : At W g b n db many cut left) (j : Nat) : W.frozen? ⟨g, j, none⟩ = false := blk_frozen h.hg j
theorem At.fb (h : At W g b n db many cut left) (j : Nat) : W.frozen? ⟨b, j, none⟩ = false := blk_frozen h.hb j
theorem At.set1 (h : At W g b n db many cut left) (x : Int) : At (W.setCell ⟨g, 1, none⟩ (.int .i64 x)) g b n db x cut left :=
  ⟨heap_setCell_same W g 1 _ 71 _ h.hg, (heap_setCell_other W _ _ _ (fun e => h.ne e.symm)).trans h.hb, h.len, h.n1, h.n2⟩
theorem At.set2 (h : At W g b n db many cut left) (x : Bool) : At (W.setCell ⟨g, 2, none⟩ (.bool x)) g b n db many x left :=
  ⟨heap_setCell_same W g 2 _ 71 _ h.hg, (heap_setCell_other W _ _ _ (fun e => h.ne e.symm)).trans h.hb, h.len, h.n1, h.n2⟩
theorem At.set3 (h : At W g b n db many cut left) (x : Int) : At (W.setCell ⟨g, 3, none⟩ (.int .i64 x)) g b n db many cut x :=
  ⟨heap_setCell_same W g 3 _ 71 _ h.hg, (heap_setCell_other W _ _ _ (fun e => h.ne e.symm)).trans h.hb, h.len, h.n1, h.n2⟩
end
/-- What lies outside the blocks g and b is as it was; nothing is gone. -/
structure Only (g b : Nat) (w w' : World) : Prop where
  size : w.heap.size ≤ w'.heap.size
  keep : ∀ i, i < w.heap.size → i ≠ g → i ≠ b → w'.heap[i]? = w.heap[i]?
  low : ∀ B, B ≤ g → B ≤ b → B ≤ w.heap.size → Below B w w'
theorem Only.refl (g b : Nat) (w : World) : Only g b w w := ⟨Nat.le_refl _, fun _ _ _ _ => rfl, fun B _ _ _ => Below.refl B w⟩
theorem Only.set {g b : Nat} {w w' : World} (h : Only g b w w') (j : Nat) (v : Value) : Only g b w (w'.setCell ⟨g, j, none⟩ v) :=
  ⟨Nat.le_trans h.size (by simp), fun i hi h1 h2 => (heap_setCell_other w' _ _ _ h1).trans (h.keep i hi h1 h2), fun B h1 h2 h3 => (h.low B h1 h2 h3).setCell h1 _⟩
theorem Only.setb {g b : Nat} {w w' : World} (h : Only g b w w') (j : Nat) (v : Value) : Only g b w (w'.setCell ⟨b, j, none⟩ v) :=
  ⟨Nat.le_trans h.size (by simp), fun i hi h1 h2 => (heap_setCell_other w' _ _ _ h2).trans (h.keep i hi h1 h2), fun B h1 h2 h3 => (h.low B h1 h2 h3).setCell h2 _⟩
theorem Only.drewN {g b : Nat} {w w' : World} (h : Only g b w w') (m : Nat) : Only g b w (w'.drewN m) :=
  ⟨h.size, h.keep, fun B h1 h2 h3 => (h.low B h1 h2 h3).trans ⟨rfl, rfl, rfl, Nat.le_refl _, fun _ _ => rfl⟩⟩
theorem Only.alloc {g b : Nat} {w w' : World} (h : Only g b w w') (o : Obj) : Only g b w (w'.alloc o) :=
  ⟨Nat.le_trans h.size (by simp), fun i hi h1 h2 => (Below.heap_alloc w' o i (Nat.lt_of_lt_of_le hi h.size)).trans (h.keep i hi h1 h2), fun B h1 h2 h3 => (h.low B h1 h2 h3).alloc (Nat.le_trans h3 h.size) o⟩
theorem Only.below {g b : Nat} {w w' : World} (h : Below w.heap.size w w') : Only g b w w' := ⟨h.size, fun i hi _ _ => h.block i hi, fun B _ _ h3 => h.mono h3⟩
theorem Only.trans {g b : Nat} {w w1 w2 : World} (h : Only g b w w1) (k : Only g b w1 w2) : Only g b w w2 :=
  ⟨Nat.le_trans h.size k.size, fun i hi h1 h2 => (k.keep i (Nat.lt_of_lt_of_le hi h.size) h1 h2).trans (h.keep i hi h1 h2), fun B h1 h2 h3 => (h.low B h1 h2 h3).trans (k.low B h1 h2 (Nat.le_trans h3 h.size))⟩

/-- A whole array into the block that was made last, as an operation. -/
theorem store_new {P : Program} {ops : Array Oper} {rest : List Oper} {op : Oper} {a : Act} {w : World} {Q : Exit → Act → World → Prop} (hgd : op.guard = none) (ty : TypeId) (x y : Operand) (ho : op.op = .store ty x y) (g : Nat)
    (c c' : Array Value) (hw : g = w.heap.size) (hx : a.eval x = .pointer (some ⟨g, 0, none⟩)) (hy : a.eval y = .agg c') (hi : (P.info? ty).map (·.size) = some c'.size) (hs : c.size = c'.size) (h1 : c'.all (·.oneCell') = true)
    (h : wpList P ops Q rest (a.put op.dst undef) (w.alloc (.cells c' ty))) : wpList P ops Q (op :: rest) a (w.alloc (.cells c ty)) := by
  subst hw
  refine wpList_plain hgd fun K hK => ?_
  unfold Oper.wp execOp
  simp only [ho, hx, hy, Instr.storeAt, Instr.sureAddr, Sem.run_bind, Sem.run_pure, Result.andThen_ok, run_storeVar_new w ty c c' hi hs h1]
  exact hK _ _ h
theorem agg_one (l : List Int) : ((l.map (Value.int .u8)).toArray).all (·.oneCell') = true := by
  rw [Array.all_eq_true_iff_forall_mem]
  intro v hv
  simp at hv
  obtain ⟨x, _, rfl⟩ := hv
  rfl
/-- The bytes of block k. -/
def part (db : List Int) (k : Nat) : List Int := (db.drop (k * 16)).take 16
section
variable {W : World} {g b n : Nat} {db : List Int} {many left : Int} {cut : Bool}
theorem part_len (hl : db.length = 16 * n) {k : Nat} (hk : k < n) : (part db k).length = 16 := by unfold part; simp; omega
theorem At.part (h : At W g b n db many cut left) (k : Nat) : W.rangeAt b (k * 16) ((part db k).map (Value.int .u8)) := by
  intro j v hv
  rw [cell_of_row W b _ _ _ _ h.hb]
  simp only [Disk.part, List.getElem?_map, List.getElem?_take, List.getElem?_drop, List.getElem?_toArray] at hv ⊢
  by_cases hj : j < 16
  · rw [if_pos hj] at hv
    exact hv
  · rw [if_neg hj] at hv
    cases hv
end
/-- The bytes of a block that is written. -/
def sixteen (l : List Int) : List Int := l ++ List.replicate (16 - l.length) 0
def put (db : List Int) (k : Nat) (l : List Int) : List Int := db.take (k * 16) ++ sixteen l ++ db.drop (k * 16 + 16)
theorem sixteen_len {l : List Int} (h : l.length ≤ 16) : (sixteen l).length = 16 := by unfold sixteen; simp; omega
theorem put_len {db l : List Int} {n k : Nat} (hl : db.length = 16 * n) (hk : k < n) (h : l.length ≤ 16) : (put db k l).length = 16 * n := by
  unfold put; rw [List.length_append, List.length_append, sixteen_len h]; simp; omega
theorem At.putx {W : World} {g b n : Nat} {db : List Int} {many left : Int} {cut : Bool} (h : At W g b n db many cut left) (k : Nat) (l : List Int) (hk : k < n) (hl : l.length ≤ 16) : At (W.setCells b (k * 16) ((sixteen l).map (Value.int .u8))) g b n (put db k l) many cut left := by
  have hs := sixteen_len hl
  obtain ⟨cur', h1, h2, h3⟩ := setCells_row ((sixteen l).map (Value.int .u8)) (k * 16) W _ h.hb (by have := h.len; simp [hs]; omega)
  refine ⟨(setCells_far _ _ g h.ne).trans h.hg, ?_, put_len h.len hk hl, h.n1, h.n2⟩
  rw [h1]
  congr 2
  apply Array.ext'
  rw [h3]
  simp [put, hs]
theorem Only.putx {g b : Nat} {w w' : World} (h : Only g b w w') (o : Nat) (vs : List Value) : Only g b w (w'.setCells b o vs) := by
  obtain ⟨h1, h2, h3, h4⟩ := setCells_same b vs o w'
  exact ⟨Nat.le_trans h.size (Nat.le_of_eq h4.symm), fun i hi e1 e2 => (setCells_far vs o i e2).trans (h.keep i hi e1 e2),
    fun B e1 e2 e3 => (h.low B e1 e2 e3).trans ⟨h1, h2, h3, Nat.le_of_eq h4.symm, fun i hi => setCells_far vs o i (by omega)⟩⟩
/-- An operation of a still region whose run is known. -/
theorem still_run {P : Program} {ops : Array Oper} {w : World} {Q : Act → Prop} {o : Oper} {rest : List Oper} {a : Act} {v : Value} (hw : Region.wanted o (yielded ops a.tmps) = true) (hrun : (execOp a.eval o).run P w = .ok (.value v) w)
    (h : wpStill P ops w Q rest (a.put o.dst v)) : wpStill P ops w Q (o :: rest) a := by
  refine wpStill_step (fun K hK => ?_)
  rw [if_pos hw]
  unfold Oper.still
  rw [hrun, Oper.stillUpon_value]
  exact hK _ h
/-- A load of a whole array in a still region. -/
theorem still_load {P : Program} {ops : Array Oper} {w : World} {Q : Act → Prop} {op : Oper} {rest : List Oper} {a : Act} (hw : Region.wanted op (yielded ops a.tmps) = true) (ty : TypeId) (x : Operand) (ho : op.op = .load ty x)
    (b o : Nat) (hx : a.eval x = .pointer (some ⟨b, o, none⟩)) (cs : List Value) (d : TypeDesc) (hc : w.rangeAt b o cs) (hu : P.underlying ty = some d) (hd : d.isRow = true) (hi : (P.info? ty).map (·.size) = some cs.length)
    (h : wpStill P ops w Q rest (a.put op.dst (.agg cs.toArray))) : wpStill P ops w Q (op :: rest) a := by
  refine still_run hw ?_ h
  unfold execOp
  simp only [ho, hx, Instr.loadAt, Instr.sureAddr, Sem.run_bind, Sem.run_pure, Result.andThen_ok, run_loadVar_mid w b o ty cs d hc hu hd hi]
def zeros16 : Array Value := #[.int .u8 0, .int .u8 0, .int .u8 0, .int .u8 0, .int .u8 0, .int .u8 0, .int .u8 0, .int .u8 0, .int .u8 0, .int .u8 0, .int .u8 0, .int .u8 0, .int .u8 0, .int .u8 0, .int .u8 0, .int .u8 0]
theorem copy16 (W : World) (A : Option Addr) (c : Nat) (l : List Int) (hr : Kd.C (Kd.int .u8) (W.alloc (.cells zeros16 79)) A l.length l) (hl : l.length ≤ 16) :
    (Builtin.copy_ #[32, 32] 3 #[.slice (some ⟨W.heap.size, 0, none⟩) 16 16, .slice A l.length c]).run Try.prog (W.alloc (.cells zeros16 79)) = .ok (.int .i64 l.length) (W.alloc (.cells ((sixteen l).map (Value.int .u8)).toArray 79)) := by
  have hx := (Kd.reads_of_C (d := (0 : Int)) hr).2.2
  by_cases h0 : l = []
  · subst h0
    exact run_copy_none _ 32 32 3 5 _ _ 16 16 _ _ Try.underlying32 (by kernel_rfl) (by simp)
  · have hp : 0 < l.length := List.length_pos_iff.2 h0
    obtain ⟨ad, rfl, hc⟩ := hx hp
    have := run_copy_row (P := Try.prog) (W.alloc (.cells zeros16 79)) 32 32 3 5 W.heap.size 0 16 16 ad l.length c zeros16 79 (l.map (Value.int .u8)) Try.underlying32 (by kernel_rfl) (heap_alloc_last W _) (by rw [List.length_map]; show _ = min _ _; omega)
      (by intro j v hv
          simp only [List.getElem?_map] at hv
          obtain ⟨x, hx, rfl⟩ := Option.map_eq_some_iff.1 hv
          obtain ⟨hj, rfl⟩ := List.getElem?_eq_some_iff.1 hx
          rw [hc j hj]
          simp [List.getD_eq_getElem?_getD, hj]) (by simp [zeros16]; omega) (by intro v hv; simp at hv; obtain ⟨x, _, rfl⟩ := hv; rfl)
    rw [this, World.setRow_alloc_new]
    have e : (zeros16.toList.take 0 ++ l.map (Value.int .u8) ++ zeros16.toList.drop (0 + (l.map (Value.int .u8)).length)) = (sixteen l).map (Value.int .u8) := by
      have hz : zeros16.toList = List.replicate 16 (Value.int .u8 0) := rfl
      rw [hz, List.take_zero, List.nil_append, List.drop_replicate]
      unfold sixteen
      rw [List.map_append, List.map_replicate, List.length_map, Nat.zero_add]
    rw [e]
    simp [goInt]

theorem Blocks {w : World} {g b n : Nat} {db : List Int} {many left : Int} {cut : Bool} (h : At w g b n db many cut left) :
    Calls Try.prog 37 #[.pointer (some ⟨g, 0, none⟩)] w fun e w' => e = .returned (.int .i64 (n : Int)) ∧ Drawn0 w w' := by
  have h0 := h.c0
  go_enter Try.func37, Try.ntmps37
  go_wp2_with fail
  go_ret
  exact ⟨rfl, ⟨0, rfl⟩⟩
theorem Writes {w : World} {g b n : Nat} {db : List Int} {many left : Int} {cut : Bool} (h : At w g b n db many cut left) :
    Calls Try.prog 29 #[.pointer (some ⟨g, 0, none⟩)] w fun e w' => e = .returned (.int .i64 many) ∧ Drawn0 w w' := by
  have h0 := h.c1
  go_enter Try.func29, Try.ntmps29
  go_wp2_with fail
  go_ret
  exact ⟨rfl, ⟨0, rfl⟩⟩
theorem Down {w : World} {g b n : Nat} {db : List Int} {many left : Int} {cut : Bool} (h : At w g b n db many cut left) :
    Calls Try.prog 51 #[.pointer (some ⟨g, 0, none⟩)] w fun e w' => e = .returned (.bool (cut && decide (left ≤ 0))) ∧ Drawn0 w w' := by
  have h0 := h.c2
  have h1 := h.c3
  cases cut
  all_goals
    go_enter Try.func51, Try.ntmps51
    go_wp2_with fail
    go_ret
    exact ⟨rfl, ⟨0, rfl⟩⟩
theorem has {w : World} {g b n : Nat} {db : List Int} {many left : Int} {cut : Bool} (h : At w g b n db many cut left) (k : Int) :
    Calls Try.prog 55 #[.pointer (some ⟨g, 0, none⟩), .int .i64 k] w fun e w' => e = .returned (.bool (decide (0 ≤ k) && decide (k < (n : Int)))) ∧ Drawn0 w w' := by
  have h0 := h.c0
  by_cases hk : 0 ≤ k
  · have c0 : decide (0 ≤ k) = true := decide_eq_true hk
    go_enter Try.func55, Try.ntmps55
    go_wp2_with fail
    go_ret
    exact ⟨by first | rfl | (rw [c0]; rfl), ⟨0, rfl⟩⟩
  · have c0 : decide (0 ≤ k) = false := decide_eq_false hk
    go_enter Try.func55, Try.ntmps55
    go_wp2_with fail
    go_ret
    exact ⟨by first | rfl | (rw [c0]; rfl), ⟨0, rfl⟩⟩
end Disk
end Go.Proofs.Ytbjjpckldjjcgaa
/- The disk: the program's functions that make and change it. -/
namespace Go.Proofs.Ytbjjpckldjjcgaa
open Go.RowKit Go.Proofs.YtbjjpckldjjcgaaW.PrintWords Go.Proofs.YtbjjpckldjjcgaaW.PrintLast Go.Proofs.YtbjjpckldjjcgaaW.PrintMore
set_option linter.unusedVariables false
set_option linter.unusedSimpArgs false
namespace Disk

theorem mk58 (n : Nat) (h2 : n ≤ 1024) (w : World) : (Instr.makeSlice 69 (.int .i64 (n : Int)) (.int .i64 (n : Int))).run Try.prog w = .ok (.slice (some ⟨w.heap.size, 0, none⟩) n n) (w.alloc (.cells (((List.replicate (16 * n) (0 : Int)).map (Value.int .u8)).toArray) 79)) := by
  have h58 : (Try.prog.info? 79).map (fun i => (i.zero, i.size, i.bytes)) = some (some (.agg (Array.replicate 16 (.int .u8 0))), 16, 16) := by kernel_rfl
  obtain ⟨i, hi, hz⟩ := Option.map_eq_some_iff.1 h58
  simp only [Prod.mk.injEq] at hz
  obtain ⟨hz, hs, hb⟩ := hz
  have := run_make (P := Try.prog) w 69 79 i _ Try.underlying69 hi hz .i64 .i64 (n : Int) (n : Int) (by omega) (Int.le_refl _) (by rw [hb]; omega) (by omega)
  rw [this, hs]
  simp only [Int.toNat_natCast]
  congr 3
  apply Array.ext_getElem?
  intro j
  by_cases hj : j < 16 * n
  · have hm : j % 16 < 16 := Nat.mod_lt _ (by decide)
    rw [show n * 16 = 16 * n by omega]
    simp [madeCells, Value.cells, hj, hm]
  · rw [Array.getElem?_eq_none (by rw [size_madeCells]; omega), Array.getElem?_eq_none (by simp; omega)]
theorem results_nothing {P : Program} {fn : Func} (h : fn.results = #[]) (t : Array Value) (w : World) : (results fn t).run P w = .ok (.tuple #[]) w := by
  simp [results, h]
theorem New.bad (k : Int) (w : World) (h : ¬ (1 ≤ k ∧ k ≤ 1024)) :
    Calls Try.prog 11 #[.int .i64 k] w fun e w' => e = .returned (.tuple #[.pointer none, .int .i64 1]) ∧ Drawn0 w w' := by
  by_cases h1 : k < 1
  · have c1 : decide (k < 1) = true := decide_eq_true h1
    go_enter Try.func11, Try.ntmps11
    go_wp2_with fail
    go_ret2
    exact ⟨rfl, ⟨0, rfl⟩⟩
  · have c1 : decide (k < 1) = false := decide_eq_false h1
    have c2 : decide (1024 < k) = true := decide_eq_true (by omega)
    go_enter Try.func11, Try.ntmps11
    go_wp2_with fail
    go_ret2
    exact ⟨rfl, ⟨0, rfl⟩⟩
theorem New.ok (n : Nat) (w : World) (h1 : 1 ≤ n) (h2 : n ≤ 1024) :
    Calls Try.prog 11 #[.int .i64 (n : Int)] w fun e w' => ∃ g b, e = .returned (.tuple #[.pointer (some ⟨g, 0, none⟩), .int .i64 0]) ∧ At w' g b n (List.replicate (16 * n) 0) 0 false 0 ∧ w.heap.size ≤ g ∧ w.heap.size ≤ b ∧ Below w.heap.size w w' := by
  have c1 : decide ((n : Int) < 1) = false := decide_eq_false (by omega)
  have c2 : decide ((1024 : Int) < (n : Int)) = false := decide_eq_false (by omega)
  have hmk := fun w => mk58 n h2 w
  go_enter Try.func11, Try.ntmps11
  go_wp2_with fail
  go_ret2
  refine ⟨w.heap.size + 1, w.heap.size, rfl, ⟨?_, ?_, by simp, h1, h2⟩, by omega, Nat.le_refl _, ((Below.refl _ _).alloc (Nat.le_refl _) _).alloc (by simp) _⟩
  · show ((w.heap.push _).push _)[w.heap.size + 1]? = _
    rw [show w.heap.size + 1 = (w.heap.push _).size from (Array.size_push _).symm]
    exact Array.getElem?_push_size
  · refine (Below.heap_alloc _ _ _ (by simp)).trans ?_
    show (w.heap.push _)[w.heap.size]? = _
    rw [Array.getElem?_push_size]
    congr 2
    simp
theorem Cut {w : World} {g b n : Nat} {db : List Int} {many left : Int} {cut : Bool} (h : At w g b n db many cut left) (k : Int) :
    Calls Try.prog 14 #[.pointer (some ⟨g, 0, none⟩), .int .i64 k] w fun e w' => e = .returned (.tuple #[]) ∧ At w' g b n db many true (max 0 k) ∧ Only g b w w' := by
  have h2 := h.c2
  have h3 := h.c3
  have f2 := h.f 2
  have f3 := h.f 3
  have HS := Aside0.mk ((h.set2 true).set3 (max 0 k))
  have HO := Aside0.mk (((Only.refl g b w).set 2 (.bool true)).set 3 (.int .i64 (max 0 k)))
  clear h
  by_cases hk0 : 0 < k
  · have em : max 0 k = k := by omega
    rw [em] at HS HO
    go_enter Try.func14, Try.ntmps14
    go_wp2_with fail
    refine ⟨rfl, Value.tuple #[], results_nothing rfl _ _, rfl, ?_⟩
    rw [em]
    exact ⟨HS.out, HO.out⟩
  · have em : max 0 k = 0 := by omega
    rw [em] at HS HO
    have hk1 : ¬ (0 < k) := hk0
    go_enter Try.func14, Try.ntmps14
    go_wp2_with fail
    refine ⟨rfl, Value.tuple #[], results_nothing rfl _ _, rfl, ?_⟩
    exact ⟨HS.out, HO.out⟩
theorem Up {w : World} {g b n : Nat} {db : List Int} {many left : Int} {cut : Bool} (h : At w g b n db many cut left) :
    Calls Try.prog 34 #[.pointer (some ⟨g, 0, none⟩)] w fun e w' => e = .returned (.tuple #[]) ∧ At w' g b n db many false left ∧ Only g b w w' := by
  have h2 := h.c2
  have f2 := h.f 2
  have HS := Aside0.mk (h.set2 false)
  have HO := Aside0.mk ((Only.refl g b w).set 2 (.bool false))
  clear h
  go_enter Try.func34, Try.ntmps34
  go_wp2_with fail
  exact ⟨rfl, Value.tuple #[], results_nothing rfl _ _, rfl, HS.out, HO.out⟩
theorem Read.no {w : World} {g b n : Nat} {db : List Int} {many left : Int} {cut : Bool} (h : At w g b n db many cut left) (k : Int) (hk : ¬ (0 ≤ k ∧ k < (n : Int))) :
    Calls Try.prog 45 #[.pointer (some ⟨g, 0, none⟩), .int .i64 k] w fun e w' => e = .returned (.slice none 0 0) ∧ Drawn0 w w' := by
  have hb : (decide (0 ≤ k) && decide (k < (n : Int))) = false := by
    cases h1 : decide (0 ≤ k) with
    | false => rfl
    | true =>
      have := of_decide_eq_true h1
      rw [Bool.true_and]
      exact decide_eq_false (by omega)
  have C := has h k
  rw [hb] at C
  have HC := Aside0.mk C; clear C h hb
  go_enter Try.func45, Try.ntmps45
  go_wp2_with fail
  refine HC.out.mono ?_; rintro e w1 ⟨rfl, ⟨m, rfl⟩⟩
  go_wp2_with fail
  go_ret
  exact ⟨rfl, ⟨m, rfl⟩⟩
theorem Read.yes {w : World} {g b n : Nat} {db : List Int} {many left : Int} {cut : Bool} (h : At w g b n db many cut left) (k : Nat) (hk : k < n) :
    Calls Try.prog 45 #[.pointer (some ⟨g, 0, none⟩), .int .i64 (k : Int)] w fun e w' => ∃ x, e = .returned (.slice (some ⟨x, 0, none⟩) 16 16) ∧ w.heap.size ≤ x ∧ w'.heap[x]? = some (.cells (((part db k).map (Value.int .u8)).toArray) 79 (0, 0)) ∧ Below w.heap.size w w' := by
  have hb : (decide (0 ≤ (k : Int)) && decide ((k : Int) < (n : Int))) = true := by
    rw [decide_eq_true (show (0 : Int) ≤ (k : Int) by omega), decide_eq_true (show (k : Int) < (n : Int) by omega)]; rfl
  have C := has h k
  rw [hb] at C
  have HC := Aside0.mk C; clear C hb
  have h0 := h.c0
  have H := Aside0.mk h; clear h
  have p0 : (0 : Int) ≤ (k : Int) := by omega
  have q0 : (k : Int) < (n : Int) := by omega
  have LP := Aside0.mk (part_len H.out.len hk)
  go_enter Try.func45, Try.ntmps45
  go_wp2_with fail
  refine HC.out.mono ?_; rintro e w1 ⟨rfl, ⟨m, rfl⟩⟩
  go_wp2_with (first
    | ((with_reducible refine gate_ (.load 79 (.tmp 15)) rfl ?_); refine wpList_load_mid rfl 79 (.tmp 15) rfl b (k * 16) rfl ((part db k).map (Value.int .u8)) _ ((H.out.drewN m).part k) Try.underlying79 rfl (by rw [List.length_map, LP.out]; kernel_rfl) ?_)
    | ((with_reducible refine gate_ (.store 79 (.tmp 5) (.tmp 16)) rfl ?_); refine store_new ?hgd 79 (.tmp 5) (.tmp 16) ?ho w.heap.size _ ((part db k).map (Value.int .u8)).toArray ?hw ?hx ?hy ?hi ?hs (agg_one _) ?_; (case hgd => rfl); (case ho => rfl); (case hw => rfl); (case hx => rfl); (case hy => rfl); (case hi => rw [List.size_toArray, List.length_map, LP.out]; kernel_rfl); (case hs => show 16 = _; rw [List.size_toArray, List.length_map, LP.out])))
  go_ret
  refine ⟨w.heap.size, rfl, Nat.le_refl _, ?_, ((Below.refl _ _).trans ⟨rfl, rfl, rfl, Nat.le_refl _, fun _ _ => rfl⟩ : Below w.heap.size w (w.drewN m)).alloc (Nat.le_refl _) _⟩
  show ((w.drewN m).heap.push _)[(w.drewN m).heap.size]? = _
  exact Array.getElem?_push_size
theorem Write.arg {w : World} {g b n : Nat} {db : List Int} {many left : Int} {cut : Bool} (h : At w g b n db many cut left) (k : Int) (A : Option Addr) (c : Nat) (l : List Int) (hk : ¬ (0 ≤ k ∧ k < (n : Int)) ∨ 16 < l.length) :
    Calls Try.prog 40 #[.pointer (some ⟨g, 0, none⟩), .int .i64 k, .slice A l.length c] w fun e w' => e = .returned (.int .i64 1) ∧ Drawn0 w w' := by
  have HC := Aside0.mk (has h k)
  clear h
  by_cases hb : (decide (0 ≤ k) && decide (k < (n : Int))) = true
  · rw [hb] at HC
    have h16 : decide ((16 : Int) < (l.length : Int)) = true := by
      simp at hb
      exact decide_eq_true (by omega)
    go_enter Try.func40, Try.ntmps40
    go_wp2_with fail
    refine HC.out.mono ?_; rintro e w1 ⟨rfl, ⟨m, rfl⟩⟩
    go_wp2_with fail
    go_ret
    exact ⟨rfl, ⟨m, rfl⟩⟩
  · have hb' : (decide (0 ≤ k) && decide (k < (n : Int))) = false := by simpa using hb
    rw [hb'] at HC
    go_enter Try.func40, Try.ntmps40
    go_wp2_with fail
    refine HC.out.mono ?_; rintro e w1 ⟨rfl, ⟨m, rfl⟩⟩
    go_wp2_with fail
    go_ret
    exact ⟨rfl, ⟨m, rfl⟩⟩
theorem Write.down {w : World} {g b n : Nat} {db : List Int} {many left : Int} {cut : Bool} (h : At w g b n db many cut left) (k : Int) (A : Option Addr) (c : Nat) (l : List Int) (hk : 0 ≤ k ∧ k < (n : Int)) (hl : l.length ≤ 16) (hd : cut = true ∧ left ≤ 0) :
    Calls Try.prog 40 #[.pointer (some ⟨g, 0, none⟩), .int .i64 k, .slice A l.length c] w fun e w' => e = .returned (.int .i64 170) ∧ Drawn0 w w' := by
  have HC := Aside0.mk (has h k)
  have HD := Aside0.mk (fun m => Down (h.drewN m))
  rw [decide_eq_true hk.1, decide_eq_true hk.2] at HC
  rw [hd.1, decide_eq_true hd.2] at HD
  have h16 : decide ((16 : Int) < (l.length : Int)) = false := decide_eq_false (by omega)
  clear h
  go_enter Try.func40, Try.ntmps40
  go_wp2_with fail
  refine HC.out.mono ?_; rintro e w1 ⟨rfl, ⟨m, rfl⟩⟩
  go_wp2_with fail
  refine (HD.out m).mono ?_; rintro e w1 ⟨rfl, ⟨m2, rfl⟩⟩
  go_wp2_with fail
  go_ret
  exact ⟨rfl, ⟨m + m2, by simp⟩⟩
theorem Write.ok {w : World} {g b n : Nat} {db : List Int} {many left : Int} {cut : Bool} (h : At w g b n db many cut left) (k : Nat) (A : Option Addr) (c : Nat) (l : List Int) (hr : Kd.C (Kd.int .u8) w A l.length l) (hc : l.length ≤ c) (hk : k < n) (hl : l.length ≤ 16) (hd : (cut && decide (left ≤ 0)) = false)
    (hm : many < 4611686018427387904 ∧ -4611686018427387904 < many) (hlf : -4611686018427387904 < left ∧ left < 9223372036854775808) :
    Calls Try.prog 40 #[.pointer (some ⟨g, 0, none⟩), .int .i64 (k : Int), .slice A l.length c] w fun e w' => e = .returned (.int .i64 0) ∧ At w' g b n (put db k l) (many + 1) cut (left - 1) ∧ Only g b w w' := by
  have HC := Aside0.mk (has h (k : Int))
  have HD := Aside0.mk (fun m => Down (h.drewN m))
  rw [decide_eq_true (show (0 : Int) ≤ (k : Int) by omega), decide_eq_true (show (k : Int) < (n : Int) by omega)] at HC
  rw [hd] at HD
  have h16 : decide ((16 : Int) < (l.length : Int)) = false := decide_eq_false (by omega)
  have H := Aside0.mk h
  have HR := Aside0.mk hr
  clear h hr
  have hcp := fun M => copy16 (w.drewN M) A c l (Kd.C_alloc (Kd.C_drewN HR.out M) _) hl
  have h0 := H.out.c0
  have p0 : (0 : Int) ≤ (k : Int) := by omega
  have q0 : (k : Int) < (n : Int) := by omega
  have S16 := Aside0.mk (sixteen_len hl)
  go_enter Try.func40, Try.ntmps40
  go_wp2_with fail
  refine HC.out.mono ?_; rintro e w1 ⟨rfl, ⟨m, rfl⟩⟩
  go_wp2_with fail
  refine (HD.out m).mono ?_; rintro e w1 ⟨rfl, ⟨m2, rfl⟩⟩
  have hcq : Sem.run Try.prog (Builtin.copy_ #[32, 32] 3 #[Value.slice (some { block := w.heap.size, off := 0 }) 16 16, Value.slice A l.length c]) ((w.drewN (m + m2)).alloc (Obj.cells zeros16 79)) = .ok (.int .i64 l.length) ((w.drewN (m + m2)).alloc (.cells ((sixteen l).map (Value.int .u8)).toArray 79)) := hcp (m + m2)
  unfold zeros16 at hcq
  clear hcp
  go_wp2_with fail
  obtain ⟨W1, hW1⟩ : ∃ W1, W1 = ((w.drewN (m + m2)).alloc (.cells ((sixteen l).map (Value.int .u8)).toArray 79)) := ⟨_, rfl⟩
  rw [← hW1]
  have HA1 := Aside0.mk (show At W1 g b n db many cut left by
    rw [hW1]
    exact (H.out.drewN _).below ((Below.refl _ _).alloc (Nat.le_refl _) _))
  have HO1 := Aside0.mk (show Only g b w W1 by rw [hW1]; exact ((Only.refl g b w).drewN _).alloc _)
  have HX1 := Aside0.mk (show W1.rangeAt w.heap.size 0 ((sixteen l).map (Value.int .u8)) by
    intro j v hv
    have := cell_of_row W1 w.heap.size (0 + j) _ 79 (0, 0) (by rw [hW1]; exact heap_alloc_last (w.drewN (m + m2)) _)
    rw [this]
    simpa using hv)
  clear hW1 hcq
  have h1 := HA1.out.c0
  go_still_tail 7, (by kernel_rfl)
  refine still_load ?hw 79 (.tmp 7) ?ho w.heap.size 0 ?hx ((sixteen l).map (Value.int .u8)) _ HX1.out Try.underlying79 rfl ?hi ?_
  case hw => rfl
  case ho => rfl
  case hx => rfl
  case hi => rw [List.length_map, S16.out]; kernel_rfl
  repeat still_step
  refine wpStill_nil ?_
  change wpList _ _ _ _ _ W1.drew
  have HA2 := Aside0.mk (HA1.out.drewN 1)
  have HO2 := Aside0.mk (HO1.out.drewN 1)
  refine wpList_store_mid ?hgd 79 (.tmp 30) (.tmp 29) ?ho b (k * 16) ((sixteen l).map (Value.int .u8)).toArray ?hx ?hy ?ht ?hi (agg_one _) ?_
  case hgd => rfl
  case ho => rfl
  case hx => rfl
  case hy => rfl
  case ht =>
    intro j hj
    have hj16 : j < 16 := by simpa [S16.out] using hj
    have hb2 := HA2.out.hb
    exact ⟨by rw [cell_of_row W1.drew b _ _ 79 (0, 0) hb2]; have := HA2.out.len; simp; omega, HA2.out.fb _⟩
  case hi => rw [List.size_toArray, List.length_map, S16.out]; kernel_rfl
  obtain ⟨W2, hW2⟩ : ∃ W2, W2 = W1.drew.setCells b (k * 16) ((sixteen l).map (Value.int .u8)).toArray.toList := ⟨_, rfl⟩
  rw [← hW2]
  have HA3 := Aside0.mk (show At W2 g b n (put db k l) many cut left by rw [hW2]; exact HA2.out.putx k l hk hl)
  have HO3 := Aside0.mk (show Only g b w W2 by rw [hW2]; exact HO2.out.putx _ _)
  have e1 : wrap64 (many + 1) = many + 1 := by unfold wrap64; omega
  have e2 : wrap64 (left - 1) = left - 1 := by unfold wrap64; omega
  have c1 := HA3.out.c1
  have c3 := HA3.out.c3
  have f1 := HA3.out.f 1
  have f3 := HA3.out.f 3
  clear hW2 HA2 HO2 HA1 HO1 HX1 HC HD H
  go_wp2_with fail
  go_ret
  exact ⟨rfl, (HA3.out.set1 _).set3 _, (HO3.out.set 1 _).set 3 _⟩
end Disk
end Go.Proofs.Ytbjjpckldjjcgaa
/- The disk: Load and Bytes. -/
namespace Go.Proofs.Ytbjjpckldjjcgaa
open Go.RowKit Go.Proofs.YtbjjpckldjjcgaaW.PrintWords Go.Proofs.YtbjjpckldjjcgaaW.PrintLast Go.Proofs.YtbjjpckldjjcgaaW.PrintMore
set_option linter.unusedVariables false
set_option linter.unusedSimpArgs false
set_option maxHeartbeats 1000000
namespace Disk

theorem cut16 (ad : Addr) (m c j : Nat) (h : j * 16 + 16 ≤ c) (w : World) : (Instr.sliceAt 32 (.slice (some ad) m c) (some (.int .i64 ((j : Int) * 16))) (some (.int .i64 ((j : Int) * 16 + 16))) (some (.int .i64 ((j : Int) * 16 + 16)))).run Try.prog w = .ok (.slice (some (ad.add (j * 16))) 16 16) w := by
  have e1 : ((j : Int) * 16 + 16).toNat = j * 16 + 16 := by omega
  have e0 : ((j : Int) * 16).toNat = j * 16 := by omega
  have e2 : ¬ ((c : Int) < (j : Int) * 16 + 16) := by omega
  have e3 : ¬ ((j : Int) * 16 + 16 < (j : Int) * 16) := by omega
  have e4 : (0 : Int) ≤ (j : Int) * 16 := by omega
  have e5 : (0 : Int) ≤ (j : Int) * 16 + 16 := by omega
  go_simp
  rw [if_pos (by omega), if_pos (by omega)]
/-- An array is read wherever its cells lie. -/
theorem load_any {P : Program} (w : World) (a : Addr) (ty : TypeId) (cs : List Value) (n : Nat) (e : TypeId) (hc : ∀ j v, cs[j]? = some v → w.cell? (a.add j) = some v)
    (hu : P.underlying ty = some (.array n e)) (hi : (P.info? ty).map (·.size) = some cs.length) : (Instr.loadAt ty (.pointer (some a))).run P w = .ok (.agg cs.toArray) w := by
  have hl : (loadCells a cs.length).run P w = .ok cs.toArray w := run_loadCells_list (P := P) w a cs hc
  obtain ⟨i, hq, hs⟩ := Option.map_eq_some_iff.1 hi
  have hagg : (isAgg ty).run P w = .ok true w := by
    unfold isAgg
    rw [Sem.run_bind, run_underlying hu w]
    simp
  simp only [Instr.loadAt, Instr.sureAddr, Sem.run_bind, Sem.run_pure, Result.andThen_ok]
  simp [loadVar, Sem.run_bind, hagg, sizeOf, typeInfo, hq, hs, hl]
/-- The same in a still region. -/
theorem still_load_any {P : Program} {ops : Array Oper} {w : World} {Q : Act → Prop} {op : Oper} {rest : List Oper} {a : Act} (hw : Region.wanted op (yielded ops a.tmps) = true) (ty : TypeId) (x : Operand) (ho : op.op = .load ty x)
    (ad : Addr) (hx : a.eval x = .pointer (some ad)) (cs : List Value) (n : Nat) (e : TypeId) (hc : ∀ j v, cs[j]? = some v → w.cell? (ad.add j) = some v)
    (hu : P.underlying ty = some (.array n e)) (hi : (P.info? ty).map (·.size) = some cs.length)
    (h : wpStill P ops w Q rest (a.put op.dst (.agg cs.toArray))) : wpStill P ops w Q (op :: rest) a := by
  refine still_run hw ?_ h
  unfold execOp
  simp only [ho, hx, Sem.run_bind, load_any w ad ty cs n e hc hu hi, Result.andThen_ok, Sem.run_pure]
theorem add_add (ad : Addr) (lo j : Nat) : (ad.add lo).add j = ad.add (lo + j) := by
  simp only [Addr.add]
  by_cases h0 : lo = 0 <;> by_cases h3 : j = 0 <;> simp [h0, h3, Nat.add_assoc]
theorem part_cells {w : World} {ad : Addr} {l : List Int} {n j : Nat} (hr : Kd.C (Kd.int .u8) w (some ad) l.length l) (hl : l.length = 16 * n) (hj : j < n) : ∀ i v, ((part l j).map (Value.int .u8))[i]? = some v → w.cell? ((ad.add (j * 16)).add i) = some v := by
  intro i v hv
  simp only [part, List.getElem?_map, List.getElem?_take, List.getElem?_drop] at hv
  by_cases h16 : i < 16
  · rw [if_pos h16] at hv
    have hlt : j * 16 + i < l.length := by omega
    obtain ⟨ad', e, hc⟩ := (Kd.reads_of_C (d := (0 : Int)) hr).2.2 (by omega)
    cases e
    rw [add_add, hc _ hlt]
    rw [List.getElem?_eq_getElem hlt] at hv
    simp [List.getD_eq_getElem?_getD, hlt]
    simpa using hv
  · rw [if_neg h16] at hv; cases hv

theorem sixteen_self {l : List Int} (h : l.length = 16) : sixteen l = l := by unfold sixteen; rw [h]; simp
theorem put_step {l : List Int} {n j : Nat} (hl : l.length = 16 * n) (hj : j < n) : put (l.take (j * 16) ++ List.replicate (16 * n - j * 16) 0) j (part l j) = l.take ((j + 1) * 16) ++ List.replicate (16 * n - (j + 1) * 16) 0 := by
  have ht : (l.take (j * 16)).length = j * 16 := by rw [List.length_take]; omega
  have e1 : (l.take (j * 16) ++ List.replicate (16 * n - j * 16) (0 : Int)).take (j * 16) = l.take (j * 16) := by
    rw [List.take_append_of_le_length (by omega), List.take_of_length_le (by omega)]
  have e2 : (l.take (j * 16) ++ List.replicate (16 * n - j * 16) (0 : Int)).drop (j * 16 + 16) = List.replicate (16 * n - (j + 1) * 16) 0 := by
    rw [List.drop_append, ht, List.drop_eq_nil_of_le (by omega), List.nil_append, List.drop_replicate]
    congr 1; omega
  unfold put
  rw [sixteen_self (part_len hl hj), e1, e2, show (j + 1) * 16 = j * 16 + 16 by omega, List.take_add]
  rfl

theorem Load.bad (A : Option Addr) (c : Nat) (l : List Int) (w : World) (hm : l.length ≤ 9223372036854775807) (h : ¬ (16 ≤ l.length ∧ l.length ≤ 16384 ∧ l.length % 16 = 0)) :
    Calls Try.prog 20 #[.slice A l.length c] w fun e w' => e = .returned (.tuple #[.pointer none, .int .i64 1]) ∧ Below w.heap.size w w' := by
  have hq : (l.length : Int) / 16 = ((l.length / 16 : Nat) : Int) := by omega
  have HQ := Aside0.mk hq; clear hq
  by_cases h1 : 1 ≤ l.length / 16 ∧ l.length / 16 ≤ 1024
  · have HN := Aside0.mk (New.ok (l.length / 16) w h1.1 h1.2)
    have hr : ((l.length : Int) % 16 != 0) = true := by simp; omega
    go_enter Try.func20, Try.ntmps20
    go_wp2_with fail
    rw [HQ.out]
    refine HN.out.mono ?_; rintro e w1 ⟨g, b, rfl, _, _, _, hb⟩
    have HB := Aside0.mk hb
    clear hb
    go_wp2_with fail
    go_ret2
    exact ⟨rfl, HB.out⟩
  · have HN := Aside0.mk (New.bad ((l.length / 16 : Nat) : Int) w (by omega))
    go_enter Try.func20, Try.ntmps20
    go_wp2_with fail
    rw [HQ.out]
    refine HN.out.mono ?_; rintro e w1 ⟨rfl, ⟨m, rfl⟩⟩
    go_wp2_with fail
    go_ret2
    exact ⟨rfl, Aid.bdrew (Below.refl _ _) _⟩

theorem Load.ok (ad : Addr) (c n : Nat) (l : List Int) (w : World) (hr : Kd.C (Kd.int .u8) w (some ad) l.length l) (hc : l.length ≤ c) (hl : l.length = 16 * n) (h1 : 1 ≤ n) (h2 : n ≤ 1024) :
    Calls Try.prog 20 #[.slice (some ad) l.length c] w fun e w' => ∃ g b, e = .returned (.tuple #[.pointer (some ⟨g, 0, none⟩), .int .i64 0]) ∧ At w' g b n l 0 false 0 ∧ w.heap.size ≤ g ∧ w.heap.size ≤ b ∧ Below w.heap.size w w' := by
  have hq : (l.length : Int) / 16 = (n : Int) := by omega
  have hr0 : ((l.length : Int) % 16 != 0) = false := by simp; omega
  have HN := Aside0.mk (New.ok n w h1 h2)
  have HR := Aside0.mk hr
  have HL := Aside0.mk hl
  clear hr hl
  go_enter Try.func20, Try.ntmps20
  go_wp2_with fail
  refine HN.out.mono ?_; rintro e w1 ⟨g, b, rfl, hA, hg, hb, hB⟩
  have HA := Aside0.mk hA
  have HB := Aside0.mk hB
  clear hA hB HN
  have c0 := HA.out.c0
  go_wp2_with fail
  go_loopg [28] (n + 1) (fun kq v28 w' => ∃ (j : Nat), v28 = .int .i64 (j : Int) ∧ Aside0 (kq + j = n + 1 ∧ j ≤ n) ∧ Aside0 (At w' g b n (l.take (j * 16) ++ List.replicate (16 * n - j * 16) 0) 0 false 0) ∧ Aside0 (Below w.heap.size w w'))
  case atStart => exact ⟨0, rfl, ⟨by omega, by omega⟩, ⟨by simpa using HA.out⟩, HB⟩
  case round =>
    clear HA HB c0
    obtain ⟨j, rfl, HK, HA, HB⟩ := hrel
    have c0 := HA.out.c0
    cases gk with
    | zero => exact absurd HK.out (by omega)
    | succ k1 =>
      by_cases hj : j < n
      · have c14 : decide ((j : Int) < (n : Int)) = true := decide_eq_true (by omega)
        have e16 : wrap64 ((j : Int) * 16) = ((j * 16 : Nat) : Int) := by unfold wrap64; omega
        have e17 : wrap64 (((j * 16 : Nat) : Int) + 16) = ((j * 16 + 16 : Nat) : Int) := by unfold wrap64; omega
        have hjc : (j : Int) * 16 + 16 ≤ (c : Int) := by have := HL.out; omega
        have hjj : (j : Int) * 16 ≤ (j : Int) * 16 + 16 := by omega
        have ew : IntKind.i64.wrap ((j : Int) * 16 + 16) = (j : Int) * 16 + 16 := by rw [IntKind.wrap_i64]; omega
        have h0a : (0 : Int) ≤ (j : Int) * 16 + 16 := by omega
        have h0b : (0 : Int) ≤ (j : Int) * 16 := by omega
        have t1 : ((j : Int) * 16 + 16).toNat = j * 16 + 16 := by omega
        have t0 : ((j : Int) * 16).toNat = j * 16 := by omega
        have harr : ∀ (a : Option Addr) (w : World), (Instr.arrayAt 79 (.slice a 16 16)).run Try.prog w = .ok (.pointer a) w := fun a w => run_arrayAt (P := Try.prog) w 79 5 16 a 16 16 Try.underlying79 (Nat.le_refl _)
        go_wp2_with fail
        obtain ⟨W1, hW1⟩ : ∃ W1, W1 = wr := ⟨_, rfl⟩
        go_still_tail 15, (by kernel_rfl)
        refine still_load_any ?hw 79 (.tmp 45) ?ho (ad.add (j * 16)) ?hx ((part l j).map (Value.int .u8)) 16 5 (part_cells (Kd.C_drewN (Kd.C_below HR.out HB.out) 1) HL.out hj) Try.underlying79 (by rw [List.length_map, part_len HL.out hj]; kernel_rfl) ?_
        case hw => rfl
        case ho => rfl
        case hx => rfl
        repeat still_step
        refine wpStill_nil ?_
        change wpList _ _ _ _ _ wr.drew
        have HA2 := Aside0.mk (HA.out.drewN 1)
        refine wpList_store_mid ?hgd 79 (.tmp 47) (.tmp 46) ?ho b (j * 16) ((part l j).map (Value.int .u8)).toArray ?hx ?hy ?ht ?hi (agg_one _) ?_
        case hgd => rfl
        case ho => rfl
        case hx => rfl
        case hy => rfl
        case ht =>
          intro i hi
          have hi16 : i < 16 := by simpa [part_len HL.out hj] using hi
          have hb2 := HA2.out.hb
          exact ⟨by rw [cell_of_row wr.drew b _ _ 79 (0, 0) hb2]; have := HA2.out.len; have := HL.out; simp; omega, HA2.out.fb _⟩
        case hi => rw [List.size_toArray, List.length_map, part_len HL.out hj]; kernel_rfl
        obtain ⟨W2, hW2⟩ : ∃ W2, W2 = wr.drew.setCells b (j * 16) ((part l j).map (Value.int .u8)).toArray.toList := ⟨_, rfl⟩
        rw [← hW2]
        have HA3 := Aside0.mk (show At W2 g b n (l.take ((j + 1) * 16) ++ List.replicate (16 * n - (j + 1) * 16) 0) 0 false 0 by
          have := HA2.out.putx j (part l j) hj (Nat.le_of_eq (part_len HL.out hj))
          rw [put_step HL.out hj, sixteen_self (part_len HL.out hj)] at this
          rw [hW2]; exact this)
        have HB3 := Aside0.mk (show Below w.heap.size w W2 by
          rw [hW2]
          have := (Only.refl g b wr.drew).putx (j * 16) ((part l j).map (Value.int .u8)).toArray.toList
          exact (Aid.bdrew HB.out 1).trans (this.low _ hg hb HB.out.size))
        clear hW2 HA2 HA HB
        clear harr ew t0 t1 hjj hjc h0a h0b e16 e17
        have ej : wrap64 ((j : Int) + 1) = ((j + 1 : Nat) : Int) := by unfold wrap64; omega
        go_wp2_with fail
        go_roundg k1
        case measure => omega
        case rel => exact ⟨j + 1, by simp, ⟨by have := HK.out; omega, by omega⟩, HA3, HB3⟩
      · have c14 : decide ((j : Int) < (n : Int)) = false := decide_eq_false (by omega)
        go_wp2_with fail
        go_ret2
        have e : j = n := by have := HK.out; omega
        subst e
        refine ⟨g, b, rfl, ?_, hg, hb, HB.out⟩
        have := HA.out
        rw [List.take_of_length_le (by rw [HL.out]; omega), show 16 * j - j * 16 = 0 by omega, List.replicate_zero, List.append_nil] at this
        exact this
theorem Bytes {w : World} {g b n : Nat} {db : List Int} {many left : Int} {cut : Bool} (h : At w g b n db many cut left) :
    Calls Try.prog 30 #[.pointer (some ⟨g, 0, none⟩)] w fun e w' => ∃ v, e = .returned v ∧ Kd.R (Kd.int .u8) 5 w' w.heap.size (fun _ => True) v db ∧ Below w.heap.size w w' := by
  have c0 := h.c0
  have H := Aside0.mk h; clear h
  go_enter Try.func30, Try.ntmps30
  go_wp2_with fail
  go_loopg [3, 11] (n + 1) (fun kq v3 v11 w' => ∃ (j : Nat), v11 = .int .i64 (j : Int) ∧ Aside0 (kq + j = n + 1 ∧ j ≤ n) ∧ Aside0 (Kd.R (Kd.int .u8) 5 w' w.heap.size (fun _ => True) v3 (db.take (j * 16))) ∧ Aside0 (Below w.heap.size w w'))
  case atStart => exact ⟨0, rfl, ⟨by omega, by omega⟩, ⟨by simpa using Kd.R_nil _ _ _ _ _⟩, ⟨Below.refl _ _⟩⟩
  case round =>
    obtain ⟨j, rfl, HK, HO, HB⟩ := hrel
    cases gk with
    | zero => exact absurd HK.out (by omega)
    | succ k1 =>
      by_cases hj : j < n
      · have c14 : decide ((j : Int) < (n : Int)) = true := decide_eq_true (by omega)
        have p0 : (0 : Int) ≤ (j : Int) := by omega
        have q0 : (j : Int) < (n : Int) := by omega
        have LP := Aside0.mk (part_len H.out.len hj)
        have HA := Aside0.mk (H.out.below HB.out)
        go_wp2_with (first
          | ((with_reducible refine gate_ (.load 79 (.tmp 13)) rfl ?_); refine wpList_load_mid rfl 79 (.tmp 13) rfl b (j * 16) rfl ((part db j).map (Value.int .u8)) _ (HA.out.part j) Try.underlying79 rfl (by rw [List.length_map, LP.out]; kernel_rfl) ?_)
          | ((with_reducible refine gate_ (.store 79 (.tmp 5) (.tmp 14)) rfl ?_); refine store_new ?hgd 79 (.tmp 5) (.tmp 14) ?ho wr.heap.size _ ((part db j).map (Value.int .u8)).toArray ?hw ?hx ?hy ?hi ?hs (agg_one _) ?_; (case hgd => rfl); (case ho => rfl); (case hw => rfl); (case hx => rfl); (case hy => rfl); (case hi => rw [List.size_toArray, List.length_map, LP.out]; kernel_rfl); (case hs => show 16 = _; rw [List.size_toArray, List.length_map, LP.out]))
          | ((with_reducible refine gate_builtin (b := .append) (xs := #[.tmp 15, .tmp 16]) rfl ?_); refine stop ?_))
        refine Stop.go ?_
        have HO1 := Aside0.mk (Kd.R_alloc HO.out (.cells ((part db j).map (Value.int .u8)).toArray 79))
        have HC1 := Aside0.mk (show Kd.C (Kd.int .u8) (wr.alloc (.cells ((part db j).map (Value.int .u8)).toArray 79)) (some ⟨wr.heap.size, 0, none⟩) (part db j).length (part db j) from Aid.C_new (enc := Value.int .u8) (0 : Int) wr (part db j) _ 79 (0, 0) rfl (by rw [LP.out]; decide))
        have HB1 := Aside0.mk (HB.out.alloc HB.out.size (.cells ((part db j).map (Value.int .u8)).toArray 79))
        rw [LP.out] at HC1
        at_builtin
        refine Kd.R_append_rows (Kd.int .u8) (w0 := w) w.heap.size rfl (.tmp 15) (.tmp 16) 32 5 (.int .u8 0) 1 rfl Try.underlying32 info5 rfl (by decide) (by omega) u3 (db.take (j * 16)) (part db j) (some ⟨wr.heap.size, 0, none⟩) 16 16 (fun _ => True) (fun _ => False) ?aV ?aW ?aO ?aR (fun _ _ h => h) (fun _ h => h.elim) ?aF ?aB ?aS ?aL ?_
        case aV => rfl
        case aW => rfl
        case aO => exact HO1.out
        case aR => exact HC1.out
        case aF => exact fun _ _ => trivial
        case aB => exact HB1.out
        case aS => exact HB1.out.size
        case aL => have := H.out.len; have := H.out.n2; simp; omega
        intro v4 w4 ho4 hb4 hg4 hat4
        have HO4 := Aside0.mk ho4
        have HB4 := Aside0.mk hb4
        have ed : db.take ((j + 1) * 16) = db.take (j * 16) ++ part db j := by rw [show (j + 1) * 16 = j * 16 + 16 by omega, List.take_add]; rfl
        clear ho4 hb4 hg4 hat4 HO1 HC1 HB1 HO HB HA
        have ej : wrap64 ((j : Int) + 1) = ((j + 1 : Nat) : Int) := by unfold wrap64; have := H.out.n2; omega
        go_wp2_with fail
        go_roundg k1
        case measure => omega
        case rel => exact ⟨j + 1, by first | (simp; done) | rw [ej], ⟨by have := HK.out; omega, by omega⟩, ⟨by rw [ed]; exact HO4.out⟩, HB4⟩
      · have c14 : decide ((j : Int) < (n : Int)) = false := decide_eq_false (by omega)
        go_wp2_with fail
        go_ret
        have e : j = n := by have := HK.out; omega
        subst e
        have := HO.out
        rw [List.take_of_length_le (by rw [H.out.len]; omega)] at this
        exact ⟨_, rfl, this, HB.out⟩
end Disk
end Go.Proofs.Ytbjjpckldjjcgaa
/- The disk: what the law compares. -/
namespace Go.Proofs.Ytbjjpckldjjcgaa
open Go.RowKit Go.Proofs.YtbjjpckldjjcgaaW.PrintWords Go.Proofs.YtbjjpckldjjcgaaW.PrintLast Go.Proofs.YtbjjpckldjjcgaaW.PrintMore Go.Proofs.Ytbjjpckldjjcgaa.PK
set_option linter.unusedVariables false
set_option linter.unusedSimpArgs false
set_option maxHeartbeats 1000000
namespace Disk

theorem rd_at (l : List Int) (i : Nat) (h : i < l.length) : rd l (i : Int) = l[i] := by
  simp [rd, List.getD_eq_getElem?_getD, h]
theorem w64 (i : Nat) (h : i < 1000000) : wrap64 ((i : Int) + 1) = ((i + 1 : Nat) : Int) := by unfold wrap64; omega
theorem same_l (a b : List Int) (hl : a.length = b.length) (hm : a.length ≤ 100000) (d : Nat) : ∀ (k i : Nat), i + d = a.length → d < k → a.take i = b.take i → redressref16_Same.l0 k a b i = some (decide (a = b)) := by
  induction d with
  | zero =>
    intro k i hi hk he
    obtain ⟨k, rfl⟩ : ∃ m, k = m + 1 := ⟨k - 1, by omega⟩
    simp only [redressref16_Same.l0]
    rw [if_neg (by omega)]
    rw [List.take_of_length_le (by omega), List.take_of_length_le (by omega)] at he
    simp [he]
  | succ d ih =>
    intro k i hi hk he
    obtain ⟨k, rfl⟩ : ∃ m, k = m + 1 := ⟨k - 1, by omega⟩
    simp only [redressref16_Same.l0]
    rw [if_pos (by omega), if_pos (by omega), if_pos (by omega), rd_at a i (by omega), rd_at b i (by omega)]
    by_cases hx : a[i]'(by omega) = b[i]'(by omega)
    · rw [if_pos hx, w64 i (by omega)]
      exact ih k (i + 1) (by omega) (by omega) (by rw [List.take_succ_eq_append_getElem (by omega), List.take_succ_eq_append_getElem (by omega), he, hx])
    · rw [if_neg hx]
      have : a ≠ b := fun h => hx (by subst h; rfl)
      simp [this]
theorem same (a b : List Int) (k : Nat) (hm : a.length ≤ 100000) (hk : a.length < k) : redressref16_Same.f k a b = some (decide (a = b)) := by
  unfold redressref16_Same.f
  by_cases hl : a.length = b.length
  · rw [if_pos (by omega)]
    exact same_l a b hl hm a.length k 0 (by omega) hk rfl
  · rw [if_neg (by omega)]
    have : a ≠ b := fun h => hl (by rw [h])
    simp [this]

theorem SameN (A0 : Option Addr) (n0 c0 : Nat) (l0 : List Int) (A1 : Option Addr) (n1 c1 : Nat) (l1 : List Int) (w : World) (h0 : l0.length = n0) (h1 : l1.length = n1) (hr0 : Kd.C (Kd.int .u8) w A0 l0.length l0) (hc0 : n0 ≤ c0) (hr1 : Kd.C (Kd.int .u8) w A1 l1.length l1) (hc1 : n1 ≤ c1) (hm : l0.length ≤ 100000) :
    Calls Try.prog 18 #[.slice A0 n0 c0, .slice A1 n1 c1] w fun e w' => e = .returned (.bool (decide (l0 = l1))) ∧ Drawn0 w w' := by
  subst h0; subst h1
  exact redressref16_Same.calls (l0.length + 1) A0 c0 l0 A1 c1 l1 _ w hr0 hc0 hr1 hc1 (same l0 l1 _ hm (by omega))
theorem SameRows (A0 : Option Addr) (n0 c0 : Nat) (A1 : Option Addr) (n1 c1 : Nat) (l : List Int) (w : World) (h0 : n0 = l.length) (h1 : n1 = l.length) (hr0 : Kd.C (Kd.int .u8) w A0 l.length l) (hc0 : n0 ≤ c0) (hr1 : Kd.C (Kd.int .u8) w A1 l.length l) (hc1 : n1 ≤ c1) (hm : l.length ≤ 100000) :
    Calls Try.prog 18 #[.slice A0 n0 c0, .slice A1 n1 c1] w fun e w' => e = .returned (.bool true) ∧ Drawn0 w w' := by
  have := SameN A0 n0 c0 l A1 n1 c1 l w h0.symm h1.symm hr0 hc0 hr1 hc1 hm
  rwa [decide_eq_true rfl] at this

theorem LawSame {w : World} {g b n : Nat} {db : List Int} {many left : Int} {cut : Bool} (h : At w g b n db many cut left) (A : Option Addr) (c : Nat) (rl : Int) (hr : Kd.C (Kd.int .u8) w A db.length db) (hc : db.length ≤ c) (hd : (cut && decide (left ≤ 0)) = (rl == 0)) :
    Calls Try.prog 36 #[.pointer (some ⟨g, 0, none⟩), .agg #[.slice A db.length c, .int .i64 many, .int .i64 rl]] w fun e w' => e = .returned (.bool true) ∧ Below w.heap.size w w' := by
  have H := Aside0.mk h
  have HR := Aside0.mk hr
  have HD := Aside0.mk hd
  clear h hr hd
  go_enter Try.func36, Try.ntmps36
  go_wp2_with fail
  obtain ⟨w1, hw1⟩ : ∃ w1, w1 = w.alloc (Obj.cells #[Value.slice A db.length c, Value.int IntKind.i64 many, Value.int IntKind.i64 rl] 44) := ⟨_, rfl⟩
  rw [← hw1]
  have hB0 := Aside0.mk (show Below w.heap.size w w1 by rw [hw1]; exact (Below.refl _ _).alloc (Nat.le_refl _) _)
  have hx := heap_alloc_last w (Obj.cells #[Value.slice A db.length c, Value.int IntKind.i64 many, Value.int IntKind.i64 rl] 44)
  rw [← hw1] at hx
  have x0 : w1.cell? ⟨w.heap.size, 0, none⟩ = some (.slice A db.length c) := by rw [cell_of_row _ _ _ _ _ _ hx]; rfl
  have x1 : w1.cell? ⟨w.heap.size, 1, none⟩ = some (.int .i64 many) := by rw [cell_of_row _ _ _ _ _ _ hx]; rfl
  have x2 : w1.cell? ⟨w.heap.size, 2, none⟩ = some (.int .i64 rl) := by rw [cell_of_row _ _ _ _ _ _ hx]; rfl
  clear hx hw1
  have keepS : ∀ W W' : World, (Below w1.heap.size w1 W ∧ W.cell? ⟨w.heap.size, 0, none⟩ = some (.slice A db.length c) ∧ W.cell? ⟨w.heap.size, 1, none⟩ = some (.int .i64 many) ∧ W.cell? ⟨w.heap.size, 2, none⟩ = some (.int .i64 rl)) → Below W.heap.size W W' →
      (Below w1.heap.size w1 W' ∧ W'.cell? ⟨w.heap.size, 0, none⟩ = some (.slice A db.length c) ∧ W'.cell? ⟨w.heap.size, 1, none⟩ = some (.int .i64 many) ∧ W'.cell? ⟨w.heap.size, 2, none⟩ = some (.int .i64 rl)) := fun W W' hS hb =>
    ⟨Aid.bthen hS.1 hb, (hb.cell (World.block_lt_of_cell? W _ hS.2.1)).trans hS.2.1, (hb.cell (World.block_lt_of_cell? W _ hS.2.2.1)).trans hS.2.2.1, (hb.cell (World.block_lt_of_cell? W _ hS.2.2.2)).trans hS.2.2.2⟩
  have KS := Aside0.mk keepS; clear keepS
  have hq : (db.length : Int) / 16 = (n : Int) := by have := H.out.len; omega
  have ewn : IntKind.i64.wrap (n : Int) = (n : Int) := by rw [IntKind.wrap_i64]; have := H.out.n2; omega
  have HL : db.length ≤ 100000 := by have := H.out.len; have := H.out.n2; omega
  go_region_held3 (fun W => Below w1.heap.size w1 W ∧ W.cell? ⟨w.heap.size, 0, none⟩ = some (.slice A db.length c) ∧ W.cell? ⟨w.heap.size, 1, none⟩ = some (.int .i64 many) ∧ W.cell? ⟨w.heap.size, 2, none⟩ = some (.int .i64 rl)) (first | assumption | exact ⟨(Below.refl _ _).drew, x0, x1, x2⟩)
    (first
      | (go_simp; go_at_call 30; have hS_ := ‹Below w1.heap.size w1 _ ∧ _›; refine (Bytes (H.out.below (Aid.bthen hB0.out hS_.1))).mono ?_; rintro e w' ⟨v, rfl, hR, hB⟩; have hS2_ := KS.out _ _ hS_ hB; obtain ⟨A5, c5, hv, hc5, hC5⟩ := Kd.R_reads hR; subst hv; have HC5 := Aside0.mk hC5; clear hC5 hR)
      | (go_simp; go_at_call 18; have hS_ := ‹Below w1.heap.size w1 _ ∧ _›; refine (SameRows A5 db.length c5 A db.length c db _ rfl rfl HC5.out hc5 (Kd.C_below HR.out (Aid.bthen hB0.out hS_.1)) hc HL).mono ?_; rintro e w' ⟨rfl, hd⟩; have hS2_ := KS.out _ _ hS_ hd.below)
      | (go_simp; go_at_call 29; have hS_ := ‹Below w1.heap.size w1 _ ∧ _›; refine (Writes (H.out.below (Aid.bthen hB0.out hS_.1))).mono ?_; rintro e w' ⟨rfl, hd⟩; have hS2_ := KS.out _ _ hS_ hd.below)
      | (go_simp; go_at_call 51; have hS_ := ‹Below w1.heap.size w1 _ ∧ _›; refine (Down (H.out.below (Aid.bthen hB0.out hS_.1))).mono ?_; rw [HD.out]; rintro e w' ⟨rfl, hd⟩; have hS2_ := KS.out _ _ hS_ hd.below)
      | (go_simp; go_at_call 37; have hS_ := ‹Below w1.heap.size w1 _ ∧ _›; refine (Blocks (H.out.below (Aid.bthen hB0.out hS_.1))).mono ?_; rintro e w' ⟨rfl, hd⟩; have hS2_ := KS.out _ _ hS_ hd.below)
      | (go_simp; go_at_call 52; have hS_ := ‹Below w1.heap.size w1 _ ∧ _›; refine (redressref17_Down.calls A c db many rl (rl == 0) _ (Kd.C_below HR.out (Aid.bthen hB0.out hS_.1)) hc rfl).mono ?_; rintro e w' ⟨rfl, hd⟩; have hS2_ := KS.out _ _ hS_ (by first | exact hd.below | exact hd)))
  have hS_ := ‹Below w1.heap.size w1 _ ∧ _›
  have HF := Aside0.mk (Aid.bthen hB0.out hS_.1)
  clear hS_ KS
  go_wp2_with fail
  go_ret
  exact ⟨rfl, HF.out⟩
end Disk
end Go.Proofs.Ytbjjpckldjjcgaa
/- The disk: the reference's small contracts; the disk as a value. -/
namespace Go.Proofs.Ytbjjpckldjjcgaa
open Go.RowKit Go.Proofs.YtbjjpckldjjcgaaW.PrintWords Go.Proofs.YtbjjpckldjjcgaaW.PrintLast Go.Proofs.YtbjjpckldjjcgaaW.PrintMore Go.Proofs.Ytbjjpckldjjcgaa.PK
set_option linter.unusedVariables false
set_option linter.unusedSimpArgs false
set_option maxHeartbeats 4000000
set_option maxRecDepth 100000
namespace Disk

theorem mk22 (n : Nat) (h2 : n ≤ 1000000) (w : World) : (Instr.makeSlice 32 (.int .i64 (n : Int)) (.int .i64 (n : Int))).run Try.prog w = .ok (.slice (some ⟨w.heap.size, 0, none⟩) n n) (w.alloc (.cells (((List.replicate n (0 : Int)).map (Value.int .u8)).toArray) 5)) := by
  obtain ⟨i, hi, hz⟩ := Option.map_eq_some_iff.1 info5
  simp only [Prod.mk.injEq] at hz
  obtain ⟨hz, hs, hb⟩ := hz
  have := run_make (P := Try.prog) w 32 5 i _ Try.underlying32 hi hz .i64 .i64 (n : Int) (n : Int) (by omega) (Int.le_refl _) (by rw [hb]; omega) (by omega)
  rw [this, hs]
  simp only [Int.toNat_natCast]
  congr 3
  apply Array.ext_getElem?
  intro j
  by_cases hj : j < n
  · have hm : j % 1 < 1 := Nat.mod_lt _ (by decide)
    simp [madeCells, Value.cells, hj, Nat.mod_one]
  · rw [Array.getElem?_eq_none (by rw [size_madeCells]; omega), Array.getElem?_eq_none (by simp; omega)]
theorem RefNew (A : Option Addr) (n c : Nat) (l : List Int) (w : World) (hn : l.length = n) (hr : Kd.C (Kd.int .u8) w A l.length l) (hc : n ≤ c) (hm : l.length ≤ 100000) :
    Calls Try.prog 21 #[.slice A n c] w fun e w' => ∃ v0 : Value, e = .returned (.agg #[v0, .int .i64 0, .int .i64 (-1)]) ∧ Kd.R (Kd.int .u8) 5 w' w.heap.size (fun _ => True) v0 l ∧ Below w.heap.size w w' := by
  subst hn
  exact redressref17_New.calls A c l l 0 (-1) w hr hc (by unfold redressref17_New.f; rw [if_pos (by simp; omega)]; simp)
theorem LawSameN {w : World} {g b n : Nat} {db : List Int} {many left : Int} {cut : Bool} (h : At w g b n db many cut left) (A : Option Addr) (m c : Nat) (rl : Int) (hm : db.length = m) (hr : Kd.C (Kd.int .u8) w A m db) (hc : m ≤ c) (hd : (cut && decide (left ≤ 0)) = (rl == 0)) :
    Calls Try.prog 36 #[.pointer (some ⟨g, 0, none⟩), .agg #[.slice A m c, .int .i64 many, .int .i64 rl]] w fun e w' => e = .returned (.bool true) ∧ Below w.heap.size w w' := by
  subst hm
  exact LawSame h A c rl hr hc hd
def right (l : List Int) : Prop := 16 ≤ l.length ∧ l.length ≤ 16384 ∧ l.length % 16 = 0
instance (l : List Int) : Decidable (right l) := by unfold right; infer_instance
theorem Right (l : List Int) (w : World) : Calls Try.prog 19 #[.int .i64 (l.length : Int)] w fun e w' => e = .returned (.bool (decide (right l))) ∧ Drawn0 w w' := by
  refine redressref17_Right.calls (l.length : Int) _ w ?_
  unfold redressref17_Right.f
  have e : Int.tmod (l.length : Int) 16 = ((l.length % 16 : Nat) : Int) := by rw [Int.tmod_eq_emod_of_nonneg (by omega)]; omega
  rw [e]
  by_cases h1 : 16 ≤ l.length
  · rw [if_pos (by omega)]
    by_cases h2 : l.length ≤ 16384
    · rw [if_pos (by omega)]
      by_cases h3 : l.length % 16 = 0
      · rw [decide_eq_true (show right l from ⟨h1, h2, h3⟩), h3]; rfl
      · rw [decide_eq_false (show ¬ right l from fun h => h3 h.2.2)]
        congr 1
        have : ((l.length % 16 : Nat) : Int) ≠ 0 := by omega
        simpa using this
    · rw [if_neg (by omega), decide_eq_false (show ¬ right l from fun h => h2 h.2.1)]
  · rw [if_neg (by omega), decide_eq_false (show ¬ right l from fun h => h1 h.1)]

theorem RightT (l : List Int) (h : right l) (w : World) : Calls Try.prog 19 #[.int .i64 (l.length : Int)] w fun e w' => e = .returned (.bool true) ∧ Drawn0 w w' := by
  have := Right l w
  rwa [decide_eq_true h] at this
theorem RightF (l : List Int) (h : ¬ right l) (w : World) : Calls Try.prog 19 #[.int .i64 (l.length : Int)] w fun e w' => e = .returned (.bool false) ∧ Drawn0 w w' := by
  have := Right l w
  rwa [decide_eq_false h] at this
theorem blk_byte {W : World} {x t : Nat} {ys : List Int} (h : W.heap[x]? = some (.cells (ys.map (Value.int .u8)).toArray t (0, 0))) (j : Nat) (hj : j < ys.length) : W.cell? ⟨x, j, none⟩ = some (.int .u8 (rd ys (j : Int))) := by
  rw [cell_of_row _ _ _ _ _ _ h, rd_at ys j hj]
  simp [hj]
theorem blk_put {W : World} {x t : Nat} {ys : List Int} (h : W.heap[x]? = some (.cells (ys.map (Value.int .u8)).toArray t (0, 0))) (j : Nat) (v : Int) : (W.setCell ⟨x, j, none⟩ (.int .u8 v)).heap[x]? = some (.cells ((ys.set j v).map (Value.int .u8)).toArray t (0, 0)) := by
  rw [heap_setCell_same W x j _ t _ h]
  congr 2
  apply Array.ext'
  simp [List.map_set]

theorem part_put {db l : List Int} {n k : Nat} (hl : db.length = 16 * n) (hk : k < n) (h : l.length ≤ 16) : part (put db k l) k = sixteen l := by
  unfold part put
  have ht : (db.take (k * 16)).length = k * 16 := by rw [List.length_take]; omega
  rw [List.append_assoc, List.drop_append, ht, Nat.sub_self, List.drop_zero, List.drop_eq_nil_of_le (by omega), List.nil_append, List.take_append, sixteen_len h, Nat.sub_self, List.take_zero, List.append_nil, List.take_of_length_le (by rw [sixteen_len h]; exact Nat.le_refl _)]
structure St where
  db : List Int
  many : Int
  cut : Bool
  left : Int
def St.down (s : St) : Bool := s.cut && decide (s.left ≤ 0)
def St.write (n : Nat) (s : St) (k : Int) (l : List Int) : Int × St :=
  if ¬ (0 ≤ k ∧ k < (n : Int)) ∨ 16 < l.length then (1, s)
  else if s.down = true then (170, s)
  else (0, { s with db := put s.db k.toNat l, many := s.many + 1, left := s.left - 1 })
def St.cutAt (s : St) (k : Int) : St := { s with cut := true, left := max 0 k }
def St.up (s : St) : St := { s with cut := false }
def AtS (W : World) (g b n : Nat) (s : St) : Prop := At W g b n s.db s.many s.cut s.left
/-- The counters are far from their ends. -/
def St.ok (s : St) (d : Nat) : Prop := -(d : Int) ≤ s.many ∧ s.many ≤ d ∧ -(d : Int) ≤ s.left ∧ s.left ≤ 9223372036854775807
theorem St.ok_le {s : St} {d d' : Nat} (h : s.ok d) (hd : d ≤ d') : s.ok d' := by unfold St.ok at *; exact ⟨by omega, by omega, by omega, by omega⟩
theorem St.ok_write {n : Nat} {s : St} {d : Nat} (h : s.ok d) (k : Int) (l : List Int) : (s.write n k l).2.ok (d + 1) := by
  unfold St.write
  split
  · exact St.ok_le h (by omega)
  · split
    · exact St.ok_le h (by omega)
    · obtain ⟨h1, h2, h3, h4⟩ := h
      refine ⟨?_, ?_, ?_, ?_⟩
      · show -((d + 1 : Nat) : Int) ≤ s.many + 1; omega
      · show s.many + 1 ≤ ((d + 1 : Nat) : Int); omega
      · show -((d + 1 : Nat) : Int) ≤ s.left - 1; omega
      · show s.left - 1 ≤ 9223372036854775807; omega
theorem St.ok_cut {s : St} {d : Nat} (h : s.ok d) (k : Int) (hk : k ≤ 9223372036854775807) : (s.cutAt k).ok d := by
  obtain ⟨h1, h2, h3, h4⟩ := h
  refine ⟨h1, h2, ?_, ?_⟩
  · show -(d : Int) ≤ max 0 k; omega
  · show max 0 k ≤ 9223372036854775807; omega
theorem St.ok_up {s : St} {d : Nat} (h : s.ok d) : s.up.ok d := h

theorem WriteAny {w : World} {g b n : Nat} {s : St} (h : AtS w g b n s) (k : Int) (A : Option Addr) (c : Nat) (l : List Int) (hr : Kd.C (Kd.int .u8) w A l.length l) (hc : l.length ≤ c) (hd : s.ok 1000000) :
    Calls Try.prog 40 #[.pointer (some ⟨g, 0, none⟩), .int .i64 k, .slice A l.length c] w fun e w' => e = .returned (.int .i64 (s.write n k l).1) ∧ AtS w' g b n (s.write n k l).2 ∧ Only g b w w' := by
  by_cases h1 : ¬ (0 ≤ k ∧ k < (n : Int)) ∨ 16 < l.length
  · have e : s.write n k l = (1, s) := by unfold St.write; rw [if_pos h1]
    rw [e]
    refine (Write.arg h k A c l h1).mono ?_
    rintro e w' ⟨rfl, ⟨m, rfl⟩⟩
    exact ⟨rfl, At.drewN h m, (Only.refl g b w).drewN m⟩
  · by_cases h2 : s.down = true
    · have e : s.write n k l = (170, s) := by unfold St.write; rw [if_neg h1, if_pos h2]
      rw [e]
      have h3 : 0 ≤ k ∧ k < (n : Int) := Classical.byContradiction (fun hh => h1 (.inl hh))
      have h4 : l.length ≤ 16 := by
        rcases Nat.lt_or_ge 16 l.length with hh | hh
        · exact absurd (.inr hh) h1
        · exact hh
      refine (Write.down h k A c l h3 h4 (by unfold St.down at h2; simpa using h2)).mono ?_
      rintro e w' ⟨rfl, ⟨m, rfl⟩⟩
      exact ⟨rfl, At.drewN h m, (Only.refl g b w).drewN m⟩
    · have h3 : 0 ≤ k ∧ k < (n : Int) := Classical.byContradiction (fun hh => h1 (.inl hh))
      have h4 : l.length ≤ 16 := by
        rcases Nat.lt_or_ge 16 l.length with hh | hh
        · exact absurd (.inr hh) h1
        · exact hh
      have e : s.write n k l = (0, { s with db := put s.db k.toNat l, many := s.many + 1, left := s.left - 1 }) := by unfold St.write; rw [if_neg h1, if_neg h2]
      rw [e]
      obtain ⟨q, rfl⟩ : ∃ q : Nat, k = (q : Int) := ⟨k.toNat, by omega⟩
      unfold St.ok at hd
      exact Write.ok h q A c l hr hc (by omega) h4 (by unfold St.down at h2; simpa using h2) ⟨by omega, by omega⟩ ⟨by omega, by omega⟩

/-- The document's disk that a disk is. -/
def rleft (s : St) : Int := if s.cut then s.left else -1
theorem put_get {db l : List Int} {n q : Nat} (hdb : db.length = 16 * n) (hq : q < n) (hl : l.length ≤ 16) (i : Nat) : (put db q l)[i]? = if q * 16 ≤ i ∧ i < q * 16 + 16 then (sixteen l)[i - q * 16]? else db[i]? := by
  have ht : (db.take (q * 16)).length = q * 16 := by rw [List.length_take]; omega
  have hs := sixteen_len hl
  unfold put
  by_cases h1 : i < q * 16
  · rw [List.append_assoc, List.getElem?_append_left (by omega), List.getElem?_take, if_pos h1, if_neg (by omega)]
  · by_cases h2 : i < q * 16 + 16
    · rw [if_pos ⟨by omega, h2⟩, List.append_assoc, List.getElem?_append_right (by omega), ht, List.getElem?_append_left (by omega)]
    · rw [if_neg (by omega), List.getElem?_append_right (by rw [List.length_append, ht, hs]; omega), List.length_append, ht, hs, List.getElem?_drop]
      congr 1; omega
theorem sixteen_get (l : List Int) (j : Nat) (hj : j < 16) (hl : l.length ≤ 16) : (sixteen l)[j]? = some (if j < l.length then rd l (j : Int) else 0) := by
  unfold sixteen
  by_cases h : j < l.length
  · rw [if_pos h, List.getElem?_append_left h, rd_at l j h, List.getElem?_eq_getElem h]
  · rw [if_neg h, List.getElem?_append_right (by omega), List.getElem?_replicate, if_pos (by omega)]
/-- The reference's loop: sixteen bytes, one by one. -/
theorem ref_loop (n : Nat) (q : Nat) (l : List Int) (hq : q < n) (hn : n ≤ 1024) (hl : l.length ≤ 16) (db : List Int) (hdb : db.length = 16 * n) (many rl : Int) : ∀ d j K (out : List Int), j + d = 16 → d + 2 < K → out.length = 16 * n →
    (∀ i : Nat, out[i]? = if q * 16 ≤ i ∧ i < q * 16 + j then (sixteen l)[i - q * 16]? else db[i]?) →
    redressref17_Write.l0 K (q : Int) l (j : Int) out many rl = some (put db q l, many, (if rl > 0 then wrap64 (rl - 1) else rl), 0) := by
  intro d
  induction d with
  | zero =>
    intro j K out hj hK hout hi
    obtain ⟨K, rfl⟩ : ∃ m, K = m + 1 := ⟨K - 1, by omega⟩
    have e : out = put db q l := by
      apply List.ext_getElem?
      intro i
      rw [hi i, put_get hdb hq hl i, show j = 16 by omega]
    simp only [redressref17_Write.l0]
    rw [if_neg (by omega), ← e]
    by_cases h : rl > 0
    · rw [if_pos h, if_pos h]
    · rw [if_neg h, if_neg h]
  | succ d ih =>
    intro j K out hj hK hout hi
    obtain ⟨K, rfl⟩ : ∃ m, K = m + 1 := ⟨K - 1, by omega⟩
    have ei : wrap64 ((wrap64 (16 * (q : Int))) + (j : Int)) = ((q * 16 + j : Nat) : Int) := by unfold wrap64; omega
    have ej : wrap64 ((j : Int) + 1) = ((j + 1 : Nat) : Int) := by unfold wrap64; omega
    have step : ∀ v, (sixteen l)[j]? = some v → ∀ i : Nat, ((out.set (q * 16 + j) v))[i]? = if q * 16 ≤ i ∧ i < q * 16 + (j + 1) then (sixteen l)[i - q * 16]? else db[i]? := by
      intro v hv i
      rw [List.getElem?_set]
      by_cases he : q * 16 + j = i
      · rw [if_pos he, if_pos (by omega), if_pos ⟨by omega, by omega⟩, show i - q * 16 = j by omega, hv]
      · rw [if_neg he, hi i]
        by_cases h2 : q * 16 ≤ i ∧ i < q * 16 + j
        · rw [if_pos h2, if_pos ⟨h2.1, by omega⟩]
        · rw [if_neg h2, if_neg (by omega)]
    have hv := sixteen_get l j (by omega) hl
    simp only [redressref17_Write.l0]
    rw [if_pos (by omega), ei, if_pos (by omega), if_pos (by omega), Option.bind_some, Int.toNat_natCast, ej]
    by_cases hjl : j < l.length
    · rw [if_pos hjl] at hv
      rw [if_pos (by omega), if_pos (by omega), List.set_set]
      exact ih (j + 1) K _ (by omega) (by omega) (by rw [List.length_set]; exact hout) (step _ hv)
    · rw [if_neg hjl] at hv
      rw [if_neg (by omega)]
      exact ih (j + 1) K _ (by omega) (by omega) (by rw [List.length_set]; exact hout) (step _ hv)
theorem refWrite (n : Nat) (s : St) (k : Int) (l : List Int) (K : Nat) (hK : 20 < K) (hn : n ≤ 1024) (hdb : s.db.length = 16 * n) (hc : s.cut = true → 0 ≤ s.left) (hd : s.ok 1000000) :
    redressref17_Write.f K s.db s.many (rleft s) k l = some ((s.write n k l).2.db, (s.write n k l).2.many, rleft (s.write n k l).2, (s.write n k l).1) := by
  have eq16 : wrap64 ((s.db.length : Int) / 16) = (n : Int) := by unfold wrap64; omega
  obtain ⟨K, rfl⟩ : ∃ m, K = m + 1 := ⟨K - 1, by omega⟩
  have hdn : s.down = true ↔ rleft s = 0 := by
    unfold St.down rleft
    cases hcut : s.cut
    · simp
    · have := hc hcut
      simp; omega
  unfold redressref17_Write.f
  rw [eq16]
  by_cases h1 : ¬ (0 ≤ k ∧ k < (n : Int)) ∨ 16 < l.length
  · have e : s.write n k l = (1, s) := by unfold St.write; rw [if_pos h1]
    rw [e]
    by_cases k0 : k < 0
    · rw [if_pos k0]; simp only [redressref17_Write.j0]; rfl
    · rw [if_neg k0]
      by_cases k1 : k ≥ (n : Int)
      · rw [if_pos k1]; simp only [redressref17_Write.j0]; rfl
      · rw [if_neg k1]
        have h16 : 16 < l.length := h1.elim (fun h => absurd (show 0 ≤ k ∧ k < (n : Int) from ⟨by omega, by omega⟩) h) id
        rw [decide_eq_true (show (l.length : Int) > 16 by omega)]; simp only [redressref17_Write.j0]; rfl
  · have h3 : 0 ≤ k ∧ k < (n : Int) := Classical.byContradiction (fun hh => h1 (.inl hh))
    have h4 : l.length ≤ 16 := by
      rcases Nat.lt_or_ge 16 l.length with hh | hh
      · exact absurd (.inr hh) h1
      · exact hh
    obtain ⟨q, rfl⟩ : ∃ q : Nat, k = (q : Int) := ⟨k.toNat, by omega⟩
    rw [if_neg (by omega), if_neg (by omega), decide_eq_false (show ¬ (l.length : Int) > 16 by omega)]
    simp only [redressref17_Write.j0]
    rw [if_neg (by decide)]
    by_cases h2 : s.down = true
    · have e : s.write n (q : Int) l = (170, s) := by unfold St.write; rw [if_neg h1, if_pos h2]
      rw [e, if_pos (hdn.1 h2)]
    · have e : s.write n (q : Int) l = (0, { s with db := put s.db q l, many := s.many + 1, left := s.left - 1 }) := by unfold St.write; rw [if_neg h1, if_neg h2, Int.toNat_natCast]
      rw [e, if_neg (fun h => h2 (hdn.2 h)), if_pos (by simp; omega)]
      have em : wrap64 (s.many + 1) = s.many + 1 := by unfold St.ok at hd; unfold wrap64; omega
      have := ref_loop n q l (by omega) hn h4 s.db hdb (s.many + 1) (rleft s) 16 0 K s.db (by omega) (by omega) hdb (fun i => by rw [if_neg (by omega)])
      rw [em, List.nil_append]
      refine this.trans ?_
      congr 3
      unfold rleft St.ok at *
      show (_, _) = (_, _)
      cases hcut : s.cut
      · rw [if_neg (by simp), if_neg (by simp), if_neg (by simp)]
      · have := hc hcut
        have h5 : s.left ≠ 0 := fun h => h2 (hdn.2 (by rw [hcut]; simpa using h))
        rw [if_pos (by simp; omega), if_pos rfl, if_pos rfl]
        congr 1
        show wrap64 (s.left - 1) = s.left - 1
        unfold wrap64; omega
theorem AtS.only {w w' : World} {g b g2 b2 n : Nat} {s : St} (h : AtS w g b n s) (ho : Only g2 b2 w w') (hne : g ≠ g2 ∧ g ≠ b2 ∧ b ≠ g2 ∧ b ≠ b2) : AtS w' g b n s :=
  At.move h (ho.keep _ (At.lt h).1 hne.1 hne.2.1) (ho.keep _ (At.lt h).2 hne.2.2.1 hne.2.2.2)
theorem AtS.below {w w' : World} {g b n : Nat} {s : St} (h : AtS w g b n s) (hb : Below w.heap.size w w') : AtS w' g b n s := At.below h hb

theorem st0_ok (l : List Int) (c : Bool) (x : Int) (d : Nat) (h0 : 0 ≤ x) (h1 : x ≤ 9223372036854775807) : (⟨l, 0, c, x⟩ : St).ok d :=
  ⟨by show -(d : Int) ≤ 0; omega, by show (0 : Int) ≤ d; omega, by show -(d : Int) ≤ x; omega, h1⟩
theorem again_a {n : Nat} {s t : St} (k : Int) (l : List Int) (h1 : s.db = t.db) (h2 : s.many = t.many) (h3 : t.cut = false) (he : (s.write n k l).1 ≠ 170) : (s.write n k l).2.db = (t.write n k l).2.db ∧ (s.write n k l).2.many = (t.write n k l).2.many ∧ (t.write n k l).2.cut = false := by
  have htd : t.down = false := by unfold St.down; rw [h3]; rfl
  unfold St.write at *
  by_cases hx : ¬ (0 ≤ k ∧ k < (n : Int)) ∨ 16 < l.length
  · rw [if_pos hx, if_pos hx]; exact ⟨h1, h2, h3⟩
  · rw [if_neg hx] at he ⊢
    rw [if_neg hx, if_neg (show ¬ t.down = true by rw [htd]; decide)]
    by_cases hd : s.down = true
    · rw [if_pos hd] at he; exact absurd rfl he
    · rw [if_neg hd]; exact ⟨by show put s.db _ _ = put t.db _ _; rw [h1], by show s.many + 1 = t.many + 1; rw [h2], h3⟩
theorem again_b {n : Nat} {s t : St} (k : Int) (l : List Int) (h1 : s.db = t.db) (h2 : s.many = t.many) (h3 : t.cut = false) (he : (s.write n k l).1 = 170) : (s.write n k l).2 = s ∧ (s.up.write n k l).2.db = (t.write n k l).2.db ∧ (s.up.write n k l).2.many = (t.write n k l).2.many ∧ (t.write n k l).2.cut = false := by
  have hs : (s.write n k l).2 = s := by
    unfold St.write at *
    split at he
    · cases he
    · split at he
      · rename_i hx hd; rw [if_neg hx, if_pos hd]
      · cases he
  have hu : s.up.down = false := by unfold St.down St.up; rfl
  have hne : (s.up.write n k l).1 ≠ 170 := by
    unfold St.write
    split
    · show (1 : Int) ≠ 170; decide
    · rw [if_neg (by rw [hu]; decide)]; show (0 : Int) ≠ 170; decide
  obtain ⟨a, b, c⟩ := again_a (s := s.up) (t := t) k l h1 h2 h3 hne
  exact ⟨hs, a, b, c⟩
/-- What a read tells. -/
def blk (n : Nat) (db : List Int) (k : Int) : List Int := if 0 ≤ k ∧ k < (n : Int) then part db k.toNat else []
theorem blk_le (n : Nat) (db : List Int) (k : Int) : (blk n db k).length ≤ 16 := by
  unfold blk part; split <;> simp; omega
def RowOf (w : World) (l : List Int) (e : Ending) (w' : World) : Prop := ∃ A c, e = .returned (.slice A l.length c) ∧ l.length ≤ c ∧ Kd.C (Kd.int .u8) w' A l.length l ∧ Below w.heap.size w w'
theorem ReadAny {w : World} {g b n : Nat} {s : St} (h : AtS w g b n s) (k : Int) :
    Calls Try.prog 45 #[.pointer (some ⟨g, 0, none⟩), .int .i64 k] w (RowOf w (blk n s.db k)) := by
  by_cases hk : 0 ≤ k ∧ k < (n : Int)
  · obtain ⟨q, rfl⟩ : ∃ q : Nat, k = (q : Int) := ⟨k.toNat, by omega⟩
    have e : blk n s.db (q : Int) = part s.db q := by unfold blk; rw [if_pos hk]; simp
    have hl := part_len (At.len h) (show q < n by omega)
    refine (Read.yes h q (by omega)).mono ?_
    rintro e2 w' ⟨x, rfl, hx1, hx2, hB⟩
    refine ⟨some ⟨x, 0, none⟩, 16, by rw [e, hl], by rw [e, hl]; decide, ?_, hB⟩
    rw [e]
    exact Aid.C_block (0 : Int) w' x (part s.db q) _ 79 (0, 0) hx2 (by rw [List.take_of_length_le (by simp)]) (by rw [hl]; decide)
  · have e : blk n s.db k = [] := by unfold blk; rw [if_neg hk]
    refine (Read.no h k hk).mono ?_
    rintro e2 w' ⟨rfl, hd⟩
    exact ⟨none, 0, by rw [e]; rfl, by rw [e]; decide, by rw [e]; exact Kd.C_nil _ _, hd.below⟩
theorem wr_arg {n : Nat} {s : St} {k : Int} {l : List Int} (h : ¬ (0 ≤ k ∧ k < (n : Int)) ∨ 16 < l.length) : s.write n k l = (1, s) := by unfold St.write; rw [if_pos h]
theorem wr_down {n : Nat} {s : St} {k : Int} {l : List Int} (h : ¬ (¬ (0 ≤ k ∧ k < (n : Int)) ∨ 16 < l.length)) (hd : s.down = true) : s.write n k l = (170, s) := by unfold St.write; rw [if_neg h, if_pos hd]
theorem wr_ok {n : Nat} {s : St} {k : Int} {l : List Int} (h : ¬ (¬ (0 ≤ k ∧ k < (n : Int)) ∨ 16 < l.length)) (hd : s.down = false) : s.write n k l = (0, { s with db := put s.db k.toNat l, many := s.many + 1, left := s.left - 1 }) := by unfold St.write; rw [if_neg h, if_neg (by rw [hd]; decide)]
end Disk
end Go.Proofs.Ytbjjpckldjjcgaa
/- The disk of the program and that of the document, side by side. -/
namespace Go.Proofs.Ytbjjpckldjjcgaa
open Go.RowKit Go.Proofs.YtbjjpckldjjcgaaW.PrintWords Go.Proofs.YtbjjpckldjjcgaaW.PrintLast Go.Proofs.YtbjjpckldjjcgaaW.PrintMore Go.Proofs.Ytbjjpckldjjcgaa.PK
set_option linter.unusedVariables false
set_option linter.unusedSimpArgs false
set_option maxHeartbeats 4000000
set_option maxRecDepth 100000
namespace Disk

/-- The document's disk in block q. -/
def Ref (W : World) (q : Nat) (A : Option Addr) (c : Nat) (s : St) : Prop := W.heap[q]? = some (.cells #[.slice A s.db.length c, .int .i64 s.many, .int .i64 (rleft s)] 44 (0, 0))
def St.right (s : St) : Prop := s.cut = true → 0 ≤ s.left
theorem right_write {n : Nat} {s : St} (h : s.right) (k : Int) (l : List Int) : (s.write n k l).2.right := by
  unfold St.write St.right at *
  split
  · exact h
  · split
    · exact h
    · rename_i h1 h2
      intro hc
      have h3 := h hc
      have h4 : s.left ≠ 0 := fun e => h2 (by unfold St.down; rw [show s.cut = true from hc, e]; rfl)
      show 0 ≤ s.left - 1
      omega
theorem right_cut (s : St) (k : Int) : (s.cutAt k).right := fun _ => by show 0 ≤ max 0 k; omega
theorem right_up (s : St) : s.up.right := fun h => by cases h
theorem right_down {s : St} (h : s.right) : (s.cut && decide (s.left ≤ 0)) = (rleft s == 0) := by
  unfold rleft
  cases hc : s.cut
  · rfl
  · have h3 : 0 ≤ s.left := h hc
    by_cases e : s.left = 0
    · simp [e]
    · have h4 : ¬ s.left ≤ 0 := by omega
      simp [e, h4]
theorem write_len {n : Nat} {s : St} (hn : s.db.length = 16 * n) (k : Int) (l : List Int) : (s.write n k l).2.db.length = 16 * n := by
  unfold St.write
  by_cases h1 : ¬ (0 ≤ k ∧ k < (n : Int)) ∨ 16 < l.length
  · rw [if_pos h1]; exact hn
  · rw [if_neg h1]
    split
    · exact hn
    · have h3 : 0 ≤ k ∧ k < (n : Int) := Classical.byContradiction (fun hh => h1 (.inl hh))
      exact put_len hn (by omega) (by rcases Nat.lt_or_ge 16 l.length with hh | hh; exact absurd (.inr hh) h1; exact hh)
theorem LawSameT {w : World} {g b n : Nat} {s : St} (h : AtS w g b n s) (A : Option Addr) (c : Nat) (hr : Kd.C (Kd.int .u8) w A s.db.length s.db) (hc : s.db.length ≤ c) (hd : s.right) :
    Calls Try.prog 36 #[.pointer (some ⟨g, 0, none⟩), .agg #[.slice A s.db.length c, .int .i64 s.many, .int .i64 (rleft s)]] w fun e w' => e = .returned (.bool true) ∧ Below w.heap.size w w' :=
  LawSame h A c (rleft s) hr hc (right_down hd)
theorem SameSelf (A0 : Option Addr) (c0 : Nat) (A1 : Option Addr) (c1 : Nat) (l : List Int) (w : World) (hr0 : Kd.C (Kd.int .u8) w A0 l.length l) (hc0 : l.length ≤ c0) (hr1 : Kd.C (Kd.int .u8) w A1 l.length l) (hc1 : l.length ≤ c1) (hm : l.length ≤ 16) :
    Calls Try.prog 18 #[.slice A0 l.length c0, .slice A1 l.length c1] w fun e w' => e = .returned (.bool true) ∧ Below w.heap.size w w' :=
  (SameRows A0 l.length c0 A1 l.length c1 l w rfl rfl hr0 hc0 hr1 hc1 (by omega)).mono fun e w' h => ⟨h.1, h.2.below⟩
/-- What the loop knows of a world. -/
structure Now (w W : World) (g b q n : Nat) (A : Option Addr) (c : Nat) (s : St) : Prop where
  at_ : AtS W g b n s
  ref : Ref W q A c s
  own : Kd.R (Kd.int .u8) 5 W w.heap.size (fun k => k ≠ g ∧ k ≠ b ∧ k ≠ q) (.slice A s.db.length c) s.db
  low : Below w.heap.size w W
  rt : s.right
theorem Only.kept {g b : Nat} {w w' : World} (h : Only g b w w') : Kept w w' (fun k => k = g ∨ k = b) := ⟨h.size, fun i hi hn => h.keep i hi (fun e => hn (.inl e)) (fun e => hn (.inr e))⟩
def Dist (w : World) (g b q : Nat) : Prop := w.heap.size ≤ g ∧ w.heap.size ≤ b ∧ w.heap.size ≤ q ∧ g ≠ q ∧ b ≠ q
theorem Now.below {w W W' : World} {g b q n : Nat} {A : Option Addr} {c : Nat} {s : St} (h : Now w W g b q n A c s) (hb : Below W.heap.size W W') : Now w W' g b q n A c s :=
  ⟨AtS.below h.at_ hb, (hb.block _ (blk_lt h.ref)).trans h.ref, Kd.R_kept h.own (Kept.of_below hb (fun _ => False)) (fun _ _ hf => hf), Aid.bthen h.low hb, h.rt⟩

theorem store3 {W : World} {q : Nat} {x0 x1 x2 : Value} (h : W.heap[q]? = some (.cells #[x0, x1, x2] 44 (0, 0))) (v0 v1 v2 : Value) :
    (((W.setCell ⟨q, 0, none⟩ v0).setCell ⟨q, 1, none⟩ v1).setCell ⟨q, 2, none⟩ v2).heap[q]? = some (.cells #[v0, v1, v2] 44 (0, 0)) :=
  heap_setCell_same _ q 2 _ 44 _ (heap_setCell_same _ q 1 _ 44 _ (heap_setCell_same W q 0 _ 44 _ h))
theorem Half.store {w W7 W8 : World} {g b q n : Nat} {A8 : Option Addr} {c8 : Nat} {s t : St} {x0 x1 x2 : Value} {Px : Nat → Prop} (ha : AtS W8 g b n s) (hq : W8.heap[q]? = some (.cells #[x0, x1, x2] 44 (0, 0)))
    (hr : Kd.R (Kd.int .u8) 5 W8 w.heap.size (fun k => (k ≠ g ∧ k ≠ b ∧ k ≠ q ∧ Px k) ∨ W7.heap.size ≤ k) (.slice A8 t.db.length c8) t.db) (hb : Below w.heap.size w W8) (hd : Dist w g b q) (hl : g < W7.heap.size ∧ b < W7.heap.size ∧ q < W7.heap.size) {W : World}
    (hW : W = (((W8.setCell ⟨q, 0, none⟩ (.slice A8 t.db.length c8)).setCell ⟨q, 1, none⟩ (.int .i64 t.many)).setCell ⟨q, 2, none⟩ (.int .i64 (rleft t)))) :
    AtS W g b n s ∧ Ref W q A8 c8 t ∧ Kd.R (Kd.int .u8) 5 W w.heap.size (fun k => k ≠ g ∧ k ≠ b ∧ k ≠ q) (.slice A8 t.db.length c8) t.db ∧ Below w.heap.size w W := by
  subst hW
  have hk : Kept W8 (((W8.setCell ⟨q, 0, none⟩ (.slice A8 t.db.length c8)).setCell ⟨q, 1, none⟩ (.int .i64 t.many)).setCell ⟨q, 2, none⟩ (.int .i64 (rleft t))) (fun k => k = q) :=
    (((Kept.refl W8 (fun k => k = q)).setCell (p := ⟨q, 0, none⟩) (.inl rfl) _).setCell (p := ⟨q, 1, none⟩) (.inl rfl) _).setCell (p := ⟨q, 2, none⟩) (.inl rfl) _
  obtain ⟨d1, d2, d3, d4, d5⟩ := hd
  refine ⟨At.move (show At W8 g b n s.db s.many s.cut s.left from ha) (hk.2 g (At.lt ha).1 d4) (hk.2 b (At.lt ha).2 d5), store3 hq _ _ _, ?_, ?_⟩
  · exact Kd.R_kept (Kd.R_mono hr (fun k hk => hk.elim (fun h => ⟨h.1, h.2.1, h.2.2.1⟩) (fun h => ⟨by omega, by omega, by omega⟩))) hk (fun k h e => h.2.2 e)
  · exact ((hb.setCell (p := ⟨q, 0, none⟩) d3 _).setCell (p := ⟨q, 1, none⟩) d3 _).setCell (p := ⟨q, 2, none⟩) d3 _
theorem Now.only {w W W' : World} {g b q n : Nat} {A : Option Addr} {c : Nat} {s t : St} (h : AtS W g b n s ∧ Ref W q A c t ∧ Kd.R (Kd.int .u8) 5 W w.heap.size (fun k => k ≠ g ∧ k ≠ b ∧ k ≠ q) (.slice A t.db.length c) t.db ∧ Below w.heap.size w W)
    (ha : AtS W' g b n t) (ho : Only g b W W') (hd : Dist w g b q) (ht : t.right) : Now w W' g b q n A c t :=
  ⟨ha, (ho.keep _ (blk_lt h.2.1) hd.2.2.2.1.symm hd.2.2.2.2.symm).trans h.2.1, Kd.R_kept h.2.2.1 ho.kept (fun k hk hn => hn.elim hk.1 hk.2.1), h.2.2.2.trans (ho.low _ hd.1 hd.2.1 h.2.2.2.size), ht⟩
theorem Now.store {w W7 W8 : World} {g b q n : Nat} {A8 : Option Addr} {c8 : Nat} {t : St} {x0 x1 x2 : Value} {Px : Nat → Prop} (ha : AtS W8 g b n t) (hq : W8.heap[q]? = some (.cells #[x0, x1, x2] 44 (0, 0)))
    (hr : Kd.R (Kd.int .u8) 5 W8 w.heap.size (fun k => (k ≠ g ∧ k ≠ b ∧ k ≠ q ∧ Px k) ∨ W7.heap.size ≤ k) (.slice A8 t.db.length c8) t.db) (hb : Below w.heap.size w W8) (hd : Dist w g b q) (hl : g < W7.heap.size ∧ b < W7.heap.size ∧ q < W7.heap.size) (ht : t.right) :
    Now w (((W8.setCell ⟨q, 0, none⟩ (.slice A8 t.db.length c8)).setCell ⟨q, 1, none⟩ (.int .i64 t.many)).setCell ⟨q, 2, none⟩ (.int .i64 (rleft t))) g b q n A8 c8 t := by
  have hk : Kept W8 (((W8.setCell ⟨q, 0, none⟩ (.slice A8 t.db.length c8)).setCell ⟨q, 1, none⟩ (.int .i64 t.many)).setCell ⟨q, 2, none⟩ (.int .i64 (rleft t))) (fun k => k = q) :=
    (((Kept.refl W8 (fun k => k = q)).setCell (p := ⟨q, 0, none⟩) (.inl rfl) _).setCell (p := ⟨q, 1, none⟩) (.inl rfl) _).setCell (p := ⟨q, 2, none⟩) (.inl rfl) _
  obtain ⟨d1, d2, d3, d4, d5⟩ := hd
  refine ⟨At.move (show At W8 g b n t.db t.many t.cut t.left from ha) (hk.2 g (At.lt ha).1 d4) (hk.2 b (At.lt ha).2 d5), store3 hq _ _ _, ?_, ?_, ht⟩
  · exact Kd.R_kept (Kd.R_mono hr (fun k hk => hk.elim (fun h => ⟨h.1, h.2.1, h.2.2.1⟩) (fun h => ⟨by omega, by omega, by omega⟩))) hk (fun k h e => h.2.2 e)
  · exact ((hb.setCell (p := ⟨q, 0, none⟩) d3 _).setCell (p := ⟨q, 1, none⟩) d3 _).setCell (p := ⟨q, 2, none⟩) d3 _

theorem ref_cut (l : List Int) (a b k : Int) : redressref17_Cut.f l a b k = some (l, a, max 0 k) := by
  unfold redressref17_Cut.f
  by_cases h : k < 0
  · rw [if_pos h, show max 0 k = 0 by omega]
  · rw [if_neg h, show max 0 k = k by omega]
end Disk
end Go.Proofs.Ytbjjpckldjjcgaa
/- The slots in plain words: what is written, and what a slot holds. -/
namespace Go.Proofs.Ytbjjpckldjjcgaa.Disk.Slots
open Go.Proofs.Ytbjjpckldjjcgaa Crc Disk Ref
open Go.Proofs.YtbjjpckldjjcgaaW.PrintWords (rd)

/-- j blocks from block a on. -/
def run (db : List Int) (a j : Nat) : List Int := (db.drop (a * 16)).take (j * 16)
theorem run_len {db : List Int} {n a j : Nat} (hl : db.length = 16 * n) (h : a + j ≤ n) : (run db a j).length = j * 16 := by
  unfold run; rw [List.length_take, List.length_drop]; omega
theorem run_zero (db : List Int) (a : Nat) : run db a 0 = [] := by unfold run; simp
theorem run_succ (db : List Int) (a j : Nat) : run db a (j + 1) = run db a j ++ part db (a + j) := by
  unfold run part
  rw [show (j + 1) * 16 = j * 16 + 16 by omega, List.take_add, List.drop_drop, show a * 16 + j * 16 = (a + j) * 16 by omega]
theorem run_add (db : List Int) (a i j : Nat) : run db a (i + j) = run db a i ++ run db (a + i) j := by
  unfold run
  rw [show (i + j) * 16 = i * 16 + j * 16 by omega, List.take_add, List.drop_drop, show a * 16 + i * 16 = (a + i) * 16 by omega]
theorem run_congr {db db' : List Int} {a j : Nat} (h : ∀ k, a ≤ k → k < a + j → part db k = part db' k) : run db a j = run db' a j := by
  induction j with
  | zero => rw [run_zero, run_zero]
  | succ j ih => rw [run_succ, run_succ, ih (fun k h1 h2 => h k h1 (by omega)), h (a + j) (by omega) (by omega)]
theorem part_put {db l : List Int} {n q k : Nat} (hl : db.length = 16 * n) (hq : q < n) (hk : k < n) (h : l.length ≤ 16) : part (put db q l) k = if k = q then sixteen l else part db k := by
  apply List.ext_getElem?
  intro i
  by_cases hi : i < 16
  · have e1 : (part (put db q l) k)[i]? = (put db q l)[k * 16 + i]? := by unfold part; rw [List.getElem?_take, if_pos hi, List.getElem?_drop]
    rw [e1, put_get hl hq h]
    by_cases e : k = q
    · subst e
      rw [if_pos (by omega), if_pos rfl, show k * 16 + i - k * 16 = i by omega]
    · rw [if_neg (by omega), if_neg e]
      unfold part
      rw [List.getElem?_take, if_pos hi, List.getElem?_drop]
  · rw [List.getElem?_eq_none (by rw [part_len (put_len hl hq h) hk]; omega)]
    by_cases e : k = q
    · rw [if_pos e, List.getElem?_eq_none (by rw [sixteen_len h]; omega)]
    · rw [if_neg e, List.getElem?_eq_none (by rw [part_len hl hk]; omega)]

/-- Writes, one after another, up to the first that is refused. -/
def wrs (n : Nat) : List (Nat × List Int) → St → Int × St
  | [], s => (0, s)
  | p :: r, s => if (s.write n (p.1 : Int) p.2).1 = 0 then wrs n r (s.write n (p.1 : Int) p.2).2 else s.write n (p.1 : Int) p.2
def puts (ps : List (Nat × List Int)) (db : List Int) : List Int := ps.foldl (fun db p => put db p.1 p.2) db
def Fit (n : Nat) (ps : List (Nat × List Int)) : Prop := ∀ p ∈ ps, p.1 < n ∧ p.2.length ≤ 16
theorem write_fit {n : Nat} {s : St} {k : Nat} {l : List Int} (hk : k < n) (hl : l.length ≤ 16) : s.write n (k : Int) l = if s.down = true then (170, s) else (0, { s with db := put s.db k l, many := s.many + 1, left := s.left - 1 }) := by
  unfold St.write
  rw [if_neg (by omega), Int.toNat_natCast]
theorem puts_len {n : Nat} : ∀ (ps : List (Nat × List Int)) (db : List Int), Fit n ps → db.length = 16 * n → (puts ps db).length = 16 * n
  | [], db, _, h => h
  | p :: r, db, hf, h => puts_len r _ (fun q hq => hf q (List.mem_cons_of_mem _ hq)) (put_len h (hf p (by simp)).1 (hf p (by simp)).2)
/-- All are taken where the disk does not go down ahead. -/
theorem wrs_ok {n : Nat} : ∀ (ps : List (Nat × List Int)) (s : St), Fit n ps → (s.cut = true → (ps.length : Int) ≤ s.left) →
    wrs n ps s = (0, ⟨puts ps s.db, s.many + (ps.length : Int), s.cut, s.left - (ps.length : Int)⟩)
  | [], s, _, _ => by
    unfold wrs puts; simp
  | p :: r, s, hf, hc => by
    have hd : s.down = false := by
      unfold St.down
      cases h : s.cut
      · rfl
      · have := hc h
        simp at this ⊢
        omega
    have e := write_fit (s := s) (hf p (by simp)).1 (hf p (by simp)).2
    rw [if_neg (by rw [hd]; decide)] at e
    have ih := wrs_ok r { s with db := put s.db p.1 p.2, many := s.many + 1, left := s.left - 1 } (fun q hq => hf q (List.mem_cons_of_mem _ hq)) (fun h => by have := hc h; simp at this ⊢; omega)
    rw [show wrs n (p :: r) s = wrs n r { s with db := put s.db p.1 p.2, many := s.many + 1, left := s.left - 1 } by rw [wrs, e, if_pos rfl], ih]
    simp only [List.length_cons, puts, List.foldl_cons]
    congr 2 <;> omega
/-- Where it goes down ahead, the first ones are taken. -/
theorem wrs_cut {n : Nat} : ∀ (ps : List (Nat × List Int)) (s : St) (a : Nat), Fit n ps → s.cut = true → s.left = (a : Int) → a < ps.length →
    wrs n ps s = (170, ⟨puts (ps.take a) s.db, s.many + (a : Int), true, 0⟩)
  | [], s, a, _, _, _, h => by simp at h
  | p :: r, s, 0, hf, hc, hl, _ => by
    have hd : s.down = true := by unfold St.down; rw [hc, hl]; rfl
    have e := write_fit (s := s) (hf p (by simp)).1 (hf p (by simp)).2
    rw [if_pos hd] at e
    rw [wrs, e, if_neg (show ¬ ((170 : Int), s).1 = 0 by show ¬ (170 : Int) = 0; decide)]
    cases s
    simp only at hc hl
    subst hc; subst hl
    simp [puts]
  | p :: r, s, a + 1, hf, hc, hl, h => by
    have hd : s.down = false := by unfold St.down; rw [hc, hl]; simp
    have e := write_fit (s := s) (hf p (by simp)).1 (hf p (by simp)).2
    rw [if_neg (by rw [hd]; decide)] at e
    have ih := wrs_cut r { s with db := put s.db p.1 p.2, many := s.many + 1, left := s.left - 1 } a (fun q hq => hf q (List.mem_cons_of_mem _ hq)) hc (by show s.left - 1 = _; rw [hl]; omega) (by simpa using h)
    rw [show wrs n (p :: r) s = wrs n r { s with db := put s.db p.1 p.2, many := s.many + 1, left := s.left - 1 } by rw [wrs, e, if_pos rfl], ih]
    simp only [puts, List.take_succ_cons, List.foldl_cons]
    congr 2
    omega
theorem wrs_append {n : Nat} : ∀ (ps qs : List (Nat × List Int)) (s : St), (wrs n ps s).1 = 0 → wrs n (ps ++ qs) s = wrs n qs (wrs n ps s).2
  | [], qs, s, _ => rfl
  | p :: r, qs, s, h => by
    rw [wrs] at h
    by_cases e : (s.write n (p.1 : Int) p.2).1 = 0
    · rw [if_pos e] at h
      rw [List.cons_append, wrs, if_pos e, wrs, if_pos e]
      exact wrs_append r qs _ h
    · rw [if_neg e] at h; exact absurd h e

/-- The sixteen bytes of a text at place k. -/
def chunk (f : List Int) (k : Nat) : List Int := (f.drop (k * 16)).take 16
theorem chunk_le (f : List Int) (k : Nat) : (chunk f k).length ≤ 16 := by unfold chunk; rw [List.length_take]; omega
/-- How many blocks a text takes. -/
def many (f : List Int) : Nat := (f.length + 15) / 16
def row (a : Nat) (f : List Int) (j : Nat) : List (Nat × List Int) := (List.range j).map (fun k => (a + k, chunk f k))
theorem row_len (a : Nat) (f : List Int) (j : Nat) : (row a f j).length = j := by unfold row; simp
theorem row_succ (a : Nat) (f : List Int) (j : Nat) : row a f (j + 1) = row a f j ++ [(a + j, chunk f j)] := by unfold row; rw [List.range_succ, List.map_append]; rfl
theorem row_take (a : Nat) (f : List Int) (i j : Nat) (h : i ≤ j) : (row a f j).take i = row a f i := by
  unfold row
  rw [← List.map_take, List.take_range, Nat.min_eq_left h]
theorem row_fit {n a j : Nat} (f : List Int) (h : a + j ≤ n) : Fit n (row a f j) := by
  intro p hp
  unfold row at hp
  obtain ⟨k, hk, rfl⟩ := List.mem_map.1 hp
  have := List.mem_range.1 hk
  exact ⟨by show a + k < n; omega, chunk_le _ _⟩
/-- What stands behind the first j blocks of a text were written from block a on. -/
theorem row_part {n a : Nat} (f : List Int) {db : List Int} (hl : db.length = 16 * n) : ∀ j, a + j ≤ n → ∀ k, k < n → part (puts (row a f j) db) k = if a ≤ k ∧ k < a + j then sixteen (chunk f (k - a)) else part db k
  | 0, _, k, _ => by rw [if_neg (by omega)]; rfl
  | j + 1, h, k, hk => by
    rw [row_succ]
    unfold puts
    rw [List.foldl_append]
    show part (put (puts (row a f j) db) (a + j) (chunk f j)) k = _
    rw [part_put (puts_len _ _ (row_fit f (by omega)) hl) (by omega) hk (chunk_le _ _), row_part f hl j (by omega) k hk]
    by_cases e : k = a + j
    · subst e
      rw [if_pos rfl, if_pos (by omega), show a + j - a = j by omega]
    · rw [if_neg e]
      by_cases e2 : a ≤ k ∧ k < a + j
      · rw [if_pos e2, if_pos (by omega)]
      · rw [if_neg e2, if_neg (by omega)]
/-- A text with noughts behind, up to whole blocks. -/
def full (f : List Int) : List Int := f ++ List.replicate (16 * many f - f.length) 0
theorem full_len (f : List Int) : (full f).length = 16 * many f := by unfold full many; simp; omega
theorem sixteen_chunk (f : List Int) (k : Nat) (h : k < many f) : sixteen (chunk f k) = chunk (full f) k := by
  have hm : 16 * many f ≤ f.length + 15 := by unfold many; omega
  apply List.ext_getElem?
  intro i
  by_cases hi : i < 16
  · rw [sixteen_get _ i hi (chunk_le _ _)]
    have e1 : (chunk (full f) k)[i]? = (full f)[k * 16 + i]? := by unfold chunk; rw [List.getElem?_take, if_pos hi, List.getElem?_drop]
    have hcl : (chunk f k).length = min 16 (f.length - k * 16) := by unfold chunk; rw [List.length_take, List.length_drop]
    rw [e1]
    unfold full
    by_cases hf : k * 16 + i < f.length
    · rw [List.getElem?_append_left hf, if_pos (by rw [hcl]; omega), List.getElem?_eq_getElem hf]
      have : rd (chunk f k) (i : Int) = f[k * 16 + i] := by
        unfold rd chunk
        rw [Int.toNat_natCast, List.getD_eq_getElem?_getD, List.getElem?_take, if_pos hi, List.getElem?_drop, List.getElem?_eq_getElem hf]
        rfl
      rw [this]
    · rw [List.getElem?_append_right (by omega), if_neg (by rw [hcl]; omega), List.getElem?_replicate, if_pos (by omega)]
  · rw [List.getElem?_eq_none (by rw [sixteen_len (chunk_le _ _)]; omega), List.getElem?_eq_none (by have := chunk_le (full f) k; omega)]
theorem chunk_run (f : List Int) (k : Nat) : chunk f k = part f k := rfl
/-- The blocks from a on, behind the whole text was written there. -/
theorem row_run {n a : Nat} (f : List Int) {db : List Int} (hl : db.length = 16 * n) (j : Nat) (hj : j ≤ many f) (h : a + j ≤ n) : run (puts (row a f j) db) a j = (full f).take (j * 16) := by
  have key : ∀ i, i ≤ j → run (puts (row a f j) db) a i = (full f).take (i * 16) := by
    intro i
    induction i with
    | zero => intro _; rw [run_zero]; simp
    | succ i ih =>
      intro hi
      rw [run_succ, ih (by omega), row_part f hl j h (a + i) (by omega), if_pos (by omega), show a + i - a = i by omega, sixteen_chunk f i (by omega)]
      unfold chunk
      rw [show (i + 1) * 16 = i * 16 + 16 by omega, List.take_add]
  exact key j (Nat.le_refl _)

/-! ## slots -/
def half (n : Nat) : Nat := n / 2
def room (n : Nat) : Nat := min 2048 ((n / 2 - 2) * 16)
/-- Where the slot of a number begins. -/
def from_ (n num : Nat) : Nat := num % 2 * (n / 2)
def plan (n num : Nat) (data : List Int) : List (Nat × List Int) := row (from_ n num) (framel num data) (many (framel num data)) ++ [(from_ n num + n / 2 - 1, putl num 8)]
def save (n : Nat) (s : St) (num : Nat) (data : List Int) : Int × St :=
  if num = 0 then (1, s) else if room n < data.length then (181, s) else wrs n (plan n num data) s
def slotOf (n : Nat) (db : List Int) (k : Int) : Int × List Int × Bool :=
  if 0 ≤ k ∧ k < 2 then
    if (openl (run db (k.toNat * (n / 2)) (n / 2 - 1))).2.2 = true ∧ (openl (run db (k.toNat * (n / 2)) (n / 2 - 1))).1 ≠ 0 ∧ ((getn 8 ((part db (k.toNat * (n / 2) + n / 2 - 1)).take 8) : Nat) : Int) = (openl (run db (k.toNat * (n / 2)) (n / 2 - 1))).1
    then openl (run db (k.toNat * (n / 2)) (n / 2 - 1)) else (0, [], false)
  else (0, [], false)
theorem many_frame (num : Nat) (data : List Int) : many (framel num data) = 1 + (data.length + 15) / 16 := by unfold many; rw [framel_length]; omega
theorem plan_len (n num : Nat) (data : List Int) : (plan n num data).length = 2 + (data.length + 15) / 16 := by
  unfold plan; rw [List.length_append, row_len, many_frame]; simp; omega
theorem room_many {n : Nat} {data : List Int} (num : Nat) (h3 : 3 ≤ n / 2) (hr : data.length ≤ room n) : many (framel num data) ≤ n / 2 - 1 := by
  rw [many_frame]; unfold room at hr; omega
theorem from_le (n num : Nat) : from_ n num + n / 2 ≤ n := by
  unfold from_
  rcases Nat.mod_two_eq_zero_or_one num with h | h <;> rw [h] <;> omega
theorem plan_fit {n num : Nat} {data : List Int} (h3 : 3 ≤ n / 2) (hr : data.length ≤ room n) : Fit n (plan n num data) := by
  have h1 := room_many num h3 hr
  have h2 := from_le n num
  intro p hp
  rcases List.mem_append.1 hp with h | h
  · exact row_fit _ (by omega) p h
  · simp at h
    rw [h]
    exact ⟨by show from_ n num + n / 2 - 1 < n; omega, by show (putl num 8).length ≤ 16; rw [putl_length]; decide⟩
theorem save_ok {n num : Nat} {s : St} {data : List Int} (h0 : num ≠ 0) (h3 : 3 ≤ n / 2) (hr : data.length ≤ room n) (hc : s.cut = true → ((2 + (data.length + 15) / 16 : Nat) : Int) ≤ s.left) :
    save n s num data = (0, ⟨puts (plan n num data) s.db, s.many + ((2 + (data.length + 15) / 16 : Nat) : Int), s.cut, s.left - ((2 + (data.length + 15) / 16 : Nat) : Int)⟩) := by
  unfold save
  rw [if_neg h0, if_neg (by omega), wrs_ok _ s (plan_fit h3 hr) (by rw [plan_len]; exact hc), plan_len]
theorem save_cut {n num : Nat} {s : St} {data : List Int} {a : Nat} (h0 : num ≠ 0) (h3 : 3 ≤ n / 2) (hr : data.length ≤ room n) (hc : s.cut = true) (hl : s.left = (a : Int)) (ha : a < 2 + (data.length + 15) / 16) :
    save n s num data = (170, ⟨puts (row (from_ n num) (framel num data) a) s.db, s.many + (a : Int), true, 0⟩) := by
  unfold save
  rw [if_neg h0, if_neg (by omega), wrs_cut _ s a (plan_fit h3 hr) hc hl (by rw [plan_len]; exact ha)]
  have hm := many_frame num data
  unfold plan
  rw [List.take_append_of_le_length (by rw [row_len]; omega), row_take _ _ _ _ (by omega)]
/-- Behind a whole save: the slot's blocks, and all others. -/
theorem saved_part {n num : Nat} {db data : List Int} (hl : db.length = 16 * n) (h3 : 3 ≤ n / 2) (hr : data.length ≤ room n) (k : Nat) (hk : k < n) :
    part (puts (plan n num data) db) k = if k = from_ n num + n / 2 - 1 then sixteen (putl num 8) else part (puts (row (from_ n num) (framel num data) (many (framel num data))) db) k := by
  have h1 := room_many num h3 hr
  have h2 := from_le n num
  unfold plan puts
  rw [List.foldl_append]
  show part (put (puts (row _ _ _) db) _ _) k = _
  rw [part_put (puts_len _ _ (row_fit _ (by omega)) hl) (by omega) hk (by rw [putl_length]; decide)]
  rfl
theorem saved_len {n num : Nat} {db data : List Int} (hl : db.length = 16 * n) (h3 : 3 ≤ n / 2) (hr : data.length ≤ room n) : (puts (plan n num data) db).length = 16 * n := puts_len _ _ (plan_fit h3 hr) hl
theorem tail_num (num : Nat) (h : num < 18446744073709551616) : getn 8 ((sixteen (putl num 8)).take 8) = num := by
  unfold sixteen
  rw [List.take_append_of_le_length (by rw [putl_length]; omega), List.take_of_length_le (by rw [putl_length]; omega), getn_putl 8 num 8 (by decide), Nat.mod_eq_of_lt (by omega)]
/-- Behind a whole save its slot holds it. -/
theorem slot_saved {n num : Nat} {db data : List Int} (hl : db.length = 16 * n) (h3 : 3 ≤ n / 2) (hr : data.length ≤ room n) (h0 : num ≠ 0) (hn : num < 18446744073709551616) (hd : Crc.okb data = true) :
    slotOf n (puts (plan n num data) db) ((num % 2 : Nat) : Int) = ((num : Int), data, true) := by
  have h1 := room_many num h3 hr
  have h2 := from_le n num
  have h2048 : data.length ≤ 2048 := by unfold room at hr; omega
  have hfr : num % 2 * (n / 2) = from_ n num := rfl
  have hm := many_frame num data
  have hrun : run (puts (plan n num data) db) (from_ n num) (n / 2 - 1) = framel num data ++ (List.replicate (16 * many (framel num data) - (framel num data).length) 0 ++ run (puts (plan n num data) db) (from_ n num + many (framel num data)) (n / 2 - 1 - many (framel num data))) := by
    rw [← List.append_assoc]
    show _ = full (framel num data) ++ _
    conv => lhs; rw [show n / 2 - 1 = many (framel num data) + (n / 2 - 1 - many (framel num data)) by omega, run_add]
    congr 1
    rw [run_congr (db' := puts (row (from_ n num) (framel num data) (many (framel num data))) db) (fun k ha hb => by rw [saved_part hl h3 hr k (by omega), if_neg (by omega)]), row_run _ hl _ (Nat.le_refl _) (by omega), List.take_of_length_le (by rw [full_len]; omega)]
  have htail : part (puts (plan n num data) db) (from_ n num + n / 2 - 1) = sixteen (putl num 8) := by rw [saved_part hl h3 hr _ (by omega), if_pos rfl]
  unfold slotOf
  rw [if_pos (by omega), Int.toNat_natCast, hfr, hrun, open_back num data _ hn hd h2048, htail, tail_num num hn]
  rw [if_pos ⟨rfl, by show (num : Int) ≠ 0; omega, rfl⟩]
/-- What a slot holds hangs on its own blocks alone. -/
theorem slot_congr {n : Nat} {db db' : List Int} {k : Nat} (_ : k < 2) (h3 : 1 ≤ n / 2) (h : ∀ i, k * (n / 2) ≤ i → i < k * (n / 2) + n / 2 → part db i = part db' i) : slotOf n db (k : Int) = slotOf n db' (k : Int) := by
  have e1 : run db (k * (n / 2)) (n / 2 - 1) = run db' (k * (n / 2)) (n / 2 - 1) := run_congr (fun i h1 h2 => h i h1 (by omega))
  have e2 : part db (k * (n / 2) + n / 2 - 1) = part db' (k * (n / 2) + n / 2 - 1) := h _ (by omega) (by omega)
  unfold slotOf
  rw [Int.toNat_natCast, e1, e2]
/-- A save leaves the other slot as it was. -/
theorem slot_other {n num : Nat} {db data : List Int} {k : Nat} (hl : db.length = 16 * n) (h3 : 3 ≤ n / 2) (hr : data.length ≤ room n) (hk : k < 2) (hne : k ≠ num % 2) :
    slotOf n (puts (plan n num data) db) (k : Int) = slotOf n db (k : Int) := by
  have h1 := room_many num h3 hr
  refine slot_congr hk (by omega) (fun i ha hb => ?_)
  have hlt := Nat.mod_lt num (show 2 > 0 by decide)
  have hfr : from_ n num = num % 2 * (n / 2) := rfl
  have h2 : (k = 0 ∧ num % 2 = 1) ∨ (k = 1 ∧ num % 2 = 0) := by omega
  rcases h2 with ⟨rfl, e⟩ | ⟨rfl, e⟩
  · rw [e] at hfr
    rw [saved_part hl h3 hr i (by omega), if_neg (by omega), row_part _ hl _ (by omega) i (by omega), if_neg (by omega)]
  · rw [e] at hfr
    rw [saved_part hl h3 hr i (by omega), if_neg (by omega), row_part _ hl _ (by omega) i (by omega), if_neg (by omega)]
theorem torn_other {n num a : Nat} {db data : List Int} {k : Nat} (hl : db.length = 16 * n) (h3 : 3 ≤ n / 2) (ha : a ≤ n / 2) (hk : k < 2) (hne : k ≠ num % 2) :
    slotOf n (puts (row (from_ n num) (framel num data) a) db) (k : Int) = slotOf n db (k : Int) := by
  refine slot_congr hk (by omega) (fun i hi hb => ?_)
  have hlt := Nat.mod_lt num (show 2 > 0 by decide)
  have hfr : from_ n num = num % 2 * (n / 2) := rfl
  have h2 : (k = 0 ∧ num % 2 = 1) ∨ (k = 1 ∧ num % 2 = 0) := by omega
  rcases h2 with ⟨rfl, e⟩ | ⟨rfl, e⟩
  · rw [e] at hfr
    rw [row_part _ hl _ (by omega) i (by omega), if_neg (by omega)]
  · rw [e] at hfr
    rw [row_part _ hl _ (by omega) i (by omega), if_neg (by omega)]
/-- What opens tells the number at its head. -/
theorem openl_head (l : List Int) (h : (openl l).2.2 = true) : (openl l).1 = ((getn 8 (l.take 8) : Nat) : Int) ∧ 16 ≤ l.length := by
  unfold openl at *
  split at h
  · cases h
  · split at h
    · cases h
    · split at h
      · cases h
      · rename_i h1 h2 h3
        rw [if_neg h1, if_neg h2, if_neg h3]
        exact ⟨rfl, by omega⟩
/-- A slot whose writing was cut behind its head, ahead of its tail, holds nothing, if its tail was another number's. -/
theorem slot_torn {n num a : Nat} {db data : List Int} (hl : db.length = 16 * n) (h3 : 3 ≤ n / 2) (ha1 : 1 ≤ a) (ha : a ≤ many (framel num data)) (hr : data.length ≤ room n) (hn : num < 18446744073709551616)
    (ht : getn 8 ((part db (from_ n num + n / 2 - 1)).take 8) ≠ num) :
    slotOf n (puts (row (from_ n num) (framel num data) a) db) ((num % 2 : Nat) : Int) = (0, [], false) := by
  have h1 := room_many num h3 hr
  have h2 := from_le n num
  have hfr : num % 2 * (n / 2) = from_ n num := rfl
  have htail : part (puts (row (from_ n num) (framel num data) a) db) (from_ n num + n / 2 - 1) = part db (from_ n num + n / 2 - 1) := by
    rw [row_part _ hl a (by omega) _ (by omega), if_neg (by omega)]
  have hhead : (run (puts (row (from_ n num) (framel num data) a) db) (from_ n num) (n / 2 - 1)).take 8 = putl num 8 := by
    have e1 : run (puts (row (from_ n num) (framel num data) a) db) (from_ n num) (n / 2 - 1) = run (puts (row (from_ n num) (framel num data) a) db) (from_ n num) a ++ run (puts (row (from_ n num) (framel num data) a) db) (from_ n num + a) (n / 2 - 1 - a) := by
      rw [← run_add]; congr 1; omega
    rw [e1, row_run _ hl a ha (by omega)]
    unfold full
    have hfl := framel_length num data
    rw [List.take_append_of_le_length (by rw [List.length_take, List.length_append, List.length_replicate]; omega), List.take_take, Nat.min_eq_left (by omega), List.take_append_of_le_length (by omega)]
    have := frame_8 num data []
    rwa [List.append_nil] at this
  unfold slotOf
  rw [if_pos (by omega), Int.toNat_natCast, hfr, htail]
  rw [if_neg]
  rintro ⟨g1, g2, g3⟩
  have h4 := (openl_head _ g1).1
  rw [hhead, getn_putl 8 num 8 (by decide), Nat.mod_eq_of_lt (by omega)] at h4
  rw [h4] at g3
  exact ht (by exact_mod_cast g3)
end Go.Proofs.Ytbjjpckldjjcgaa.Disk.Slots
