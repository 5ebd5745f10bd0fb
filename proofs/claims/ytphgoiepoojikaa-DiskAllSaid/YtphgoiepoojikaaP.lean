/- The disk in the heap: what its two blocks hold; the program's functions that only read it. -/
import Derived.Test.YtphgoiepoojikaaH
import Derived.Deep.MidRow
import Derived.Deep.WholeRow
import Derived.StillTailTactics
namespace Go.Proofs.Ytphgoiepoojikaa
open Go.RowKit Go.Proofs.YtphgoiepoojikaaW.PrintWords Go.Proofs.YtphgoiepoojikaaW.PrintLast Go.Proofs.YtphgoiepoojikaaW.PrintMore
set_option linter.unusedVariables false
set_option linter.unusedSimpArgs false
namespace Disk

/-- The walk stands at a goal that is no walk's. -/
def Stop (p : Prop) : Prop := p
theorem stop {p : Prop} (h : Stop p) : p := h
theorem Stop.go {p : Prop} (h : p) : Stop p := h

def okb (l : List Int) : Bool := l.all fun x => decide (0 ≤ x) && decide (x < 256)
theorem okb_iff (l : List Int) : okb l = true ↔ ∀ x ∈ l, 0 ≤ x ∧ x < 256 := by unfold okb; simp [List.all_eq_true]

theorem info5 : (Try.prog.info? 5).map (fun i => (i.zero, i.size, i.bytes)) = some (some (.int .u8 0), 1, 1) := by kernel_rfl
/-- A disk: block g holds its four fields, block b its bytes. -/
structure At (W : World) (g b n : Nat) (db : List Int) (many : Int) (cut : Bool) (left : Int) : Prop where
  hg : W.heap[g]? = some (.cells #[.slice (some ⟨b, 0, none⟩) n n, .int .i64 many, .bool cut, .int .i64 left] 55 (0, 0))
  hb : W.heap[b]? = some (.cells (db.map (Value.int .u8)).toArray 58 (0, 0))
  len : db.length = 16 * n
  n1 : 1 ≤ n
  n2 : n ≤ 1024

section
variable {W W' : World} {g b n : Nat} {db : List Int} {many left : Int} {cut : Bool}
theorem At.ne (h : At W g b n db many cut left) : g ≠ b := by
  intro e
  have h1 := h.hg
  have h2 := h.hb
  rw [e, h2] at h1
  injection h1 with h1
  injection h1 with _ h3
  cases h3
theorem At.drewN (h : At W g b n db many cut left) (m : Nat) : At (W.drewN m) g b n db many cut left := ⟨h.hg, h.hb, h.len, h.n1, h.n2⟩
theorem At.lt (h : At W g b n db many cut left) : g < W.heap.size ∧ b < W.heap.size := by
  constructor
  · rcases Nat.lt_or_ge g W.heap.size with hl | hl
    · exact hl
    · have := h.hg; rw [Array.getElem?_eq_none hl] at this; cases this
  · rcases Nat.lt_or_ge b W.heap.size with hl | hl
    · exact hl
    · have := h.hb; rw [Array.getElem?_eq_none hl] at this; cases this
theorem At.move (h : At W g b n db many cut left) (e1 : W'.heap[g]? = W.heap[g]?) (e2 : W'.heap[b]? = W.heap[b]?) : At W' g b n db many cut left :=
  ⟨e1.trans h.hg, e2.trans h.hb, h.len, h.n1, h.n2⟩
theorem At.below (h : At W g b n db many cut left) (hB : Below W.heap.size W W') : At W' g b n db many cut left :=
  h.move (hB.block _ h.lt.1) (hB.block _ h.lt.2)
theorem At.c0 (h : At W g b n db many cut left) : W.cell? ⟨g, 0, none⟩ = some (.slice (some ⟨b, 0, none⟩) n n) := by rw [cell_of_row W g 0 _ _ _ h.hg]; rfl
theorem At.c1 (h : At W g b n db many cut left) : W.cell? ⟨g, 1, none⟩ = some (.int .i64 many) := by rw [cell_of_row W g 1 _ _ _ h.hg]; rfl
theorem At.c2 (h : At W g b n db many cut left) : W.cell? ⟨g, 2, none⟩ = some (.bool cut) := by rw [cell_of_row W g 2 _ _ _ h.hg]; rfl
theorem At.c3 (h : At W g b n db many cut left) : W.cell? ⟨g, 3, none⟩ = some (.int .i64 left) := by rw [cell_of_row W g 3 _ _ _ h.hg]; rfl
theorem At.f (h : At W g b n db many cut left) (j : Nat) : W.frozen? ⟨g, j, none⟩ = false := blk_frozen h.hg j
theorem At.fb (h : At W g b n db many cut left) (j : Nat) : W.frozen? ⟨b, j, none⟩ = false := blk_frozen h.hb j
theorem At.set1 (h : At W g b n db many cut left) (x : Int) : At (W.setCell ⟨g, 1, none⟩ (.int .i64 x)) g b n db x cut left :=
  ⟨heap_setCell_same W g 1 _ 55 _ h.hg, (heap_setCell_other W _ _ _ (fun e => h.ne e.symm)).trans h.hb, h.len, h.n1, h.n2⟩
theorem At.set2 (h : At W g b n db many cut left) (x : Bool) : At (W.setCell ⟨g, 2, none⟩ (.bool x)) g b n db many x left :=
  ⟨heap_setCell_same W g 2 _ 55 _ h.hg, (heap_setCell_other W _ _ _ (fun e => h.ne e.symm)).trans h.hb, h.len, h.n1, h.n2⟩
theorem At.set3 (h : At W g b n db many cut left) (x : Int) : At (W.setCell ⟨g, 3, none⟩ (.int .i64 x)) g b n db many cut x :=
  ⟨heap_setCell_same W g 3 _ 55 _ h.hg, (heap_setCell_other W _ _ _ (fun e => h.ne e.symm)).trans h.hb, h.len, h.n1, h.n2⟩
end
/-- What lies outside the blocks g and b is as it was; nothing is gone. -/
structure Only (g b : Nat) (w w' : World) : Prop where
  size : w.heap.size ≤ w'.heap.size
  keep : ∀ i, i < w.heap.size → i ≠ g → i ≠ b → w'.heap[i]? = w.heap[i]?
  low : ∀ B, B ≤ g → B ≤ b → B ≤ w.heap.size → Below B w w'
theorem Only.refl (g b : Nat) (w : World) : Only g b w w := ⟨Nat.le_refl _, fun _ _ _ _ => rfl, fun B _ _ _ => Below.refl B w⟩
theorem Only.set {g b : Nat} {w w' : World} (h : Only g b w w') (j : Nat) (v : Value) : Only g b w (w'.setCell ⟨g, j, none⟩ v) :=
  ⟨Nat.le_trans h.size (by simp), fun i hi h1 h2 => (heap_setCell_other w' _ _ _ h1).trans (h.keep i hi h1 h2), fun B h1 h2 h3 => (h.low B h1 h2 h3).setCell h1 _⟩
theorem Only.setb {g b : Nat} {w w' : World} (h : Only g b w w') (j : Nat) (v : Value) : Only g b w (w'.setCell ⟨b, j, none⟩ v) :=
  ⟨Nat.le_trans h.size (by simp), fun i hi h1 h2 => (heap_setCell_other w' _ _ _ h2).trans (h.keep i hi h1 h2), fun B h1 h2 h3 => (h.low B h1 h2 h3).setCell h2 _⟩
theorem Only.drewN {g b : Nat} {w w' : World} (h : Only g b w w') (m : Nat) : Only g b w (w'.drewN m) :=
  ⟨h.size, h.keep, fun B h1 h2 h3 => (h.low B h1 h2 h3).trans ⟨rfl, rfl, rfl, Nat.le_refl _, fun _ _ => rfl⟩⟩
theorem Only.alloc {g b : Nat} {w w' : World} (h : Only g b w w') (o : Obj) : Only g b w (w'.alloc o) :=
  ⟨Nat.le_trans h.size (by simp), fun i hi h1 h2 => (Below.heap_alloc w' o i (Nat.lt_of_lt_of_le hi h.size)).trans (h.keep i hi h1 h2), fun B h1 h2 h3 => (h.low B h1 h2 h3).alloc (Nat.le_trans h3 h.size) o⟩
theorem Only.below {g b : Nat} {w w' : World} (h : Below w.heap.size w w') : Only g b w w' := ⟨h.size, fun i hi _ _ => h.block i hi, fun B _ _ h3 => h.mono h3⟩
theorem Only.trans {g b : Nat} {w w1 w2 : World} (h : Only g b w w1) (k : Only g b w1 w2) : Only g b w w2 :=
  ⟨Nat.le_trans h.size k.size, fun i hi h1 h2 => (k.keep i (Nat.lt_of_lt_of_le hi h.size) h1 h2).trans (h.keep i hi h1 h2), fun B h1 h2 h3 => (h.low B h1 h2 h3).trans (k.low B h1 h2 (Nat.le_trans h3 h.size))⟩

/-- A whole array into the block that was made last, as an operation. -/
theorem store_new {P : Program} {ops : Array Oper} {rest : List Oper} {op : Oper} {a : Act} {w : World} {Q : Exit → Act → World → Prop} (hgd : op.guard = none) (ty : TypeId) (x y : Operand) (ho : op.op = .store ty x y) (g : Nat)
    (c c' : Array Value) (hw : g = w.heap.size) (hx : a.eval x = .pointer (some ⟨g, 0, none⟩)) (hy : a.eval y = .agg c') (hi : (P.info? ty).map (·.size) = some c'.size) (hs : c.size = c'.size) (h1 : c'.all (·.oneCell') = true)
    (h : wpList P ops Q rest (a.put op.dst undef) (w.alloc (.cells c' ty))) : wpList P ops Q (op :: rest) a (w.alloc (.cells c ty)) := by
  subst hw
  refine wpList_plain hgd fun K hK => ?_
  unfold Oper.wp execOp
  simp only [ho, hx, hy, Instr.storeAt, Instr.sureAddr, Sem.run_bind, Sem.run_pure, Result.andThen_ok, run_storeVar_new w ty c c' hi hs h1]
  exact hK _ _ h
theorem agg_one (l : List Int) : ((l.map (Value.int .u8)).toArray).all (·.oneCell') = true := by
  rw [Array.all_eq_true_iff_forall_mem]
  intro v hv
  simp at hv
  obtain ⟨x, _, rfl⟩ := hv
  rfl
/-- The bytes of block k. -/
def part (db : List Int) (k : Nat) : List Int := (db.drop (k * 16)).take 16
section
variable {W : World} {g b n : Nat} {db : List Int} {many left : Int} {cut : Bool}
theorem part_len (hl : db.length = 16 * n) {k : Nat} (hk : k < n) : (part db k).length = 16 := by unfold part; simp; omega
theorem At.part (h : At W g b n db many cut left) (k : Nat) : W.rangeAt b (k * 16) ((part db k).map (Value.int .u8)) := by
  intro j v hv
  rw [cell_of_row W b _ _ _ _ h.hb]
  simp only [Disk.part, List.getElem?_map, List.getElem?_take, List.getElem?_drop, List.getElem?_toArray] at hv ⊢
  by_cases hj : j < 16
  · rw [if_pos hj] at hv
    exact hv
  · rw [if_neg hj] at hv
    cases hv
end
/-- The bytes of a block that is written. -/
def sixteen (l : List Int) : List Int := l ++ List.replicate (16 - l.length) 0
def put (db : List Int) (k : Nat) (l : List Int) : List Int := db.take (k * 16) ++ sixteen l ++ db.drop (k * 16 + 16)
theorem sixteen_len {l : List Int} (h : l.length ≤ 16) : (sixteen l).length = 16 := by unfold sixteen; simp; omega
theorem put_len {db l : List Int} {n k : Nat} (hl : db.length = 16 * n) (hk : k < n) (h : l.length ≤ 16) : (put db k l).length = 16 * n := by
  unfold put; rw [List.length_append, List.length_append, sixteen_len h]; simp; omega
theorem At.putx {W : World} {g b n : Nat} {db : List Int} {many left : Int} {cut : Bool} (h : At W g b n db many cut left) (k : Nat) (l : List Int) (hk : k < n) (hl : l.length ≤ 16) : At (W.setCells b (k * 16) ((sixteen l).map (Value.int .u8))) g b n (put db k l) many cut left := by
  have hs := sixteen_len hl
  obtain ⟨cur', h1, h2, h3⟩ := setCells_row ((sixteen l).map (Value.int .u8)) (k * 16) W _ h.hb (by have := h.len; simp [hs]; omega)
  refine ⟨(setCells_far _ _ g h.ne).trans h.hg, ?_, put_len h.len hk hl, h.n1, h.n2⟩
  rw [h1]
  congr 2
  apply Array.ext'
  rw [h3]
  simp [put, hs]
theorem Only.putx {g b : Nat} {w w' : World} (h : Only g b w w') (o : Nat) (vs : List Value) : Only g b w (w'.setCells b o vs) := by
  obtain ⟨h1, h2, h3, h4⟩ := setCells_same b vs o w'
  exact ⟨Nat.le_trans h.size (Nat.le_of_eq h4.symm), fun i hi e1 e2 => (setCells_far vs o i e2).trans (h.keep i hi e1 e2),
    fun B e1 e2 e3 => (h.low B e1 e2 e3).trans ⟨h1, h2, h3, Nat.le_of_eq h4.symm, fun i hi => setCells_far vs o i (by omega)⟩⟩
/-- An operation of a still region whose run is known. -/
theorem still_run {P : Program} {ops : Array Oper} {w : World} {Q : Act → Prop} {o : Oper} {rest : List Oper} {a : Act} {v : Value} (hw : Region.wanted o (yielded ops a.tmps) = true) (hrun : (execOp a.eval o).run P w = .ok (.value v) w)
    (h : wpStill P ops w Q rest (a.put o.dst v)) : wpStill P ops w Q (o :: rest) a := by
  refine wpStill_step (fun K hK => ?_)
  rw [if_pos hw]
  unfold Oper.still
  rw [hrun, Oper.stillUpon_value]
  exact hK _ h
/-- A load of a whole array in a still region. -/
theorem still_load {P : Program} {ops : Array Oper} {w : World} {Q : Act → Prop} {op : Oper} {rest : List Oper} {a : Act} (hw : Region.wanted op (yielded ops a.tmps) = true) (ty : TypeId) (x : Operand) (ho : op.op = .load ty x)
    (b o : Nat) (hx : a.eval x = .pointer (some ⟨b, o, none⟩)) (cs : List Value) (d : TypeDesc) (hc : w.rangeAt b o cs) (hu : P.underlying ty = some d) (hd : d.isRow = true) (hi : (P.info? ty).map (·.size) = some cs.length)
    (h : wpStill P ops w Q rest (a.put op.dst (.agg cs.toArray))) : wpStill P ops w Q (op :: rest) a := by
  refine still_run hw ?_ h
  unfold execOp
  simp only [ho, hx, Instr.loadAt, Instr.sureAddr, Sem.run_bind, Sem.run_pure, Result.andThen_ok, run_loadVar_mid w b o ty cs d hc hu hd hi]
def zeros16 : Array Value := #[.int .u8 0, .int .u8 0, .int .u8 0, .int .u8 0, .int .u8 0, .int .u8 0, .int .u8 0, .int .u8 0, .int .u8 0, .int .u8 0, .int .u8 0, .int .u8 0, .int .u8 0, .int .u8 0, .int .u8 0, .int .u8 0]
theorem copy16 (W : World) (A : Option Addr) (c : Nat) (l : List Int) (hr : Kd.C (Kd.int .u8) (W.alloc (.cells zeros16 58)) A l.length l) (hl : l.length ≤ 16) :
    (Builtin.copy_ #[22, 22] 3 #[.slice (some ⟨W.heap.size, 0, none⟩) 16 16, .slice A l.length c]).run Try.prog (W.alloc (.cells zeros16 58)) = .ok (.int .i64 l.length) (W.alloc (.cells ((sixteen l).map (Value.int .u8)).toArray 58)) := by
  have hx := (Kd.reads_of_C (d := (0 : Int)) hr).2.2
  by_cases h0 : l = []
  · subst h0
    exact run_copy_none _ 22 22 3 5 _ _ 16 16 _ _ Try.underlying22 (by kernel_rfl) (by simp)
  · have hp : 0 < l.length := List.length_pos_iff.2 h0
    obtain ⟨ad, rfl, hc⟩ := hx hp
    have := run_copy_row (P := Try.prog) (W.alloc (.cells zeros16 58)) 22 22 3 5 W.heap.size 0 16 16 ad l.length c zeros16 58 (l.map (Value.int .u8)) Try.underlying22 (by kernel_rfl) (heap_alloc_last W _) (by rw [List.length_map]; show _ = min _ _; omega)
      (by intro j v hv
          simp only [List.getElem?_map] at hv
          obtain ⟨x, hx, rfl⟩ := Option.map_eq_some_iff.1 hv
          obtain ⟨hj, rfl⟩ := List.getElem?_eq_some_iff.1 hx
          rw [hc j hj]
          simp [List.getD_eq_getElem?_getD, hj]) (by simp [zeros16]; omega) (by intro v hv; simp at hv; obtain ⟨x, _, rfl⟩ := hv; rfl)
    rw [this, World.setRow_alloc_new]
    have e : (zeros16.toList.take 0 ++ l.map (Value.int .u8) ++ zeros16.toList.drop (0 + (l.map (Value.int .u8)).length)) = (sixteen l).map (Value.int .u8) := by
      have hz : zeros16.toList = List.replicate 16 (Value.int .u8 0) := rfl
      rw [hz, List.take_zero, List.nil_append, List.drop_replicate]
      unfold sixteen
      rw [List.map_append, List.map_replicate, List.length_map, Nat.zero_add]
    rw [e]
    simp [goInt]

theorem Blocks {w : World} {g b n : Nat} {db : List Int} {many left : Int} {cut : Bool} (h : At w g b n db many cut left) :
    Calls Try.prog 28 #[.pointer (some ⟨g, 0, none⟩)] w fun e w' => e = .returned (.int .i64 (n : Int)) ∧ Drawn0 w w' := by
  have h0 := h.c0
  go_enter Try.func28, Try.ntmps28
  go_wp2_with fail
  go_ret
  exact ⟨rfl, ⟨0, rfl⟩⟩
theorem Writes {w : World} {g b n : Nat} {db : List Int} {many left : Int} {cut : Bool} (h : At w g b n db many cut left) :
    Calls Try.prog 26 #[.pointer (some ⟨g, 0, none⟩)] w fun e w' => e = .returned (.int .i64 many) ∧ Drawn0 w w' := by
  have h0 := h.c1
  go_enter Try.func26, Try.ntmps26
  go_wp2_with fail
  go_ret
  exact ⟨rfl, ⟨0, rfl⟩⟩
theorem Down {w : World} {g b n : Nat} {db : List Int} {many left : Int} {cut : Bool} (h : At w g b n db many cut left) :
    Calls Try.prog 27 #[.pointer (some ⟨g, 0, none⟩)] w fun e w' => e = .returned (.bool (cut && decide (left ≤ 0))) ∧ Drawn0 w w' := by
  have h0 := h.c2
  have h1 := h.c3
  cases cut
  all_goals
    go_enter Try.func27, Try.ntmps27
    go_wp2_with fail
    go_ret
    exact ⟨rfl, ⟨0, rfl⟩⟩
theorem has {w : World} {g b n : Nat} {db : List Int} {many left : Int} {cut : Bool} (h : At w g b n db many cut left) (k : Int) :
    Calls Try.prog 30 #[.pointer (some ⟨g, 0, none⟩), .int .i64 k] w fun e w' => e = .returned (.bool (decide (0 ≤ k) && decide (k < (n : Int)))) ∧ Drawn0 w w' := by
  have h0 := h.c0
  by_cases hk : 0 ≤ k
  · have c0 : decide (0 ≤ k) = true := decide_eq_true hk
    go_enter Try.func30, Try.ntmps30
    go_wp2_with fail
    go_ret
    exact ⟨by first | rfl | (rw [c0]; rfl), ⟨0, rfl⟩⟩
  · have c0 : decide (0 ≤ k) = false := decide_eq_false hk
    go_enter Try.func30, Try.ntmps30
    go_wp2_with fail
    go_ret
    exact ⟨by first | rfl | (rw [c0]; rfl), ⟨0, rfl⟩⟩
end Disk
end Go.Proofs.Ytphgoiepoojikaa
