/- Small lemmas of this session over the printed words: rows that lie in a block just made; steps of 'Below'; and the imports that the walks by hand want. -/
import Derived.Test.YtbjjpckldjjcgaaProg
import Derived.Below
import Derived.Deep.Draws
import Derived.Deep.AppendLies
import Derived.Maps.AppendAt
import Derived.OwnWalk
import Derived.Laws.BytesArg
import Derived.Laws.MakeOwn
import Derived.Laws.OwnMore
import Derived.Deep.OwnRows
import Derived.Tactics
import Derived.Lib.ConvBytes
import Derived.Laws.Slices
import Derived.WalkKit
import Derived.KernelRfl
import Derived.RowKit3
import Derived.Deep.LoopGhost
import Derived.Deep.QuietTactic
import Derived.BigQuiet
import Derived.WideLaws
import Derived.Deep.DeepCutAuto
import Derived.Deep.CutBlock
import Derived.Deep.RegionHeld3
import Derived.Laws.Rows
import Derived.Lib.AppendStr
import Derived.ArgAppend
import Derived.Laws.IdiomCopy
import Derived.OrdersHeld
import Derived.Laws.BitsLemmas
import Derived.RowKit
import Derived.WalkLawsBesides
import Derived.WalkSpells
import Derived.Test.YtbjjpckldjjcgaaWWords
import Derived.Test.YtbjjpckldjjcgaaWLast
import Derived.Test.YtbjjpckldjjcgaaWTab
import Derived.Test.YtbjjpckldjjcgaaWFour
import Derived.Test.YtbjjpckldjjcgaaWQPut
import Derived.Test.YtbjjpckldjjcgaaWApart
import Derived.Test.YtbjjpckldjjcgaaWArr
import Derived.Test.YtbjjpckldjjcgaaWZeros
import Derived.Test.YtbjjpckldjjcgaaWFoot
import Derived.Test.YtbjjpckldjjcgaaWKept
import Derived.Test.YtbjjpckldjjcgaaWShare
import Derived.Test.YtbjjpckldjjcgaaWN
import Derived.Test.YtbjjpckldjjcgaaWFootNe
import Derived.Test.YtbjjpckldjjcgaaWAt
import Derived.Test.YtbjjpckldjjcgaaWEqStruct
import Derived.Test.YtbjjpckldjjcgaaWRepsOne
import Derived.Test.YtbjjpckldjjcgaaWInv
import Derived.Test.YtbjjpckldjjcgaaWInvWords
import Derived.Test.YtbjjpckldjjcgaaWGuard
import Derived.Test.YtbjjpckldjjcgaaWNEv
import Derived.Test.YtbjjpckldjjcgaaWMore
namespace Go.Proofs.Ytbjjpckldjjcgaa.Aid
open Go.RowKit Go.Proofs.YtbjjpckldjjcgaaW.PrintWords Go.Proofs.YtbjjpckldjjcgaaW.PrintLast Go.Proofs.YtbjjpckldjjcgaaW.PrintMore

theorem addr_add (b o n : Nat) : (⟨b, o, none⟩ : Addr).add n = ⟨b, o + n, none⟩ := by
  unfold Addr.add; split <;> simp_all

/-- A row of scalars in a block that was just made reads as what it was made of. -/
theorem C_new {α : Type} {enc : α → Value} {h1 : ∀ x, (enc x).oneCell' = true} (d : α) (W : World) (xs : List α) (cs : Array Value) (e : Nat) (fr : Nat × Nat) (hcs : cs.toList = xs.map enc) (hm : xs.length ≤ 9223372036854775807) :
    (Kd.scalar enc h1).C (W.alloc (.cells cs e fr)) (some ⟨W.heap.size, 0, none⟩) xs.length xs := by
  refine Kd.C_of_reads (d := d) ⟨rfl, hm, fun _ => ⟨_, rfl, fun j hj => ?_⟩⟩
  rw [addr_add, World.cell?_alloc_mark]
  have : cs[0 + j]? = cs.toList[j]? := by simp
  rw [this, hcs]
  simp [List.getElem?_eq_getElem hj, List.getD_eq_getElem?_getD]
/-- A block of the heap whose cells are told reads as a row of scalars. -/
theorem C_block {α : Type} {enc : α → Value} {h1 : ∀ x, (enc x).oneCell' = true} (d : α) (W : World) (b : Nat) (xs : List α) (cs : Array Value) (e : Nat) (fr : Nat × Nat) (hb : W.heap[b]? = some (.cells cs e fr)) (hcs : cs.toList.take xs.length = xs.map enc) (hm : xs.length ≤ 9223372036854775807) :
    (Kd.scalar enc h1).C W (some ⟨b, 0, none⟩) xs.length xs := by
  refine Kd.C_of_reads (d := d) ⟨rfl, hm, fun _ => ⟨_, rfl, fun j hj => ?_⟩⟩
  rw [addr_add]
  simp only [World.cell?, hb, Nat.zero_add, Option.isSome_none, Bool.false_eq_true, if_false]
  have h2 : (cs.toList.take xs.length)[j]? = (xs.map enc)[j]? := by rw [hcs]
  rw [List.getElem?_take_of_lt hj] at h2
  have h3 : cs[j]? = cs.toList[j]? := by simp
  rw [h3, h2]
  simp [List.getElem?_eq_getElem hj, List.getD_eq_getElem?_getD]
theorem heap_new (W : World) (o : Obj) : (W.alloc o).heap[W.heap.size]? = some o := heap_alloc_new W o
/-- 'Below' from a call's own start on, step by step. -/
theorem bthen {w a b : World} (h : Below w.heap.size w a) (k : Below a.heap.size a b) : Below w.heap.size w b := h.trans (k.mono h.size)
theorem bdrew {w a : World} (h : Below w.heap.size w a) (n : Nat) : Below w.heap.size w (a.drewN n) := pw_below_drewN h n
theorem balloc {w a : World} (h : Below w.heap.size w a) (o : Obj) : Below w.heap.size w (a.alloc o) := h.alloc h.size o
/-- An operation, guarded or not, whose run is known. -/
theorem event_run_w {P : Program} {ops : Array Oper} {rest : List Oper} {o : Oper} {a : Act} {Q : Exit → Act → World → Prop} {W w1 : World} {v : Value}
    (hw : Region.wanted o (yielded ops a.tmps) = true) (hrun : (execOp a.eval o).run P W = .ok (.value v) w1) (h : wpList P ops Q rest (a.put o.dst v) w1) : wpList P ops Q (o :: rest) a W := by
  unfold wpList
  rw [if_pos hw]
  exact .inl (by unfold Oper.wp; rw [hrun]; exact h)

/-- An append, guarded or not, whose run is known. -/
theorem append_event {P : Program} {ops : Array Oper} {rest : List Oper} {o : Oper} {a : Act} {Q : Exit → Act → World → Prop} {W w1 : World} {v : Value}
    (s x : Operand) (t : TypeId) (hw : Region.wanted o (yielded ops a.tmps) = true) (ho : o.op = .call { callee := .builtin .append, args := #[s, x], argTypes := #[t, t] }) (u y : Value) (hs : a.eval s = u) (hx : a.eval x = y)
    (hr : (Builtin.append_ #[t, t] o.type #[u, y]).run P W = .ok v w1) (h : wpList P ops Q rest (a.put o.dst v) w1) : wpList P ops Q (o :: rest) a W := by
  refine event_run_w hw ?_ h
  simp [execOp, ho, resolve, invoke, builtin, hs, hx, hr, Result.andThen]

/-- 'append(a[:len(a):len(a)], b...)': a is left as it is; what comes back reads as a and b. -/
theorem app_cut {P : Program} {α : Type} {enc : α → Value} {h1 : ∀ x, (enc x).oneCell' = true} (d : α) (w : World) (t ty e : TypeId) (z : Value) (bytes : Nat)
    (ht : P.underlying t = some (.slice e)) (hinfo : (P.info? e).map (fun i => (i.zero, i.size, i.bytes)) = some (some z, 1, bytes)) (hz : z.cells.size = 1) (hb0 : 0 < bytes)
    (A B : Option Addr) (c : Nat) (xs ys : List α) (hx : (Kd.scalar enc h1).C w A xs.length xs) (hy : (Kd.scalar enc h1).C w B ys.length ys)
    (hl : (xs.length + ys.length) * bytes ≤ 140737488355328) :
    ∃ A' c' w', (Builtin.append_ #[t, t] ty #[.slice A xs.length xs.length, .slice B ys.length c]).run P w = .ok (.slice A' (xs ++ ys).length c') w' ∧ (xs ++ ys).length ≤ c' ∧
      (Kd.scalar enc h1).C w' A' (xs ++ ys).length (xs ++ ys) ∧ Below w.heap.size w w' := by
  obtain ⟨i0, hi, hzz⟩ := Option.map_eq_some_iff.1 hinfo
  simp only [Prod.mk.injEq] at hzz
  obtain ⟨hz0, hz1, hz2⟩ := hzz
  have hlen : xs.length + ys.length ≤ 140737488355328 := Nat.le_trans (Nat.le_mul_of_pos_right _ hb0) hl
  have rx := Kd.reads_of_C (d := d) hx
  have ry := Kd.reads_of_C (d := d) hy
  rcases Nat.eq_zero_or_pos ys.length with h0 | h0
  · obtain rfl : ys = [] := List.eq_nil_of_length_eq_zero h0
    refine ⟨A, xs.length, w, ?_, by simp, by simpa using hx, Below.refl _ _⟩
    have hf : ∀ B', (Builtin.firstCells 1 0 (.slice B' 0 c)).run P w = .ok #[] w := by
      intro B'
      cases B' with
      | none => simp [Builtin.firstCells]
      | some b => exact run_firstCells_some (P := P) w 1 0 b 0 c [] rfl (by simp)
    have hst : ∀ q, (storeCells q []).run P w = .ok () w := by intro q; simp [storeCells]
    cases A with
    | none => simp [Builtin.append_, run_underlying ht, sizeOf, typeInfo, hi, hz1, Builtin.lenOf, hf]
    | some q => simp [Builtin.append_, run_underlying ht, sizeOf, typeInfo, hi, hz1, Builtin.lenOf, hf, hst]
  · obtain ⟨b, rfl, hbc⟩ := ry.2.2 h0
    have hnews : ∀ j u, (ys.map enc)[j]? = some u → w.cell? (b.add j) = some u := by
      intro j u hj
      obtain ⟨hjl, hju⟩ := List.getElem?_eq_some_iff.1 hj
      simp only [List.length_map] at hjl
      rw [hbc j hjl, ← hju]
      simp [List.getD_eq_getElem?_getD, List.getElem?_eq_getElem hjl]
    have h1s : ∀ u ∈ ys.map enc, u.oneCell' = true := by
      intro u hu
      obtain ⟨y, _, rfl⟩ := List.mem_map.1 hu
      exact h1 y
    have fin : ∀ v' w', w'.ownsRow w.heap.size e 1 v' (xs.length + ys.length) (xs.map enc ++ ys.map enc) → w.grownBy w' none →
        ∃ A' c', v' = .slice A' (xs ++ ys).length c' ∧ (xs ++ ys).length ≤ c' ∧ (Kd.scalar enc h1).C w' A' (xs ++ ys).length (xs ++ ys) ∧ Below w.heap.size w w' := by
      intro v' w' hown hg
      have hR := Kd.R_of_own (enc := enc) (h1 := h1) (xs := xs ++ ys) (ok := fun _ => True) (by simpa [encs] using hown) (fun _ _ => trivial)
      obtain ⟨A', c', hv, hc', hC⟩ := Kd.R_reads hR
      exact ⟨A', c', hv, hc', hC, (Below.refl _ _).grown hg (Nat.le_refl _) (by simp)⟩
    rcases Nat.eq_zero_or_pos xs.length with g0 | g0
    · obtain rfl : xs = [] := List.eq_nil_of_length_eq_zero g0
      cases A with
      | none =>
        obtain ⟨v', w', hr, hown, hg, _⟩ := run_append_own (P := P) w w.heap.size t ty e i0 z 1 bytes ht hi hz0 hz1 hz2 hz (by omega) (.slice none 0 0) 0 [] (World.ownsRow_nil _ _ _ _) b ys.length c (ys.map enc) (by simp) hnews h1s (by simp only [maxLen]; simp at hlen; omega) (by simpa using hl) (Nat.le_refl _)
        obtain ⟨A', c', rfl, h2, h3, h4⟩ := fin v' w' (by simpa using hown) (by simpa [Value.ownBlock] using hg)
        exact ⟨A', c', w', hr, h2, h3, h4⟩
      | some q =>
        obtain ⟨v', w', hr, hown, hg⟩ := run_append_arg_grows (P := P) w t ty e i0 z 1 bytes ht hi hz0 hz1 hz2 hz (by omega) q 0 0 [] rfl (by simp) b ys.length c (ys.map enc) (by simp) hnews (by omega) (by simp only [maxLen]; simp at hlen; omega) (by simpa using hl)
        obtain ⟨A', c', rfl, h2, h3, h4⟩ := fin v' w' (by simpa using hown) hg
        exact ⟨A', c', w', hr, h2, h3, h4⟩
    · obtain ⟨q, rfl, hqc⟩ := rx.2.2 g0
      have holds : ∀ j u, (xs.map enc)[j]? = some u → w.cell? (q.add j) = some u := by
        intro j u hj
        obtain ⟨hjl, hju⟩ := List.getElem?_eq_some_iff.1 hj
        simp only [List.length_map] at hjl
        rw [hqc j hjl, ← hju]
        simp [List.getD_eq_getElem?_getD, List.getElem?_eq_getElem hjl]
      obtain ⟨v', w', hr, hown, hg⟩ := run_append_arg_grows (P := P) w t ty e i0 z 1 bytes ht hi hz0 hz1 hz2 hz (by omega) q xs.length xs.length (xs.map enc) (by simp) holds b ys.length c (ys.map enc) (by simp) hnews (by omega) (by simp only [maxLen]; omega) hl
      obtain ⟨A', c', rfl, h2, h3, h4⟩ := fin v' w' hown hg
      exact ⟨A', c', w', hr, h2, h3, h4⟩
/-- The cells of a row's first elements, where a copy reads them. -/
theorem C_src {α : Type} {enc : α → Value} {h1 : ∀ x, (enc x).oneCell' = true} (d : α) {W : World} {ad : Addr} {n : Nat} {xs : List α} (h : (Kd.scalar enc h1).C W (some ad) n xs) (m : Nat) :
    ∀ j v, ((xs.take m).map enc)[j]? = some v → W.cell? (ad.add j) = some v := by
  intro j v hj
  have hr := Kd.reads_of_C (d := d) h
  obtain ⟨hl, hv⟩ := List.getElem?_eq_some_iff.1 hj
  simp at hl
  obtain ⟨ad', e, hc⟩ := hr.2.2 (by have := hr.1; omega)
  cases e
  rw [hc j (by have := hr.1; omega), ← hv]
  simp [List.getD_eq_getElem?_getD, List.getElem?_eq_getElem (show j < xs.length by omega)]
theorem setCells_below {B : Nat} (g : Nat) (hg : B ≤ g) : ∀ (vs : List Value) (o : Nat) (w : World), Below B w (w.setCells g o vs)
  | [], _, _ => Below.refl _ _
  | v :: r, o, w => ((Below.refl B w).setCell (p := ⟨g, o, none⟩) hg v).trans (setCells_below g hg r (o + 1) _)
/-- 'append(f, ys...)' onto a row of one's own that is not empty, f read on behind it: what comes back reads as f and ys, and f as it did. -/
theorem app_keep {P : Program} {α : Type} {enc : α → Value} {h1 : ∀ x, (enc x).oneCell' = true} (d : α) (W : World) (base : Nat) (t ty e : TypeId) (z : Value) (bytes : Nat)
    (ht : P.underlying t = some (.slice e)) (hinfo : (P.info? e).map (fun i => (i.zero, i.size, i.bytes)) = some (some z, 1, bytes)) (hz : z.cells.size = 1) (hb0 : 0 < bytes)
    (A : Option Addr) (cap : Nat) (xs ys : List α) (hp : 0 < xs.length) (HO : (Kd.scalar enc h1).R e W base (fun _ => True) (.slice A xs.length cap) xs) (B : Addr) (c : Nat) (hy : (Kd.scalar enc h1).C W (some B) ys.length ys)
    (hl : (xs.length + ys.length) * bytes ≤ 140737488355328) (hbase : base ≤ W.heap.size) :
    ∃ A' c' w', (Builtin.append_ #[t, t] ty #[.slice A xs.length cap, .slice (some B) ys.length c]).run P W = .ok (.slice A' (xs ++ ys).length c') w' ∧ (xs ++ ys).length ≤ c' ∧
      (Kd.scalar enc h1).C w' A' (xs ++ ys).length (xs ++ ys) ∧ (Kd.scalar enc h1).C w' A xs.length xs ∧ Below base W w' := by
  obtain ⟨i0, hi, hzz⟩ := Option.map_eq_some_iff.1 hinfo
  simp only [Prod.mk.injEq] at hzz
  obtain ⟨hz0, hz1, hz2⟩ := hzz
  have hlen : xs.length + ys.length ≤ 140737488355328 := Nat.le_trans (Nat.le_mul_of_pos_right _ hb0) hl
  have ry := Kd.reads_of_C (d := d) hy
  have hC := (Kd.R_reads' HO).2.2
  have rx := Kd.reads_of_C (d := d) hC
  have hnews : ∀ j u, (ys.map enc)[j]? = some u → W.cell? (B.add j) = some u := by
    have := C_src d hy ys.length
    rwa [List.take_length] at this
  have h1s : ∀ u ∈ ys.map enc, u.oneCell' = true := by
    intro u hu
    obtain ⟨y, _, rfl⟩ := List.mem_map.1 hu
    exact h1 y
  have hown := Kd.own_of_R HO
  obtain ⟨hxl, hown2⟩ := hown
  rcases hown2 with ⟨he, h0⟩ | ⟨g, cp, cur, he, hbg, hheap, hnc, hcm, hcs, htk⟩
  · omega
  injection he with ha _ hc
  subst ha; subst hc
  have hxs : ∀ j, j < xs.length → cur[j]? = some (enc (xs.getD j d)) := by
    intro j hj
    have h2 := rx.2.2 hp
    obtain ⟨q, e2, hq⟩ := h2
    cases e2
    have h3 := hq j hj
    rw [addr_add] at h3
    simpa [World.cell?, hheap] using h3
  have holds : ∀ j u, (xs.map enc)[j]? = some u → W.cell? ((⟨g, 0, none⟩ : Addr).add j) = some u := by
    have := C_src d hC xs.length
    rwa [List.take_length] at this
  by_cases hroom : xs.length + ys.length ≤ cap
  · have hr := run_append_room_cells (P := P) W t ty e i0 ht hi g 0 xs.length cap B ys.length c (ys.map enc) (by simp [hz1]) hnews h1s hroom
      (fun j hj => by
        simp at hj
        have : xs.length + j < cur.size := by omega
        simp [World.cell?, hheap, hz1, this])
      (fun j hj => by simp [World.frozen?, hheap])
    simp only [hz1, Nat.zero_add, Nat.mul_one] at hr
    refine ⟨some ⟨g, 0, none⟩, cap, _, by rw [List.length_append]; exact hr, by simpa using hroom, ?_, ?_, ?_⟩
    · refine Kd.C_of_reads (d := d) ⟨rfl, by simp only [maxLen] at hcm; simp; omega, fun _ => ⟨_, rfl, fun j hj => ?_⟩⟩
      rw [addr_add, Nat.zero_add]
      by_cases hjx : j < xs.length
      · rw [World.cell?_setCells_out g _ _ _ _ (fun _ _ => .inl hjx)]
        have := hxs j hjx
        simp only [World.cell?, hheap, Option.isSome_none, Bool.false_eq_true, if_false, this]
        simp [List.getD_eq_getElem?_getD, List.getElem?_append_left hjx]
      · have hj2 : j - xs.length < ys.length := by simp at hj; omega
        have hset := World.cell?_setCells_in g (ys.map enc) xs.length W (fun i hi => by
          simp at hi
          have : xs.length + i < cur.size := by omega
          simp [World.cell?, hheap, this]) (j - xs.length) (by simpa using hj2)
        rw [show xs.length + (j - xs.length) = j from by omega] at hset
        rw [hset]
        simp [List.getD_eq_getElem?_getD, List.getElem?_append_right (show xs.length ≤ j by omega), List.getElem?_eq_getElem hj2]
    · refine Kd.C_of_reads (d := d) ⟨rfl, rx.2.1, fun _ => ⟨_, rfl, fun j hj => ?_⟩⟩
      rw [addr_add, Nat.zero_add, World.cell?_setCells_out g _ _ _ _ (fun _ _ => .inl hj)]
      have := hxs j hj
      simp only [World.cell?, hheap, Option.isSome_none, Bool.false_eq_true, if_false, this]
    · exact setCells_below g hbg _ _ _
  · obtain ⟨v', w', hr, hown', hg⟩ := run_append_arg_grows (P := P) W t ty e i0 z 1 bytes ht hi hz0 hz1 hz2 hz (by omega) ⟨g, 0, none⟩ xs.length cap (xs.map enc) (by simp) holds B ys.length c (ys.map enc) (by simp) hnews (by omega) (by simp only [maxLen]; omega) hl
    have hR := Kd.R_of_own (enc := enc) (h1 := h1) (xs := xs ++ ys) (ok := fun _ => True) (by simpa [encs] using hown') (fun _ _ => trivial)
    obtain ⟨A', c', rfl, hc', hC'⟩ := Kd.R_reads hR
    exact ⟨A', c', w', hr, hc', hC', Kd.C_below hC ((Below.refl _ _).grown hg (Nat.le_refl _) (by simp)), (Below.refl _ _).grown hg hbase (by simp)⟩
/-- A region that draws its order, whose operations read and whose callees read or make memory: one walk of the text's order, over every world in which what was there is as it was. -/
theorem wp_region_below_lit {P : Program} {id : Nat} {Q : Exit → Act → World → Prop} {a : Act} {w : World} {l : List Oper} (hm : P.follows .mixedOrders = true) (hB : Region.lexB .any l.toArray = true)
    (h : wpQuiet P l.toArray (fun w' => Below w.heap.size w w') (fun a' => ∀ w', Below w.heap.size w w' → Q .normal a' w') l a) : (Code.region id l.toArray true).wp P Q a w :=
  wp_region_quiet (C := fun w' => Below w.heap.size w w') hm hB (show Below w.heap.size w w.drew from (Below.refl _ _).drew) (by simpa using h)
theorem below_all (w : World) (p : Prop) : (∀ w', Below w.heap.size w w' → p) ↔ p := ⟨fun h => h w (Below.refl _ _), fun h _ _ => h⟩
theorem bquiet {P : Program} {f : FuncId} {args : Array Value} {w w1 : World} {v : Value} (hw : Below w.heap.size w w1) (h : Calls P f args w1 fun e w' => e = .returned v ∧ Below w1.heap.size w1 w') : Calls P f args w1 fun e w'' => e = .returned v ∧ Below w.heap.size w w'' :=
  h.mono fun _ _ ⟨he, hb⟩ => ⟨he, bthen hw hb⟩
theorem bquiet0 {P : Program} {f : FuncId} {args : Array Value} {w w1 : World} {v : Value} (hw : Below w.heap.size w w1) (h : Calls P f args w1 fun e w' => e = .returned v ∧ Drawn0 w1 w') : Calls P f args w1 fun e w'' => e = .returned v ∧ Below w.heap.size w w'' :=
  h.mono fun _ _ ⟨he, hb⟩ => ⟨he, bthen hw hb.below⟩
/-- A block of one's own whose cells are told is a row of one's own. -/
theorem R_block {α : Type} {enc : α → Value} {h1 : ∀ x, (enc x).oneCell' = true} (W : World) (b base e : Nat) (xs : List α) (ok : Nat → Prop) (hb : W.heap[b]? = some (.cells (xs.map enc).toArray e (0, 0))) (hbase : base ≤ b) (hok : ok b) (hm : xs.length ≤ maxLen) :
    (Kd.scalar enc h1).R e W base ok (.slice (some ⟨b, 0, none⟩) xs.length xs.length) xs := by
  refine Kd.R_of_own (enc := enc) (h1 := h1) ?_ (fun k hk => ?_)
  · refine ⟨by simp [encs], .inr ⟨b, xs.length, _, rfl, hbase, hb, Nat.le_refl _, hm, by simp, by simp [encs, List.take_of_length_le]⟩⟩
  · have : b = k := by simpa [Value.ownBlock] using hk
    subst this; exact hok

/-- 'make([]T, n)' of any kind of whole number: the block that it lays. -/
theorem make_exact {P : Program} {ops : Array Oper} {rest : List Oper} {o : Oper} {a : Act} {Q : Exit → Act → World → Prop} {α : Type} {enc : α → Value} (z0 : α) (W : World) (e : Nat) (hw : Region.wanted o (yielded ops a.tmps) = true) (t : TypeId) (x y : Operand) (ho : o.op = .makeSlice t x y) (kl : IntKind) (n : Nat) (hx : a.eval x = .int kl n) (hy : a.eval y = .int kl n)
    (ht : P.underlying t = some (.slice e)) (z : Value) (bytes : Nat) (hinfo : (P.info? e).map (fun i => (i.zero, i.size, i.bytes)) = some (some z, 1, bytes)) (hz : z.cells = #[enc z0]) (hb0 : 0 < bytes) (hl : n * bytes ≤ 281474976710656)
    (h : wpList P ops Q rest (a.put o.dst (.slice (some ⟨W.heap.size, 0, none⟩) n n)) (W.alloc (.cells ((List.replicate n z0).map enc).toArray e))) : wpList P ops Q (o :: rest) a W := by
  obtain ⟨i0, hi, hzz⟩ := Option.map_eq_some_iff.1 hinfo
  simp only [Prod.mk.injEq] at hzz
  obtain ⟨hz0, hz1, hz2⟩ := hzz
  have hm : n ≤ 281474976710656 := Nat.le_trans (Nat.le_mul_of_pos_right _ hb0) hl
  have hr := run_make (P := P) W t e i0 z ht hi hz0 kl kl (n : Int) (n : Int) (by omega) (by omega)
    (by
      have h3 : ((i0.bytes * n : Nat) : Int) ≤ 281474976710656 := by rw [hz2, Nat.mul_comm]; omega
      rwa [Int.natCast_mul] at h3) (by omega)
  have hc : madeCells z.cells (n * 1) = ((List.replicate n z0).map enc).toArray := by
    apply Array.ext
    · simp [size_madeCells]
    · intro i h1 h2
      simp [madeCells, hz, Nat.mod_one]
  simp only [Int.toNat_natCast, hz1, hc] at hr
  exact event_run_w hw (by simp [execOp, ho, hx, hy, hr]) h
end Go.Proofs.Ytbjjpckldjjcgaa.Aid
