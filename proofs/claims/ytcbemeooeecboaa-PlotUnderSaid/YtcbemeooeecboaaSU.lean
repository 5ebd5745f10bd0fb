/- What came in: a slice of structs, opened as a row of kinds. -/
import Derived.Test.YtcbemeooeecboaaPKx0
import Derived.Deep.Strs
import Derived.ChangeSame
import Derived.OpenShut
import Derived.SizedLaws
namespace Go.Proofs.Ytcbemeooeecboaa
open Go.Proofs.Ytcbemeooeecboaa.PK Go.RowKit Go.Proofs.YtcbemeooeecboaaW.PrintWords Go.Proofs.YtcbemeooeecboaaW.PrintLast Go.Proofs.YtcbemeooeecboaaW.PrintMore
open Go.ChangeShapes
set_option linter.unusedVariables false
set_option linter.unusedSimpArgs false
namespace Came

theorem add_add (ad : Addr) (lo j : Nat) : (ad.add lo).add j = ad.add (lo + j) := by
  simp only [Addr.add]
  by_cases h0 : lo = 0 <;> by_cases h3 : j = 0 <;> simp [h0, h3, Nat.add_assoc]
section
variable {H : Type} {enc : TypeId × Value → H} {P : Program} {w : World} {base : Nat} {spare : Nat → Bool} {held : Bool}
theorem cells_get {a : Addr} {n : Nat} {cs : List Value} (h : w.cells? base a n = some cs) : cs.length = n ∧ ∀ i u, cs[i]? = some u → w.cell? (a.add i) = some u := by
  unfold World.cells? at h
  split at h
  case isFalse => cases h
  have hl : cs.length = n := by simpa using mapM_some_length h
  refine ⟨hl, fun i u hu => ?_⟩
  have hi : i < n := by rw [← hl]; exact (List.getElem?_eq_some_iff.1 hu).1
  have := mapM_some_get h i i (by simp [hi])
  rw [this, hu]
/-- A slice whose elements are of a kind. -/
theorem open_kd {α : Type} (d : Kd α) {t e : TypeId} (ht : P.underlying t = some (.slice e)) (hc : P.cellsOf e = d.sz)
    (hel : ∀ n cs x, DataW.trod enc P w base spare held n e cs = some x → ∃ y : α, d.K w y cs) {fuel : Nat} {cs : List Value} {x : DataW H × List MemPlace} (h : DataW.trod enc P w base spare held fuel t cs = some x) :
    ∃ (a : Option Addr) (cap : Nat) (xs : List α), cs = [.slice a xs.length cap] ∧ xs.length ≤ cap ∧ cap ≤ maxLen ∧ d.C w a xs.length xs := by
  rcases DataW.trod_slice ht h with ⟨rfl, _⟩ | ⟨a, len, cap, elems, rest, n, _, rfl, _, hb, hl, hm, hlen, hE, _, _⟩
  · exact ⟨none, 0, [], rfl, Nat.le_refl _, by decide, Kd.C_nil d w⟩
  · have key : ∀ m, m ≤ len → ∃ xs : List α, xs.length = m ∧ ∀ j p, xs[j]? = some p → ∃ c, c.length = d.sz ∧ d.K w p c ∧ ∀ i u, c[i]? = some u → w.cell? (a.add (j * d.sz + i)) = some u := by
      intro m
      induction m with
      | zero => exact fun _ => ⟨[], rfl, fun j p hj => by cases hj⟩
      | succ m ih =>
        intro hm'
        obtain ⟨xs, hx, hp⟩ := ih (by omega)
        have hi := hE m (by omega)
        rw [List.getElem?_eq_getElem (by omega), Option.bind_eq_some_iff] at hi
        obtain ⟨c, hc1, hc2⟩ := hi
        obtain ⟨y, hy⟩ := hel _ _ _ hc2
        obtain ⟨hc3, hc4⟩ := cells_get hc1
        refine ⟨xs ++ [y], by simp [hx], fun j p hj => ?_⟩
        by_cases hjm : j < m
        · rw [List.getElem?_append_left (by omega)] at hj
          exact hp j p hj
        · have hjl : j < (xs ++ [y]).length := (List.getElem?_eq_some_iff.1 hj).1
          have hj2 : j = m := by rw [List.length_append, hx] at hjl; simp at hjl; omega
          subst hj2
          rw [List.getElem?_append_right (by omega), hx, Nat.sub_self] at hj
          cases hj
          refine ⟨c, by rw [hc3, hc], hy, fun i u hu => ?_⟩
          have := hc4 i u hu
          rwa [add_add, hc] at this
    obtain ⟨xs, hx, hp⟩ := key len (Nat.le_refl _)
    subst hx
    refine ⟨some a, cap, xs, rfl, hl, hm, rfl, Nat.le_trans hl (by simpa [maxLen] using hm), fun _ => ⟨a, rfl, hp⟩⟩
theorem int_kd {k : IntKind} {t : TypeId} (ht : P.underlying t = some (.int k)) : ∀ n cs x, DataW.trod enc P w base spare held n t cs = some x → ∃ y : Int, (Kd.int k).K w y cs := by
  intro n cs x h
  obtain ⟨y, rfl, _, _⟩ := DataW.trod_int ht h
  exact ⟨y, rfl⟩
/-- A slice whose elements are of a kind, and meet a condition. -/
theorem open_kdQ {α : Type} (d : Kd α) (Q : α → Prop) {t e : TypeId} (ht : P.underlying t = some (.slice e)) (hc : P.cellsOf e = d.sz)
    (hel : ∀ n cs x, DataW.trod enc P w base spare held n e cs = some x → ∃ y : α, d.K w y cs ∧ Q y) {fuel : Nat} {cs : List Value} {x : DataW H × List MemPlace} (h : DataW.trod enc P w base spare held fuel t cs = some x) :
    ∃ (a : Option Addr) (cap : Nat) (xs : List α), cs = [.slice a xs.length cap] ∧ xs.length ≤ cap ∧ cap ≤ maxLen ∧ d.C w a xs.length xs ∧ ∀ y ∈ xs, Q y := by
  rcases DataW.trod_slice ht h with ⟨rfl, _⟩ | ⟨a, len, cap, elems, rest, n, _, rfl, _, hb, hl, hm, hlen, hE, _, _⟩
  · exact ⟨none, 0, [], rfl, Nat.le_refl _, by decide, Kd.C_nil d w, (fun y hy => by cases hy)⟩
  · have key : ∀ m, m ≤ len → ∃ xs : List α, xs.length = m ∧ (∀ y ∈ xs, Q y) ∧ ∀ j p, xs[j]? = some p → ∃ c, c.length = d.sz ∧ d.K w p c ∧ ∀ i u, c[i]? = some u → w.cell? (a.add (j * d.sz + i)) = some u := by
      intro m
      induction m with
      | zero => exact fun _ => ⟨[], rfl, (fun y hy => by cases hy), (fun j p hj => by cases hj)⟩
      | succ m ih =>
        intro hm'
        obtain ⟨xs, hx, hq, hp⟩ := ih (by omega)
        have hi := hE m (by omega)
        rw [List.getElem?_eq_getElem (by omega), Option.bind_eq_some_iff] at hi
        obtain ⟨c, hc1, hc2⟩ := hi
        obtain ⟨y, hy, hyq⟩ := hel _ _ _ hc2
        obtain ⟨hc3, hc4⟩ := cells_get hc1
        refine ⟨xs ++ [y], by simp [hx], fun z hz => ?_, fun j p hj => ?_⟩
        · rcases List.mem_append.1 hz with h | h
          · exact hq z h
          · simp at h; rw [h]; exact hyq
        by_cases hjm : j < m
        · rw [List.getElem?_append_left (by omega)] at hj
          exact hp j p hj
        · have hjl : j < (xs ++ [y]).length := (List.getElem?_eq_some_iff.1 hj).1
          have hj2 : j = m := by rw [List.length_append, hx] at hjl; simp at hjl; omega
          subst hj2
          rw [List.getElem?_append_right (by omega), hx, Nat.sub_self] at hj
          cases hj
          refine ⟨c, by rw [hc3, hc], hy, fun i u hu => ?_⟩
          have := hc4 i u hu
          rwa [add_add, hc] at this
    obtain ⟨xs, hx, hq, hp⟩ := key len (Nat.le_refl _)
    subst hx
    refine ⟨some a, cap, xs, rfl, hl, hm, ⟨rfl, Nat.le_trans hl (by simpa [maxLen] using hm), fun _ => ⟨a, rfl, hp⟩⟩, hq⟩
end
section
variable {H : Type} {enc : TypeId × Value → H} {w : World} {base : Nat} {spare : Nat → Bool} {held : Bool}
theorem struct3 {P : Program} {t : TypeId} {f0 f1 f2 : Field} {fuel : Nat} {cs : List Value} {x : DataW H × List MemPlace} (ht : P.underlying t = some (.struct #[f0, f1, f2])) (h : DataW.trod enc P w base spare held fuel t cs = some x) :
    ∃ y0 y1 y2 n, cs.length = P.cellsOf t ∧ DataW.trod enc P w base spare held n f0.type ((cs.drop f0.offset).take (P.cellsOf f0.type)) = some y0 ∧
      DataW.trod enc P w base spare held n f1.type ((cs.drop f1.offset).take (P.cellsOf f1.type)) = some y1 ∧ DataW.trod enc P w base spare held n f2.type ((cs.drop f2.offset).take (P.cellsOf f2.type)) = some y2 := by
  obtain ⟨xs, n, _, rfl, hl, hlen, hf⟩ := DataW.trod_struct ht h
  match xs, hlen with
  | [y0, y1, y2], _ => exact ⟨y0, y1, y2, n, hl, by simpa using hf 0 f0 rfl, by simpa using hf 1 f1 rfl, by simpa using hf 2 f2 rfl⟩
set_option maxRecDepth 100000 in
theorem node_kdQ : ∀ n cs x, DataW.trod enc Try.prog w base spare held n 44 cs = some x → ∃ y : S44, k44.K w y cs ∧ y.f1.size ≤ maxLen := by
  intro n cs x h
  obtain ⟨y0, y1, y2, m, hl, h0, h1, h2⟩ := struct3 Try.underlying44 h
  have hl3 : cs.length = 3 := hl.trans (by kernel_rfl)
  have e1 : Try.prog.cellsOf 3 = 1 := by kernel_rfl
  have e2 : Try.prog.cellsOf 9 = 1 := by kernel_rfl
  match cs, hl3 with
  | [c0, c1, c2], _ =>
    simp only [e1, e2, List.drop_zero, List.drop_succ_cons, List.take_succ_cons, List.take_zero] at h0 h1 h2
    obtain ⟨n0, e0, _, _⟩ := DataW.trod_int Try.underlying3 h0
    obtain ⟨s1, e1', _, hs⟩ := DataW.trod_string Try.underlying9 h1
    obtain ⟨n2, e2', _, _⟩ := DataW.trod_int Try.underlying3 h2
    injection e0 with e0; injection e1' with e1'; injection e2' with e2'
    subst e0; subst e1'; subst e2'
    exact ⟨⟨n0, s1, n2⟩, k44_mk w ⟨n0, s1, n2⟩, hs⟩
theorem node_K {y : S44} {cs : List Value} (h : k44.K w y cs) : cs = [.int .i64 y.f0, .string y.f1, .int .i64 y.f2] := k44_open h
set_option maxRecDepth 100000 in
theorem pair_kd : ∀ n cs x, DataW.trod enc Try.prog w base spare held n 33 cs = some x → ∃ y : Int × Int, cs = [.int .i64 y.1, .int .i64 y.2] := by
  intro n cs x h
  obtain ⟨xs, m, _, _, hl, hx, hE⟩ := DataW.trod_array Try.underlying33 h
  have hl2 : cs.length = 2 := hl.trans (by kernel_rfl)
  have e1 : Try.prog.cellsOf 3 = 1 := by kernel_rfl
  match cs, hl2 with
  | [c0, c1], _ =>
    have h0 := hE 0 (by decide)
    have h1 := hE 1 (by decide)
    rw [List.getElem?_eq_getElem (by omega)] at h0 h1
    simp only [e1, Nat.zero_mul, Nat.one_mul, List.drop_zero, List.drop_succ_cons, List.take_succ_cons, List.take_zero] at h0 h1
    obtain ⟨n0, e0, _, _⟩ := DataW.trod_int Try.underlying3 h0
    obtain ⟨n1, e1', _, _⟩ := DataW.trod_int Try.underlying3 h1
    injection e0 with e0; injection e1' with e1'
    subst e0; subst e1'
    exact ⟨(n0, n1), rfl⟩
theorem okWide_array {P : Program} {w : World} {r : Reach} {base : Nat} {t : TypeId} {v : Value} {n : Nat} {e : TypeId} (ht : P.underlying t = some (.array n e)) (h : Value.okWide P w r base t v) : ∃ cs, v = .agg cs ∧ cs.size = P.cellsOf t := by
  simp only [Value.okWide, ht] at h
  obtain ⟨cs, h1, h2, _⟩ := h
  exact ⟨cs, h1, h2⟩
/-- A row that came in is no longer than its weight allows. -/
theorem sized_row {P : Program} {t e : TypeId} {a : Option Addr} {len cap : Nat} {d : DataW H} {ps : List MemPlace} {ts : List TypeId} {ds : List (DataW H)} {j : Nat}
    (hsz : (DataW.weightsEach P ts ds).all (· ≤ reachBytes) = true) (ht : ts[j]? = some t) (hd : ds[j]? = some d) (hu : P.underlying t = some (.slice e)) {B : Nat} (hB : P.bytesOf e = B)
    (h : DataW.Trod enc P w base spare held t (.slice a len cap) d ps) : len * B ≤ 140737488351232 := by
  obtain ⟨fuel, hf⟩ := h
  rcases DataW.trod_slice hu hf with ⟨hcs, _⟩ | ⟨a', len', cap', elems, rest, n, _, hcs, hx, _, _, _, hlen, _⟩
  · simp [Value.cells] at hcs
    obtain ⟨_, rfl, _⟩ := hcs
    simp
  · simp [Value.cells] at hcs
    obtain ⟨_, rfl, _⟩ := hcs
    obtain ⟨hx, _⟩ := Prod.mk.inj hx
    subst hx
    have z := sized_slice hsz ht hd hu
    rw [hB, List.length_map, hlen] at z
    exact Nat.le_trans (Nat.mul_le_mul_right _ (Nat.le_add_right _ _)) z
theorem bytes44 : Try.prog.bytesOf 44 = 32 := by kernel_rfl
end
end Came
end Go.Proofs.Ytcbemeooeecboaa
