/- The dealer: what its functions call. -/
import Derived.Test.YtohenapbgencbaaP
import Derived.Test.YtohenapbgencbaaPKx3
import Derived.Test.YtohenapbgencbaaPKx4
import Derived.WideShapes
import Derived.Lib.SliceRun
namespace Go.Proofs.Ytohenapbgencbaa
open Go.RowKit Go.Proofs.YtohenapbgencbaaW.PrintWords Go.Proofs.YtohenapbgencbaaW.PrintLast Go.Proofs.YtohenapbgencbaaW.PrintMore Go.Proofs.Ytohenapbgencbaa.PK
set_option linter.unusedVariables false
set_option linter.unusedSimpArgs false
set_option maxHeartbeats 1000000
namespace Deal

instance : DecidableEq ByteArray := fun a b => decidable_of_iff (a.data.toList = b.data.toList) ⟨Go.WideShapes.bytes_inj, fun h => by rw [h]⟩
theorem toList_inj {a b : ByteArray} (h : a.toList = b.toList) : a = b := by rw [ByteArray.toList_eq, ByteArray.toList_eq] at h; exact Go.WideShapes.bytes_inj h
theorem info3 : (Try.prog.info? 3).map (fun i => (i.zero, i.size, i.bytes)) = some (some (.int .i64 0), 1, 8) := by kernel_rfl
theorem info9 : (Try.prog.info? 9).map (fun i => (i.zero, i.size, i.bytes)) = some (some (.string ⟨#[]⟩), 1, 16) := by kernel_rfl
theorem info42 : (Try.prog.info? 42).map (fun i => (i.zero, i.size, i.bytes)) = some (some (.agg #[.int .i64 0, .string ⟨#[]⟩, .bool false]), 3, 32) := by kernel_rfl
def hasS (l : List ByteArray) (a : ByteArray) : Bool := l.any fun x => decide (x = a)
theorem hasS_iff (l : List ByteArray) (a : ByteArray) : hasS l a = true ↔ a ∈ l := by unfold hasS; rw [List.any_eq_true]; exact ⟨fun ⟨x, h1, h2⟩ => by rw [← of_decide_eq_true h2]; exact h1, fun h => ⟨a, h, by simp⟩⟩
/-- What a function that makes a row hands back. -/
def Made {α : Type} (d : Kd α) (t : Nat) (w : World) (l : List α) (e : Ending) (w' : World) : Prop := ∃ v, e = .returned v ∧ d.R t w' w.heap.size (fun _ => True) v l ∧ Below w.heap.size w w'
theorem wrapS {i : Nat} (h : i < 1000000000) : wrap64 ((i : Int) + 1) = ((i + 1 : Nat) : Int) := by unfold wrap64; omega
theorem rd_at (l : List Int) (i : Nat) (h : i < l.length) : rd l (i : Int) = l[i] := by
  simp [rd, List.getD_eq_getElem?_getD, h]
theorem index_l (l : List Int) (a : Int) (hl : l.length ≤ 1000000) : ∀ d i k, i + d = l.length → d < k → ∃ r, slices_Index_int_int.l0 k l a (l.length : Int) (i : Int) = some r ∧ (0 ≤ r ↔ a ∈ l.drop i) := by
  intro d
  induction d with
  | zero =>
    intro i k hi hk
    obtain ⟨k, rfl⟩ : ∃ m, k = m + 1 := ⟨k - 1, by omega⟩
    refine ⟨-1, by simp only [slices_Index_int_int.l0]; rw [if_neg (by omega)], ?_⟩
    rw [List.drop_of_length_le (by omega)]
    simp
  | succ d ih =>
    intro i k hi hk
    obtain ⟨k, rfl⟩ : ∃ m, k = m + 1 := ⟨k - 1, by omega⟩
    have hlt : i < l.length := by omega
    simp only [slices_Index_int_int.l0]
    rw [if_pos (by omega), if_pos (by omega), if_pos (by omega), rd_at l i hlt, wrapS (by omega)]
    have hdrop : l.drop i = l[i] :: l.drop (i + 1) := (List.drop_eq_getElem_cons hlt)
    by_cases h : a = l[i]
    · refine ⟨(i : Int), by rw [if_pos h], ?_⟩
      rw [hdrop, List.mem_cons]
      simp [h]
    · obtain ⟨r, h1, h2⟩ := ih (i + 1) k (by omega) (by omega)
      refine ⟨r, by rw [if_neg h]; exact h1, h2.trans ?_⟩
      rw [hdrop, List.mem_cons]
      simp [h]
theorem Contains (A : Option Addr) (c : Nat) (l : List Int) (a : Int) (w : World) (hr : Kd.C (Kd.int .i64) w A l.length l) (hc : l.length ≤ c) (hl : l.length ≤ 1000000) :
    Calls Try.prog 22 #[.slice A l.length c, .int .i64 a] w fun e w' => e = .returned (.bool (decide (a ∈ l))) ∧ Drawn0 w w' := by
  obtain ⟨r, h1, h2⟩ := index_l l a hl l.length 0 (l.length + 1) (by omega) (by omega)
  refine slices_Contains_int_int.calls (l.length + 1) A c l a _ w hr hc ?_
  unfold slices_Contains_int_int.f slices_Index_int_int.f
  have h1' : slices_Index_int_int.l0 (l.length + 1) l a (l.length : Int) 0 = some r := h1
  rw [h1', Option.bind_some]
  congr 1
  rw [Bool.eq_iff_iff]
  simpa using h2
theorem index_s (l : List ByteArray) (a : ByteArray) (hl : l.length ≤ 1000000) : ∀ d i k, i + d = l.length → d < k → ∃ r, slices_Index_string_string.l0 k l a (l.length : Int) (i : Int) = some r ∧ (0 ≤ r ↔ a ∈ l.drop i) := by
  intro d
  induction d with
  | zero =>
    intro i k hi hk
    obtain ⟨k, rfl⟩ : ∃ m, k = m + 1 := ⟨k - 1, by omega⟩
    refine ⟨-1, by simp only [slices_Index_string_string.l0]; rw [if_neg (by omega)], ?_⟩
    rw [List.drop_of_length_le (by omega)]
    simp
  | succ d ih =>
    intro i k hi hk
    obtain ⟨k, rfl⟩ : ∃ m, k = m + 1 := ⟨k - 1, by omega⟩
    have hlt : i < l.length := by omega
    have hrd : rdOf ByteArray.empty l (i : Int) = l[i] := by simp [rdOf, List.getD_eq_getElem?_getD, hlt]
    simp only [slices_Index_string_string.l0]
    rw [if_pos (by omega), if_pos (by omega), if_pos (by omega), hrd, wrapS (by omega)]
    have hdrop : l.drop i = l[i] :: l.drop (i + 1) := (List.drop_eq_getElem_cons hlt)
    by_cases h : a = l[i]
    · refine ⟨(i : Int), by rw [if_pos (by rw [h])], ?_⟩
      rw [hdrop, List.mem_cons]
      simp [h]
    · obtain ⟨r, h1, h2⟩ := ih (i + 1) k (by omega) (by omega)
      refine ⟨r, ?_, h2.trans ?_⟩
      · rw [if_neg (fun e => h (toList_inj e))]; exact h1
      · rw [hdrop, List.mem_cons]
        simp [h]
theorem ContainsS (A : Option Addr) (c : Nat) (l : List ByteArray) (a : ByteArray) (w : World) (hr : Kd.C Kd.string w A l.length l) (hc : l.length ≤ c) (hl : l.length ≤ 1000000) :
    Calls Try.prog 30 #[.slice A l.length c, .string a] w fun e w' => e = .returned (.bool (hasS l a)) ∧ Drawn0 w w' := by
  obtain ⟨r, h1, h2⟩ := index_s l a hl l.length 0 (l.length + 1) (by omega) (by omega)
  refine slices_Contains_string_string.calls (l.length + 1) A c l a _ w hr hc ?_
  unfold slices_Contains_string_string.f slices_Index_string_string.f
  have h1' : slices_Index_string_string.l0 (l.length + 1) l a (l.length : Int) 0 = some r := h1
  rw [h1', Option.bind_some]
  congr 1
  rw [Bool.eq_iff_iff, hasS_iff]
  simpa using h2
/-- slices.Clone of whole numbers. -/
theorem CloneI (A : Option Addr) (c : Nat) (l : List Int) (w : World) (hr : Kd.C (Kd.int .i64) w A l.length l) (hc : l.length ≤ c) (hl : l.length ≤ 1000000) :
    Calls Try.prog 20 #[.slice A l.length c] w (Made (Kd.int .i64) 3 w l) := by
  cases A with
  | none =>
    obtain rfl : l = [] := by
      cases l with
      | nil => rfl
      | cons x l => obtain ⟨ad, e, _⟩ := hr.2.2 (by simp); cases e
    clear hr
    have q22 : ∀ (W : World), (binOp .eql 22 (.slice none 0 c) (.slice none 0 0)).run Try.prog W = .ok (.bool true) W := fun W => Lib.run_eql_slice_nil W _ _ none 0 c 0 0 Try.underlying22
    go_enter Try.func20, Try.ntmps20
    go_wp2_with fail
    go_ret
    exact ⟨_, rfl, Kd.R_nil _ _ _ _ _, Below.refl _ _⟩
  | some ad =>
    have HR := Aside0.mk hr; clear hr
    have q22 : ∀ (W : World), (binOp .eql 22 (.slice (some ad) l.length c) (.slice none 0 0)).run Try.prog W = .ok (.bool false) W := fun W => Lib.run_eql_slice_nil W _ _ (some ad) l.length c 0 0 Try.underlying22
    go_enter Try.func20, Try.ntmps20
    go_wp2_with (first | ((with_reducible refine gate_dst (N := 5) rfl ?_); refine Kd.R_lit (Kd.int .i64) _ 3 ?hg (N := 5) ?hd (xs := ([] : List Int)) (inner := []) (ok := fun _ => True) (okp := fun _ => True) ?hr ?hp (fun _ hk => hk) trivial (Below.refl _ _) (Nat.le_refl _) (by simp) ?_; (case hd => rfl); (case hg => rfl); (case hr => first | (go_simp; done) | (go_simp; rfl)); (case hp => exact (Reps.none _ _)); intro v5 w8 ho9 hb hg_ hnew_; clear hg_ hnew_; have HB := Aside0.mk hb; have HO5 := Aside0.mk ho9; clear hb ho9) | ((with_reducible refine gate_builtin (b := .append) (xs := #[.tmp 5, .tmp 6]) rfl ?_); at_builtin; refine Kd.R_append_rows (Kd.int .i64) (w0 := w) w.heap.size rfl (.tmp 5) (.tmp 6) 22 3 (.int .i64 0) 8 rfl Try.underlying22 info3 rfl (by decide) (by omega) v5 ([] : List Int) l _ _ _ (fun _ => True) (fun _ => False) rfl rfl ?aO ?aR (fun _ _ h => h) (fun _ h => h.elim) ?aF ?aB ?aS ?aL ?_; (case aR => exact (Kd.C_below HR.out HB.out)); (case aB => exact HB.out); (case aF => exact (fun _ _ => trivial)); (case aO => exact HO5.out); (case aS => exact (below_size HB.out)); (case aL => simp; omega); intro v120 w10 ho hb hg hat; rw [List.nil_append] at ho; clear HB; clear HO5; have HB := Aside0.mk hb; have HO7 := Aside0.mk ho; clear ho hb hg hat))
    go_ret
    exact ⟨_, rfl, HO7.out, HB.out⟩
/-- slices.Clone of deeds. -/
theorem CloneD (A : Option Addr) (c : Nat) (l : List S53) (w : World) (hr : Kd.C k53 w A l.length l) (hc : l.length ≤ c) (hl : l.length ≤ 1000000) :
    Calls Try.prog 26 #[.slice A l.length c] w (Made k53 42 w l) := by
  cases A with
  | none =>
    obtain rfl : l = [] := by
      cases l with
      | nil => rfl
      | cons x l => obtain ⟨ad, e, _⟩ := hr.2.2 (by simp); cases e
    clear hr
    have q22 : ∀ (W : World), (binOp .eql 38 (.slice none 0 c) (.slice none 0 0)).run Try.prog W = .ok (.bool true) W := fun W => Lib.run_eql_slice_nil W _ _ none 0 c 0 0 Try.underlying38
    go_enter Try.func26, Try.ntmps26
    go_wp2_with fail
    go_ret
    exact ⟨_, rfl, Kd.R_nil _ _ _ _ _, Below.refl _ _⟩
  | some ad =>
    have HR := Aside0.mk hr; clear hr
    have q22 : ∀ (W : World), (binOp .eql 38 (.slice (some ad) l.length c) (.slice none 0 0)).run Try.prog W = .ok (.bool false) W := fun W => Lib.run_eql_slice_nil W _ _ (some ad) l.length c 0 0 Try.underlying38
    go_enter Try.func26, Try.ntmps26
    go_wp2_with (first | ((with_reducible refine gate_dst (N := 5) rfl ?_); refine Kd.R_lit k53 _ 42 ?hg (N := 5) ?hd (xs := ([] : List S53)) (inner := []) (ok := fun _ => True) (okp := fun _ => True) ?hr ?hp (fun _ hk => hk) trivial (Below.refl _ _) (Nat.le_refl _) (by simp) ?_; (case hd => rfl); (case hg => rfl); (case hr => first | (go_simp; done) | (go_simp; rfl)); (case hp => exact (Reps.none _ _)); intro v5 w8 ho9 hb hg_ hnew_; clear hg_ hnew_; have HB := Aside0.mk hb; have HO5 := Aside0.mk ho9; clear hb ho9) | ((with_reducible refine gate_builtin (b := .append) (xs := #[.tmp 5, .tmp 6]) rfl ?_); at_builtin; refine Kd.R_append_rows k53 (w0 := w) w.heap.size rfl (.tmp 5) (.tmp 6) 38 42 (.agg #[.int .i64 0, .string ⟨#[]⟩, .bool false]) 32 rfl Try.underlying38 info42 rfl (by decide) (by omega) v5 ([] : List S53) l _ _ _ (fun _ => True) (fun _ => False) rfl rfl ?aO ?aR (fun _ _ h => h) (fun _ h => h.elim) ?aF ?aB ?aS ?aL ?_; (case aR => exact (Kd.C_below HR.out HB.out)); (case aB => exact HB.out); (case aF => exact (fun _ _ => trivial)); (case aO => exact HO5.out); (case aS => exact (below_size HB.out)); (case aL => simp; omega); intro v120 w10 ho hb hg hat; rw [List.nil_append] at ho; clear HB; clear HO5; have HB := Aside0.mk hb; have HO7 := Aside0.mk ho; clear ho hb hg hat))
    go_ret
    exact ⟨_, rfl, HO7.out, HB.out⟩
end Deal
end Go.Proofs.Ytohenapbgencbaa
