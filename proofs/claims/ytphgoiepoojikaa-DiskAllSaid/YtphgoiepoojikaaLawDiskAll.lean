/- The row of DiskAll: whatever the input, the law returns true; the input reads as it did. No condition. -/
import Derived.Test.YtphgoiepoojikaaRows
import Derived.Test.YtphgoiepoojikaaM
import Derived.Test.YtphgoiepoojikaaU2
import Derived.WalkKit
import Derived.ProofKit
import Derived.OpenShut
import Derived.ShutString
import Derived.ChangeOld
import Derived.Below
import Derived.SizedLaws
import Derived.Test.YtphgoiepoojikaaWSized
namespace Go.Proofs.Ytphgoiepoojikaa.diskAll
open Go.ChangeShapes Go.WideShapes Go.ChangeAt Go.RowKit
open Go.Proofs.Ytphgoiepoojikaa Go.Proofs.YtphgoiepoojikaaW.PrintWords Go.Proofs.YtphgoiepoojikaaW.PrintLast Go.Proofs.YtphgoiepoojikaaW.PrintMore Go.Proofs.Ytphgoiepoojikaa.PK Go.Proofs.Ytphgoiepoojikaa.Disk
open Go.ChangeMaps (open_string shut_string)
set_option linter.unusedVariables false
theorem own : ownKnob Try.prog.godebug = none := by kernel_rfl
theorem laidOut : laidOutB Try.prog = true := by kernel_rfl
def IsRow (k : IntKind) (w : World) (a : Option Addr) (len cap : Nat) (zs : List Int) : Prop :=
  (a = none ∧ len = 0 ∧ cap = 0 ∧ zs = []) ∨
  ∃ x, a = some x ∧ len ≤ cap ∧ cap ≤ maxLen ∧ zs.length = cap ∧ (∀ i, i < zs.length → w.cell? (x.add i) = some (.int k (zs.getD i 0))) ∧ ∀ n ∈ zs, (Lit.int k n).wf = true
set_option maxRecDepth 100000 in
theorem lifted (os : Os) (started : os.Started) (H : Type) (enc : TypeId × Value → H) :
    ReturnsInHanded {} Try.checked os 4 .any (Rows.diskAllSpec.pre6 enc Try.prog Try.f4 Rows.diskAllRow.domain false) (Rows.diskAllSpec.post enc Try.prog Try.f4 false true false false) := by
  refine returnsInHanded_of_change_sized (C := Try.checked) own started (by kernel_rfl) Try.func4
    (ChangeSpec.witness6 (enc := enc) (C := Try.checked) false ⟨#[], #[.slice none 0 0, .slice none 0 0], []⟩ 8 (by kernel_rfl) (by kernel_rfl) (by kernel_rfl) (by kernel_rfl)) ?_
  intro W base args ds gs before hval0 hW hcnd hsz0 _
  have hsz : (DataW.weightsEach Try.prog (Try.f4.params.toList ++ Rows.diskAllSpec.plain.varTypes Try.prog) (ds ++ gs)).all (· ≤ reachBytes) = true := hsz0
  have hval : ∀ (j : Nat) t v, Try.f4.params[j]? = some t → args[j]? = some v → Value.okWide Try.prog W .any base t v := hval0
  have hW' := hW
  obtain ⟨p, q, hA0, hV, rfl, hfz, hnd⟩ := hW
  have hA : DataW.TrodAll enc Try.prog W 0 (fun _ => true) true Try.f4.params.toList args.toList ds p := hA0
  rw [Try.params4] at hA hval hsz
  obtain ⟨v0, vs0, d0, ds0, p0, q0, hargs, rfl, rfl, h0, r0⟩ := trodAll_cons hA
  obtain ⟨v1, vs1, d1, ds1, p1, q1, rfl, rfl, rfl, h1, r1⟩ := trodAll_cons r0
  obtain ⟨rfl, rfl, rfl⟩ := trodAll_nil r1
  obtain rfl : args = #[v0, v1] := by cases args; simp_all
  obtain ⟨rfl, rfl⟩ := trodVars_none hV
  obtain ⟨b0, len0, cap0, rfl⟩ := okWide_slice Try.underlying22 (hval 0 22 v0 rfl rfl)
  have k0 := h0
  have lt0 : ∀ x ∈ p0, x.block < W.heap.size := by obtain ⟨m, hm⟩ := k0; exact DataW.trod_lt m _ _ _ hm
  obtain ⟨a0, cap0', l0, e0, hc0, _, hr0⟩ : ∃ (a : Option Addr) (cap : Nat) (xs : List Int), [Value.slice b0 len0 cap0] = [.slice a xs.length cap] ∧ xs.length ≤ cap ∧ cap ≤ maxLen ∧ Kd.C (Kd.int .u8) W a xs.length xs := by obtain ⟨fuel, hf⟩ := h0; exact Came.open_kd (Kd.int .u8) Try.underlying22 (by kernel_rfl) (Came.int_kd Try.underlying5) hf
  injection e0 with e0; injection e0 with ea0 eb0 ec0; subst ea0; subst eb0; subst ec0
  obtain ⟨b1, len1, cap1, rfl⟩ := okWide_slice Try.underlying35 (hval 1 35 v1 rfl rfl)
  have k1 := h1
  have lt1 : ∀ x ∈ p1, x.block < W.heap.size := by obtain ⟨m, hm⟩ := k1; exact DataW.trod_lt m _ _ _ hm
  obtain ⟨a1, cap1', l1, e1, hc1, hm1, hr1, hQ1⟩ : ∃ (a : Option Addr) (cap : Nat) (xs : List S38), [Value.slice b1 len1 cap1] = [.slice a xs.length cap] ∧ xs.length ≤ cap ∧ cap ≤ maxLen ∧ Kd.C k38 W a xs.length xs ∧ ∀ y ∈ xs, y.f1 ≤ 9223372036854775807 := by obtain ⟨fuel, hf⟩ := h1; exact Came.open_kdQ k38 (fun y => y.f1 ≤ 9223372036854775807) Try.underlying35 (by kernel_rfl) Came.op_kdQ hf
  injection e1 with e1; injection e1 with ea1 eb1 ec1; subst ea1; subst eb1; subst ec1
  have hM1 : l1.length ≤ 9223372036854775807 := Kd.C_max hr1
  clear hA0 hval0 hsz0 hsz
  have hw2 : ∀ j : Nat, j < l1.length → (rd_T38 l1 (j : Int)).f1 ≤ 9223372036854775807 := fun j hj => by
    have : rd_T38 l1 (j : Int) = l1[j] := by unfold rd_T38; simp [List.getD_eq_getElem?_getD, List.getElem?_eq_getElem hj]
    rw [this]
    exact hQ1 _ (List.getElem_mem hj)
  refine (DiskAll _ _ l0 _ _ l1 W hr0 hc0 hr1 hc1 hM1 hw2).mono fun e W' ⟨he, bel⟩ => ?_
  subst he
  exact ⟨_, rfl, _, _, _, [], _, [], hW', trodAll_mk1 (shut_bool Try.underlying4 _), (trodAll_cons_mk (Below.trod laidOut (by kernel_rfl) (of_decide_eq_true (by kernel_rfl)) k0 bel lt0) (trodAll_cons_mk (Below.trod laidOut (by kernel_rfl) (of_decide_eq_true (by kernel_rfl)) k1 bel lt1) trodAll_mk0)), rfl, bel.frame _, fun h => by cases h⟩
theorem over : Rows.diskAllRow.holds Try.pinned (OpenSpec.ofChange Rows.diskAllSpec) :=
  OpenClaim.holds_of_wide 4 Try.f4 rfl rfl rfl rfl rfl rfl rfl ⟨rfl, rfl, rfl, rfl, rfl⟩ rfl rfl rfl rfl rfl (by kernel_rfl) Try.func4 (by kernel_rfl)
    (of_decide_eq_true (by kernel_rfl)) (by unfold Func.isWrapper; first | (rw [if_pos (by decide +kernel)]; kernel_rfl) | (rw [if_neg (by decide +kernel)]; exact ⟨rfl, rfl⟩))
    (fun os started H enc _ => lifted os started H enc)
theorem proved : Rows.DiskAllSaid := over
#print axioms proved
end Go.Proofs.Ytphgoiepoojikaa.diskAll
namespace Go.Proofs.Ytphgoiepoojikaa
/-- The row, under a short name, for the claim. -/
theorem diskAll_holds : Rows.DiskAllSaid := diskAll.proved
end Go.Proofs.Ytphgoiepoojikaa
