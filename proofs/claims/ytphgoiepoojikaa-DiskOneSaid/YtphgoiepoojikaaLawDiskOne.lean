/- The row of DiskOne: whatever the input, the law returns true; the input reads as it did. No condition. -/
import Derived.Test.YtphgoiepoojikaaRows
import Derived.Test.YtphgoiepoojikaaG
import Derived.Test.YtphgoiepoojikaaU
import Derived.WalkKit
import Derived.ProofKit
import Derived.OpenShut
import Derived.ShutString
import Derived.ChangeOld
import Derived.Below
import Derived.SizedLaws
import Derived.Test.YtphgoiepoojikaaWSized
namespace Go.Proofs.Ytphgoiepoojikaa.diskOne
open Go.ChangeShapes Go.WideShapes Go.ChangeAt Go.RowKit
open Go.Proofs.Ytphgoiepoojikaa Go.Proofs.YtphgoiepoojikaaW.PrintWords Go.Proofs.YtphgoiepoojikaaW.PrintLast Go.Proofs.YtphgoiepoojikaaW.PrintMore Go.Proofs.Ytphgoiepoojikaa.PK Go.Proofs.Ytphgoiepoojikaa.Disk
open Go.ChangeMaps (open_string shut_string)
set_option linter.unusedVariables false
theorem own : ownKnob Try.prog.godebug = none := by kernel_rfl
theorem laidOut : laidOutB Try.prog = true := by kernel_rfl
def IsRow (k : IntKind) (w : World) (a : Option Addr) (len cap : Nat) (zs : List Int) : Prop :=
  (a = none ∧ len = 0 ∧ cap = 0 ∧ zs = []) ∨
  ∃ x, a = some x ∧ len ≤ cap ∧ cap ≤ maxLen ∧ zs.length = cap ∧ (∀ i, i < zs.length → w.cell? (x.add i) = some (.int k (zs.getD i 0))) ∧ ∀ n ∈ zs, (Lit.int k n).wf = true
set_option maxRecDepth 100000 in
theorem lifted (os : Os) (started : os.Started) (H : Type) (enc : TypeId × Value → H) :
    ReturnsInHanded {} Try.checked os 5 .any (Rows.diskOneSpec.pre6 enc Try.prog Try.f5 Rows.diskOneRow.domain false) (Rows.diskOneSpec.post enc Try.prog Try.f5 false true false false) := by
  refine returnsInHanded_of_change_sized (C := Try.checked) own started (by kernel_rfl) Try.func5
    (ChangeSpec.witness6 (enc := enc) (C := Try.checked) false ⟨#[], #[.slice none 0 0, .agg #[.int .i64 0, .int .i64 0, .slice none 0 0], .int .i64 0], []⟩ 8 (by kernel_rfl) (by kernel_rfl) (by kernel_rfl) (by kernel_rfl)) ?_
  intro W base args ds gs before hval0 hW hcnd hsz0 _
  have hsz : (DataW.weightsEach Try.prog (Try.f5.params.toList ++ Rows.diskOneSpec.plain.varTypes Try.prog) (ds ++ gs)).all (· ≤ reachBytes) = true := hsz0
  have hval : ∀ (j : Nat) t v, Try.f5.params[j]? = some t → args[j]? = some v → Value.okWide Try.prog W .any base t v := hval0
  have hW' := hW
  obtain ⟨p, q, hA0, hV, rfl, hfz, hnd⟩ := hW
  have hA : DataW.TrodAll enc Try.prog W 0 (fun _ => true) true Try.f5.params.toList args.toList ds p := hA0
  rw [Try.params5] at hA hval hsz
  obtain ⟨v0, vs0, d0, ds0, p0, q0, hargs, rfl, rfl, h0, r0⟩ := trodAll_cons hA
  obtain ⟨v1, vs1, d1, ds1, p1, q1, rfl, rfl, rfl, h1, r1⟩ := trodAll_cons r0
  obtain ⟨v2, vs2, d2, ds2, p2, q2, rfl, rfl, rfl, h2, r2⟩ := trodAll_cons r1
  obtain ⟨rfl, rfl, rfl⟩ := trodAll_nil r2
  obtain rfl : args = #[v0, v1, v2] := by cases args; simp_all
  obtain ⟨rfl, rfl⟩ := trodVars_none hV
  obtain ⟨b0, len0, cap0, rfl⟩ := okWide_slice Try.underlying22 (hval 0 22 v0 rfl rfl)
  have k0 := h0
  have lt0 : ∀ x ∈ p0, x.block < W.heap.size := by obtain ⟨m, hm⟩ := k0; exact DataW.trod_lt m _ _ _ hm
  obtain ⟨a0, cap0', l0, e0, hc0, _, hr0⟩ : ∃ (a : Option Addr) (cap : Nat) (xs : List Int), [Value.slice b0 len0 cap0] = [.slice a xs.length cap] ∧ xs.length ≤ cap ∧ cap ≤ maxLen ∧ Kd.C (Kd.int .u8) W a xs.length xs := by obtain ⟨fuel, hf⟩ := h0; exact Came.open_kd (Kd.int .u8) Try.underlying22 (by kernel_rfl) (Came.int_kd Try.underlying5) hf
  injection e0 with e0; injection e0 with ea0 eb0 ec0; subst ea0; subst eb0; subst ec0
  obtain ⟨cs1, rfl, _⟩ := okWide_struct Try.underlying38 (hval 1 38 v1 rfl rfl)
  have k1 := h1
  have lt1 : ∀ x ∈ p1, x.block < W.heap.size := by obtain ⟨m, hm⟩ := k1; exact DataW.trod_lt m _ _ _ hm
  obtain ⟨o1, ho1⟩ : ∃ y : S38, k38.K W y cs1.toList := by obtain ⟨fuel, hf⟩ := h1; exact Came.op_kd _ _ _ hf
  obtain ⟨a2, rfl, rfl, rfl, w2⟩ := open_int Try.underlying3 (hval 2 3 v2 rfl rfl) h2
  clear hA0 hval0 hsz0 hsz
  have hw2 : a2 ≤ 9223372036854775807 := by simp [Lit.wf, IntKind.min, IntKind.max, IntKind.bits, IntKind.signed] at w2; omega
  obtain ⟨A1x, c1x, ecs1, hc1x, hr1x⟩ := k38_open ho1
  have ecs1' : cs1 = #[.int .i64 o1.f0, .int .i64 o1.f1, .slice A1x o1.f2.length c1x] := by apply Array.ext'; simpa using ecs1
  subst ecs1'
  refine (DiskOne _ _ l0 o1 _ _ a2 W hr0 hc0 hr1x hc1x hw2).mono fun e W' ⟨he, bel⟩ => ?_
  subst he
  exact ⟨_, rfl, _, _, _, [], _, [], hW', trodAll_mk1 (shut_bool Try.underlying4 _), (trodAll_cons_mk (Below.trod laidOut (by kernel_rfl) (of_decide_eq_true (by kernel_rfl)) k0 bel lt0) (trodAll_cons_mk (Below.trod laidOut (by kernel_rfl) (of_decide_eq_true (by kernel_rfl)) k1 bel lt1) (trodAll_cons_mk (shut_int Try.underlying3 w2) trodAll_mk0))), rfl, bel.frame _, fun h => by cases h⟩
theorem over : Rows.diskOneRow.holds Try.pinned (OpenSpec.ofChange Rows.diskOneSpec) :=
  OpenClaim.holds_of_wide 5 Try.f5 rfl rfl rfl rfl rfl rfl rfl ⟨rfl, rfl, rfl, rfl, rfl⟩ rfl rfl rfl rfl rfl (by kernel_rfl) Try.func5 (by kernel_rfl)
    (of_decide_eq_true (by kernel_rfl)) (by unfold Func.isWrapper; first | (rw [if_pos (by decide +kernel)]; kernel_rfl) | (rw [if_neg (by decide +kernel)]; exact ⟨rfl, rfl⟩))
    (fun os started H enc _ => lifted os started H enc)
theorem proved : Rows.DiskOneSaid := over
#print axioms proved
end Go.Proofs.Ytphgoiepoojikaa.diskOne
namespace Go.Proofs.Ytphgoiepoojikaa
/-- The row, under a short name, for the claim. -/
theorem diskOne_holds : Rows.DiskOneSaid := diskOne.proved
end Go.Proofs.Ytphgoiepoojikaa
