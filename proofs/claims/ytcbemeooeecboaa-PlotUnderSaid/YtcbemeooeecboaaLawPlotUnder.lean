/- The row of PlotUnder: whatever the input, the law returns true; the input reads as it did. No condition. -/
import Derived.Test.YtcbemeooeecboaaRows
import Derived.Test.YtcbemeooeecboaaLF
import Derived.Test.YtcbemeooeecboaaSU
import Derived.WalkKit
import Derived.ProofKit
import Derived.OpenShut
import Derived.ShutString
import Derived.ChangeOld
import Derived.Below
import Derived.SizedLaws
import Derived.Test.YtcbemeooeecboaaWSized
namespace Go.Proofs.Ytcbemeooeecboaa.plotUnder
open Go.ChangeShapes Go.WideShapes Go.ChangeAt Go.RowKit
open Go.Proofs.Ytcbemeooeecboaa Go.Proofs.YtcbemeooeecboaaW.PrintWords Go.Proofs.YtcbemeooeecboaaW.PrintLast Go.Proofs.YtcbemeooeecboaaW.PrintMore Go.Proofs.Ytcbemeooeecboaa.PK Go.Proofs.Ytcbemeooeecboaa.Rng
open Go.ChangeMaps (open_string shut_string)
set_option linter.unusedVariables false
theorem own : ownKnob Try.prog.godebug = none := by kernel_rfl
theorem laidOut : laidOutB Try.prog = true := by kernel_rfl
set_option maxRecDepth 100000 in
theorem lifted (os : Os) (started : os.Started) (H : Type) (enc : TypeId × Value → H) :
    ReturnsInHanded {} Try.checked os 8 .any (Rows.plotUnderSpec.pre6 enc Try.prog Try.f8 Rows.plotUnderRow.domain false) (Rows.plotUnderSpec.post enc Try.prog Try.f8 false true false false) := by
  refine returnsInHanded_of_change_sized (C := Try.checked) own started (by kernel_rfl) Try.func8
    (ChangeSpec.witness6 (enc := enc) (C := Try.checked) false ⟨#[], #[.slice none 0 0, .slice none 0 0], []⟩ 8 (by kernel_rfl) (by kernel_rfl) (by kernel_rfl) (by kernel_rfl)) ?_
  intro W base args ds gs before hval0 hW hcnd hsz0 _
  have hsz : (DataW.weightsEach Try.prog (Try.f8.params.toList ++ Rows.plotUnderSpec.plain.varTypes Try.prog) (ds ++ gs)).all (· ≤ reachBytes) = true := hsz0
  have hval : ∀ (j : Nat) t v, Try.f8.params[j]? = some t → args[j]? = some v → Value.okWide Try.prog W .any base t v := hval0
  have hW' := hW
  obtain ⟨p, q, hA0, hV, rfl, hfz, hnd⟩ := hW
  have hA : DataW.TrodAll enc Try.prog W 0 (fun _ => true) true Try.f8.params.toList args.toList ds p := hA0
  rw [Try.params8] at hA hval hsz
  obtain ⟨v0, vs0, d0, ds0, p0, q0, hargs, rfl, rfl, h0, r0⟩ := trodAll_cons hA
  obtain ⟨v1, vs1, d1, ds1, p1, q1, rfl, rfl, rfl, h1, r1⟩ := trodAll_cons r0
  obtain ⟨rfl, rfl, rfl⟩ := trodAll_nil r1
  obtain rfl : args = #[v0, v1] := by cases args; simp_all
  obtain ⟨rfl, rfl⟩ := trodVars_none hV
  obtain ⟨b0, len0, cap0, rfl⟩ := okWide_slice Try.underlying22 (hval 0 22 v0 rfl rfl)
  have k0 := h0
  have lt0 : ∀ x ∈ p0, x.block < W.heap.size := by obtain ⟨m, hm⟩ := k0; exact DataW.trod_lt m _ _ _ hm
  obtain ⟨a0, cap0', l0, e0, hc0, hm0, hr0, hQ0⟩ : ∃ (a : Option Addr) (cap : Nat) (xs : List S44), [Value.slice b0 len0 cap0] = [.slice a xs.length cap] ∧ xs.length ≤ cap ∧ cap ≤ maxLen ∧ Kd.C k44 W a xs.length xs ∧ ∀ y ∈ xs, y.f1.size ≤ maxLen := by obtain ⟨fuel, hf⟩ := h0; exact Came.open_kdQ k44 (fun y => y.f1.size ≤ maxLen) Try.underlying22 (by kernel_rfl) Came.node_kdQ hf
  injection e0 with e0; injection e0 with ea0 eb0 ec0; subst ea0; subst eb0; subst ec0
  have hM0 : l0.length ≤ 9223372036854775807 := Kd.C_max hr0
  obtain ⟨b1, len1, cap1, rfl⟩ := okWide_slice Try.underlying22 (hval 1 22 v1 rfl rfl)
  have k1 := h1
  have lt1 : ∀ x ∈ p1, x.block < W.heap.size := by obtain ⟨m, hm⟩ := k1; exact DataW.trod_lt m _ _ _ hm
  obtain ⟨a1, cap1', l1, e1, hc1, hm1, hr1, hQ1⟩ : ∃ (a : Option Addr) (cap : Nat) (xs : List S44), [Value.slice b1 len1 cap1] = [.slice a xs.length cap] ∧ xs.length ≤ cap ∧ cap ≤ maxLen ∧ Kd.C k44 W a xs.length xs ∧ ∀ y ∈ xs, y.f1.size ≤ maxLen := by obtain ⟨fuel, hf⟩ := h1; exact Came.open_kdQ k44 (fun y => y.f1.size ≤ maxLen) Try.underlying22 (by kernel_rfl) Came.node_kdQ hf
  injection e1 with e1; injection e1 with ea1 eb1 ec1; subst ea1; subst eb1; subst ec1
  have hM1 : l1.length ≤ 9223372036854775807 := Kd.C_max hr1
  have hL0 : l0.length < 4398046511104 := by have z := Came.sized_row hsz (j := 0) (t := 22) rfl rfl Try.underlying22 Came.bytes44 h0; omega
  have hL1 : l1.length < 4398046511104 := by have z := Came.sized_row hsz (j := 1) (t := 22) rfl rfl Try.underlying22 Came.bytes44 h1; omega
  clear hA0 hval0 hsz0 hsz
  refine (Rng.UnderLaw _ _ l0 _ _ l1 W hr0 hc0 hL0 hr1 hc1 hL1).mono fun e W' ⟨he, bel⟩ => ?_
  subst he
  exact ⟨_, rfl, _, _, _, [], _, [], hW', trodAll_mk1 (shut_bool Try.underlying4 _), (trodAll_cons_mk (Below.trod laidOut (by kernel_rfl) (of_decide_eq_true (by kernel_rfl)) k0 bel lt0) (trodAll_cons_mk (Below.trod laidOut (by kernel_rfl) (of_decide_eq_true (by kernel_rfl)) k1 bel lt1) trodAll_mk0)), rfl, bel.frame _, fun h => by cases h⟩
theorem over : Rows.plotUnderRow.holds Try.pinned (OpenSpec.ofChange Rows.plotUnderSpec) :=
  OpenClaim.holds_of_wide 8 Try.f8 rfl rfl rfl rfl rfl rfl rfl ⟨rfl, rfl, rfl, rfl, rfl⟩ rfl rfl rfl rfl rfl (by kernel_rfl) Try.func8 (by kernel_rfl)
    (of_decide_eq_true (by kernel_rfl)) (by unfold Func.isWrapper; first | (rw [if_pos (by decide +kernel)]; kernel_rfl) | (rw [if_neg (by decide +kernel)]; exact ⟨rfl, rfl⟩))
    (fun os started H enc _ => lifted os started H enc)
theorem proved : Rows.PlotUnderSaid := over
#print axioms proved
end Go.Proofs.Ytcbemeooeecboaa.plotUnder
namespace Go.Proofs.Ytcbemeooeecboaa
/-- The row, under a short name, for the claim. -/
theorem plotUnder_holds : Rows.PlotUnderSaid := plotUnder.proved
end Go.Proofs.Ytcbemeooeecboaa
