/- The row and the tied card of RowMakes: whatever the input, the law returns true; the input reads as it did. It takes that the listed variables lie as the program's own text lays them (the card ties that). -/
import Derived.Test.YtefiadocljnpjaaDoorRows
import Derived.Test.YtefiadocljnpjaaDoorVE
import Derived.Test.YtefiadocljnpjaaDoorVL
import Derived.Test.YtefiadocljnpjaaDoorVU
import Derived.WalkKit
import Derived.ProofKit
import Derived.OpenShut
import Derived.ShutString
import Derived.ChangeOld
import Derived.Below
import Derived.SizedLaws
import Derived.Test.YtefiadocljnpjaaDoorWSized
namespace Go.Proofs.YtefiadocljnpjaaDoor.rowMakes
open Go.ChangeShapes Go.WideShapes Go.ChangeAt Go.RowKit
open Go.Proofs.YtefiadocljnpjaaDoor Go.Proofs.YtefiadocljnpjaaDoorW.PrintWords Go.Proofs.YtefiadocljnpjaaDoorW.PrintLast Go.Proofs.YtefiadocljnpjaaDoorW.PrintMore Go.Proofs.YtefiadocljnpjaaDoor.PK Go.Proofs.YtefiadocljnpjaaDoor.Row
open Go.ChangeMaps (open_string shut_string)
set_option linter.unusedVariables false
set_option maxRecDepth 100000 in
set_option maxHeartbeats 4000000 in
theorem lifted (os : Os) (started : os.Started) (H : Type) (enc : TypeId × Value → H) :
    ReturnsInHanded {} Tryd.checked os 12 .any (fun w args => (Rows.rowMakesSpec.pre enc Tryd.prog Tryd.f12 Rows.rowMakesRow.domain false w args ∧ laidMetH Tryd.prog laidL w) ∧ sizedMet enc Tryd.prog Tryd.f12 (OpenSpec.ofChange Rows.rowMakesSpec) false w args) (Rows.rowMakesSpec.post enc Tryd.prog Tryd.f12 false true false false) := by
  refine returnsInHanded_of_change_and (C := Tryd.checked) (X := fun w _ => laidMetH Tryd.prog laidL w) (fun _ _ _ hh h => h.of_heap hh) own_knob started (by kernel_rfl) Tryd.func12
    (ChangeSpec.witness_shaped (enc := enc) (C := Tryd.checked) (os := os) (X := fun w _ => laidMetH Tryd.prog laidL w) false (World.laidAll Tryd.prog os laidL) #[.agg #[.int .i64 0, .string ⟨#[]⟩, .int .i64 0], .slice none 0 0, .slice none 0 0] 8 (World.laidAll_os _ _ _)
      (wit_shaped os _) (by kernel_rfl) (by kernel_rfl) (by kernel_rfl) (wit_met os _)) ?_
  intro W base args ds gs before hval0 hW hcnd hsz0 hL0 _
  have hL := of_laid hL0
  have hsz : (DataW.weightsEach Tryd.prog (Tryd.f12.params.toList ++ Rows.rowMakesSpec.plain.varTypes Tryd.prog) (ds ++ gs)).all (· ≤ reachBytes) = true := hsz0
  have hval : ∀ (j : Nat) t v, Tryd.f12.params[j]? = some t → args[j]? = some v → Value.okWide Tryd.prog W .any base t v := hval0
  have hW' := hW
  obtain ⟨p, q, hA0, hV, rfl, hfz, hnd⟩ := hW
  have hA : DataW.TrodAll enc Tryd.prog W 0 (fun _ => true) true Tryd.f12.params.toList args.toList ds p := hA0
  rw [Tryd.params12] at hA hval hsz
  obtain ⟨v0, vs0, d0, ds0, p0, q0, hargs, rfl, rfl, h0, r0⟩ := trodAll_cons hA
  obtain ⟨v1, vs1, d1, ds1, p1, q1, rfl, rfl, rfl, h1, r1⟩ := trodAll_cons r0
  obtain ⟨v2, vs2, d2, ds2, p2, q2, rfl, rfl, rfl, h2, r2⟩ := trodAll_cons r1
  obtain ⟨rfl, rfl, rfl⟩ := trodAll_nil r2
  obtain rfl : args = #[v0, v1, v2] := by cases args; simp_all
  obtain ⟨rfl, rfl⟩ := trodVars_none hV
  obtain ⟨cs0, rfl, _⟩ := okWide_struct Tryd.underlying48 (hval 0 48 v0 rfl rfl)
  have k0 := h0
  have lt0 : ∀ x ∈ p0, x.block < W.heap.size := by obtain ⟨m, hm⟩ := k0; exact DataW.trod_lt m _ _ _ hm
  obtain ⟨o0, ho0, hQ0⟩ : ∃ y : S48, k48.K W y cs0.toList ∧ y.f1.size ≤ maxLen := by obtain ⟨fuel, hf⟩ := h0; exact Came.node_kdQ _ _ _ hf
  have eo0 : cs0 = #[.int .i64 o0.f0, .string o0.f1, .int .i64 o0.f2] := by have := Came.node_K ho0; cases cs0; simp only at this; rw [this]
  subst eo0
  obtain ⟨b1, len1, cap1, rfl⟩ := okWide_slice Tryd.underlying51 (hval 1 51 v1 rfl rfl)
  have k1 := h1
  have lt1 : ∀ x ∈ p1, x.block < W.heap.size := by obtain ⟨m, hm⟩ := k1; exact DataW.trod_lt m _ _ _ hm
  obtain ⟨a1, cap1', l1, e1, hc1, hm1, hr1, hQ1⟩ : ∃ (a : Option Addr) (cap : Nat) (xs : List S48), [Value.slice b1 len1 cap1] = [.slice a xs.length cap] ∧ xs.length ≤ cap ∧ cap ≤ maxLen ∧ Kd.C k48 W a xs.length xs ∧ ∀ y ∈ xs, y.f1.size ≤ maxLen := by obtain ⟨fuel, hf⟩ := h1; exact Came.open_kdQ k48 (fun y => y.f1.size ≤ maxLen) Tryd.underlying51 (by kernel_rfl) Came.node_kdQ hf
  injection e1 with e1; injection e1 with ea1 eb1 ec1; subst ea1; subst eb1; subst ec1
  have hM1 : l1.length ≤ 9223372036854775807 := Kd.C_max hr1
  obtain ⟨b2, len2, cap2, rfl⟩ := okWide_slice Tryd.underlying51 (hval 2 51 v2 rfl rfl)
  have k2 := h2
  have lt2 : ∀ x ∈ p2, x.block < W.heap.size := by obtain ⟨m, hm⟩ := k2; exact DataW.trod_lt m _ _ _ hm
  obtain ⟨a2, cap2', l2, e2, hc2, hm2, hr2, hQ2⟩ : ∃ (a : Option Addr) (cap : Nat) (xs : List S48), [Value.slice b2 len2 cap2] = [.slice a xs.length cap] ∧ xs.length ≤ cap ∧ cap ≤ maxLen ∧ Kd.C k48 W a xs.length xs ∧ ∀ y ∈ xs, y.f1.size ≤ maxLen := by obtain ⟨fuel, hf⟩ := h2; exact Came.open_kdQ k48 (fun y => y.f1.size ≤ maxLen) Tryd.underlying51 (by kernel_rfl) Came.node_kdQ hf
  injection e2 with e2; injection e2 with ea2 eb2 ec2; subst ea2; subst eb2; subst ec2
  have hM2 : l2.length ≤ 9223372036854775807 := Kd.C_max hr2
  clear hA0 hval0 hsz0 hsz hL0
  refine (RowMakes o0 _ _ l1 _ _ l2 W hL hr1 hc1 hr2 hc2).mono fun e W' ⟨he, bel⟩ => ?_
  subst he
  exact ⟨_, rfl, _, _, _, [], _, [], hW', trodAll_mk1 (shut_bool Tryd.underlying4 _), (trodAll_cons_mk (Below.trod laid_is_out (by kernel_rfl) (of_decide_eq_true (by kernel_rfl)) k0 bel lt0) (trodAll_cons_mk (Below.trod laid_is_out (by kernel_rfl) (of_decide_eq_true (by kernel_rfl)) k1 bel lt1) (trodAll_cons_mk (Below.trod laid_is_out (by kernel_rfl) (of_decide_eq_true (by kernel_rfl)) k2 bel lt2) trodAll_mk0))), rfl, bel.frame _, fun h => by cases h⟩
theorem over : Rows.RowMakesSaid :=
  OpenClaim.holds_of_wide 12 Tryd.f12 rfl rfl rfl rfl rfl rfl rfl ⟨rfl, rfl, rfl, rfl, rfl⟩ rfl rfl rfl rfl rfl (by kernel_rfl) Tryd.func12 (by kernel_rfl)
    (of_decide_eq_true (by kernel_rfl)) (by unfold Func.isWrapper; first | (rw [if_pos (by decide +kernel)]; kernel_rfl) | (rw [if_neg (by decide +kernel)]; exact ⟨rfl, rfl⟩))
    (fun os started H enc _ => lifted os started H enc)
theorem proved : Rows.RowMakesCardSaid :=
  Claim7.holds_tied_plain_at .later [] [.data, .widerDeep, .pinned] true (true, "4dd724af1b8d7e548668f2c3609e5d654dc83a043957580cabe372f4e8d8cbb2") false over (fun _ h => by cases h) (by kernel_rfl) (fun _ h => by cases h) rowMakes_row_tie rfl ⟨rfl, rfl⟩ (by kernel_rfl) rfl
    (fun f fn hf hfn => by
      obtain rfl : f = 12 := Option.some.inj ((show Tryd.prog.funcNamed "redress/redresslaw03.RowMakes" = some 12 by kernel_rfl).symm.trans hf) |>.symm
      obtain rfl : fn = Tryd.f12 := (Option.some.inj (Tryd.func12.symm.trans hfn)).symm
      exact ⟨by kernel_rfl, fun j t ht => by
        rw [Tryd.params12] at ht
        have hm : t ∈ [48, 51, 51] := by simpa using Array.mem_of_getElem? ht
        have hall : ([48, 51, 51].all fun u => !Tryd.prog.wantsStandIn u) = true := by kernel_rfl
        exact (show Tryd.prog.wantsStandIn t = false by simpa using List.all_eq_true.1 hall t hm)⟩)
    (by kernel_rfl)
#print axioms proved
end Go.Proofs.YtefiadocljnpjaaDoor.rowMakes
namespace Go.Proofs.YtefiadocljnpjaaDoor
/-- The tied card, under a short name, for the claim. -/
theorem rowMakes_holds : Rows.RowMakesCardSaid := rowMakes.proved
end Go.Proofs.YtefiadocljnpjaaDoor
