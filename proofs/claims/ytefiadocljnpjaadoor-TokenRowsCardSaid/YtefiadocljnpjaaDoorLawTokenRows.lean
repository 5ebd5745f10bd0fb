/- The row and the tied card of TokenRows: whatever the input, the law returns true; the input reads as it did. It takes that the listed variables lie as the program's own text lays them (the card ties that). -/
import Derived.Test.YtefiadocljnpjaaDoorRows
import Derived.Test.YtefiadocljnpjaaDoorTM
import Derived.Test.YtefiadocljnpjaaDoorTQ
import Derived.Test.YtefiadocljnpjaaDoorTV
import Derived.WalkKit
import Derived.ProofKit
import Derived.OpenShut
import Derived.ShutString
import Derived.ChangeOld
import Derived.Below
import Derived.SizedLaws
import Derived.Test.YtefiadocljnpjaaDoorWSized
namespace Go.Proofs.YtefiadocljnpjaaDoor.tokenRows
open Go.ChangeShapes Go.WideShapes Go.ChangeAt Go.RowKit
open Go.Proofs.YtefiadocljnpjaaDoor Go.Proofs.YtefiadocljnpjaaDoorW.PrintWords Go.Proofs.YtefiadocljnpjaaDoorW.PrintLast Go.Proofs.YtefiadocljnpjaaDoorW.PrintMore Go.Proofs.YtefiadocljnpjaaDoor.PK Go.Proofs.YtefiadocljnpjaaDoor.Row
open Go.ChangeMaps (open_string shut_string)
set_option linter.unusedVariables false
set_option maxRecDepth 100000 in
set_option maxHeartbeats 4000000 in
theorem lifted (os : Os) (started : os.Started) (H : Type) (enc : TypeId × Value → H) :
    ReturnsInHanded {} Tryd.checked os 5 .any (fun w args => (Rows.tokenRowsSpec.pre enc Tryd.prog Tryd.f5 Rows.tokenRowsRow.domain false w args ∧ laidMetH Tryd.prog laidL w) ∧ sizedMet enc Tryd.prog Tryd.f5 (OpenSpec.ofChange Rows.tokenRowsSpec) false w args) (Rows.tokenRowsSpec.post enc Tryd.prog Tryd.f5 false true false false) := by
  refine returnsInHanded_of_change_and (C := Tryd.checked) (X := fun w _ => laidMetH Tryd.prog laidL w) (fun _ _ _ hh h => h.of_heap hh) own_knob started (by kernel_rfl) Tryd.func5
    (ChangeSpec.witness_shaped (enc := enc) (C := Tryd.checked) (os := os) (X := fun w _ => laidMetH Tryd.prog laidL w) false (World.laidAll Tryd.prog os laidL) #[.slice none 0 0, .slice none 0 0] 8 (World.laidAll_os _ _ _)
      (wit_shaped os _) (by kernel_rfl) (by kernel_rfl) (by kernel_rfl) (wit_met os _)) ?_
  intro W base args ds gs before hval0 hW hcnd hsz0 hL0 _
  have hL := of_laid hL0
  have hsz : (DataW.weightsEach Tryd.prog (Tryd.f5.params.toList ++ Rows.tokenRowsSpec.plain.varTypes Tryd.prog) (ds ++ gs)).all (· ≤ reachBytes) = true := hsz0
  have hval : ∀ (j : Nat) t v, Tryd.f5.params[j]? = some t → args[j]? = some v → Value.okWide Tryd.prog W .any base t v := hval0
  have hW' := hW
  obtain ⟨p, q, hA0, hV, rfl, hfz, hnd⟩ := hW
  have hA : DataW.TrodAll enc Tryd.prog W 0 (fun _ => true) true Tryd.f5.params.toList args.toList ds p := hA0
  rw [Tryd.params5] at hA hval hsz
  obtain ⟨v0, vs0, d0, ds0, p0, q0, hargs, rfl, rfl, h0, r0⟩ := trodAll_cons hA
  obtain ⟨v1, vs1, d1, ds1, p1, q1, rfl, rfl, rfl, h1, r1⟩ := trodAll_cons r0
  obtain ⟨rfl, rfl, rfl⟩ := trodAll_nil r1
  obtain rfl : args = #[v0, v1] := by cases args; simp_all
  obtain ⟨rfl, rfl⟩ := trodVars_none hV
  obtain ⟨b0, len0, cap0, rfl⟩ := okWide_slice Tryd.underlying27 (hval 0 27 v0 rfl rfl)
  have k0 := h0
  have lt0 : ∀ x ∈ p0, x.block < W.heap.size := by obtain ⟨m, hm⟩ := k0; exact DataW.trod_lt m _ _ _ hm
  obtain ⟨a0, cap0', l0, e0, hc0, hm0, hr0, hQ0⟩ : ∃ (a : Option Addr) (cap : Nat) (xs : List S34), [Value.slice b0 len0 cap0] = [.slice a xs.length cap] ∧ xs.length ≤ cap ∧ cap ≤ maxLen ∧ Kd.C k34 W a xs.length xs ∧ ∀ y ∈ xs, y.f2.size ≤ maxLen := by obtain ⟨fuel, hf⟩ := h0; exact Came.open_kdQ k34 (fun y => y.f2.size ≤ maxLen) Tryd.underlying27 (by kernel_rfl) Came.token_kdQ hf
  injection e0 with e0; injection e0 with ea0 eb0 ec0; subst ea0; subst eb0; subst ec0
  have hM0 : l0.length ≤ 9223372036854775807 := Kd.C_max hr0
  obtain ⟨b1, len1, cap1, rfl⟩ := okWide_slice Tryd.underlying40 (hval 1 40 v1 rfl rfl)
  have k1 := h1
  have lt1 : ∀ x ∈ p1, x.block < W.heap.size := by obtain ⟨m, hm⟩ := k1; exact DataW.trod_lt m _ _ _ hm
  obtain ⟨a1, cap1', l1, e1, hc1, hm1, hr1⟩ : ∃ (a : Option Addr) (cap : Nat) (xs : List Int), [Value.slice b1 len1 cap1] = [.slice a xs.length cap] ∧ xs.length ≤ cap ∧ cap ≤ maxLen ∧ Kd.C (Kd.int .i64) W a xs.length xs := by obtain ⟨fuel, hf⟩ := h1; exact Came.open_kd (Kd.int .i64) Tryd.underlying40 (by kernel_rfl) (Came.int_kd Tryd.underlying3) hf
  injection e1 with e1; injection e1 with ea1 eb1 ec1; subst ea1; subst eb1; subst ec1
  have hM1 : l1.length ≤ 9223372036854775807 := Kd.C_max hr1
  clear hA0 hval0 hsz0 hsz hL0
  refine (TokenRows _ _ l0 _ _ l1 W hL hr0 hc0 hr1 hc1 hQ0).mono fun e W' ⟨he, bel⟩ => ?_
  subst he
  exact ⟨_, rfl, _, _, _, [], _, [], hW', trodAll_mk1 (shut_bool Tryd.underlying4 _), (trodAll_cons_mk (Below.trod laid_is_out (by kernel_rfl) (of_decide_eq_true (by kernel_rfl)) k0 bel lt0) (trodAll_cons_mk (Below.trod laid_is_out (by kernel_rfl) (of_decide_eq_true (by kernel_rfl)) k1 bel lt1) trodAll_mk0)), rfl, bel.frame _, fun h => by cases h⟩
theorem over : Rows.TokenRowsSaid :=
  OpenClaim.holds_of_wide 5 Tryd.f5 rfl rfl rfl rfl rfl rfl rfl ⟨rfl, rfl, rfl, rfl, rfl⟩ rfl rfl rfl rfl rfl (by kernel_rfl) Tryd.func5 (by kernel_rfl)
    (of_decide_eq_true (by kernel_rfl)) (by unfold Func.isWrapper; first | (rw [if_pos (by decide +kernel)]; kernel_rfl) | (rw [if_neg (by decide +kernel)]; exact ⟨rfl, rfl⟩))
    (fun os started H enc _ => lifted os started H enc)
theorem proved : Rows.TokenRowsCardSaid :=
  Claim7.holds_tied_plain_at .later [] [.listed, .data] true (true, "4dd724af1b8d7e548668f2c3609e5d654dc83a043957580cabe372f4e8d8cbb2") false over (fun _ h => by cases h) (by kernel_rfl) (fun _ h => by cases h) tokenRows_row_tie rfl ⟨rfl, rfl⟩ (by kernel_rfl) rfl
    (fun f fn hf hfn => by
      obtain rfl : f = 5 := Option.some.inj ((show Tryd.prog.funcNamed "redress/redresslaw05.TokenRows" = some 5 by kernel_rfl).symm.trans hf) |>.symm
      obtain rfl : fn = Tryd.f5 := (Option.some.inj (Tryd.func5.symm.trans hfn)).symm
      exact ⟨by kernel_rfl, fun j t ht => by
        rw [Tryd.params5] at ht
        have hm : t ∈ [27, 40] := by simpa using Array.mem_of_getElem? ht
        have hall : ([27, 40].all fun u => !Tryd.prog.wantsStandIn u) = true := by kernel_rfl
        exact (show Tryd.prog.wantsStandIn t = false by simpa using List.all_eq_true.1 hall t hm)⟩)
    (by kernel_rfl)
#print axioms proved
end Go.Proofs.YtefiadocljnpjaaDoor.tokenRows
namespace Go.Proofs.YtefiadocljnpjaaDoor
/-- The tied card, under a short name, for the claim. -/
theorem tokenRows_holds : Rows.TokenRowsCardSaid := tokenRows.proved
end Go.Proofs.YtefiadocljnpjaaDoor
