/- strings.IndexByte and strings.IndexRune at the signs. -/
import Derived.Test.YtefiadocljnpjaaDoorTA
import Derived.Lib.Strings
import Derived.Lib.Slices
import Derived.Lib.Walk
import Derived.Lib.Bytealg
import Derived.Lib.OthersKept
namespace Go.Proofs.YtefiadocljnpjaaDoor.Row
open Go.Proofs.Tree Go.RowKit Go.Proofs.YtefiadocljnpjaaDoorW.PrintWords Go.Proofs.YtefiadocljnpjaaDoorW.PrintLast Go.Proofs.YtefiadocljnpjaaDoorW.PrintMore Go.Proofs.YtefiadocljnpjaaDoor.PK
set_option linter.unusedVariables false
set_option linter.unusedSimpArgs false
set_option maxHeartbeats 4000000
set_option maxRecDepth 100000
theorem SLIndexByte (s : ByteArray) (c : Int) (w : World) :
    Calls Tryd.prog 102 #[.string s, .int .u8 c] w fun e w' => e = .returned (.int .i64 (Lib.indexByte s.data.toList c.toNat.toUInt8)) ∧ w' = w := by
  go_enter Tryd.func102, Tryd.ntmps102
  go_wp2
  rw [run_callFunc_extern Tryd.func112 (by kernel_rfl) (by kernel_rfl) (by kernel_rfl) (e := Extern.BytealgIndexByte.indexByte) (by kernel_rfl), Lib.run_indexByteString]
  simp only [Result.andThen]
  rw [Oper.upon_value]
  go_wp2
  go_ret
  exact ⟨rfl, rfl⟩
theorem IndexByte (s : ByteArray) (c : Int) (w : World) :
    Calls Tryd.prog 84 #[.string s, .int .u8 c] w fun e w' => e = .returned (.int .i64 (Lib.indexByte s.data.toList c.toNat.toUInt8)) ∧ w' = w := by
  go_enter Tryd.func84, Tryd.ntmps84
  go_wp2_with fail
  refine (SLIndexByte _ _ _).mono ?_; rintro e w' ⟨rfl, rfl⟩
  go_wp2_with fail
  go_ret
  exact ⟨rfl, rfl⟩
theorem index_sign : ∀ x : Fin 128, Lib.indexByte signsB.data.toList ((x.val : Int)).toNat.toUInt8 = sg (x.val : Int) - 1 := by decide +kernel
/-- Of the ASCII runes. -/
theorem IndexRune_low (r : Nat) (hr : r < 128) (w : World) : Calls Tryd.prog 63 #[.string signsB, .int .i32 (r : Int)] w fun e w' => e = .returned (.int .i64 (sg (r : Int) - 1)) ∧ Below w.heap.size w w' := by
  have HX := Aside0.mk (show Lib.indexByte signsB.data.toList (r : Int).toNat.toUInt8 = sg (r : Int) - 1 from index_sign ⟨r, hr⟩)
  have c1 : decide ((0 : Int) ≤ (r : Int)) = true := decide_eq_true (by omega)
  have c2 : decide ((r : Int) < 128) = true := decide_eq_true (by omega)
  have c3 : decide (r < 128) = true := decide_eq_true hr
  have hm : (r : Int) % 256 = (r : Int) := by omega
  clear hr
  go_enter Tryd.func63, Tryd.ntmps63
  go_wp2_with fail
  refine (IndexByte signsB (r : Int) _).mono ?_; rintro e w' ⟨rfl, rfl⟩
  rw [HX.out]
  go_wp2_with fail
  (try rw [Exit.noGoto_ret])
  go_ret
  exact ⟨rfl, Below.refl _ _⟩
end Go.Proofs.YtefiadocljnpjaaDoor.Row
