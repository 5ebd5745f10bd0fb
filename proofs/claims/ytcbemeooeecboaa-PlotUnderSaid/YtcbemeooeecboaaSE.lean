/- Comparing points and lines. -/
import Derived.Test.YtcbemeooeecboaaSL
import Derived.Test.YtcbemeooeecboaaSM
import Derived.ChangeKeysEq
import Derived.Laws.StructEq
import Derived.Laws.Cover3
namespace Go.Proofs.Ytcbemeooeecboaa.Rng
open Go Go.RowKit Go.Proofs.Tree Go.Proofs.Flt Go.Proofs.YtcbemeooeecboaaW.PrintWords Go.Proofs.Ytcbemeooeecboaa.PK
set_option linter.unusedVariables false
set_option linter.unusedSimpArgs false
/-- Are two floats equal? -/
def fe (a b : Nat) : Bool := FloatKind.f64.format.order a b == some .eq
theorem part27 (w : World) (xs : Array Value) (off : Nat) (v : Value) (h : xs[off]? = some v) : (part 27 xs off).run Try.prog w = .ok v w := by
  simp [part, isAgg, run_underlying Try.underlying27, h]
theorem eqc (w : World) (d a b a' b' : Nat) : (Op.equalIn (d + 1) 27 (.complex .f64 a b) (.complex .f64 a' b')).run Try.prog w = .ok (fe a a' && fe b b') w := by
  simp [Op.equalIn, run_underlying Try.underlying27, Op.floatEq, fe]
theorem cells27 : Try.prog.cellsOf 27 = 1 := by kernel_rfl
theorem info27' : ∃ i, Try.prog.info? 27 = some i := by
  obtain ⟨i0, hi, _⟩ := info_parts info27
  exact ⟨i0, hi⟩
theorem eqi31 (w : World) (a b c d a' b' c' d' : Nat) : (Op.equalIn 10000 31 (.agg #[.complex .f64 a b, .complex .f64 c d]) (.agg #[.complex .f64 a' b', .complex .f64 c' d'])).run Try.prog w = .ok ((fe a a' && fe b b') && (fe c c' && fe d d')) w := by
  obtain ⟨i, hi⟩ := info27'
  rw [run_equalIn_array w 9999 _ _ Try.underlying31 hi, cells27]
  show (Op.eqItems 9999 27 1 _ _ [0, 1]).run Try.prog w = _
  have p0 := part27 w #[.complex .f64 a b, .complex .f64 c d] 0 (.complex .f64 a b) rfl
  have p1 := part27 w #[.complex .f64 a b, .complex .f64 c d] 1 (.complex .f64 c d) rfl
  have q0 := part27 w #[.complex .f64 a' b', .complex .f64 c' d'] 0 (.complex .f64 a' b') rfl
  have q1 := part27 w #[.complex .f64 a' b', .complex .f64 c' d'] 1 (.complex .f64 c' d') rfl
  simp only [Op.eqItems, Sem.run_bind, Nat.zero_mul, Nat.one_mul, p0, p1, q0, q1, Result.andThen_ok, eqc w 9998]
  obtain ⟨u, hu⟩ : ∃ u, u = (fe a a' && fe b b') := ⟨_, rfl⟩
  obtain ⟨v, hv⟩ : ∃ v, v = (fe c c' && fe d d') := ⟨_, rfl⟩
  have ec' : (Op.equalIn 9999 27 (.complex .f64 c d) (.complex .f64 c' d')).run Try.prog w = .ok v w := by rw [hv]; exact eqc w 9998 c d c' d'
  rw [← hu, ← hv]
  cases u <;> cases v <;> simp [Sem.run_pure, p0, p1, q0, q1, ec']
theorem run_eq31 (w : World) (t : TypeId) (ht : t = 31) (a b c d a' b' c' d' : Nat) : (binOp .eql t (.agg #[.complex .f64 a b, .complex .f64 c d]) (.agg #[.complex .f64 a' b', .complex .f64 c' d'])).run Try.prog w = .ok (.bool ((fe a a' && fe b b') && (fe c c' && fe d d'))) w := by
  subst ht
  rw [run_eql_struct, eqi31]; rfl
theorem run_ne31 (w : World) (t : TypeId) (ht : t = 31) (a b c d a' b' c' d' : Nat) : (binOp .neq t (.agg #[.complex .f64 a b, .complex .f64 c d]) (.agg #[.complex .f64 a' b', .complex .f64 c' d'])).run Try.prog w = .ok (.bool (!((fe a a' && fe b b') && (fe c c' && fe d d')))) w := by
  subst ht
  show ((do pure (.bool (!(← Op.equal 31 _ _)))) : Sem Value).run Try.prog w = _
  unfold Op.equal
  rw [Sem.run_bind, show Op.maxDepth = 10000 from rfl, eqi31]; rfl
theorem fe_flt (a b : Int) (ha : a.natAbs < 2 ^ 53) (hb : b.natAbs < 2 ^ 53) : fe (flt a) (flt b) = decide (a = b) := by
  unfold fe
  have h : FloatKind.f64.format.order (flt a) (flt b) = some (compare a b) := order_flt a b ha hb
  rw [h]
  rcases Int.lt_trichotomy a b with h1 | h1 | h1
  · have e : compare a b = .lt := by show compareOfLessAndEq a b = _; unfold compareOfLessAndEq; rw [if_pos h1]
    rw [e, decide_eq_false (by omega)]; rfl
  · have e : compare a b = .eq := by show compareOfLessAndEq a b = _; unfold compareOfLessAndEq; rw [if_neg (by omega), if_pos h1]
    rw [e, decide_eq_true h1]; rfl
  · have e : compare a b = .gt := by show compareOfLessAndEq a b = _; unfold compareOfLessAndEq; rw [if_neg (by omega), if_neg (by omega)]
    rw [e, decide_eq_false (by omega)]; rfl
end Go.Proofs.Ytcbemeooeecboaa.Rng
