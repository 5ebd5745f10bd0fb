/- What the rows of layers 3 and 4 list: the variable words lies as its text lays it; a world in which all that is listed lies. -/
import Derived.Test.YtefiadocljnpjaaDoorMR
import Derived.Test.YtefiadocljnpjaaDoorTie
import Derived.Test.YtefiadocljnpjaaDoorCards
import Derived.ProofKit
import Derived.OpenShut
import Derived.LaidMore
import Derived.Lay
import Derived.SevenTiedAt
import Derived.Stop.Joined
namespace Go.Proofs.YtefiadocljnpjaaDoor.Row
open Go.ChangeShapes Go.WideShapes Go.ChangeAt
open Go.Proofs.Tree Go.RowKit Go.Proofs.YtefiadocljnpjaaDoorW.PrintWords Go.Proofs.YtefiadocljnpjaaDoorW.PrintLast Go.Proofs.YtefiadocljnpjaaDoorW.PrintMore Go.Proofs.YtefiadocljnpjaaDoor.PK
set_option linter.unusedVariables false
set_option linter.unusedSimpArgs false
set_option maxRecDepth 100000
def laidL : List (String × DataW Unit) := [("unicode/utf8.acceptRanges", Rows.laid_unicode_utf8_acceptRanges), ("redress/row.words", Rows.laid_redress_row_words), ("unicode/utf8.first", Rows.laid_unicode_utf8_first)]
theorem own_knob : ownKnob Tryd.prog.godebug = none := by kernel_rfl
theorem laid_is_out : laidOutB Tryd.prog = true := by kernel_rfl
theorem bytes_eq {a b : ByteArray} (h : a.data.toList = b.data.toList) : a = b := by
  have : a.data = b.data := Array.ext' h
  cases a; cases b; simp at this; rw [this]
theorem words_at {H : Type} {enc : TypeId × Value → H} {W : World} {sp : Nat → Bool} {held : Bool} {fuel : Nat} {cs : List Value} {d : DataW H} {p : List MemPlace}
    (hd : DataW.trod enc Tryd.prog W 0 sp held fuel 88 cs = some (d, p)) (e : d = .agg (wordsL.map fun s => .lit (.string s.data.toList))) : ∀ (j : Nat) (s : ByteArray), wordsL[j]? = some s → cs[j]? = some (.string s) := by
  obtain ⟨xs, m, _, ex, _, hl, hel⟩ := DataW.trod_array Tryd.underlying88 hd
  have c9 : Tryd.prog.cellsOf 9 = 1 := by kernel_rfl
  intro j s hj
  have hj6 : j < 6 := by
    have := (List.getElem?_eq_some_iff.1 hj).1
    exact this
  have hE := hel j hj6
  rw [c9, Nat.mul_one, List.getElem?_eq_getElem (by omega)] at hE
  obtain ⟨z, e1, e2, _⟩ := DataW.trod_string Tryd.underlying9 hE
  have e3 : xs.map (·.1) = wordsL.map fun s => (DataW.lit (.string s.data.toList) : DataW H) := by
    have := (Prod.mk.inj ex).1
    rw [e] at this
    exact (DataW.agg.inj this).symm
  have e4 : (xs.map (·.1))[j]? = (wordsL.map fun s => (DataW.lit (.string s.data.toList) : DataW H))[j]? := by rw [e3]
  rw [List.getElem?_map, List.getElem?_map, List.getElem?_eq_getElem (by omega : j < xs.length), hj, e2] at e4
  have hz : z = s := by
    simp only [Option.map_some, Option.some.injEq, DataW.lit.injEq, Lit.string.injEq] at e4
    exact bytes_eq e4
  subst hz
  have h0 : ((cs.drop j).take 1)[0]? = some (.string z) := by rw [e1]; rfl
  simpa using h0
theorem of_laid {W : World} (h : laidMetH Tryd.prog laidL W) : Laid W := by
  rw [MakeChecks.laidMetH_plain _ _ _ (by kernel_rfl)] at h
  obtain ⟨ps, ⟨_, _, _, _, _, _, _, _, _, _, ⟨g, t, cs, fuel, p, q, hg, ht, hv, hd, _, _⟩, _⟩, _, _⟩ := h
  obtain rfl := Option.some.inj ((show Tryd.prog.globalNamed "redress/row.words" = some 1 by kernel_rfl).symm.trans hg)
  obtain rfl := Option.some.inj ((show (Tryd.prog.globals[1]?).map (·.type) = some 88 by kernel_rfl).symm.trans ht)
  have hw := words_at hd rfl
  refine ⟨rfl, by decide, fun _ => ⟨_, rfl, fun j s hj => ⟨[.string s], rfl, rfl, fun i u hu => ?_⟩⟩⟩
  obtain rfl : i = 0 := by
    have := (List.getElem?_eq_some_iff.1 hu).1
    simp at this; exact this
  injection hu with hu
  subst hu
  show W.cell? (Addr.add ⟨1, 0, none⟩ (j * 1 + 0)) = _
  rw [Go.Proofs.YtefiadocljnpjaaDoorW.PrintWords.add_plain, Nat.mul_one, Nat.add_zero, World.var?_cell hg hv j]
  have := hw j s hj
  simpa using this
theorem wit_fits (os : Os) : (World.holding Tryd.prog os ⟨#[], #[], []⟩).layFits Tryd.prog laidL [] = true := by kernel_rfl
theorem wit_ifaces (os : Os) : (World.holding Tryd.prog os ⟨#[], #[], []⟩).layIfaces Tryd.prog laidL (World.laidAll Tryd.prog os laidL) = true := by kernel_rfl
theorem wit_met (os : Os) (args : Array Value) : laidMetH Tryd.prog laidL ((World.laidAll Tryd.prog os laidL).forCall (fun _ _ => 0) ⟨#[], args, []⟩).memory := by
  rw [MakeChecks.laidMetH_plain _ _ _ (by kernel_rfl)]
  exact laidMet_laidAll args (wit_fits os) (wit_ifaces os)
theorem wit_shaped (os : Os) (args : Array Value) : ((World.laidAll Tryd.prog os laidL).forCall (fun _ _ => 0) ⟨#[], args, []⟩).Shaped Tryd.prog :=
  World.shaped_of_ZipB (by kernel_rfl) (by kernel_rfl)
end Go.Proofs.YtefiadocljnpjaaDoor.Row
