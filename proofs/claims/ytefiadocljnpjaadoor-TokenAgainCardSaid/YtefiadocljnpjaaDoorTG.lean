/- strings.Fields (layer 5): the shelf's contract laid at this program, and token.Words. -/
import Derived.Shelf.Strings.Fields
import Derived.Shelf.LaysM
import Derived.Shelf.Strings.SplitShaped
import Derived.Test.YtefiadocljnpjaaDoorTF
namespace Go.Proofs.YtefiadocljnpjaaDoor.Row
open Go.Shelf
set_option linter.unusedVariables false
def laysM157_ren : Go.Shelf.Ren := ⟨fun | 157 => 69 | 229 => 89 | 199 => 90 | 261 => 104 | 311 => 113 | 312 => 114 | n => n, fun | 9 => 9 | 31 => 43 | 3 => 3 | 5 => 5 | 4 => 4 | 119 => 85 | 0 => 0 | 40 => 66 | 152 => 97 | 21 => 21 | 154 => 99 | 51 => 100 | 141 => 102 | 196 => 113 | 193 => 110 | 198 => 116 | 49 => 114 | 194 => 111 | 201 => 119 | 226 => 124 | 46 => 82 | 227 => 125 | n => n, fun | 0 => 0 | 6 => 3 | n => n⟩
theorem laysM157 : Go.Proofs.LaysM.n157 Tryd.prog laysM157_ren := {
  mixed := by kernel_rfl
  f157 := Tryd.func69.trans (congrArg some (by kernel_rfl))
  f199 := Tryd.func90.trans (congrArg some (by kernel_rfl))
  f229 := Tryd.func89.trans (congrArg some (by kernel_rfl))
  f261 := Tryd.func104.trans (congrArg some (by kernel_rfl))
  f311 := Tryd.func113.trans (congrArg some (by kernel_rfl))
  f312 := Tryd.func114.trans (congrArg some (by kernel_rfl))
  t0 := Tryd.underlying0
  a0 := Tryd.isAgg0
  z0 := Tryd.sizeOf0
  v0 := Tryd.zeroValue0
  t3 := Tryd.underlying3
  a3 := Tryd.isAgg3
  z3 := Tryd.sizeOf3
  v3 := Tryd.zeroValue3
  t4 := Tryd.underlying4
  a4 := Tryd.isAgg4
  z4 := Tryd.sizeOf4
  v4 := Tryd.zeroValue4
  t5 := Tryd.underlying5
  a5 := Tryd.isAgg5
  z5 := Tryd.sizeOf5
  v5 := Tryd.zeroValue5
  t9 := Tryd.underlying9
  a9 := Tryd.isAgg9
  z9 := Tryd.sizeOf9
  v9 := Tryd.zeroValue9
  t21 := Tryd.underlying21
  a21 := Tryd.isAgg21
  z21 := Tryd.sizeOf21
  v21 := Tryd.zeroValue21
  t31 := Tryd.underlying43
  a31 := Tryd.isAgg43
  z31 := Tryd.sizeOf43
  v31 := Tryd.zeroValue43
  t40 := Tryd.underlying66
  a40 := Tryd.isAgg66
  z40 := Tryd.sizeOf66
  v40 := Tryd.zeroValue66
  t46 := Tryd.underlying82
  a46 := Tryd.isAgg82
  z46 := Tryd.sizeOf82
  v46 := Tryd.zeroValue82
  t49 := Tryd.underlying114
  a49 := Tryd.isAgg114
  z49 := Tryd.sizeOf114
  v49 := Tryd.zeroValue114
  t51 := Tryd.underlying100
  a51 := Tryd.isAgg100
  z51 := Tryd.sizeOf100
  v51 := Tryd.zeroValue100
  t119 := Tryd.underlying85
  a119 := Tryd.isAgg85
  z119 := Tryd.sizeOf85
  t141 := Tryd.underlying102
  a141 := Tryd.isAgg102
  z141 := Tryd.sizeOf102
  v141 := Tryd.zeroValue102
  t152 := Tryd.underlying97
  a152 := Tryd.isAgg97
  z152 := Tryd.sizeOf97
  v152 := Tryd.zeroValue97
  t154 := Tryd.underlying99
  a154 := Tryd.isAgg99
  z154 := Tryd.sizeOf99
  v154 := Tryd.zeroValue99
  t193 := Tryd.underlying110
  a193 := Tryd.isAgg110
  z193 := Tryd.sizeOf110
  v193 := Tryd.zeroValue110
  t194 := Tryd.underlying111
  a194 := Tryd.isAgg111
  z194 := Tryd.sizeOf111
  v194 := Tryd.zeroValue111
  t196 := Tryd.underlying113
  a196 := Tryd.isAgg113
  z196 := Tryd.sizeOf113
  v196 := Tryd.zeroValue113
  t198 := Tryd.underlying116
  a198 := Tryd.isAgg116
  z198 := Tryd.sizeOf116
  v198 := Tryd.zeroValue116
  t201 := Tryd.underlying119
  a201 := Tryd.isAgg119
  z201 := Tryd.sizeOf119
  v201 := Tryd.zeroValue119
  t226 := Tryd.underlying124
  a226 := Tryd.isAgg124
  z226 := Tryd.sizeOf124
  v226 := Tryd.zeroValue124
  t227 := Tryd.underlying125
  a227 := Tryd.isAgg125
  z227 := Tryd.sizeOf125
  v227 := Tryd.zeroValue125
  g0 := by kernel_rfl
  g6 := by kernel_rfl
  i0 := by kernel_rfl
  i3 := by kernel_rfl
  i4 := by kernel_rfl
  i5 := by kernel_rfl
  i9 := by kernel_rfl
  i21 := by kernel_rfl
  i31 := by kernel_rfl
  i40 := by kernel_rfl
  i46 := by kernel_rfl
  i49 := by kernel_rfl
  i51 := by kernel_rfl
  i141 := by kernel_rfl
  i152 := by kernel_rfl
  i154 := by kernel_rfl
  i193 := by kernel_rfl
  i194 := by kernel_rfl
  i196 := by kernel_rfl
  i198 := by kernel_rfl
  i201 := by kernel_rfl
  i226 := by kernel_rfl
  i227 := by kernel_rfl
  m0 := by kernel_rfl
  m6 := by kernel_rfl }
theorem strings_Fields_laid (s : ByteArray) (w : World) (hs : s.size < 4294967281) (hascii : ∀ (j : Nat) b, s.data.toList[j]? = some b → b.toNat < 128) (htab : Lib.TabIs Tryd.prog w "strings.asciiSpace" .u8 Lib.asciiSpaceTab) :
    Calls Tryd.prog 69 #[.string s] w fun e w' =>
      e = .returned (.slice (some ⟨w.heap.size, 0, none⟩) (Lib.fields s.data.toList).length (Lib.fields s.data.toList).length) ∧ w' = w.alloc (.cells ((Lib.fields s.data.toList).map fun l => Value.string ⟨l.toArray⟩).toArray 9) := Any.strings_Fields_laid laysM157 s w hs hascii htab
open Go.Proofs.Tree Go.RowKit Go.Proofs.YtefiadocljnpjaaDoorW.PrintWords Go.Proofs.YtefiadocljnpjaaDoorW.PrintLast Go.Proofs.YtefiadocljnpjaaDoorW.PrintMore Go.Proofs.YtefiadocljnpjaaDoor.PK
set_option linter.unusedSimpArgs false
set_option maxHeartbeats 4000000
set_option maxRecDepth 100000
/-- The table of blanks lies as it is laid. -/
def Laid5 (w : World) : Prop := Lib.TabIs Tryd.prog w "strings.asciiSpace" .u8 Lib.asciiSpaceTab
theorem space_at : Tryd.prog.globalNamed "strings.asciiSpace" = some 0 := by kernel_rfl
theorem Laid5.below {w w' : World} (h : Laid5 w) (hb : Below w.heap.size w w') : Laid5 w' := by
  unfold Laid5 Lib.TabIs World.var? at h ⊢
  simp only [space_at, Option.bind_some] at h ⊢
  have h0 : 0 < w.heap.size := by
    rcases Nat.lt_or_ge 0 w.heap.size with h' | h'
    · exact h'
    · rw [Array.getElem?_eq_none h'] at h
      exact absurd h (by simp)
  rw [hb.block 0 h0]
  exact h
def fw : List ByteArray := [⟨#[115, 107, 105, 112]⟩, ⟨#[116, 104, 114, 111, 119]⟩, ⟨#[121, 105, 101, 108, 100]⟩, ⟨#[115, 107, 105, 112, 112]⟩, ⟨#[116, 104, 114, 111, 119, 119]⟩, ⟨#[121, 105, 101, 108, 100, 100]⟩]
def fwText : ByteArray := ⟨#[115, 107, 105, 112, 32, 116, 104, 114, 111, 119, 32, 121, 105, 101, 108, 100, 32, 115, 107, 105, 112, 112, 32, 116, 104, 114, 111, 119, 119, 32, 121, 105, 101, 108, 100, 100]⟩
theorem fw_fields : (Lib.fields fwText.data.toList).map (fun l => Value.string ⟨l.toArray⟩) = fw.map Value.string := by
  have h : Lib.fields fwText.data.toList = fw.map (fun b => b.data.toList) := by decide +kernel
  rw [h, List.map_map]
  rfl
theorem fw_len : (Lib.fields fwText.data.toList).length = 6 := by decide +kernel
theorem fw_ascii : ∀ (j : Nat) b, fwText.data.toList[j]? = some b → b.toNat < 128 := by
  intro j b h
  have hm : b ∈ fwText.data.toList := List.mem_of_getElem? h
  have : ∀ b ∈ fwText.data.toList, b.toNat < 128 := by decide +kernel
  exact this b hm
theorem Words (w : World) (h : Laid5 w) : Calls Tryd.prog 28 #[] w fun e w' => e = .returned (.slice (some ⟨w.heap.size, 0, none⟩) 6 6) ∧ w' = w.alloc (.cells (fw.map Value.string).toArray 9) := by
  have HC := Aside0.mk (show Calls Tryd.prog 69 #[.string fwText] w fun e w' => e = .returned (.slice (some ⟨w.heap.size, 0, none⟩) 6 6) ∧ w' = w.alloc (.cells (fw.map Value.string).toArray 9) from by
    have := strings_Fields_laid fwText w (by decide) fw_ascii h
    rw [fw_len, fw_fields] at this
    exact this)
  clear h
  go_enter Tryd.func28, Tryd.ntmps28
  go_wp2_with fail
  refine HC.out.mono ?_; rintro e w' ⟨rfl, rfl⟩
  go_wp2_with fail
  go_ret
  exact ⟨rfl, rfl⟩
end Go.Proofs.YtefiadocljnpjaaDoor.Row
