/- Frames: what the program's and the reference's Frame compute, in one form. -/
import Derived.Test.YtigaemjkdgpceaaR
import Derived.Test.YtigaemjkdgpceaaC
namespace Go.Proofs.Ytigaemjkdgpceaa.Ref
open Go.RowKit Go.Proofs.Ytigaemjkdgpceaa Go.Proofs.YtigaemjkdgpceaaW.PrintWords Go.Proofs.YtigaemjkdgpceaaW.PrintLast Go.Proofs.YtigaemjkdgpceaaW.PrintMore Crc PK

def headl (n : Nat) (d : List Int) : List Int := putl n 8 ++ putl d.length 4
def framel (n : Nat) (d : List Int) : List Int := headl n d ++ putl (cmore (cmore 0 (headl n d)) d) 4 ++ d

theorem headl_length (n : Nat) (d : List Int) : (headl n d).length = 12 := by simp [headl, putl_length]
theorem headl_okb (n : Nat) (d : List Int) : okb (headl n d) = true := by unfold headl; rw [okb_append, putl_okb, putl_okb]; rfl
theorem framel_length (n : Nat) (d : List Int) : (framel n d).length = 16 + d.length := by simp [framel, headl_length, putl_length]; omega
theorem framel_okb (n : Nat) (d : List Int) (hd : okb d = true) : okb (framel n d) = true := by
  unfold framel; rw [okb_append, okb_append, headl_okb, putl_okb, hd]; rfl
theorem wrap_u64 (n : Nat) (h : n < 18446744073709551616) : IntKind.u64.wrap (n : Int) = (n : Int) := by rw [IntKind.wrap_u64]; omega
theorem c8 : clamp8 8 = 8 := by decide
theorem c4 : clamp8 4 = 4 := by decide

theorem crcPut (n : Nat) (b : Int) (h : n < 18446744073709551616) : crc_Put.f (n : Int) b = some (putl n (clamp8 b)) := by
  unfold crc_Put.f; rw [if_pos ⟨by omega, by omega⟩, Int.toNat_natCast]
theorem crcMore (s : Nat) (l : List Int) (hs : s < 4294967296) (hl : okb l = true) : crc_More.f (s : Int) l = some ((cmore s l : Nat) : Int) := by
  unfold crc_More.f; rw [if_pos ⟨by omega, by omega, hl⟩, Int.toNat_natCast]
theorem crcSum (l : List Int) (hl : okb l = true) : crc_Sum.f l = some ((cmore 0 l : Nat) : Int) := by
  unfold crc_Sum.f
  have := crcMore 0 l (by decide) hl
  rw [Int.natCast_zero] at this
  rw [this, Option.bind_some]
theorem crcFrame (n : Nat) (d : List Int) (hn : n < 18446744073709551616) (hd : okb d = true) (hl : d.length ≤ 2048) : crc_Frame.f (n : Int) d = some (framel n d, true) := by
  have hh := headl_okb n d
  have hs := cmore_lt 0 _ (by decide) hh
  have hs2 := cmore_lt _ d hs hd
  have e1 := crcPut n 8 hn
  have e2 := crcPut d.length 4 (by omega)
  have e3 := crcPut (cmore (cmore 0 (headl n d)) d) 4 (by omega)
  have e4 := crcSum _ hh
  have e5 := crcMore _ d hs hd
  rw [c8] at e1
  rw [c4] at e2 e3
  have w1 := wrap_u64 d.length (by omega)
  have w2 := wrap_u64 _ (show cmore (cmore 0 (headl n d)) d < 18446744073709551616 by omega)
  have h1 : (putl n 8).length + (putl d.length 4).length < 140737488355328 := by rw [putl_length, putl_length]; decide
  have h2 : (headl n d).length + (putl (cmore (cmore 0 (headl n d)) d) 4).length < 140737488355328 := by rw [putl_length, headl_length]; decide
  have h3 : (headl n d ++ putl (cmore (cmore 0 (headl n d)) d) 4).length + d.length < 140737488355328 := by rw [List.length_append, putl_length, headl_length]; omega
  have hd2 : putl n 8 ++ putl d.length 4 = headl n d := rfl
  unfold crc_Frame.f framel
  rw [if_neg (by omega), e1, w1, e2, Option.bind_some, Option.bind_some, if_pos h1, hd2, Option.bind_some, e4, Option.bind_some, e5, Option.bind_some, w2, e3, Option.bind_some, if_pos h2, Option.bind_some, if_pos h3]
theorem refFrame (n k : Nat) (d : List Int) (hn : n < 18446744073709551616) (hd : okb d = true) (hl : d.length ≤ 2048) (hk : 2100 < k) : redressref16_Frame.f k (n : Int) d = some (framel n d, true) := by
  have hh := headl_okb n d
  have hs := cmore_lt 0 _ (by decide) hh
  have hs2 := cmore_lt _ d hs hd
  unfold redressref16_Frame.f
  rw [if_neg (by omega), put n k 8 hn (by omega), wrap_u64 d.length (by omega), put d.length k 4 (by omega) (by omega), c8, c4]
  simp only [Option.bind_some]
  rw [if_pos (by simp [putl_length])]
  have hm := more (headl n d) 0 k hh (by rw [headl_length]; decide) (by rw [headl_length]; omega) (by decide)
  rw [Int.natCast_zero] at hm
  rw [show putl n 8 ++ putl d.length 4 = headl n d from rfl, hm]
  simp only [Option.bind_some]
  rw [more d _ k hd (by omega) (by omega) hs]
  simp only [Option.bind_some]
  rw [wrap_u64 _ (by omega), put _ k 4 (by omega) (by omega), c4]
  simp only [Option.bind_some]
  rw [if_pos (by simp [headl_length, putl_length]), if_pos (by simp [headl_length, putl_length]; omega)]
  rfl

/-- What a row of bytes is opened as, told by frames. -/
theorem open_frame (l : List Int) (hb : okb l = true) (h16 : 16 ≤ l.length) (hn : getn 8 ((l.take 12).drop 8) + 16 ≤ l.length) :
    (cmore (cmore 0 (l.take 12)) ((l.drop 16).take (getn 8 ((l.take 12).drop 8))) = getn 8 ((l.take 16).drop 12)) ↔
      framel (getn 8 (l.take 8)) ((l.drop 16).take (getn 8 ((l.take 12).drop 8))) = l.take (16 + getn 8 ((l.take 12).drop 8)) := by
  obtain ⟨n, hnn⟩ : ∃ n, n = getn 8 ((l.take 12).drop 8) := ⟨_, rfl⟩
  rw [← hnn] at hn ⊢
  obtain ⟨d, hd⟩ : ∃ d, d = (l.drop 16).take n := ⟨_, rfl⟩
  have hdl : d.length = n := by rw [hd]; simp; omega
  rw [← hd]
  have e8 : putl (getn 8 (l.take 8)) 8 = l.take 8 := putl_getn 8 _ (by simp; omega) (okb_take l 8 hb)
  have l4 : ((l.take 12).drop 8).length = 4 := by simp; omega
  have m4 : ((l.take 16).drop 12).length = 4 := by simp; omega
  have o4 := okb_drop _ 8 (okb_take l 12 hb)
  have p4 := okb_drop _ 12 (okb_take l 16 hb)
  have g48 : ∀ x : List Int, x.length = 4 → okb x = true → getn 8 x = getn 4 x := by
    intro x hx hox
    have h1 := getn_putl 4 (getn 4 x) 8 (by decide)
    have h2 := getn_putl 4 (getn 4 x) 4 (by decide)
    rw [putl_getn 4 x hx hox] at h1 h2
    omega
  have eh : headl (getn 8 (l.take 8)) d = l.take 12 := by
    unfold headl
    rw [e8, hdl, hnn, g48 _ l4 o4, putl_getn 4 _ l4 o4]
    have : l.take 8 = (l.take 12).take 8 := by rw [List.take_take]; rfl
    rw [this, List.take_append_drop]
  have hsl : cmore (cmore 0 (l.take 12)) d < 256 ^ 4 := by
    have hod : okb d = true := by rw [hd]; exact okb_take _ _ (okb_drop _ _ hb)
    have := cmore_lt _ d (cmore_lt 0 _ (by decide) (okb_take l 12 hb)) hod
    omega
  have et : l.take (16 + n) = l.take 12 ++ (l.take 16).drop 12 ++ d := by
    rw [hd]
    have h1 : l.take 12 = (l.take 16).take 12 := by rw [List.take_take]; rfl
    rw [h1, List.take_append_drop, ← List.take_add]
  unfold framel
  rw [eh, et]
  constructor
  · intro h
    rw [h, g48 _ m4 p4, putl_getn 4 _ m4 p4]
  · intro h
    have h1 := List.append_cancel_right h
    have h2 := List.append_cancel_left h1
    have h3 := congrArg (getn 4) h2
    rw [getn_putl 4 _ 4 (by decide), Nat.mod_eq_of_lt hsl] at h3
    rw [h3, g48 _ m4 p4]
end Go.Proofs.Ytigaemjkdgpceaa.Ref
