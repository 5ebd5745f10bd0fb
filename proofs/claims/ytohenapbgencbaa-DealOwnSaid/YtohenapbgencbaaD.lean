/- The law's closed call. -/
import Derived.Test.YtohenapbgencbaaC
import Derived.Test.YtohenapbgencbaaPKx1
import Derived.Test.YtohenapbgencbaaPKx2
import Derived.Test.YtohenapbgencbaaPKx5
namespace Go.Proofs.Ytohenapbgencbaa
open Go.RowKit Go.Proofs.YtohenapbgencbaaW.PrintWords Go.Proofs.YtohenapbgencbaaW.PrintLast Go.Proofs.YtohenapbgencbaaW.PrintMore Go.Proofs.Ytohenapbgencbaa.PK
set_option linter.unusedVariables false
set_option linter.unusedSimpArgs false
set_option maxHeartbeats 4000000
set_option maxRecDepth 100000
theorem eqA42 (d : Nat) (w : World) (x0 y0 : Int) (x1 y1 : ByteArray) (x2 y2 : Bool) :
    (Op.equalIn (d + 2) 42 (.agg #[.int .i64 x0, .string x1, .bool x2]) (.agg #[.int .i64 y0, .string y1, .bool y2])).run Try.prog w = .ok (x0 == y0 && (x1.toList == y1.toList && (x2 == y2))) w := by
  refine eqA_of Try.underlying42 (by kernel_rfl) ?_
  refine eqf_cons (by rfl) (by go_simp; rfl) (by go_simp; rfl) (by go_simp) ?_
  refine eqf_cons (by rfl) (by go_simp; rfl) (by go_simp; rfl) (by go_simp) ?_
  exact eqf_last (by rfl) (by go_simp; rfl) (by go_simp; rfl) (by go_simp)
attribute [local go_sem high] eqA42
namespace Deal

theorem texts_l (l : List ByteArray) (hl : l.length ≤ 1000000) : ∀ d i k, i + d = l.length → d < k → redressref04_Texts.l0 k l l (i : Int) = some true := by
  intro d
  induction d with
  | zero =>
    intro i k hi hk
    obtain ⟨k, rfl⟩ : ∃ m, k = m + 1 := ⟨k - 1, by omega⟩
    simp only [redressref04_Texts.l0]
    rw [if_neg (by omega)]
  | succ d ih =>
    intro i k hi hk
    obtain ⟨k, rfl⟩ : ∃ m, k = m + 1 := ⟨k - 1, by omega⟩
    simp only [redressref04_Texts.l0]
    rw [if_pos (by omega), if_pos (by omega), if_pos (by omega), wrapS (by omega)]
    have h := ih (i + 1) k (by omega) (by omega)
    simpa using h
/-- Two rows of the same texts are the same. -/
theorem TextsT (A0 : Option Addr) (c0 : Nat) (A1 : Option Addr) (c1 : Nat) (l : List ByteArray) (w : World) (hr0 : Kd.C Kd.string w A0 l.length l) (hc0 : l.length ≤ c0) (hr1 : Kd.C Kd.string w A1 l.length l) (hc1 : l.length ≤ c1) (hl : l.length ≤ 1000000) :
    Calls Try.prog 19 #[.slice A0 l.length c0, .slice A1 l.length c1] w fun e w' => e = .returned (.bool true) ∧ Drawn0 w w' := by
  refine redressref04_Texts.calls (l.length + 1) A0 c0 l A1 c1 l true w hr0 hc0 hr1 hc1 ?_
  unfold redressref04_Texts.f
  rw [if_pos rfl]
  exact texts_l l hl l.length 0 (l.length + 1) (by omega) (by omega)
def tA : ByteArray := ⟨#[97]⟩
def tB : ByteArray := ⟨#[98]⟩
def tC : ByteArray := ⟨#[99]⟩
def al0 : DS := ⟨[2], [], 0⟩
def al1 : DS := ⟨[2], [⟨1, tA, true⟩], 1⟩
def al2 : DS := ⟨[2], [⟨1, tA, true⟩, ⟨2, tB, false⟩], 2⟩
def al3 : DS := ⟨[2], [⟨1, tA, true⟩, ⟨2, tB, false⟩], 3⟩
theorem ask1 : al0.ask 1 tA = (true, al1) := by simp [DS.ask, known, al0, al1]
theorem ask2 : al1.ask 2 tB = (false, al2) := by simp [DS.ask, known, al1, al2]
theorem ask3 : al2.ask 1 tC = (true, al3) := by simp [DS.ask, known, al2, al3]
theorem pick1 : pick (fun x => x.f2) al3.deeds = [tA] := by simp [pick, al3]
theorem pick2 : uniq (pick (fun x => !x.f2) al3.deeds) = [tB] := by simp [pick, al3, uniq, hasS]
/-- What a law knows of a dealer that it made: it lies above the law's own begin. -/
structure Now (w0 W : World) (own : Nat → Prop) (g : Nat) (s : DS) : Prop where
  at_ : At W own g s
  lo : ∀ k, own k → w0.heap.size ≤ k ∧ k < W.heap.size
  low : Below w0.heap.size w0 W
theorem Now.below {w0 W W' : World} {own : Nat → Prop} {g : Nat} {s : DS} (h : Now w0 W own g s) (hb : Below W.heap.size W W') : Now w0 W' own g s :=
  ⟨h.at_.below hb, fun k hk => ⟨(h.lo k hk).1, Nat.lt_of_lt_of_le (h.lo k hk).2 hb.size⟩, Aid.bthen h.low hb⟩
theorem Now.only {w0 W W' : World} {own P : Nat → Prop} {g : Nat} {s : DS} (h : Now w0 W own g s) (ho : Only P W W') (hn : ∀ k, own k → ¬ P k) (hp : ∀ k, P k → w0.heap.size ≤ k) : Now w0 W' own g s :=
  ⟨h.at_.only ho hn, fun k hk => ⟨(h.lo k hk).1, Nat.lt_of_lt_of_le (h.lo k hk).2 ho.size⟩, h.low.trans (ho.low _ hp h.low.size)⟩
def Asked2 (w0 : World) (own : Nat → Prop) (g : Nat) (w : World) (r : Bool) (t : DS) (e : Ending) (w' : World) : Prop :=
  e = .returned (.bool r) ∧ Now w0 w' (fun k => own k ∨ (w.heap.size ≤ k ∧ k < w'.heap.size)) g t ∧ Only own w w'
theorem Now.ask {w0 w : World} {own : Nat → Prop} {g : Nat} {s : DS} (h : Now w0 w own g s) (id : Int) (name : ByteArray) (hi : wfI id) (ha : 0 ≤ s.asked ∧ s.asked ≤ 1000000) (hl : s.deeds.length ≤ 100000) (hrl : s.refuses.length ≤ 100000) :
    Calls Try.prog 13 #[.pointer (some ⟨g, 0, none⟩), .int .i64 id, .string name] w (Asked2 w0 own g w (s.ask id name).1 (s.ask id name).2) :=
  (Ask h.at_ id name hi ha hl hrl).mono fun e w' ⟨he, hA, hO⟩ => ⟨he, ⟨hA, fun k hk => hk.elim (fun h1 => ⟨(h.lo k h1).1, Nat.lt_of_lt_of_le (h.lo k h1).2 hO.size⟩) (fun h1 => ⟨Nat.le_trans h.low.size h1.1, h1.2⟩), h.low.trans (hO.low _ (fun k hk => (h.lo k hk).1) h.low.size)⟩, hO⟩
/-- A dealer made anew. -/
def Made2 (w0 : World) (w : World) (l : List Int) (e : Ending) (w' : World) : Prop :=
  ∃ g, e = .returned (.pointer (some ⟨g, 0, none⟩)) ∧ Now w0 w' (fun k => w.heap.size ≤ k ∧ k < w'.heap.size) g ⟨l, [], 0⟩ ∧ Below w.heap.size w w'
theorem NewNow {w0 : World} (A : Option Addr) (c : Nat) (l : List Int) (w : World) (hb : Below w0.heap.size w0 w) (hr : Kd.C (Kd.int .i64) w A l.length l) (hc : l.length ≤ c) (hl : l.length ≤ 1000000) :
    Calls Try.prog 11 #[.slice A l.length c] w (Made2 w0 w l) :=
  (New A c l w hr hc hl).mono fun e w' ⟨g, he, hA, hB⟩ => ⟨g, he, ⟨hA, fun k hk => ⟨Nat.le_trans hb.size hk.1, hk.2⟩, Aid.bthen hb hB⟩, hB⟩
theorem alive (w : World) : Calls Try.prog 10 #[] w fun e w' => e = .returned (.bool true) ∧ Below w.heap.size w w' := by
  go_enter Try.func10, Try.ntmps10
  go_wp2_with fail
  have C0 := Aside0.mk (Aid.C_new (enc := Value.int .i64) (h1 := fun _ => rfl) (0 : Int) w [2] #[Value.int .i64 2] 3 (0, 0) rfl (by decide))
  have HB0 := Aside0.mk ((Below.refl w.heap.size w).alloc (Nat.le_refl _) (Obj.cells #[Value.int .i64 2] 3))
  refine (NewNow (w0 := w) (some ⟨w.heap.size, 0, none⟩) 1 [2] _ HB0.out C0.out (by decide) (by decide)).mono ?_; rintro e w1 ⟨g, rfl, hN, _⟩
  have HN1 := Aside0.mk hN
  clear hN C0 HB0
  go_wp2_with fail
  have a1 := HN1.out.ask 1 tA (by unfold wfI; omega) (by decide) (by decide) (by decide)
  rw [show (⟨[2], [], 0⟩ : DS).ask 1 tA = (true, al1) from ask1] at a1
  have HK := Aside0.mk a1; clear a1
  refine HK.out.mono ?_; rintro e w2 ⟨rfl, hN, _⟩
  have HN2 := Aside0.mk hN; clear hN HK HN1
  go_wp2_with fail
  have a1 := HN2.out.ask 2 tB (by unfold wfI; omega) (by decide) (by decide) (by decide)
  rw [ask2] at a1
  have HK := Aside0.mk a1; clear a1
  refine HK.out.mono ?_; rintro e w3 ⟨rfl, hN, _⟩
  have HN3 := Aside0.mk hN; clear hN HK HN2
  go_wp2_with fail
  have a1 := HN3.out.ask 1 tC (by unfold wfI; omega) (by decide) (by decide) (by decide)
  rw [ask3] at a1
  have HK := Aside0.mk a1; clear a1
  refine HK.out.mono ?_; rintro e w4 ⟨rfl, hN, _⟩
  have HN4 := Aside0.mk hN; clear hN HK HN3
  go_wp2_with fail
  refine (Deeds HN4.out.at_ (by decide)).mono ?_; rintro e w5 ⟨v5, rfl, hR, hB⟩
  obtain ⟨A5, c5, rfl, hc5, hC5⟩ := Kd.R_reads hR
  have HC5 := Aside0.mk hC5
  have HN5 := Aside0.mk (HN4.out.below hB)
  clear hR hB hC5 HN4
  go_wp2_with fail
  refine (Done HN5.out.at_ (by decide)).mono ?_; rintro e w6 ⟨v6, rfl, hR, hB⟩
  rw [pick1] at hR
  obtain ⟨A6, c6, rfl, hc6, hC6⟩ := Kd.R_reads hR
  have HC6 := Aside0.mk hC6
  have HC5' := Aside0.mk (Kd.C_below HC5.out hB)
  have HN6 := Aside0.mk (HN5.out.below hB)
  clear hR hB hC6 HN5 HC5
  go_wp2_with fail
  have C7 := Aside0.mk (Aid.C_new (enc := Value.string) (h1 := fun _ => rfl) tA w6 [tA] #[Value.string tA] 9 (0, 0) rfl (by decide))
  have hb7 := (Below.refl w6.heap.size w6).alloc (Nat.le_refl _) (Obj.cells #[Value.string tA] 9)
  have HC67 := Aside0.mk (Kd.C_below HC6.out hb7)
  have HC57 := Aside0.mk (Kd.C_below HC5'.out hb7)
  have HN7 := Aside0.mk (HN6.out.below hb7)
  clear hb7 HC6 HC5' HN6
  refine (TextsT A6 c6 (some ⟨w6.heap.size, 0, none⟩) 1 [tA] _ HC67.out hc6 C7.out (by decide) (by decide)).mono ?_; rintro e w8 ⟨rfl, ⟨m8, rfl⟩⟩
  go_wp2_with fail
  have hb8 : Below w6.heap.size w6 ((w6.alloc (Obj.cells #[Value.string tA] 9)).drewN m8) := pw_below_drewN ((Below.refl w6.heap.size w6).alloc (Nat.le_refl _) _) m8
  have HN8 := Aside0.mk (HN7.out.below (pw_below_drewN (Below.refl _ _) m8))
  have HC58 := Aside0.mk (Kd.C_drewN HC57.out m8)
  clear hb8 HC67 HC57 HN7 C7
  refine (Refused HN8.out.at_ (by decide)).mono ?_; rintro e w9 ⟨v9, rfl, hR, hB⟩
  rw [pick2] at hR
  obtain ⟨A9, c9, rfl, hc9, hC9⟩ := Kd.R_reads hR
  have HC9 := Aside0.mk hC9
  have HC59 := Aside0.mk (Kd.C_below HC58.out hB)
  have HN9 := Aside0.mk (HN8.out.below hB)
  clear hR hB hC9 HN8 HC58
  go_wp2_with fail
  have C10 := Aside0.mk (Aid.C_new (enc := Value.string) (h1 := fun _ => rfl) tB w9 [tB] #[Value.string tB] 9 (0, 0) rfl (by decide))
  have hb7 := (Below.refl w9.heap.size w9).alloc (Nat.le_refl _) (Obj.cells #[Value.string tB] 9)
  have HC90 := Aside0.mk (Kd.C_below HC9.out hb7)
  have HC50 := Aside0.mk (Kd.C_below HC59.out hb7)
  have HN10 := Aside0.mk (HN9.out.below hb7)
  clear hb7 HC9 HC59 HN9
  refine (TextsT A9 c9 (some ⟨w9.heap.size, 0, none⟩) 1 [tB] _ HC90.out hc9 C10.out (by decide) (by decide)).mono ?_; rintro e w11 ⟨rfl, ⟨m11, rfl⟩⟩
  have HN11 := Aside0.mk (HN10.out.below (pw_below_drewN (Below.refl _ _) m11))
  have HC51 := Aside0.mk (Kd.C_drewN HC50.out m11)
  clear HN10 HC50 HC90 C10
  go_wp2_with fail
  refine (Asked HN11.out.at_).mono ?_; rintro e w12 ⟨rfl, ⟨m12, rfl⟩⟩
  have HN12 := Aside0.mk (HN11.out.below (pw_below_drewN (Below.refl _ _) m12))
  have hC52 := Kd.C_drewN HC51.out m12
  obtain ⟨ad, e7, x0, x1, x2⟩ := at_T53 hC52 1 (by decide) (by decide)
  cases e7
  have ex : rd_T53 al3.deeds 1 = ⟨2, tB, false⟩ := rfl
  rw [ex] at x0 x1 x2
  have HF := Aside0.mk HN12.out.low
  clear HN11 HC51 hC52 ex HN12
  have e3 : ad.add ((1 : Int).toNat * 3) = ⟨ad.block, ad.off + 3, none⟩ := rfl
  rw [e3] at x0 x1 x2
  clear e3
  obtain ⟨wz, hz⟩ : ∃ wz, wz = (((w9.alloc (Obj.cells #[Value.string tB] 9)).drewN m11).drewN m12) := ⟨_, rfl⟩
  rw [← hz] at x0 x1 x2 HF ⊢
  clear hz
  have el : al3.deeds.length = 2 := rfl
  have ea : al3.asked = 3 := rfl
  have et : (tB.toList == [98]) = true := by rw [ByteArray.toList_eq]; rfl
  go_wp2_with fail
  go_ret
  exact ⟨rfl, HF.out⟩
end Deal
end Go.Proofs.Ytohenapbgencbaa
