/- The reference's Read; both Reads as one contract. -/
import Derived.Test.YtphgoiepoojikaaK
namespace Go.Proofs.Ytphgoiepoojikaa
open Go.RowKit Go.Proofs.YtphgoiepoojikaaW.PrintWords Go.Proofs.YtphgoiepoojikaaW.PrintLast Go.Proofs.YtphgoiepoojikaaW.PrintMore Go.Proofs.Ytphgoiepoojikaa.PK
set_option linter.unusedVariables false
set_option linter.unusedSimpArgs false
set_option maxHeartbeats 4000000
set_option maxRecDepth 100000
namespace Disk

/-- What a read tells. -/
def blk (n : Nat) (db : List Int) (k : Int) : List Int := if 0 ≤ k ∧ k < (n : Int) then part db k.toNat else []
theorem blk_le (n : Nat) (db : List Int) (k : Int) : (blk n db k).length ≤ 16 := by
  unfold blk part; split <;> simp; omega
def RowOf (w : World) (l : List Int) (e : Ending) (w' : World) : Prop := ∃ A c, e = .returned (.slice A l.length c) ∧ l.length ≤ c ∧ Kd.C (Kd.int .u8) w' A l.length l ∧ Below w.heap.size w w'
theorem ReadAny {w : World} {g b n : Nat} {s : St} (h : AtS w g b n s) (k : Int) :
    Calls Try.prog 23 #[.pointer (some ⟨g, 0, none⟩), .int .i64 k] w (RowOf w (blk n s.db k)) := by
  by_cases hk : 0 ≤ k ∧ k < (n : Int)
  · obtain ⟨q, rfl⟩ : ∃ q : Nat, k = (q : Int) := ⟨k.toNat, by omega⟩
    have e : blk n s.db (q : Int) = part s.db q := by unfold blk; rw [if_pos hk]; simp
    have hl := part_len (At.len h) (show q < n by omega)
    refine (Read.yes h q (by omega)).mono ?_
    rintro e2 w' ⟨x, rfl, hx1, hx2, hB⟩
    refine ⟨some ⟨x, 0, none⟩, 16, by rw [e, hl], by rw [e, hl]; decide, ?_, hB⟩
    rw [e]
    exact Aid.C_block (0 : Int) w' x (part s.db q) _ 58 (0, 0) hx2 (by rw [List.take_of_length_le (by simp)]) (by rw [hl]; decide)
  · have e : blk n s.db k = [] := by unfold blk; rw [if_neg hk]
    refine (Read.no h k hk).mono ?_
    rintro e2 w' ⟨rfl, hd⟩
    exact ⟨none, 0, by rw [e]; rfl, by rw [e]; decide, by rw [e]; exact Kd.C_nil _ _, hd.below⟩
theorem ref_slice (ad : Addr) (m c q : Nat) (h : 16 * q + 16 ≤ c) (W : World) :
    (Instr.sliceAt 22 (.slice (some ad) m c) (some (.int .i64 (16 * (q : Int)))) (some (.int .i64 (16 * (q : Int) + 16))) none).run Try.prog W = .ok (.slice (some (ad.add (16 * q))) 16 (c - 16 * q)) W := by
  have e1 : ((16 : Int) * (q : Int) + 16).toNat = 16 * q + 16 := by omega
  have e0 : ((16 : Int) * (q : Int)).toNat = 16 * q := by omega
  have e2 : ¬ ((c : Int) < (16 : Int) * (q : Int) + 16) := by omega
  have e3 : ¬ ((16 : Int) * (q : Int) + 16 < (16 : Int) * (q : Int)) := by omega
  have e4 : (0 : Int) ≤ (16 : Int) * (q : Int) := by omega
  have e5 : (0 : Int) ≤ (16 : Int) * (q : Int) + 16 := by omega
  have e6 : ¬ (c = 16 * q) := by omega
  go_simp
  rw [if_pos (by omega), if_pos (by omega)]
theorem C_part {W : World} {ad : Addr} {l : List Int} {n j : Nat} (hr : Kd.C (Kd.int .u8) W (some ad) l.length l) (hl : l.length = 16 * n) (hj : j < n) : Kd.C (Kd.int .u8) W (some (ad.add (16 * j))) (part l j).length (part l j) := by
  have hc := part_cells hr hl hj
  rw [Nat.mul_comm] at hc
  have h16 := part_len hl hj
  refine Kd.C_of_reads (d := (0 : Int)) ⟨rfl, by rw [h16]; decide, fun _ => ⟨_, rfl, fun i hi => ?_⟩⟩
  refine hc i _ ?_
  simp [List.getElem?_eq_getElem hi, List.getD_eq_getElem?_getD]
theorem RefReadAny {w : World} (ad : Addr) (c n : Nat) (db : List Int) (many rl : Int) (hr : Kd.C (Kd.int .u8) w (some ad) db.length db) (hc : db.length ≤ c) (hl : db.length = 16 * n) (hn : n ≤ 1024) (k : Int) :
    Calls Try.prog 24 #[.agg #[.slice (some ad) db.length c, .int .i64 many, .int .i64 rl], .int .i64 k] w (RowOf w (blk n db k)) := by
  have HR := Aside0.mk hr; clear hr
  have hq : wrap64 ((db.length : Int) / 16) = (n : Int) := by unfold wrap64; omega
  by_cases hk : 0 ≤ k ∧ k < (n : Int)
  · obtain ⟨q, rfl⟩ : ∃ q : Nat, k = (q : Int) := ⟨k.toNat, by omega⟩
    have e : blk n db (q : Int) = part db q := by unfold blk; rw [if_pos hk]; simp
    have hl2 := part_len hl (show q < n by omega)
    rw [e]
    have h17 : 16 * q + 16 ≤ c := by omega
    have h16 := C_part (Kd.C_below HR.out ((Below.refl w.heap.size w).alloc (Nat.le_refl _) (Obj.cells #[Value.slice (some ad) db.length c, Value.int IntKind.i64 many, Value.int IntKind.i64 rl] 30))) hl (show q < n by omega)
    have HC := Aside0.mk h16; clear h16
    have HE := Aside0.mk e; have HL := Aside0.mk hl; have HL2 := Aside0.mk hl2; clear e hl hl2
    have k1 : decide ((q : Int) < 0) = false := decide_eq_false (by omega)
    have k2 : decide (n ≤ q) = false := decide_eq_false (by omega)
    have RS := ref_slice ad db.length c q (by omega)
    go_enter Try.func24, Try.ntmps24
    go_wp2_with fail
    go_ret
    exact ⟨_, c - 16 * q, by rw [HL2.out]; rfl, by rw [HL2.out]; omega, HC.out, (Below.refl _ _).alloc (Nat.le_refl _) _⟩
  · have e : blk n db k = [] := by unfold blk; rw [if_neg hk]
    rw [e]
    clear hc
    by_cases h0 : k < 0
    · have k1 : decide (k < 0) = true := decide_eq_true h0
      go_enter Try.func24, Try.ntmps24
      go_wp2_with fail
      go_ret
      exact ⟨none, 0, rfl, by decide, Kd.C_nil _ _, (Below.refl _ _).alloc (Nat.le_refl _) _⟩
    · have k1 : decide (k < 0) = false := decide_eq_false h0
      have k3 : (n : Int) ≤ k := by omega
      go_enter Try.func24, Try.ntmps24
      go_wp2_with fail
      go_ret
      exact ⟨none, 0, rfl, by decide, Kd.C_nil _ _, (Below.refl _ _).alloc (Nat.le_refl _) _⟩
end Disk
end Go.Proofs.Ytphgoiepoojikaa
