/- The law DiskNew: its walk. -/
import Derived.Test.YtphgoiepoojikaaD
namespace Go.Proofs.Ytphgoiepoojikaa
open Go.RowKit Go.Proofs.YtphgoiepoojikaaW.PrintWords Go.Proofs.YtphgoiepoojikaaW.PrintLast Go.Proofs.YtphgoiepoojikaaW.PrintMore Go.Proofs.Ytphgoiepoojikaa.PK
set_option linter.unusedVariables false
set_option linter.unusedSimpArgs false
set_option maxHeartbeats 40000000
set_option maxRecDepth 100000
namespace Disk

theorem RefNew (A : Option Addr) (n c : Nat) (l : List Int) (w : World) (hn : l.length = n) (hr : Kd.C (Kd.int .u8) w A l.length l) (hc : n ≤ c) (hm : l.length ≤ 100000) :
    Calls Try.prog 12 #[.slice A n c] w fun e w' => ∃ v0 : Value, e = .returned (.agg #[v0, .int .i64 0, .int .i64 (-1)]) ∧ Kd.R (Kd.int .u8) 5 w' w.heap.size (fun _ => True) v0 l ∧ Below w.heap.size w w' := by
  subst hn
  exact redressref17_New.calls A c l l 0 (-1) w hr hc (by unfold redressref17_New.f; rw [if_pos (by simp; omega)]; simp)
theorem LawSameN {w : World} {g b n : Nat} {db : List Int} {many left : Int} {cut : Bool} (h : At w g b n db many cut left) (A : Option Addr) (m c : Nat) (rl : Int) (hm : db.length = m) (hr : Kd.C (Kd.int .u8) w A m db) (hc : m ≤ c) (hd : (cut && decide (left ≤ 0)) = (rl == 0)) :
    Calls Try.prog 11 #[.pointer (some ⟨g, 0, none⟩), .agg #[.slice A m c, .int .i64 many, .int .i64 rl]] w fun e w' => e = .returned (.bool true) ∧ Below w.heap.size w w' := by
  subst hm
  exact LawSame h A c rl hr hc hd
def right (l : List Int) : Prop := 16 ≤ l.length ∧ l.length ≤ 16384 ∧ l.length % 16 = 0
instance (l : List Int) : Decidable (right l) := by unfold right; infer_instance
theorem Right (l : List Int) (w : World) : Calls Try.prog 14 #[.int .i64 (l.length : Int)] w fun e w' => e = .returned (.bool (decide (right l))) ∧ Drawn0 w w' := by
  refine redressref17_Right.calls (l.length : Int) _ w ?_
  unfold redressref17_Right.f
  have e : Int.tmod (l.length : Int) 16 = ((l.length % 16 : Nat) : Int) := by rw [Int.tmod_eq_emod_of_nonneg (by omega)]; omega
  rw [e]
  by_cases h1 : 16 ≤ l.length
  · rw [if_pos (by omega)]
    by_cases h2 : l.length ≤ 16384
    · rw [if_pos (by omega)]
      by_cases h3 : l.length % 16 = 0
      · rw [decide_eq_true (show right l from ⟨h1, h2, h3⟩), h3]; rfl
      · rw [decide_eq_false (show ¬ right l from fun h => h3 h.2.2)]
        congr 1
        have : ((l.length % 16 : Nat) : Int) ≠ 0 := by omega
        simpa using this
    · rw [if_neg (by omega), decide_eq_false (show ¬ right l from fun h => h2 h.2.1)]
  · rw [if_neg (by omega), decide_eq_false (show ¬ right l from fun h => h1 h.1)]

theorem RightT (l : List Int) (h : right l) (w : World) : Calls Try.prog 14 #[.int .i64 (l.length : Int)] w fun e w' => e = .returned (.bool true) ∧ Drawn0 w w' := by
  have := Right l w
  rwa [decide_eq_true h] at this
theorem RightF (l : List Int) (h : ¬ right l) (w : World) : Calls Try.prog 14 #[.int .i64 (l.length : Int)] w fun e w' => e = .returned (.bool false) ∧ Drawn0 w w' := by
  have := Right l w
  rwa [decide_eq_false h] at this
def redresslaw17_DiskNew.f (a0 : Int) (l1 : List Int) : Option Bool := some true

theorem DiskNew (a0 : Int) (A1 : Option Addr) (c1 : Nat) (l1 : List Int) (w : World) (hr1 : Kd.C (Kd.int .u8) w A1 l1.length l1) (hc1 : l1.length ≤ c1) :
    Calls Try.prog 3 #[.int .i64 a0, .slice A1 l1.length c1] w fun e w' => e = .returned (.bool true) ∧ Below w.heap.size w w' := by
  have HR1 := Aside0.mk hr1; clear hr1
  by_cases h20 : 20000 < l1.length
  · have d20 : decide ((20000 : Int) < (l1.length : Int)) = true := decide_eq_true (by omega)
    go_enter Try.func3, Try.ntmps3
    go_wp2_with fail
    refine (alive _).mono ?_; rintro e w1 ⟨rfl, h1⟩
    go_wp2_with fail
    go_ret
    exact ⟨rfl, h1⟩
  have d20 : decide ((20000 : Int) < (l1.length : Int)) = false := decide_eq_false (by omega)
  have L20 := Aside0.mk (show l1.length ≤ 20000 by omega)
  clear h20
  by_cases hrt : right l1
  · have RT := Aside0.mk (fun W => RightT l1 hrt W)
    rcases (show (1 ≤ a0 ∧ a0 ≤ 1024) ∨ ¬ (1 ≤ a0 ∧ a0 ≤ 1024) from by by_cases h : (1 ≤ a0 ∧ a0 ≤ 1024); exact .inl h; exact .inr h) with hin | hin
    · obtain ⟨n, rfl⟩ : ∃ n : Nat, a0 = (n : Int) := ⟨a0.toNat, by omega⟩
      have b1 : decide ((1 : Int) ≤ (n : Int)) = true := decide_eq_true (by omega)
      have b2 : decide ((n : Int) ≤ 1024) = true := decide_eq_true (by omega)
      have e16 : wrap64 (16 * (n : Int)) = ((16 * n : Nat) : Int) := by unfold wrap64; omega
      have hmk := Aside0.mk (fun w => mk22 (16 * n) (by omega) w)
      go_enter Try.func3, Try.ntmps3
      go_wp2_with fail
      refine (New.ok n _ (by omega) (by omega)).mono ?_; rintro e w1 ⟨g, b, rfl, hA, hg, hb, hB⟩
      have HA := Aside0.mk hA; have HB := Aside0.mk hB; clear hA hB
      have hmk2 : ∀ w, (Instr.makeSlice 22 (.int .i64 (16 * (n : Int))) (.int .i64 (16 * (n : Int)))).run Try.prog w = .ok (.slice (some ⟨w.heap.size, 0, none⟩) (16 * n) (16 * n)) (w.alloc (.cells (((List.replicate (16 * n) (0 : Int)).map (Value.int .u8)).toArray) 5)) := fun w => by
        have := hmk.out w
        rw [show ((16 * n : Nat) : Int) = 16 * (n : Int) by omega] at this
        exact this
      go_wp2_with fail
      have C0 := Aside0.mk (Aid.C_new (enc := Value.int .u8) (h1 := fun _ => rfl) (0 : Int) w1 (List.replicate (16 * n) 0) (Array.replicate (16 * n) (Value.int .u8 0)) 5 (0, 0) (by simp) (by simp; omega))
      have HA2 := Aside0.mk (HA.out.below ((Below.refl _ _).alloc (Nat.le_refl _) (Obj.cells (Array.replicate (16 * n) (Value.int .u8 0)) 5)))
      have HB2 := Aside0.mk (HB.out.alloc HB.out.size (Obj.cells (Array.replicate (16 * n) (Value.int .u8 0)) 5))
      clear HA HB hmk
      refine (RefNew _ (16 * n) (16 * n) (List.replicate (16 * n) 0) _ (by simp) C0.out (Nat.le_refl _) (by simp; omega)).mono ?_; rintro e w2 ⟨v2, rfl, hR2, hB2⟩
      obtain ⟨A2, c2, rfl, hc2, hC2⟩ := Kd.R_reads hR2
      have HA3 := Aside0.mk (HA2.out.below hB2)
      have HB3 := Aside0.mk (Aid.bthen HB2.out hB2)
      rw [List.length_replicate] at hC2 hc2
      have HC2 := Aside0.mk hC2
      clear HA2 HB2 C0 hR2 hB2 hC2 hmk2 e16
      go_wp2_with fail
      refine (LawSameN HA3.out A2 (16 * n) c2 (-1) (List.length_replicate) HC2.out hc2 (by simp)).mono ?_; rintro e wA ⟨rfl, hB⟩
      have HB := Aside0.mk (Aid.bthen HB3.out hB)
      clear HA3 HB3 HC2 hB
      go_wp2_with (first | ((with_reducible refine gate_dst (N := 57) rfl ?_); refine Kd.R_lit (Kd.int .u8) _ 5 ?hg (N := 57) ?hd (xs := ([] : List Int)) (inner := []) (ok := fun _ => True) (okp := fun _ => True) ?hr ?hp (fun _ hk => hk) trivial (Below.refl _ _) (Nat.le_refl _) (by simp) ?_; (case hd => rfl); (case hg => rfl); (case hr => first | (go_simp; done) | (go_simp; rfl)); (case hp => exact (Reps.none _ _)); intro v117 w8 ho9 hb hg_ hnew_; clear hg_ hnew_; have n0_ := Aside0.mk (Kd.R_lower ho9 (below_size HB.out)); have n1_ := Aside0.mk (below_step HB.out hb); clear HB; have HO118 := n0_; have HB := n1_; clear n0_ n1_; clear hb ho9) | ((with_reducible refine gate_builtin (b := .append) (xs := #[.tmp 57, .tmp 58]) rfl ?_); at_builtin; refine Kd.R_append_rows (Kd.int .u8) (w0 := w) w.heap.size rfl (.tmp 57) (.tmp 58) 22 5 (.int .u8 0) 1 rfl Try.underlying22 info5 rfl (by decide) (by omega) v117 ([] : List Int) l1 _ _ _ (fun _ => True) (fun _ => False) rfl rfl ?aO ?aR (fun _ _ h => h) (fun _ h => h.elim) ?aF ?aB ?aS ?aL ?_; (case aR => exact (Kd.C_below HR1.out HB.out)); (case aB => exact HB.out); (case aF => exact (fun _ _ => trivial)); (case aO => exact HO118.out); (case aS => exact (below_size HB.out)); (case aL => have := L20.out; simp; omega); intro v120 w10 ho hb hg hat; rw [List.nil_append] at ho; have n0_ := Aside0.mk (hb); have n1_ := Aside0.mk (ho); clear HB; clear HO118; have HB := n0_; have HO121 := n1_; clear n0_ n1_; clear ho hb hg hat; obtain ⟨Ao11, co11, eo11⟩ := Kd.R_slice HO121.out; subst eo11))
      obtain ⟨n2, hn2⟩ : ∃ n2, l1.length = 16 * n2 := ⟨l1.length / 16, by have := hrt.2.2; omega⟩
      have HN2 := Aside0.mk hn2; clear hn2
      have hC10 := (Kd.R_reads' HO121.out).2.2
      obtain ⟨ad, rfl⟩ : ∃ ad, Ao11 = some ad := by
        obtain ⟨x, h, _⟩ := hC10.2.2 (by have := hrt.1; omega)
        exact ⟨x, h⟩
      refine (Load.ok ad co11 n2 l1 w10 hC10 (Kd.R_reads' HO121.out).2.1 HN2.out (by have := hrt.1; have := HN2.out; omega) (by have := hrt.2.1; have := HN2.out; omega)).mono ?_
      rintro e w11 ⟨g2, b2, rfl, hA2, hg2, hb2, hB11⟩
      have HG := Aside0.mk (Kd.R_move (Kd.R_mono (Kd.R_bound HO121.out) (ok' := fun k => k < w10.heap.size) (fun k hk => hk.2.2.1)) (fun k hk => hB11.block k hk))
      have HA := Aside0.mk hA2
      have HB2 := Aside0.mk (Aid.bthen HB.out hB11)
      clear HB HO121 hC10 hA2 hB11 HN2
      go_wp2_with fail
      go_loopg [67] (l1.length + 1) (fun kq v67 w' => ∃ (x5 : List Int) (j : Nat), v67 = .int .i64 (j : Int) ∧ Aside0 (kq + j = l1.length + 1 ∧ j ≤ l1.length) ∧ Aside0 (Kd.R (Kd.int .u8) 5 w' w.heap.size (fun k => k < w10.heap.size) (.slice (some ad) l1.length co11) x5) ∧ Aside0 (At w' g2 b2 n2 l1 0 false 0) ∧ Aside0 (Below w.heap.size w w'))
      case atStart => exact ⟨l1, 0, rfl, ⟨by omega, by omega⟩, HG, HA, HB2⟩
      case round =>
        clear HG HB2 HA
        obtain ⟨x5, j, rfl, HK, HG, HA, HB⟩ := hrel
        have hl5 := (Kd.R_reads' HG.out).1
        cases gk with
        | zero => exact absurd HK.out (by omega)
        | succ k1 =>
          by_cases hj : j < l1.length
          · have c14 : decide ((j : Int) < (l1.length : Int)) = true := by simpa using hj
            have p0 : (0 : Int) ≤ (j : Int) := by omega
            have q0 : (j : Int) < (l1.length : Int) := by omega
            have q1 : (j : Int) < (x5.length : Int) := by omega
            have HL5 := Aside0.mk hl5; clear hl5
            obtain ⟨ad130, e130, hx⟩ := Kd.at_int (Kd.R_reads' HG.out).2.2 (j : Int) p0 q1
            cases e130
            obtain ⟨go17, co17, eo17, gb17, gl17, cl17, HG17⟩ := Kd.R_form HG.out (by have := HL5.out; omega)
            have gok17 : go17 < w10.heap.size := HG.out.1 go17 (by rw [eo17]; simp [Value.ownBlock])
            (first | cases eo17 | (injection eo17 with ea_ en_ ec_; (first | subst ea_ | (injection ea_ with ea_; subst ea_)); subst ec_; clear en_))
            have GB17 := Aside0.mk gb17
            have GG17 := Aside0.mk HG17
            clear gb17 gl17 HG17
            (first | simp only [add_plain] at hx | skip)
            obtain ⟨hx17_0, hf17_0⟩ := Kd.R_celln 0 HG.out (j : Int) p0 q0
            simp only [Int.toNat_natCast] at hx hx17_0 hf17_0
            have HP18 := Kd.R_putg HG.out (j : Int) (((rd x5 (j : Int)) + 1) % 256)
            have ej : IntKind.i64.wrap ((j : Int) + 1) = ((j + 1 : Nat) : Int) := by rw [IntKind.wrap_i64]; have := HK.out.2; have := L20.out; omega
            simp only [Int.toNat_natCast] at HP18
            have HPa := Aside0.mk HP18.1
            have HPc := Aside0.mk (HA.out.move (W' := wr.setCell ⟨go17, j, none⟩ (Value.int IntKind.u8 ((rd x5 (j : Int) + 1) % 256))) (heap_setCell_other _ _ _ _ (by show g2 ≠ go17; omega)) (heap_setCell_other _ _ _ _ (by show b2 ≠ go17; omega)))
            have HPb := Aside0.mk (below_set (v := Value.int IntKind.u8 ((rd x5 (j : Int) + 1) % 256)) (j := j) (HB.out) GB17.out)
            clear HP18
            go_wp2_with fail
            go_roundg k1
            case measure => omega
            case rel => exact ⟨_, j + 1, by simp, ⟨by have := HK.out; omega, by have := HK.out; omega⟩, HPa, HPc, HPb⟩
          · have c14 : decide ((j : Int) < (l1.length : Int)) = false := by simpa using hj
            clear hl5
            go_wp2_with fail
            refine (RT.out _).mono ?_; rintro e w12 ⟨rfl, ⟨m12, rfl⟩⟩
            go_wp2_with fail
            refine (alive _).mono ?_; rintro e w13 ⟨rfl, hb13⟩
            have HB13 := Aside0.mk (Aid.bthen (pw_below_drewN HB.out m12) hb13)
            have HA13 := Aside0.mk ((HA.out.drewN m12).below hb13)
            clear hb13
            go_wp2_with fail
            refine (RefNew A1 l1.length c1 l1 w13 rfl (Kd.C_below HR1.out HB13.out) hc1 (by have := L20.out; omega)).mono ?_; rintro e w14 ⟨v14, rfl, hR14, hB14⟩
            obtain ⟨A14, c14', rfl, hc14, hC14⟩ := Kd.R_reads hR14
            have HA14 := Aside0.mk (HA13.out.below hB14)
            have HB14 := Aside0.mk (Aid.bthen HB13.out hB14)
            have HC14 := Aside0.mk hC14
            clear hR14 hB14 hC14 HA13 HB13
            go_wp2_with fail
            refine (LawSame HA14.out A14 c14' (-1) HC14.out hc14 (by simp)).mono ?_; rintro e w15 ⟨rfl, hB15⟩
            have HB15 := Aside0.mk (Aid.bthen HB14.out hB15)
            clear hB15 HA14 HB14
            go_wp2_with fail
            go_ret
            exact ⟨rfl, HB15.out⟩
    · have hN := Aside0.mk (New.bad a0 w hin)
      have hn1 : (decide ((1 : Int) ≤ a0) = false) ∨ (decide ((1 : Int) ≤ a0) = true ∧ decide (a0 ≤ 1024) = false) := by
        by_cases h : 1 ≤ a0
        · exact .inr ⟨decide_eq_true h, decide_eq_false (by omega)⟩
        · exact .inl (decide_eq_false h)
      clear hin
      go_enter Try.func3, Try.ntmps3
      go_wp2_with fail
      refine hN.out.mono ?_; rintro e w1 ⟨rfl, ⟨m1, rfl⟩⟩
      obtain ⟨wA, hwA⟩ : ∃ wA, wA = w.drewN m1 := ⟨_, rfl⟩
      rw [← hwA]
      have HB := Aside0.mk (show Below w.heap.size w wA by rw [hwA]; exact pw_below_drewN (Below.refl _ _) m1)
      clear hwA hN
      rcases hn1 with hn1 | ⟨hn1, hn2⟩
      all_goals
        go_wp2_with (first | ((with_reducible refine gate_dst (N := 57) rfl ?_); refine Kd.R_lit (Kd.int .u8) _ 5 ?hg (N := 57) ?hd (xs := ([] : List Int)) (inner := []) (ok := fun _ => True) (okp := fun _ => True) ?hr ?hp (fun _ hk => hk) trivial (Below.refl _ _) (Nat.le_refl _) (by simp) ?_; (case hd => rfl); (case hg => rfl); (case hr => first | (go_simp; done) | (go_simp; rfl)); (case hp => exact (Reps.none _ _)); intro v117 w8 ho9 hb hg_ hnew_; clear hg_ hnew_; have n0_ := Aside0.mk (Kd.R_lower ho9 (below_size HB.out)); have n1_ := Aside0.mk (below_step HB.out hb); clear HB; have HO118 := n0_; have HB := n1_; clear n0_ n1_; clear hb ho9) | ((with_reducible refine gate_builtin (b := .append) (xs := #[.tmp 57, .tmp 58]) rfl ?_); at_builtin; refine Kd.R_append_rows (Kd.int .u8) (w0 := w) w.heap.size rfl (.tmp 57) (.tmp 58) 22 5 (.int .u8 0) 1 rfl Try.underlying22 info5 rfl (by decide) (by omega) v117 ([] : List Int) l1 _ _ _ (fun _ => True) (fun _ => False) rfl rfl ?aO ?aR (fun _ _ h => h) (fun _ h => h.elim) ?aF ?aB ?aS ?aL ?_; (case aR => exact (Kd.C_below HR1.out HB.out)); (case aB => exact HB.out); (case aF => exact (fun _ _ => trivial)); (case aO => exact HO118.out); (case aS => exact (below_size HB.out)); (case aL => have := L20.out; simp; omega); intro v120 w10 ho hb hg hat; rw [List.nil_append] at ho; have n0_ := Aside0.mk (hb); have n1_ := Aside0.mk (ho); clear HB; clear HO118; have HB := n0_; have HO121 := n1_; clear n0_ n1_; clear ho hb hg hat; obtain ⟨Ao11, co11, eo11⟩ := Kd.R_slice HO121.out; subst eo11))
        obtain ⟨n2, hn2⟩ : ∃ n2, l1.length = 16 * n2 := ⟨l1.length / 16, by have := hrt.2.2; omega⟩
        have HN2 := Aside0.mk hn2; clear hn2
        have hC10 := (Kd.R_reads' HO121.out).2.2
        obtain ⟨ad, rfl⟩ : ∃ ad, Ao11 = some ad := by
          obtain ⟨x, h, _⟩ := hC10.2.2 (by have := hrt.1; omega)
          exact ⟨x, h⟩
        refine (Load.ok ad co11 n2 l1 w10 hC10 (Kd.R_reads' HO121.out).2.1 HN2.out (by have := hrt.1; have := HN2.out; omega) (by have := hrt.2.1; have := HN2.out; omega)).mono ?_
        rintro e w11 ⟨g2, b2, rfl, hA2, hg2, hb2, hB11⟩
        have HG := Aside0.mk (Kd.R_move (Kd.R_mono (Kd.R_bound HO121.out) (ok' := fun k => k < w10.heap.size) (fun k hk => hk.2.2.1)) (fun k hk => hB11.block k hk))
        have HA := Aside0.mk hA2
        have HB2 := Aside0.mk (Aid.bthen HB.out hB11)
        clear HB HO121 hC10 hA2 hB11 HN2
        go_wp2_with fail
        go_loopg [67] (l1.length + 1) (fun kq v67 w' => ∃ (x5 : List Int) (j : Nat), v67 = .int .i64 (j : Int) ∧ Aside0 (kq + j = l1.length + 1 ∧ j ≤ l1.length) ∧ Aside0 (Kd.R (Kd.int .u8) 5 w' w.heap.size (fun k => k < w10.heap.size) (.slice (some ad) l1.length co11) x5) ∧ Aside0 (At w' g2 b2 n2 l1 0 false 0) ∧ Aside0 (Below w.heap.size w w'))
        case atStart => exact ⟨l1, 0, rfl, ⟨by omega, by omega⟩, HG, HA, HB2⟩
        case round =>
          clear HG HB2 HA
          obtain ⟨x5, j, rfl, HK, HG, HA, HB⟩ := hrel
          have hl5 := (Kd.R_reads' HG.out).1
          cases gk with
          | zero => exact absurd HK.out (by omega)
          | succ k1 =>
            by_cases hj : j < l1.length
            · have c14 : decide ((j : Int) < (l1.length : Int)) = true := by simpa using hj
              have p0 : (0 : Int) ≤ (j : Int) := by omega
              have q0 : (j : Int) < (l1.length : Int) := by omega
              have q1 : (j : Int) < (x5.length : Int) := by omega
              have HL5 := Aside0.mk hl5; clear hl5
              obtain ⟨ad130, e130, hx⟩ := Kd.at_int (Kd.R_reads' HG.out).2.2 (j : Int) p0 q1
              cases e130
              obtain ⟨go17, co17, eo17, gb17, gl17, cl17, HG17⟩ := Kd.R_form HG.out (by have := HL5.out; omega)
              have gok17 : go17 < w10.heap.size := HG.out.1 go17 (by rw [eo17]; simp [Value.ownBlock])
              (first | cases eo17 | (injection eo17 with ea_ en_ ec_; (first | subst ea_ | (injection ea_ with ea_; subst ea_)); subst ec_; clear en_))
              have GB17 := Aside0.mk gb17
              have GG17 := Aside0.mk HG17
              clear gb17 gl17 HG17
              (first | simp only [add_plain] at hx | skip)
              obtain ⟨hx17_0, hf17_0⟩ := Kd.R_celln 0 HG.out (j : Int) p0 q0
              simp only [Int.toNat_natCast] at hx hx17_0 hf17_0
              have HP18 := Kd.R_putg HG.out (j : Int) (((rd x5 (j : Int)) + 1) % 256)
              have ej : IntKind.i64.wrap ((j : Int) + 1) = ((j + 1 : Nat) : Int) := by rw [IntKind.wrap_i64]; have := HK.out.2; have := L20.out; omega
              simp only [Int.toNat_natCast] at HP18
              have HPa := Aside0.mk HP18.1
              have HPc := Aside0.mk (HA.out.move (W' := wr.setCell ⟨go17, j, none⟩ (Value.int IntKind.u8 ((rd x5 (j : Int) + 1) % 256))) (heap_setCell_other _ _ _ _ (by show g2 ≠ go17; omega)) (heap_setCell_other _ _ _ _ (by show b2 ≠ go17; omega)))
              have HPb := Aside0.mk (below_set (v := Value.int IntKind.u8 ((rd x5 (j : Int) + 1) % 256)) (j := j) (HB.out) GB17.out)
              clear HP18
              go_wp2_with fail
              go_roundg k1
              case measure => omega
              case rel => exact ⟨_, j + 1, by simp, ⟨by have := HK.out; omega, by have := HK.out; omega⟩, HPa, HPc, HPb⟩
            · have c14 : decide ((j : Int) < (l1.length : Int)) = false := by simpa using hj
              clear hl5
              go_wp2_with fail
              refine (RT.out _).mono ?_; rintro e w12 ⟨rfl, ⟨m12, rfl⟩⟩
              go_wp2_with fail
              refine (alive _).mono ?_; rintro e w13 ⟨rfl, hb13⟩
              have HB13 := Aside0.mk (Aid.bthen (pw_below_drewN HB.out m12) hb13)
              have HA13 := Aside0.mk ((HA.out.drewN m12).below hb13)
              clear hb13
              go_wp2_with fail
              refine (RefNew A1 l1.length c1 l1 w13 rfl (Kd.C_below HR1.out HB13.out) hc1 (by have := L20.out; omega)).mono ?_; rintro e w14 ⟨v14, rfl, hR14, hB14⟩
              obtain ⟨A14, c14', rfl, hc14, hC14⟩ := Kd.R_reads hR14
              have HA14 := Aside0.mk (HA13.out.below hB14)
              have HB14 := Aside0.mk (Aid.bthen HB13.out hB14)
              have HC14 := Aside0.mk hC14
              clear hR14 hB14 hC14 HA13 HB13
              go_wp2_with fail
              refine (LawSame HA14.out A14 c14' (-1) HC14.out hc14 (by simp)).mono ?_; rintro e w15 ⟨rfl, hB15⟩
              have HB15 := Aside0.mk (Aid.bthen HB14.out hB15)
              clear hB15 HA14 HB14
              go_wp2_with fail
              go_ret
              exact ⟨rfl, HB15.out⟩
  · have RT := Aside0.mk (fun W => RightF l1 hrt W)
    rcases (show (1 ≤ a0 ∧ a0 ≤ 1024) ∨ ¬ (1 ≤ a0 ∧ a0 ≤ 1024) from by by_cases h : (1 ≤ a0 ∧ a0 ≤ 1024); exact .inl h; exact .inr h) with hin | hin
    · obtain ⟨n, rfl⟩ : ∃ n : Nat, a0 = (n : Int) := ⟨a0.toNat, by omega⟩
      have b1 : decide ((1 : Int) ≤ (n : Int)) = true := decide_eq_true (by omega)
      have b2 : decide ((n : Int) ≤ 1024) = true := decide_eq_true (by omega)
      have e16 : wrap64 (16 * (n : Int)) = ((16 * n : Nat) : Int) := by unfold wrap64; omega
      have hmk := Aside0.mk (fun w => mk22 (16 * n) (by omega) w)
      go_enter Try.func3, Try.ntmps3
      go_wp2_with fail
      refine (New.ok n _ (by omega) (by omega)).mono ?_; rintro e w1 ⟨g, b, rfl, hA, hg, hb, hB⟩
      have HA := Aside0.mk hA; have HB := Aside0.mk hB; clear hA hB
      have hmk2 : ∀ w, (Instr.makeSlice 22 (.int .i64 (16 * (n : Int))) (.int .i64 (16 * (n : Int)))).run Try.prog w = .ok (.slice (some ⟨w.heap.size, 0, none⟩) (16 * n) (16 * n)) (w.alloc (.cells (((List.replicate (16 * n) (0 : Int)).map (Value.int .u8)).toArray) 5)) := fun w => by
        have := hmk.out w
        rw [show ((16 * n : Nat) : Int) = 16 * (n : Int) by omega] at this
        exact this
      go_wp2_with fail
      have C0 := Aside0.mk (Aid.C_new (enc := Value.int .u8) (h1 := fun _ => rfl) (0 : Int) w1 (List.replicate (16 * n) 0) (Array.replicate (16 * n) (Value.int .u8 0)) 5 (0, 0) (by simp) (by simp; omega))
      have HA2 := Aside0.mk (HA.out.below ((Below.refl _ _).alloc (Nat.le_refl _) (Obj.cells (Array.replicate (16 * n) (Value.int .u8 0)) 5)))
      have HB2 := Aside0.mk (HB.out.alloc HB.out.size (Obj.cells (Array.replicate (16 * n) (Value.int .u8 0)) 5))
      clear HA HB hmk
      refine (RefNew _ (16 * n) (16 * n) (List.replicate (16 * n) 0) _ (by simp) C0.out (Nat.le_refl _) (by simp; omega)).mono ?_; rintro e w2 ⟨v2, rfl, hR2, hB2⟩
      obtain ⟨A2, c2, rfl, hc2, hC2⟩ := Kd.R_reads hR2
      have HA3 := Aside0.mk (HA2.out.below hB2)
      have HB3 := Aside0.mk (Aid.bthen HB2.out hB2)
      rw [List.length_replicate] at hC2 hc2
      have HC2 := Aside0.mk hC2
      clear HA2 HB2 C0 hR2 hB2 hC2 hmk2 e16
      go_wp2_with fail
      refine (LawSameN HA3.out A2 (16 * n) c2 (-1) (List.length_replicate) HC2.out hc2 (by simp)).mono ?_; rintro e wA ⟨rfl, hB⟩
      have HB := Aside0.mk (Aid.bthen HB3.out hB)
      clear HA3 HB3 HC2 hB
      go_wp2_with (first | ((with_reducible refine gate_dst (N := 57) rfl ?_); refine Kd.R_lit (Kd.int .u8) _ 5 ?hg (N := 57) ?hd (xs := ([] : List Int)) (inner := []) (ok := fun _ => True) (okp := fun _ => True) ?hr ?hp (fun _ hk => hk) trivial (Below.refl _ _) (Nat.le_refl _) (by simp) ?_; (case hd => rfl); (case hg => rfl); (case hr => first | (go_simp; done) | (go_simp; rfl)); (case hp => exact (Reps.none _ _)); intro v117 w8 ho9 hb hg_ hnew_; clear hg_ hnew_; have n0_ := Aside0.mk (Kd.R_lower ho9 (below_size HB.out)); have n1_ := Aside0.mk (below_step HB.out hb); clear HB; have HO118 := n0_; have HB := n1_; clear n0_ n1_; clear hb ho9) | ((with_reducible refine gate_builtin (b := .append) (xs := #[.tmp 57, .tmp 58]) rfl ?_); at_builtin; refine Kd.R_append_rows (Kd.int .u8) (w0 := w) w.heap.size rfl (.tmp 57) (.tmp 58) 22 5 (.int .u8 0) 1 rfl Try.underlying22 info5 rfl (by decide) (by omega) v117 ([] : List Int) l1 _ _ _ (fun _ => True) (fun _ => False) rfl rfl ?aO ?aR (fun _ _ h => h) (fun _ h => h.elim) ?aF ?aB ?aS ?aL ?_; (case aR => exact (Kd.C_below HR1.out HB.out)); (case aB => exact HB.out); (case aF => exact (fun _ _ => trivial)); (case aO => exact HO118.out); (case aS => exact (below_size HB.out)); (case aL => have := L20.out; simp; omega); intro v120 w10 ho hb hg hat; rw [List.nil_append] at ho; have n0_ := Aside0.mk (hb); have n1_ := Aside0.mk (ho); clear HB; clear HO118; have HB := n0_; have HO121 := n1_; clear n0_ n1_; clear ho hb hg hat; obtain ⟨Ao11, co11, eo11⟩ := Kd.R_slice HO121.out; subst eo11))
      have hC10 := (Kd.R_reads' HO121.out).2.2
      obtain ⟨adx, hadx⟩ : ∃ x, x = Ao11 := ⟨_, rfl⟩
      refine (Load.bad Ao11 co11 l1 w10 (by have := L20.out; omega) hrt).mono ?_
      rintro e w11 ⟨rfl, hB11⟩
      have HG := Aside0.mk (Kd.R_move (Kd.R_mono (Kd.R_bound HO121.out) (ok' := fun k => k < w10.heap.size) (fun k hk => hk.2.2.1)) (fun k hk => hB11.block k hk))
      have HB2 := Aside0.mk (Aid.bthen HB.out hB11)
      clear HB HO121 hC10 hB11 hadx
      go_wp2_with fail
      go_loopg [67] (l1.length + 1) (fun kq v67 w' => ∃ (x5 : List Int) (j : Nat), v67 = .int .i64 (j : Int) ∧ Aside0 (kq + j = l1.length + 1 ∧ j ≤ l1.length) ∧ Aside0 (Kd.R (Kd.int .u8) 5 w' w.heap.size (fun k => k < w10.heap.size) (.slice Ao11 l1.length co11) x5) ∧ Aside0 (Below w.heap.size w w'))
      case atStart => exact ⟨l1, 0, rfl, ⟨by omega, by omega⟩, HG, HB2⟩
      case round =>
        clear HG HB2
        obtain ⟨x5, j, rfl, HK, HG, HB⟩ := hrel
        have hl5 := (Kd.R_reads' HG.out).1
        cases gk with
        | zero => exact absurd HK.out (by omega)
        | succ k1 =>
          by_cases hj : j < l1.length
          · have c14 : decide ((j : Int) < (l1.length : Int)) = true := by simpa using hj
            have p0 : (0 : Int) ≤ (j : Int) := by omega
            have q0 : (j : Int) < (l1.length : Int) := by omega
            have q1 : (j : Int) < (x5.length : Int) := by omega
            have HL5 := Aside0.mk hl5; clear hl5
            obtain ⟨ad130, e130, hx⟩ := Kd.at_int (Kd.R_reads' HG.out).2.2 (j : Int) p0 q1
            cases e130
            obtain ⟨go17, co17, eo17, gb17, gl17, cl17, HG17⟩ := Kd.R_form HG.out (by have := HL5.out; omega)
            have gok17 : go17 < w10.heap.size := HG.out.1 go17 (by rw [eo17]; simp [Value.ownBlock])
            (first | cases eo17 | (injection eo17 with ea_ en_ ec_; (first | subst ea_ | (injection ea_ with ea_; subst ea_)); subst ec_; clear en_))
            have GB17 := Aside0.mk gb17
            have GG17 := Aside0.mk HG17
            clear gb17 gl17 HG17
            (first | simp only [add_plain] at hx | skip)
            obtain ⟨hx17_0, hf17_0⟩ := Kd.R_celln 0 HG.out (j : Int) p0 q0
            simp only [Int.toNat_natCast] at hx hx17_0 hf17_0
            have HP18 := Kd.R_putg HG.out (j : Int) (((rd x5 (j : Int)) + 1) % 256)
            have ej : IntKind.i64.wrap ((j : Int) + 1) = ((j + 1 : Nat) : Int) := by rw [IntKind.wrap_i64]; have := HK.out.2; have := L20.out; omega
            simp only [Int.toNat_natCast] at HP18
            have HPa := Aside0.mk HP18.1
            have HPb := Aside0.mk (below_set (v := Value.int IntKind.u8 ((rd x5 (j : Int) + 1) % 256)) (j := j) (HB.out) GB17.out)
            clear HP18
            go_wp2_with fail
            go_roundg k1
            case measure => omega
            case rel => exact ⟨_, j + 1, by simp, ⟨by have := HK.out; omega, by have := HK.out; omega⟩, HPa, HPb⟩
          · have c14 : decide ((j : Int) < (l1.length : Int)) = false := by simpa using hj
            clear hl5
            go_wp2_with fail
            refine (RT.out _).mono ?_; rintro e w12 ⟨rfl, ⟨m12, rfl⟩⟩
            go_wp2_with fail
            refine (alive _).mono ?_; rintro e w13 ⟨rfl, hb13⟩
            have HB13 := Aside0.mk (Aid.bthen (pw_below_drewN HB.out m12) hb13)
            clear hb13
            go_wp2_with fail
            go_ret
            exact ⟨rfl, HB13.out⟩
    · have hN := Aside0.mk (New.bad a0 w hin)
      have hn1 : (decide ((1 : Int) ≤ a0) = false) ∨ (decide ((1 : Int) ≤ a0) = true ∧ decide (a0 ≤ 1024) = false) := by
        by_cases h : 1 ≤ a0
        · exact .inr ⟨decide_eq_true h, decide_eq_false (by omega)⟩
        · exact .inl (decide_eq_false h)
      clear hin
      go_enter Try.func3, Try.ntmps3
      go_wp2_with fail
      refine hN.out.mono ?_; rintro e w1 ⟨rfl, ⟨m1, rfl⟩⟩
      obtain ⟨wA, hwA⟩ : ∃ wA, wA = w.drewN m1 := ⟨_, rfl⟩
      rw [← hwA]
      have HB := Aside0.mk (show Below w.heap.size w wA by rw [hwA]; exact pw_below_drewN (Below.refl _ _) m1)
      clear hwA hN
      rcases hn1 with hn1 | ⟨hn1, hn2⟩
      all_goals
        go_wp2_with (first | ((with_reducible refine gate_dst (N := 57) rfl ?_); refine Kd.R_lit (Kd.int .u8) _ 5 ?hg (N := 57) ?hd (xs := ([] : List Int)) (inner := []) (ok := fun _ => True) (okp := fun _ => True) ?hr ?hp (fun _ hk => hk) trivial (Below.refl _ _) (Nat.le_refl _) (by simp) ?_; (case hd => rfl); (case hg => rfl); (case hr => first | (go_simp; done) | (go_simp; rfl)); (case hp => exact (Reps.none _ _)); intro v117 w8 ho9 hb hg_ hnew_; clear hg_ hnew_; have n0_ := Aside0.mk (Kd.R_lower ho9 (below_size HB.out)); have n1_ := Aside0.mk (below_step HB.out hb); clear HB; have HO118 := n0_; have HB := n1_; clear n0_ n1_; clear hb ho9) | ((with_reducible refine gate_builtin (b := .append) (xs := #[.tmp 57, .tmp 58]) rfl ?_); at_builtin; refine Kd.R_append_rows (Kd.int .u8) (w0 := w) w.heap.size rfl (.tmp 57) (.tmp 58) 22 5 (.int .u8 0) 1 rfl Try.underlying22 info5 rfl (by decide) (by omega) v117 ([] : List Int) l1 _ _ _ (fun _ => True) (fun _ => False) rfl rfl ?aO ?aR (fun _ _ h => h) (fun _ h => h.elim) ?aF ?aB ?aS ?aL ?_; (case aR => exact (Kd.C_below HR1.out HB.out)); (case aB => exact HB.out); (case aF => exact (fun _ _ => trivial)); (case aO => exact HO118.out); (case aS => exact (below_size HB.out)); (case aL => have := L20.out; simp; omega); intro v120 w10 ho hb hg hat; rw [List.nil_append] at ho; have n0_ := Aside0.mk (hb); have n1_ := Aside0.mk (ho); clear HB; clear HO118; have HB := n0_; have HO121 := n1_; clear n0_ n1_; clear ho hb hg hat; obtain ⟨Ao11, co11, eo11⟩ := Kd.R_slice HO121.out; subst eo11))
        have hC10 := (Kd.R_reads' HO121.out).2.2
        obtain ⟨adx, hadx⟩ : ∃ x, x = Ao11 := ⟨_, rfl⟩
        refine (Load.bad Ao11 co11 l1 w10 (by have := L20.out; omega) hrt).mono ?_
        rintro e w11 ⟨rfl, hB11⟩
        have HG := Aside0.mk (Kd.R_move (Kd.R_mono (Kd.R_bound HO121.out) (ok' := fun k => k < w10.heap.size) (fun k hk => hk.2.2.1)) (fun k hk => hB11.block k hk))
        have HB2 := Aside0.mk (Aid.bthen HB.out hB11)
        clear HB HO121 hC10 hB11 hadx
        go_wp2_with fail
        go_loopg [67] (l1.length + 1) (fun kq v67 w' => ∃ (x5 : List Int) (j : Nat), v67 = .int .i64 (j : Int) ∧ Aside0 (kq + j = l1.length + 1 ∧ j ≤ l1.length) ∧ Aside0 (Kd.R (Kd.int .u8) 5 w' w.heap.size (fun k => k < w10.heap.size) (.slice Ao11 l1.length co11) x5) ∧ Aside0 (Below w.heap.size w w'))
        case atStart => exact ⟨l1, 0, rfl, ⟨by omega, by omega⟩, HG, HB2⟩
        case round =>
          clear HG HB2
          obtain ⟨x5, j, rfl, HK, HG, HB⟩ := hrel
          have hl5 := (Kd.R_reads' HG.out).1
          cases gk with
          | zero => exact absurd HK.out (by omega)
          | succ k1 =>
            by_cases hj : j < l1.length
            · have c14 : decide ((j : Int) < (l1.length : Int)) = true := by simpa using hj
              have p0 : (0 : Int) ≤ (j : Int) := by omega
              have q0 : (j : Int) < (l1.length : Int) := by omega
              have q1 : (j : Int) < (x5.length : Int) := by omega
              have HL5 := Aside0.mk hl5; clear hl5
              obtain ⟨ad130, e130, hx⟩ := Kd.at_int (Kd.R_reads' HG.out).2.2 (j : Int) p0 q1
              cases e130
              obtain ⟨go17, co17, eo17, gb17, gl17, cl17, HG17⟩ := Kd.R_form HG.out (by have := HL5.out; omega)
              have gok17 : go17 < w10.heap.size := HG.out.1 go17 (by rw [eo17]; simp [Value.ownBlock])
              (first | cases eo17 | (injection eo17 with ea_ en_ ec_; (first | subst ea_ | (injection ea_ with ea_; subst ea_)); subst ec_; clear en_))
              have GB17 := Aside0.mk gb17
              have GG17 := Aside0.mk HG17
              clear gb17 gl17 HG17
              (first | simp only [add_plain] at hx | skip)
              obtain ⟨hx17_0, hf17_0⟩ := Kd.R_celln 0 HG.out (j : Int) p0 q0
              simp only [Int.toNat_natCast] at hx hx17_0 hf17_0
              have HP18 := Kd.R_putg HG.out (j : Int) (((rd x5 (j : Int)) + 1) % 256)
              have ej : IntKind.i64.wrap ((j : Int) + 1) = ((j + 1 : Nat) : Int) := by rw [IntKind.wrap_i64]; have := HK.out.2; have := L20.out; omega
              simp only [Int.toNat_natCast] at HP18
              have HPa := Aside0.mk HP18.1
              have HPb := Aside0.mk (below_set (v := Value.int IntKind.u8 ((rd x5 (j : Int) + 1) % 256)) (j := j) (HB.out) GB17.out)
              clear HP18
              go_wp2_with fail
              go_roundg k1
              case measure => omega
              case rel => exact ⟨_, j + 1, by simp, ⟨by have := HK.out; omega, by have := HK.out; omega⟩, HPa, HPb⟩
            · have c14 : decide ((j : Int) < (l1.length : Int)) = false := by simpa using hj
              clear hl5
              go_wp2_with fail
              refine (RT.out _).mono ?_; rintro e w12 ⟨rfl, ⟨m12, rfl⟩⟩
              go_wp2_with fail
              refine (alive _).mono ?_; rintro e w13 ⟨rfl, hb13⟩
              have HB13 := Aside0.mk (Aid.bthen (pw_below_drewN HB.out m12) hb13)
              clear hb13
              go_wp2_with fail
              go_ret
              exact ⟨rfl, HB13.out⟩
theorem redresslaw17_DiskNew.calls (a0 : Int) (A1 : Option Addr) (c1 : Nat) (l1 : List Int) (r : Bool) (w : World) (hr1 : Kd.C (Kd.int .u8) w A1 l1.length l1) (hc1 : l1.length ≤ c1) (h : redresslaw17_DiskNew.f a0 l1 = some r) :
    Calls Try.prog 3 #[.int .i64 a0, .slice A1 l1.length c1] w fun e w' => e = .returned (.bool r) ∧ Below w.heap.size w w' := by
  obtain rfl := Option.some.inj h
  exact DiskNew a0 A1 c1 l1 w hr1 hc1
end Disk
end Go.Proofs.Ytphgoiepoojikaa
