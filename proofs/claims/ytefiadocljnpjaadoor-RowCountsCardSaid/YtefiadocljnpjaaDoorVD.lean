/- RowCounts: the law, walked by hand. -/
import Derived.Test.YtefiadocljnpjaaDoorMV
namespace Go.Proofs.YtefiadocljnpjaaDoor.Row
open Go.Proofs.Tree Go.RowKit Go.Proofs.YtefiadocljnpjaaDoorW.PrintWords Go.Proofs.YtefiadocljnpjaaDoorW.PrintLast Go.Proofs.YtefiadocljnpjaaDoorW.PrintMore Go.Proofs.YtefiadocljnpjaaDoor.PK
set_option linter.unusedVariables false
set_option linter.unusedSimpArgs false
set_option maxHeartbeats 4000000
set_option maxRecDepth 100000
def allK (l : List S48) : Nat → Nat
  | 0 => 0
  | n + 1 => allK l n + cntL l [((n + 1 : Nat) : Int)]
theorem allK_is (l : List S48) (n : Nat) : allK l n = l.countP fun x => decide (1 ≤ x.f0) && decide (x.f0 ≤ (n : Int)) := by
  induction n with
  | zero =>
    have : (fun x : S48 => decide (1 ≤ x.f0) && decide (x.f0 ≤ ((0 : Nat) : Int))) = fun _ => false := by
      funext x
      by_cases h : 1 ≤ x.f0
      · rw [decide_eq_false (p := x.f0 ≤ ((0 : Nat) : Int)) (by omega), Bool.and_false]
      · rw [decide_eq_false h, Bool.false_and]
    rw [this]; simp [allK]
  | succ n ih =>
    show allK l n + cntL l [((n + 1 : Nat) : Int)] = _
    rw [ih]
    unfold cntL
    clear ih
    induction l with
    | nil => rfl
    | cons x l ih =>
      rw [List.countP_cons, List.countP_cons, List.countP_cons]
      have hk : hasK [((n + 1 : Nat) : Int)] x.f0 = decide (x.f0 = ((n + 1 : Nat) : Int)) := by
        unfold hasK
        by_cases h : x.f0 = ((n + 1 : Nat) : Int)
        · rw [decide_eq_true h]; simp [h]
        · rw [decide_eq_false h]; simp; omega
      rw [hk]
      by_cases h1 : x.f0 = ((n + 1 : Nat) : Int)
      · have e1 : (decide (1 ≤ x.f0) && decide (x.f0 ≤ (n : Int))) = false := by rw [decide_eq_false (p := x.f0 ≤ (n : Int)) (by omega), Bool.and_false]
        have e2 : (decide (1 ≤ x.f0) && decide (x.f0 ≤ ((n + 1 : Nat) : Int))) = true := by rw [decide_eq_true (p := 1 ≤ x.f0) (by omega), decide_eq_true (p := x.f0 ≤ ((n + 1 : Nat) : Int)) (by omega)]; rfl
        rw [e1, e2, decide_eq_true h1, if_neg (by decide), if_pos rfl]
        omega
      · have e2 : (decide (1 ≤ x.f0) && decide (x.f0 ≤ ((n + 1 : Nat) : Int))) = (decide (1 ≤ x.f0) && decide (x.f0 ≤ (n : Int))) := by
          by_cases h2 : x.f0 ≤ (n : Int)
          · rw [decide_eq_true h2, decide_eq_true (p := x.f0 ≤ ((n + 1 : Nat) : Int)) (by omega)]
          · rw [decide_eq_false h2, decide_eq_false (p := x.f0 ≤ ((n + 1 : Nat) : Int)) (by omega)]
        rw [e2, decide_eq_false h1, if_neg (c := false = true) (by decide)]
        omega
def isOdd (x : S48) : Bool := decide (x.f0 < 1) || decide (14 < x.f0)
def oddN (l : List S48) : Nat := l.countP isOdd
theorem all_odd (l : List S48) : allK l 14 + oddN l = l.length := by
  rw [allK_is]
  unfold oddN
  induction l with
  | nil => rfl
  | cons x l ih =>
    rw [List.countP_cons, List.countP_cons, List.length_cons]
    have : isOdd x = !(decide (1 ≤ x.f0) && decide (x.f0 ≤ ((14 : Nat) : Int))) := by
      unfold isOdd
      by_cases h1 : 1 ≤ x.f0
      · by_cases h2 : x.f0 ≤ 14
        · rw [decide_eq_true h1, decide_eq_true (p := x.f0 ≤ ((14 : Nat) : Int)) (by omega), decide_eq_false (by omega), decide_eq_false (by omega)]; rfl
        · rw [decide_eq_true h1, decide_eq_false (p := x.f0 ≤ ((14 : Nat) : Int)) (by omega), decide_eq_false (by omega), decide_eq_true (by omega)]; rfl
      · rw [decide_eq_false h1, decide_eq_true (p := x.f0 < 1) (by omega)]; rfl
    rw [this]
    obtain ⟨p, hp⟩ : ∃ p, p = l.countP (fun x => decide (1 ≤ x.f0) && decide (x.f0 ≤ ((14 : Nat) : Int))) := ⟨_, rfl⟩
    obtain ⟨q, hq⟩ : ∃ q, q = l.countP isOdd := ⟨_, rfl⟩
    rw [← hp, ← hq] at ih ⊢
    cases (decide (1 ≤ x.f0) && decide (x.f0 ≤ ((14 : Nat) : Int)))
    · rw [if_neg (by decide), if_pos (by decide)]; omega
    · rw [if_pos rfl, if_neg (by decide)]; omega
theorem allK_le (l : List S48) (n : Nat) : allK l n ≤ l.length := by rw [allK_is]; exact List.countP_le_length
theorem oddN_snoc (l : List S48) (x : S48) : oddN (l ++ [x]) = oddN l + if isOdd x = true then 1 else 0 := by unfold oddN; rw [List.countP_append]; simp [List.countP_cons]
theorem oddN_le (l : List S48) : oddN l ≤ l.length := List.countP_le_length
theorem take_rd (l : List S48) (j : Nat) (h : j < l.length) : l.take (j + 1) = l.take j ++ [rd_T48 l (j : Int)] := by
  rw [List.take_succ_eq_append_getElem h]; unfold rd_T48; simp [List.getD_eq_getElem?_getD, List.getElem?_eq_getElem h]
/-- Three rows that came in. -/
structure In3 (w W : World) (A : Option Addr) (l : List S48) (A1 : Option Addr) (m : List S48) (A2 : Option Addr) (ks : List Int) : Prop where
  i : In1 w W A l
  c1 : Kd.C k48 W A1 m.length m
  c2 : Kd.C (Kd.int .i64) W A2 ks.length ks
section
variable {w W : World} {A A1 A2 : Option Addr} {l m : List S48} {ks : List Int} {c c1 c2 : Nat}
theorem In3.below {W' : World} (h : In3 w W A l A1 m A2 ks) (hb : Below W.heap.size W W') : In3 w W' A l A1 m A2 ks := ⟨h.i.below hb, Kd.C_below h.c1 hb, Kd.C_below h.c2 hb⟩
theorem f35 (hc : l.length ≤ c) (h : In3 w W A l A1 m A2 ks) : Calls Tryd.prog 35 #[.slice A l.length c] W fun e W' => e = .returned (.bool (decide (l.length ≤ 250))) ∧ In3 w W' A l A1 m A2 ks :=
  (Few A c l W h.i.c hc).mono fun e W' ⟨he, hd⟩ => ⟨he, h.below hd.below⟩
theorem f35b (hc : m.length ≤ c) (h : In3 w W A l A1 m A2 ks) : Calls Tryd.prog 35 #[.slice A1 m.length c] W fun e W' => e = .returned (.bool (decide (m.length ≤ 250))) ∧ In3 w W' A l A1 m A2 ks :=
  (Few A1 c m W h.c1 hc).mono fun e W' ⟨he, hd⟩ => ⟨he, h.below hd.below⟩
theorem f30 (h : In3 w W A l A1 m A2 ks) : Calls Tryd.prog 30 #[] W fun e W' => e = .returned (.bool true) ∧ In3 w W' A l A1 m A2 ks :=
  (Alive W h.i.l).mono fun e W' ⟨he, hd⟩ => ⟨he, h.below hd⟩
theorem f47 (hc : l.length ≤ c) (hk : ks.length ≤ c2) (h : In3 w W A l A1 m A2 ks) : Calls Tryd.prog 47 #[.slice A l.length c, .slice A2 ks.length c2] W fun e W' => e = .returned (.int .i64 (cntL l ks : Int)) ∧ In3 w W' A l A1 m A2 ks :=
  (Count A c l A2 c2 ks W h.i.c hc h.c2 hk).mono fun e W' ⟨he, hd⟩ => ⟨he, h.below hd⟩
theorem f48 (hc : l.length ≤ c) (hk : ks.length ≤ c2) (h : In3 w W A l A1 m A2 ks) : Calls Tryd.prog 48 #[.slice A l.length c, .slice A2 ks.length c2] W fun e W' => e = .returned (.int .i64 (cntL l ks : Int)) ∧ In3 w W' A l A1 m A2 ks :=
  (RefCount A c l A2 c2 ks W h.i.c hc h.c2 hk).mono fun e W' ⟨he, hd⟩ => ⟨he, h.below hd.below⟩
theorem f49 (hc : l.length ≤ c) (hm : m.length ≤ c1) (h : In3 w W A l A1 m A2 ks) : Calls Tryd.prog 49 #[.slice A l.length c, .slice A1 m.length c1] W fun e W' => e = .returned (.bool (same l m)) ∧ In3 w W' A l A1 m A2 ks :=
  (Same A c l A1 c1 m W h.i.c hc h.c1 hm).mono fun e W' ⟨he, hd⟩ => ⟨he, h.below hd.below⟩
theorem f49l (hc : l.length ≤ c) (h : In3 w W A l A1 m A2 ks) : Calls Tryd.prog 49 #[.slice A l.length c, .slice A l.length c] W fun e W' => e = .returned (.bool true) ∧ In3 w W' A l A1 m A2 ks :=
  (Same A c l A c l W h.i.c hc h.i.c hc).mono fun e W' ⟨he, hd⟩ => ⟨by rw [he, (same_iff l l).2 rfl], h.below hd.below⟩
theorem f44 (hc : l.length ≤ c) (hm : m.length ≤ c1) (h : In3 w W A l A1 m A2 ks) : Calls Tryd.prog 44 #[.slice A l.length c, .slice A1 m.length c1] W fun e W' => e = .returned (.bool (same l m)) ∧ In3 w W' A l A1 m A2 ks :=
  (RefSame A c l A1 c1 m W h.i.c hc h.c1 hm).mono fun e W' ⟨he, hd⟩ => ⟨he, h.below hd.below⟩
theorem C_one (W : World) (k : Int) : Kd.C (Kd.int .i64) (W.alloc (.cells #[.int .i64 k] 3)) (some ⟨W.heap.size, 0, none⟩) 1 [k] := by
  refine ⟨rfl, by decide, fun _ => ⟨_, rfl, fun j p hj => ?_⟩⟩
  match j, hj with
  | 0, hj => injection hj with hj; subst hj; exact ⟨[.int .i64 k], rfl, rfl, fun i u hu => by
      match i, hu with
      | 0, hu => injection hu with hu; subst hu; show (W.alloc _).cell? (Addr.add ⟨W.heap.size, 0, none⟩ 0) = _; rw [add_plain, cell_of_row _ _ _ _ _ _ (heap_new W _)]; rfl⟩
theorem f47k (hc : l.length ≤ c) (k : Int) (x : Nat) (h : In3 w W A l A1 m A2 ks) (hk : Kd.C (Kd.int .i64) W (some ⟨x, 0, none⟩) 1 [k]) : Calls Tryd.prog 47 #[.slice A l.length c, .slice (some ⟨x, 0, none⟩) 1 1] W fun e W' => e = .returned (.int .i64 (cntL l [k] : Int)) ∧ In3 w W' A l A1 m A2 ks :=
  (Count A c l (some ⟨x, 0, none⟩) 1 [k] W h.i.c hc hk (Nat.le_refl _)).mono fun e W' ⟨he, hd⟩ => ⟨he, h.below hd⟩
end
theorem RowCounts (A : Option Addr) (c : Nat) (l : List S48) (A1 : Option Addr) (c1 : Nat) (m : List S48) (A2 : Option Addr) (c2 : Nat) (ks : List Int) (w : World) (hL : Laid w) (hC : Kd.C k48 w A l.length l) (hc : l.length ≤ c) (hC1 : Kd.C k48 w A1 m.length m) (hc1 : m.length ≤ c1) (hC2 : Kd.C (Kd.int .i64) w A2 ks.length ks) (hc2 : ks.length ≤ c2) :
    Calls Tryd.prog 13 #[.slice A l.length c, .slice A1 m.length c1, .slice A2 ks.length c2] w fun e w' => e = .returned (.bool true) ∧ Below w.heap.size w w' := by
  have h0 : In3 w w A l A1 m A2 ks := ⟨⟨hC, hL, Below.refl _ _⟩, hC1, hC2⟩
  clear hL hC hC1 hC2
  by_cases hf : l.length ≤ 250
  · have e1 : decide (l.length ≤ 250) = true := decide_eq_true hf
    by_cases hg : m.length ≤ 250
    · have e2 : decide (m.length ≤ 250) = true := decide_eq_true hg
      by_cases hk : ks.length ≤ 50
      · have e3 : decide ((50 : Int) < (ks.length : Int)) = false := decide_eq_false (by omega)
        have e3' : decide (50 < ks.length) = false := decide_eq_false (by omega)
        have HF := Aside0.mk hf
        have HALL := Aside0.mk (all_odd l)
        clear hf hg hk
        go_enter Tryd.func13, Tryd.ntmps13
        go_wp2_with fail
        refine (f35 hc h0).mono ?_; rintro e w1 ⟨rfl, h1⟩
        clear h0
        go_wp2_with fail
        refine (f35b hc1 h1).mono ?_; rintro e w2 ⟨rfl, h2⟩
        clear h1
        go_wp2_with fail
        have H2 := Aside0.mk h2
        clear h2
        go_loopg [7, 8] 15 (fun kq v7 v8 W => ∃ (j : Nat), v7 = .int .i64 ((allK l j : Nat) : Int) ∧ v8 = .int .i64 ((j + 1 : Nat) : Int) ∧ Aside0 (kq + j = 15 ∧ j ≤ 14) ∧ Aside0 (In3 w W A l A1 m A2 ks))
        case atStart => exact ⟨0, rfl, rfl, ⟨by omega, by omega⟩, H2⟩
        case round =>
          clear H2
          obtain ⟨j, rfl, rfl, HJ, HI⟩ := hrel
          cases gk with
          | zero => exact absurd HJ.out (by omega)
          | succ k1 =>
            obtain ⟨a, ha⟩ : ∃ a, a = allK l j := ⟨_, rfl⟩
            rw [← ha]
            obtain ⟨kd, hkd⟩ : ∃ kd : Int, kd = ((j + 1 : Nat) : Int) := ⟨_, rfl⟩
            rw [← hkd]
            by_cases hj : j < 14
            · have c14 : decide (kd ≤ 14) = true := decide_eq_true (by omega)
              have HJ2 := Aside0.mk hj
              have KB := Aside0.mk (show kd + 1 = ((j + 1 + 1 : Nat) : Int) by omega)
              have hkb : kd ≤ 14 := by omega
              have hkb0 : 0 ≤ kd := by omega
              have HN := Aside0.mk (show allK l (j + 1) = a + cntL l [kd] by rw [ha, hkd]; rfl)
              have HLE := Aside0.mk (show a + cntL l [kd] ≤ 250 by have h1 := allK_le l (j + 1); have h2 := HN.out; have h3 := HF.out; omega)
              clear hj ha hkd
              go_wp2_with fail
              obtain ⟨x, hx⟩ : ∃ x, x = wr.heap.size := ⟨_, rfl⟩
              obtain ⟨w4, hw4⟩ : ∃ w4, w4 = wr.alloc (.cells #[.int .i64 kd] 3) := ⟨_, rfl⟩
              have hC4 := C_one wr kd
              have h4 := HI.out.below (below_alloc (Below.refl _ _) (.cells #[.int .i64 kd] 3))
              rw [← hw4] at hC4 h4 ⊢
              rw [← hx] at hC4 ⊢
              clear hw4 hx HI
              refine (f47k hc kd x h4 hC4).mono ?_; rintro e w5 ⟨rfl, h5⟩
              have H5 := Aside0.mk h5
              clear h4 hC4 h5
              obtain ⟨b, hb⟩ : ∃ b, b = cntL l [kd] := ⟨_, rfl⟩
              rw [← hb] at HN HLE ⊢
              clear hb
              have hs1 : (a : Int) + (b : Int) ≤ 250 := by have := HLE.out; omega
              go_wp2_with fail
              go_roundg k1
              case measure => omega
              case rel => exact ⟨j + 1, by rw [HN.out]; first | rfl | (congr 1; omega), by first | (rw [KB.out]) | (rw [← KB.out]), ⟨by have := HJ.out; omega, by have := HJ2.out; omega⟩, H5⟩
            · have c14 : decide (kd ≤ 14) = false := decide_eq_false (by omega)
              have ej : j = 14 := by have := HJ.out; omega
              subst ej
              have HA := Aside0.mk ha
              clear hj ha hkd
              go_wp2_with fail
              go_loopg [9, 11, 38] (l.length + 1) (fun kq v9 v11 v38 W => ∃ (i : Nat), v9 = .int .i64 ((oddN (l.take i) : Nat) : Int) ∧ v38 = .int .i64 (i : Int) ∧ Aside0 (kq + i = l.length + 1 ∧ i ≤ l.length) ∧ Aside0 (In3 w W A l A1 m A2 ks))
              case atStart => exact ⟨0, rfl, rfl, ⟨by omega, by omega⟩, HI⟩
              case round =>
                clear HI
                obtain ⟨i, rfl, rfl, HJ, HI⟩ := hrel
                cases gk with
                | zero => exact absurd HJ.out (by omega)
                | succ k1 =>
                  obtain ⟨o, ho⟩ : ∃ o, o = oddN (l.take i) := ⟨_, rfl⟩
                  rw [← ho]
                  by_cases hi : i < l.length
                  · have c15 : decide ((i : Int) < (l.length : Int)) = true := decide_eq_true (by omega)
                    have c15' : decide (i < l.length) = true := decide_eq_true hi
                    have p0 : (0 : Int) ≤ (i : Int) := by omega
                    have q0 : (i : Int) < (l.length : Int) := by omega
                    obtain ⟨ad, e7, x0, x1, x2⟩ := at_T48 HI.out.i.c (i : Int) p0 q0
                    subst e7
                    have ht := take_rd l i hi
                    obtain ⟨n, hn⟩ : ∃ n, n = rd_T48 l (i : Int) := ⟨_, rfl⟩
                    rw [← hn] at x0 x1 x2 ht
                    simp only [Int.toNat_natCast] at x0 x1 x2
                    have hod := oddN_snoc (l.take i) n
                    rw [← ht, ← ho] at hod
                    have hol := oddN_le (l.take i)
                    rw [← ho] at hol
                    have hob : (o : Int) ≤ 250 := by have h2 := HF.out; have h3 : (l.take i).length ≤ l.length := by rw [List.length_take]; omega
                                                     omega
                    have HOD := Aside0.mk hod
                    have EJ := Aside0.mk (wsucc i l.length hi (by have := HF.out; omega))
                    have HI2 := Aside0.mk hi
                    clear ht hn hod hol hi ho
                    go_upto_region 12 with fail
                    obtain ⟨x, hx⟩ : ∃ x, x = wr.heap.size := ⟨_, rfl⟩
                    obtain ⟨w4, hw4⟩ : ∃ w4, w4 = wr.alloc (.cells #[.int .i64 n.f0, .string n.f1, .int .i64 n.f2] 48) := ⟨_, rfl⟩
                    have h4 := HI.out.below (below_alloc (Below.refl _ _) (.cells #[.int .i64 n.f0, .string n.f1, .int .i64 n.f2] 48))
                    have hx6 := heap_new wr (.cells #[.int .i64 n.f0, .string n.f1, .int .i64 n.f2] 48)
                    rw [← hw4] at h4 hx6 ⊢
                    rw [← hx] at hx6 ⊢
                    have z0 : w4.cell? ⟨x, 0, none⟩ = some (.int .i64 n.f0) := by rw [cell_of_row _ _ _ _ _ _ hx6]; rfl
                    have H4 := Aside0.mk h4
                    clear hw4 hx HI x0 x1 x2 h4 hx6
                    by_cases o1 : n.f0 < 1
                    · have HNO := Aside0.mk (show oddN (l.take (i + 1)) = o + 1 by rw [HOD.out, if_pos (by unfold isOdd; rw [decide_eq_true o1]; rfl)])
                      go_wp2_with fail
                      go_roundg k1
                      case measure => omega
                      case rel => exact ⟨i + 1, by rw [HNO.out]; first | rfl | (congr 1; omega), by rw [EJ.out], ⟨by have := HJ.out; omega, by have := HI2.out; omega⟩, H4⟩
                    · have e1' : decide (n.f0 < 1) = false := decide_eq_false o1
                      by_cases o2 : 14 < n.f0
                      · have e2' : decide (14 < n.f0) = true := decide_eq_true o2
                        have HNO := Aside0.mk (show oddN (l.take (i + 1)) = o + 1 by rw [HOD.out, if_pos (by unfold isOdd; rw [e1', e2']; rfl)])
                        clear o1 o2
                        go_wp2_with fail
                        go_roundg k1
                        case measure => omega
                        case rel => exact ⟨i + 1, by rw [HNO.out]; first | rfl | (congr 1; omega), by rw [EJ.out], ⟨by have := HJ.out; omega, by have := HI2.out; omega⟩, H4⟩
                      · have e2' : decide (14 < n.f0) = false := decide_eq_false o2
                        have HNO := Aside0.mk (show oddN (l.take (i + 1)) = o by rw [HOD.out, if_neg (by unfold isOdd; rw [e1', e2']; decide)]; rfl)
                        clear o1 o2
                        go_wp2_with fail
                        go_roundg k1
                        case measure => omega
                        case rel => exact ⟨i + 1, by rw [HNO.out], by rw [EJ.out], ⟨by have := HJ.out; omega, by have := HI2.out; omega⟩, H4⟩
                  · have c15 : decide ((i : Int) < (l.length : Int)) = false := decide_eq_false (by omega)
                    have c15' : decide (i < l.length) = false := decide_eq_false hi
                    have HO := Aside0.mk (show o = oddN l by rw [ho, List.take_of_length_le (by omega)])
                    have hob : (o : Int) ≤ 250 := by have h2 := HF.out; have h3 := oddN_le l; have h4 := HO.out; omega
                    have hab : (a : Int) ≤ 250 := by have h2 := HF.out; have h3 := allK_le l 14; have h4 := HA.out; omega
                    have hsum : (a : Int) + (o : Int) = (l.length : Int) := by have h1 := HALL.out; have h2 := HA.out; have h3 := HO.out; omega
                    have HSUM := Aside0.mk hsum
                    clear hi ho hsum
                    go_wp2_with fail
                    refine (f30 HI.out).mono ?_; rintro e w3 ⟨rfl, h3⟩
                    clear HI
                    go_wp2_with fail
                    refine (f47 hc hc2 h3).mono ?_; rintro e w4 ⟨rfl, h4⟩
                    clear h3
                    go_wp2_with fail
                    refine (f48 hc hc2 h4).mono ?_; rintro e w5 ⟨rfl, h5⟩
                    clear h4
                    have e5 : ((a : Int) + (o : Int) == (l.length : Int)) = true := beq_iff_eq.2 HSUM.out
                    go_wp2_with fail
                    refine (f49 hc hc1 h5).mono ?_; rintro e w6 ⟨rfl, h6⟩
                    clear h5
                    go_wp2_with fail
                    refine (f44 hc hc1 h6).mono ?_; rintro e w7 ⟨rfl, h7⟩
                    clear h6
                    go_wp2_with fail
                    refine (f49l hc h7).mono ?_; rintro e w8 ⟨rfl, h8⟩
                    clear h7
                    go_wp2_with fail
                    go_ret
                    exact ⟨by simp, h8.i.b⟩
      · have e3 : decide ((50 : Int) < (ks.length : Int)) = true := decide_eq_true (by omega)
        have e3' : decide (50 < ks.length) = true := decide_eq_true (by omega)
        clear hf hg hk
        go_enter Tryd.func13, Tryd.ntmps13
        go_wp2_with fail
        refine (f35 hc h0).mono ?_; rintro e w1 ⟨rfl, h1⟩
        clear h0
        go_wp2_with fail
        refine (f35b hc1 h1).mono ?_; rintro e w2 ⟨rfl, h2⟩
        clear h1
        go_wp2_with fail
        refine (f30 h2).mono ?_; rintro e w3 ⟨rfl, h3⟩
        clear h2
        go_wp2_with fail
        go_ret
        exact ⟨rfl, h3.i.b⟩
    · have e2 : decide (m.length ≤ 250) = false := decide_eq_false hg
      clear hf hg
      go_enter Tryd.func13, Tryd.ntmps13
      go_wp2_with fail
      refine (f35 hc h0).mono ?_; rintro e w1 ⟨rfl, h1⟩
      clear h0
      go_wp2_with fail
      refine (f35b hc1 h1).mono ?_; rintro e w2 ⟨rfl, h2⟩
      clear h1
      go_wp2_with fail
      refine (f30 h2).mono ?_; rintro e w3 ⟨rfl, h3⟩
      clear h2
      go_wp2_with fail
      go_ret
      exact ⟨rfl, h3.i.b⟩
  · have e1 : decide (l.length ≤ 250) = false := decide_eq_false hf
    clear hf
    go_enter Tryd.func13, Tryd.ntmps13
    go_wp2_with fail
    refine (f35 hc h0).mono ?_; rintro e w1 ⟨rfl, h1⟩
    clear h0
    go_wp2_with fail
    refine (f30 h1).mono ?_; rintro e w3 ⟨rfl, h3⟩
    clear h1
    go_wp2_with fail
    go_ret
    exact ⟨rfl, h3.i.b⟩
end Go.Proofs.YtefiadocljnpjaaDoor.Row
