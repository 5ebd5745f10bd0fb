/- The law SignParts: its walk by hand (a cut with a capacity is appended to). -/
import Derived.Test.YtnlljjcbfhagfaaB
namespace Go.Proofs.Ytnlljjcbfhagfaa
open Go.RowKit Go.Proofs.YtnlljjcbfhagfaaW.PrintWords Go.Proofs.YtnlljjcbfhagfaaW.PrintLast Go.Proofs.YtnlljjcbfhagfaaW.PrintMore
set_option linter.unusedVariables false
set_option linter.unusedSimpArgs false

theorem info3 : (Try.prog.info? 3).map (fun i => (i.zero, i.size, i.bytes)) = some (some (.int .i64 0), 1, 8) := by kernel_rfl

theorem sign_All.n (A0 : Option Addr) (n c0 : Nat) (l0 : List Int) (w : World) (hn : l0.length = n) (hr0 : Kd.C (Kd.int .i64) w A0 l0.length l0) (hc0 : n ≤ c0) :
    Calls Try.prog 18 #[.slice A0 n c0] w fun e w' => e = .returned (.int .i64 (l0.foldl bothOf 1)) ∧ Drawn0 w w' := by
  subst hn
  exact sign_All.calls A0 c0 l0 _ w hr0 hc0 rfl

def redresslaw01_SignParts.f (l0 l1 : List Int) : Option Bool :=
  if l0.length > 1000 ∨ l1.length > 1000 then some true else some ((l0 ++ l1).foldl bothOf 1 == bothOf (l0.foldl bothOf 1) (l1.foldl bothOf 1))

theorem redresslaw01_SignParts.calls (A0 : Option Addr) (c0 : Nat) (l0 : List Int) (A1 : Option Addr) (c1 : Nat) (l1 : List Int) (r : Bool) (w : World)
    (hr0 : Kd.C (Kd.int .i64) w A0 l0.length l0) (hc0 : l0.length ≤ c0) (hr1 : Kd.C (Kd.int .i64) w A1 l1.length l1) (hc1 : l1.length ≤ c1) (h : redresslaw01_SignParts.f l0 l1 = some r) :
    Calls Try.prog 8 #[.slice A0 l0.length c0, .slice A1 l1.length c1] w fun e w' => e = .returned (.bool r) ∧ Below w.heap.size w w' := by
  have hm0 := Kd.C_max hr0
  have hm1 := Kd.C_max hr1
  have HR0 := Aside0.mk hr0; clear hr0
  have HR1 := Aside0.mk hr1; clear hr1
  unfold redresslaw01_SignParts.f at h
  by_cases g0 : 1000 < l0.length
  · rw [if_pos (.inl g0)] at h
    obtain rfl := Option.some.inj h
    clear h
    go_enter Try.func8, Try.ntmps8
    go_wp2_with fail
    refine (redresslaw01_alive.any _).mono ?_; rintro e w1 ⟨rfl, h1⟩
    go_wp2_with fail
    go_ret
    exact ⟨rfl, h1⟩
  by_cases g1 : 1000 < l1.length
  · rw [if_pos (.inr g1)] at h
    obtain rfl := Option.some.inj h
    clear h
    go_enter Try.func8, Try.ntmps8
    go_wp2_with fail
    refine (redresslaw01_alive.any _).mono ?_; rintro e w1 ⟨rfl, h1⟩
    go_wp2_with fail
    go_ret
    exact ⟨rfl, h1⟩
  rw [if_neg (by omega)] at h
  have H := Aside0.mk (Option.some.inj h)
  clear h
  go_enter Try.func8, Try.ntmps8
  go_wp2_with fail
  refine (redresslaw01_alive.any _).mono ?_; rintro e w1 ⟨rfl, h1⟩
  have hC0 := Aside0.mk (Kd.C_below HR0.out h1)
  have hC1 := Aside0.mk (Kd.C_below HR1.out h1)
  obtain ⟨A', c', w2, hr, hc', hC2, hb2⟩ := Aid.app_cut (P := Try.prog) (0 : Int) w1 32 32 3 (.int .i64 0) 8 Try.underlying32 info3 rfl (by omega) A0 A1 c1 l0 l1 hC0.out hC1.out (by omega)
  have hr := Aside0.mk hr
  have H1 := Aside0.mk h1
  have H2 := Aside0.mk hb2
  have HC2 := Aside0.mk hC2
  clear h1 hb2 hC2
  go_wp2_with (at_builtin; refine Aid.append_event (.tmp 21) (.tmp 22) 32 (by simp [Region.wanted, yielded]) rfl _ _ rfl rfl hr.out ?_)
  refine (sign_All.n _ _ _ (l0 ++ l1) _ (by simp) HC2.out (by simpa using hc')).mono ?_; rintro e w' ⟨rfl, ⟨n1, rfl⟩⟩
  go_wp2_with fail
  refine (sign_All.n _ _ _ l0 _ rfl (Kd.C_drewN (Kd.C_below hC0.out H2.out) _) hc0).mono ?_; rintro e w' ⟨rfl, ⟨n2, rfl⟩⟩
  go_wp2_with fail
  refine (sign_All.n _ _ _ l1 _ rfl (Kd.C_drewN (Kd.C_below hC1.out H2.out) _) hc1).mono ?_; rintro e w' ⟨rfl, ⟨n3, rfl⟩⟩
  go_wp2_with fail
  refine (sign_Both.any _ _ _).mono ?_; rintro e w' ⟨rfl, ⟨n4, rfl⟩⟩
  go_wp2_with fail
  go_ret
  exact ⟨by rw [← H.out]; simp, Aid.bdrew (Aid.bthen H1.out H2.out) _⟩
end Go.Proofs.Ytnlljjcbfhagfaa
