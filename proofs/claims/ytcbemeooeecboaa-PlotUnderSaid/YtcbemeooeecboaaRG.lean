/- A region that draws its order, in the body of a round: its operations make no call, so the plain walk serves. -/
import Derived.Test.YtcbemeooeecboaaRX
import Derived.Deep.RegionHeld3
import Derived.OrdersIn
namespace Go.Proofs.Ytcbemeooeecboaa.Rng
open Go
set_option linter.unusedVariables false
/-- Operations that make no call. -/
def calm : Op → Bool
  | .move _ => true
  | .assign _ => true
  | .load _ _ => true
  | .store _ _ _ => true
  | .fieldAddr _ _ _ => true
  | .indexAddr _ _ _ => true
  | .build _ _ => true
  | .buildSlice _ _ _ => true
  | .call ⟨.builtin .append, _, _⟩ => true
  | _ => false
theorem bind_value {P : Program} (s : Sem Value) (w : World) : (∃ v w', ((do let v ← s; pure (.value v)) : Sem Next).run P w = .ok (.value v) w') ∨ (∃ x w', ((do let v ← s; pure (.value v)) : Sem Next).run P w = .halt x w') := by
  rw [Sem.run_bind]
  cases s.run P w with
  | ok v w' => exact .inl ⟨v, w', by simp [Result.andThen, Sem.run_pure]⟩
  | halt x w' => exact .inr ⟨x, w', rfl⟩
theorem bind_skip {P : Program} (s : Sem Unit) (w : World) : (∃ w', ((do s; pure .skip) : Sem Next).run P w = .ok .skip w') ∨ (∃ x w', ((do s; pure .skip) : Sem Next).run P w = .halt x w') := by
  rw [Sem.run_bind]
  cases s.run P w with
  | ok v w' => exact .inl ⟨w', by simp [Result.andThen, Sem.run_pure]⟩
  | halt x w' => exact .inr ⟨x, w', rfl⟩
theorem calm_run {P : Program} {o : Oper} (h : calm o.op = true) (ρ : Operand → Value) (w : World) :
    (∃ v w', (execOp ρ o).run P w = .ok (.value v) w') ∨ (∃ w', (execOp ρ o).run P w = .ok .skip w') ∨ (∃ x w', (execOp ρ o).run P w = .halt x w') := by
  unfold execOp
  cases ho : o.op <;> rw [ho] at h <;> first | (exfalso; exact Bool.noConfusion h) | skip
  case move x => exact .inl ⟨ρ x, w, by simp [Sem.run_pure]⟩
  case assign x => exact .inl ⟨ρ x, w, by simp [Sem.run_pure]⟩
  case load t a => exact (bind_value _ w).imp id .inr
  case store t a x => exact .inr (bind_skip _ w)
  case fieldAddr => exact (bind_value _ w).imp id .inr
  case indexAddr => exact (bind_value _ w).imp id .inr
  case build => exact (bind_value _ w).imp id .inr
  case buildSlice => exact (bind_value _ w).imp id .inr
  case call c =>
    obtain ⟨callee, args, ts⟩ := c
    cases callee <;> first | (exfalso; exact Bool.noConfusion h) | skip
    rename_i b
    cases b <;> first | (exfalso; exact Bool.noConfusion h) | skip
    simp only [resolve, invoke, builtin]
    rw [Sem.run_bind, Sem.run_pure]
    simp only [Result.andThen]
    exact (bind_value _ w).imp id .inr
theorem calm_about {P : Program} {o : Oper} (h : calm o.op = true) (ρ : Operand → Value) (w : World) : o.about P w ρ = none := by
  unfold Oper.about
  cases ho : o.op <;> rw [ho] at h <;> first | rfl | (exfalso; exact Bool.noConfusion h) | skip
  case call c =>
    obtain ⟨callee, args, ts⟩ := c
    cases callee <;> first | (exfalso; exact Bool.noConfusion h) | skip
    rename_i b
    simp [resolve, Target.leads, Sem.run_pure]
theorem calm_defer {o : Oper} (h : calm o.op = true) : ∀ c, o.op ≠ .defer c := by
  intro c hc; rw [hc] at h; exact Bool.noConfusion h
variable {F : Fence} {n : Nat} {P : Program} {ops : Array Oper} {Q : Exit → Act → World → Prop} {md : Region.Mode}
theorem calm_in {o : Oper} (h : calm o.op = true) {a : Act} {w : World} {K : Act → World → Prop} (hw : o.wp P a w K Q) : o.wpIn F n P a w K Q := by
  refine ⟨fun f hf => (by rw [calm_about h] at hf; cases hf), ?_⟩
  rw [Oper.semAt_plain F _ _ (calm_defer h)]
  unfold Oper.wp at hw
  rcases calm_run (P := P) h a.eval w with ⟨v, w', e⟩ | ⟨w', e⟩ | ⟨x, w', e⟩
  · rw [e] at hw ⊢; exact hw
  · rw [e] at hw ⊢; exact hw
  · rw [e] at hw ⊢
    cases x <;> first | exact hw | exact hw.elim
theorem calm_op (hc : ∀ o ∈ ops, calm o.op = true) (hQ : ∀ a w, ¬ Q .outgrown a w) {i : Nat} {K : Act → World → Prop} {a : Act} {w : World} (h : wpOp P ops Q i K a w) : wpOpIn F n P ops Q i K a w := by
  unfold wpOp at h
  unfold wpOpIn
  cases ho : ops[i]? with
  | none => rw [ho] at h; exact h
  | some o =>
    rw [ho] at h
    have hco := hc o (Array.mem_of_getElem? ho)
    simp only at h ⊢
    by_cases hw : Region.wanted o (yielded ops a.tmps) = true
    · rw [if_pos hw] at h ⊢
      rcases h with h | ⟨_, a0, w0, h⟩
      · exact calm_in hco h
      · exact absurd h (hQ _ _)
    · rw [if_neg hw] at h ⊢
      exact ⟨fun f hf => (by rw [calm_about hco] at hf; cases hf), h⟩
theorem calm_any (hc : ∀ o ∈ ops, calm o.op = true) (hQ : ∀ a w, ¬ Q .outgrown a w) : ∀ (fuel : Nat) (listed : Array Bool) (a : Act) (w : World), wpAny P md ops Q fuel listed a w → wpAnyIn F n P md ops Q fuel listed a w
  | 0, _, _, _, h => h
  | fuel + 1, _, _, _, h => ⟨h.1, fun i hi => calm_op hc hQ (wpOp_mono (fun a' w' h' => calm_any hc hQ fuel _ a' w' h') (h.2 i hi))⟩
/-- A region that draws its order, of operations that make no call, wherever it stands: what holds in every world that it goes through is taken first. -/
theorem wpIn_region_held {S : World → Prop} {id : Nat} {a : Act} {w : World} (m : Nat) (hsz : ops.size = m) (hm : P.follows .mixedOrders = true) (hc : ops.all (fun o => calm o.op) = true) (hQ : ∀ a w, ¬ Q .outgrown a w) (hS : S w.drew)
    (h : S w.drew → wpAnyH P .any ops Q S m (Array.replicate m false) a w.drew) : (Code.region id ops true).wpIn F n P Q a w :=
  by
  subst hsz
  exact wpIn_region_any hm (calm_any (fun o ho => by rw [Array.all_eq_true_iff_forall_mem] at hc; exact hc o ho) hQ _ _ _ _ (wpAny_of_held _ _ _ _ (h hS)))
section
variable {S : World → Prop}
theorem put_some (a : Act) (d : Nat) (v : Value) : a.put (some d) v = { tmps := a.tmps.setIfInBounds d v, defers := a.defers } := rfl
/-- An operation is taken first. -/
theorem take_first {fuel : Nat} {listed : Array Bool} {a : Act} {w : World} (i d : Nat) (v : Value) {oi : Oper} (hi : ops[i]? = some oi) (hd : oi.dst = some d)
    (hs : Region.noSelect ops = true) (hf : Region.free md ops listed i = true) (hr : (Region.ready md ops listed).contains i = true)
    (hQ : ∀ c a w, Q (.panic c) (a.put oi.dst v) w → Q (.panic c) a w) (hw : Region.wanted oi (yielded ops a.tmps) = true) (hS : S w) (hy : ∀ w, S w → (execOp a.eval oi).run P w = .ok (.value v) w)
    (h : wpAnyH P md ops Q S fuel (listed.setIfInBounds i true) { tmps := a.tmps.setIfInBounds d v, defers := a.defers } w) : wpAnyH P md ops Q S (fuel + 1) listed a w :=
  wpAnyH_take hi hs hf hr hQ (.inl ⟨hw, hy⟩) hS (by rw [hd, put_some]; exact h)
/-- An operation that comes up, with a value. -/
theorem op_value {K : Act → World → Prop} {a : Act} {w : World} (i d : Nat) (v : Value) (w' : World) {o : Oper} (ho : ops[i]? = some o) (hd : o.dst = some d) (hw : Region.wanted o (yielded ops a.tmps) = true)
    (hrun : (execOp a.eval o).run P w = .ok (.value v) w') (hK : K { tmps := a.tmps.setIfInBounds d v, defers := a.defers } w') : wpOp P ops Q i K a w := by
  unfold wpOp
  simp only [ho, hw, if_true]
  refine .inl ?_
  unfold Oper.wp
  rw [hrun]
  show K (a.put o.dst v) w'
  rw [hd]; exact hK
theorem op_skip {K : Act → World → Prop} {a : Act} {w : World} (i : Nat) (w' : World) {o : Oper} (ho : ops[i]? = some o) (hd : o.dst = none) (hw : Region.wanted o (yielded ops a.tmps) = true)
    (hrun : (execOp a.eval o).run P w = .ok .skip w') (hK : K a w') : wpOp P ops Q i K a w := by
  unfold wpOp
  simp only [ho, hw, if_true]
  refine .inl ?_
  unfold Oper.wp
  rw [hrun]
  show K (a.put o.dst undef) w'
  rw [hd]; exact hK
theorem op_append {K : Act → World → Prop} {a : Act} (w : World) (i d : Nat) {o : Oper} (ho' : ops[i]? = some o) (hd : o.dst = some d) (hw : Region.wanted o (yielded ops a.tmps) = true)
    (s x : Operand) (t : TypeId) (ho : o.op = Op.call { callee := Callee.builtin Builtin.append, args := #[s, x], argTypes := #[t, t] })
    (base : Nat) (e : TypeId) (i0 : TypeInfo) (z : Value) (size bytes : Nat) (ht : P.underlying t = some (.slice e)) (hi : P.info? e = some i0) (hz : i0.zero = some z) (hsize : i0.size = size) (hby : i0.bytes = bytes) (hzs : z.cells.size = size) (hsz : 0 < size)
    (v : Value) (k : Nat) (xs : List Value) (hs : a.eval s = v) (hown : w.ownsRow base e size v k xs) (ad : Addr) (m c : Nat) (news : List Value) (hx : a.eval x = .slice (some ad) m c) (hl : news.length = m * size)
    (hnews : ∀ j u, news[j]? = some u → w.cell? (ad.add j) = some u) (h1 : ∀ u ∈ news, u.oneCell' = true) (hm : 0 < m) (h63 : k + m ≤ maxLen) (hbytes : (k + m) * bytes ≤ 140737488355328) (hbase : base ≤ w.heap.size) (H : Nat) (hH : w.heap.size = H)
    (h : ∀ g cap w', w'.ownsRow base e size (.slice (some ⟨g, 0, none⟩) (k + m) cap) (k + m) (xs ++ news) → w.grownBy w' v.ownBlock → (v.ownBlock = some g ∨ g = H) → g < w'.heap.size → K { tmps := a.tmps.setIfInBounds d (.slice (some ⟨g, 0, none⟩) (k + m) cap), defers := a.defers } w') : wpOp P ops Q i K a w := by
  obtain ⟨g, cap, w', hr, h2, h3, h4, h5⟩ := run_append_lies (P := P) w t o.type base e i0 z size bytes ht hi hz hsize hby hzs hsz v k xs hown ad m c news hl hnews h1 hm h63 hbytes hbase H hH
  refine op_value i d (.slice (some ⟨g, 0, none⟩) (k + m) cap) w' ho' hd hw ?_ (h g cap w' h2 h3 h4 h5)
  simp [execOp, ho, resolve, invoke, builtin, hs, hx, hr, Result.andThen]
end
end Go.Proofs.Ytcbemeooeecboaa.Rng
