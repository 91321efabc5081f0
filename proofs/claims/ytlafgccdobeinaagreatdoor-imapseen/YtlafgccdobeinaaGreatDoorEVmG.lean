/- Part of the value machine, or of a walk by it: lemmas that the claim's last text uses. No conditions. -/
import Derived.Test.YtlafgccdobeinaaGreatDoorEVmF
set_option linter.unusedVariables false
set_option linter.unusedSimpArgs false
set_option linter.unnecessarySimpa false
namespace Go.Vm
noncomputable section
variable {P : Program} {G N : Nat} {M : Mp} {h h' : Hp} {w : World} {keep : Nat → Bool} {e e2 : FuncId → Option Fun} {r : V}
def DCallOk (P : Program) (G : Nat) (f : FuncId) (F : Fun) : Prop :=
  ∀ (args : List V) (h : Hp) (r : V) (h' : Hp) (M : Mp) (w : World) (cargs : List Value), F args h = .ok r h' → Rel G M h w → RepL M args cargs →
    (callFunc f cargs.toArray).run P w = .ok (.enter f cargs.toArray) w ∧
    CallsD P f cargs.toArray .returning w fun e u w' => u = .returning ∧ ∃ c, e = .returned c ∧ Post G M h w r h' c w'
def BodyOk (P : Program) (G : Nat) (f : FuncId) (F : Fun) : Prop :=
  ∃ fn c, P.funcs[f]? = some fn ∧ fn.body = some c ∧ (∀ args w, (callFunc f args).run P w = .ok (.enter f args) w) ∧
  ∀ (args : List V) (h : Hp) (r : V) (h' : Hp) (M : Mp) (w : World) (cargs : List Value), F args h = .ok r h' → Rel G M h w → RepL M args cargs →
    c.wp P (bodyPost P fn fun e w' => ∃ c, e = .returned c ∧ Post G M h w r h' c w') { tmps := cargs.toArray ++ Array.replicate (fn.ntmps - cargs.toArray.size) undef, defers := [] } w
theorem BodyOk.deferred {f : FuncId} {F : Fun} (hb : BodyOk P G f F) : DCallOk P G f F := by
  obtain ⟨fn, c, h1, h2, h3, h4⟩ := hb
  intro args h r h' M w cargs e hr ha
  exact ⟨h3 _ _, callsD_of_wp h1 h2 (h4 args h r h' M w cargs e hr ha)⟩
theorem run_callFunc {f : FuncId} {fn : Func} {c : Code} (hf : P.funcs[f]? = some fn) (hn : (fn.name == "runtime.NumGoroutine") = false) (hb : fn.body = some c) (args : Array Value) (w : World) :
    (callFunc f args).run P w = .ok (.enter f args) w := by
  unfold callFunc
  rw [Sem.run_bind, run_program]; have hn' : ¬fn.name = "runtime.NumGoroutine" := by simpa using hn
  simp [hf, hn', hb]
theorem init_at {fn : Func} {args : List V} {cargs : List Value} (hr : Rel G M h w) (ha : RepL M args cargs) (hle : args.length ≤ fn.ntmps) :
    At keep G fn.ntmps [] M (initF keep 0 args .nil) h { tmps := cargs.toArray ++ Array.replicate (fn.ntmps - cargs.toArray.size) undef, defers := [] } w := by
  have hlen := ha.length
  refine ⟨hr, initF_ok keep _ args 0 _ (fun j v hj => ?_) (fun t v hv => by rw [T.get_nil] at hv; cases hv), by simp; omega, rfl⟩
  obtain ⟨x, hx, hrx⟩ := ha.get hj
  have hj' : j < cargs.length := by
    rcases Nat.lt_or_ge j cargs.length with h1 | h1
    · exact h1
    · rw [List.getElem?_eq_none h1] at hx; cases hx
  have : (cargs.toArray ++ Array.replicate (fn.ntmps - cargs.toArray.size) undef).getD (0 + j) undef = x := by
    rw [Array.getD_eq_getD_getElem?, Array.getElem?_append_left (by simpa using hj')]
    simp [hx]
  simp only [this]
  exact hrx
end
end Go.Vm
