/- Part of the value machine, or of a walk by it: lemmas that the claim's last text uses. No conditions. -/
import Derived.Test.YtnlbcbjgejpanaaGreatDoorSeVmG
import Derived.Laws.LoneSync
import Derived.Recover
set_option linter.unusedVariables false
set_option linter.unusedSimpArgs false
set_option linter.unnecessarySimpa false
namespace Go.Vm
noncomputable section
variable {P : Program} {G : Nat}
def markF0 : Fun := fun args h => match args with
  | [] => .ok V.undef h
  | _ :: _ => .bad
def markF1 : Fun := fun args h => match args with
  | [] => .bad
  | x :: l => (match l with
    | [] => asPtr x fun _ _ => .ok V.undef h
    | _ :: _ => .bad)
theorem markF0_ok {f : FuncId} {fn : Func} (hf : P.funcs[f]? = some fn) (hname : (fn.name == "runtime.NumGoroutine") = false) (hb : fn.body.isNone = true) (hn : Extern.findNext fn = none) (m : Mark)
    (he : Extern.find fn = some (fun _ => do mark m; pure Extern.Race.none_)) : CallOk P G f markF0 := by
  intro args h r h' M w cargs e hr ha
  unfold markF0 at e
  split at e
  · cases e
    cases (show cargs = [] from ha)
    have := run_call_mark0 hf hname hb hn m he w
    rw [show ([] : List Value).toArray = #[] from rfl, this]
    exact ⟨M, rp_undef M, hr, .refl hr⟩
  · cases e
theorem markF1_ok {f : FuncId} {fn : Func} (hf : P.funcs[f]? = some fn) (hname : (fn.name == "runtime.NumGoroutine") = false) (hb : fn.body.isNone = true) (hn : Extern.findNext fn = none) (m : Addr → Mark)
    (he : Extern.find fn = some (Extern.Race.marked m)) : CallOk P G f markF1 := by
  intro args h r h' M w cargs e hr ha
  unfold markF1 at e
  split at e
  · cases e
  · split at e
    · rename_i x l
      obtain ⟨c, cs, rfl, hx, hcs⟩ := RepL.cons_inv ha
      cases (show cs = [] from hcs)
      obtain ⟨i, o, rfl, e⟩ := asPtr_ok e
      obtain ⟨L, hL, rfl⟩ := hx.ptr
      cases e
      have := run_call_marked hf hname hb hn m he (L.at o) w
      rw [show ([Value.pointer (some (L.at o))] : List Value).toArray = #[.pointer (some (L.at o))] from rfl, this]
      exact ⟨M, rp_undef M, hr, .refl hr⟩
    · cases e
def levels (base : FuncId → Option Fun) (st : (FuncId → Option Fun) → FuncId → Option Fun) : Nat → FuncId → Option Fun
  | 0 => base
  | n + 1 => st (levels base st n)
theorem dcallsOk_0 : ∀ f F, (fun _ => none : FuncId → Option Fun) f = some F → DCallOk P G f F := fun _ _ h => by cases h
theorem dcallsOk_cons {g : FuncId} {F : Fun} {e : FuncId → Option Fun} (h1 : DCallOk P G g F) (h2 : ∀ f F, e f = some F → DCallOk P G f F) : ∀ f F', (fun f => match Nat.beq f g with | true => some F | false => e f : FuncId → Option Fun) f = some F' → DCallOk P G f F' := by
  intro f F' h
  simp only [] at h
  split at h
  · rename_i hb; cases h; rw [Nat.eq_of_beq_eq_true hb]; exact h1
  · exact h2 f F' h
end
end Go.Vm
