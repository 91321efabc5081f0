/- The claim: what the row says of this function, for every input. No conditions. -/
import Derived.Test.YtfaolchpaooboaaGreatDoorJbJmapBoxesC
import Derived.Test.YtfaolchpaooboaaGreatDoorJbJmapBoxesF
import Derived.Test.YtfaolchpaooboaaGreatDoorJbJmapBoxesG
set_option linter.all false
noncomputable section
namespace Go.Proofs.YtfaolchpaooboaaGreatDoor.JmapBoxesZ
open Go Go.Proofs Go.Vm
set_option maxRecDepth 100000
theorem band {a b : Bool} (ha : a = true) (hb : b = true) : (a && b) = true := by rw [ha, hb]; rfl
theorem closed : joinedFacts Tryz.prog 4 Tryz.f4 (OpenSpec.ofChange Rows.jmapBoxesSpec).bare Rows.jmapBoxesRow = true := by
  have hun : (Rows.jmapBoxesRow.unfollowed == Tryz.prog.unfollowed 4) = true := by rw [unfollowedEq]; rfl
  have hrec : (Rows.jmapBoxesRow.recurses == Tryz.prog.recurses 4) = true := by rw [recursesEq]; rfl
  unfold joinedFacts
  exact (band (band (band (band (band (band (band (band (band (band (band (band (band (band (band (band (band (band (band (band (band (band (band (band (band (band (band (band (band (band (band k0 k1) k2) k3) k4) k5) k6) k7) k8) inPlaceEq) hun) hrec) varsEq) k13) k14) k15) k16) k17) k18) k19) k20) k21) k22) k23) k24) k25) k26) k27) k28) k29) k30) k31)
theorem said : Rows.JmapBoxesSaid :=
  OpenClaim.holds_of_cond 4 Tryz.f4 rfl rfl rfl rfl rfl rfl rfl ⟨rfl, rfl, rfl, rfl, rfl⟩ rfl rfl rfl rfl rfl (by kernel_rfl) Tryz.func4 closed
    (of_decide_eq_true (by kernel_rfl)) (by unfold Func.isWrapper; first | (rw [if_pos (by decide +kernel)]; kernel_rfl) | (rw [if_neg (by decide +kernel)]; exact ⟨rfl, rfl⟩))
    (fun os started H enc _ F => by rw [OpenClaim.pre_eq_preRow]; exact lifted os started H enc F)
end Go.Proofs.YtfaolchpaooboaaGreatDoor.JmapBoxesZ
noncomputable section
namespace Go.Proofs.YtfaolchpaooboaaGreatDoor.JmapBoxesZ
open Go Go.Proofs Go.Vm
set_option maxRecDepth 100000
/-- no function of the translation has a go statement, or makes a goroutine without one -/
theorem noGo : Tryz.prog.funcs.any Func.goes = false := by kernel_rfl
theorem noGoAt (g : FuncId) : (Tryz.prog.funcs[g]?).any Func.goes = false := by
  cases h : Tryz.prog.funcs[g]? with
  | none => rfl
  | some fn =>
    have := noGo
    rw [Array.any_eq_false] at this
    obtain ⟨hlt, he⟩ := Array.getElem?_eq_some_iff.1 h
    have := this g hlt
    rw [he] at this
    simpa using this
theorem goesOff (c : OpenClaim) (hs : c.start = .entering) : false = c.goesBy Tryz.prog := by
  have h1 : ∀ f, Tryz.prog.goes f = false := fun f => by
    unfold Program.goes
    rw [noGo, Bool.and_false, Bool.or_false]
    simp [noGoAt]
  unfold OpenClaim.goesBy Program.goesAt Program.goesFrom
  rw [hs]
  cases Tryz.prog.funcNamed c.func with
  | none => rfl
  | some f => simp [h1]
theorem plain (f : FuncId) (fn : Func) (hf : Tryz.pinned.checked.prog.funcNamed "pillarbox/pillarboxlaw27.JmapBoxes" = some f) (hfn : Tryz.pinned.checked.prog.funcs[f]? = some fn) :
    true = Tryz.pinned.checked.prog.looks [] ∧ ∀ (j : Nat) t, fn.params[j]? = some t → Tryz.pinned.checked.prog.wantsStandIn t = false := by
  obtain rfl : f = 4 := Option.some.inj ((show Tryz.prog.funcNamed "pillarbox/pillarboxlaw27.JmapBoxes" = some 4 by kernel_rfl).symm.trans hf) |>.symm
  obtain rfl : fn = Tryz.f4 := (Option.some.inj (Tryz.func4.symm.trans hfn)).symm
  refine ⟨by kernel_rfl, fun j t ht => ?_⟩
  rw [Tryz.params4] at ht
  have hm := Array.mem_of_getElem? ht
  simp only [List.mem_toArray, List.mem_cons, List.not_mem_nil, or_false] at hm
  rcases hm with rfl | rfl
  · exact (show Tryz.prog.wantsStandIn 5 = false by kernel_rfl)
  · exact (show Tryz.prog.wantsStandIn 4 = false by kernel_rfl)
/-- THE STATEMENT -/
theorem holds : Rows.JmapBoxesCardSaid :=
  Claim7.holds_tied_plain_at .later [] _ _ _ _ said (fun _ h => by cases h) (by kernel_rfl) (fun _ h => by cases h) jmapBoxes_row_tie rfl ⟨rfl, rfl⟩ (by kernel_rfl) rfl plain (goesOff _ rfl)
#print axioms holds
end Go.Proofs.YtfaolchpaooboaaGreatDoor.JmapBoxesZ
