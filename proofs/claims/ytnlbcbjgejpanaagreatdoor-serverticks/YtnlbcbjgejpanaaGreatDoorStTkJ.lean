/- Part of the value machine, or of a walk by it: lemmas that the claim's last text uses. No conditions. -/
import Derived.Test.YtnlbcbjgejpanaaGreatDoorStTkI
import Derived.KernelRfl
set_option linter.unusedVariables false
set_option linter.unusedSimpArgs false
set_option linter.unnecessarySimpa false
noncomputable section
namespace Go.Proofs.ImT
open Go Go.Proofs Go.Vm
open Go.ChangeShapes Go.WideShapes Go.ChangeAt Go.RowKit
set_option linter.unusedVariables false
set_option linter.unusedSimpArgs false
set_option maxRecDepth 100000
set_option maxHeartbeats 4000000
theorem tk0_a : wT (h0 TryG) = .ok (valE (wT (h0 TryG))) (hpT (wT (h0 TryG))) := by kernel_rfl
theorem tk0_b : nT (h0 TryG) = .ok (.tuple (.cons (.ptr (pvT (h0 TryG)) 0) (.cons (.int .i64 0) .nil))) (hpT (nT (h0 TryG))) := by kernel_rfl
theorem tk0_c : TryF8 [.int .i64 0] (hpT (nT (h0 TryG))) = .ok (.int .i64 0) (hpT (nT (h0 TryG))) := by kernel_rfl
theorem tk0_d : (hpT (nT (h0 TryG))).get (pvT (h0 TryG)) = some (obT (h0 TryG) 0 0) := by kernel_rfl
theorem tk0_d0 : (hpT (nT (h0 TryG))).put (pvT (h0 TryG)) (some (obT (h0 TryG) 0 0)) = hpT (nT (h0 TryG)) := by kernel_rfl
theorem tk0_m (a c : Int) : (lvG10 (h0 TryG) a c).get (pvT (h0 TryG)) = some (.cells (.rw (wM (h0 TryG) a c) true) [xT (h0 TryG) a c 0, xT (h0 TryG) a c 1, xT (h0 TryG) a c 2, xT (h0 TryG) a c 3, xT (h0 TryG) a c 4, xT (h0 TryG) a c 5, .int .i64 a, .int .i64 (cT (h0 TryG) a c)]) := by kernel_rfl
theorem tk0_o (a c c3 : Int) : rC (h0 TryG) a c c3 = .ok (.slice (ptrT (some (valE (rC (h0 TryG) a c c3)))) 0 1 (.kn 1)) (hpT (rC (h0 TryG) a c c3)) := by kernel_rfl
theorem tk0_p (a c c3 : Int) : rS (h0 TryG) a c c3 = .ok (valE (rS (h0 TryG) a c c3)) (hpT (rS (h0 TryG) a c c3)) := by kernel_rfl
theorem tk0_q (a c c3 : Int) : rM (h0 TryG) a c c3 = .ok (.slice (mM (h0 TryG) a c c3) 0 2 (kM (h0 TryG) a c c3)) (hpT (rM (h0 TryG) a c c3)) := by kernel_rfl
theorem tk0_r0 (a c c3 : Int) : oLoad1 (.ptr (mM (h0 TryG) a c c3) 3) (hpT (rM (h0 TryG) a c c3)) = .ok (.int .i64 a) (hpT (rM (h0 TryG) a c c3)) := by kernel_rfl
theorem tk0_r1 (a c c3 : Int) : oLoad1 (.ptr (mM (h0 TryG) a c c3) 11) (hpT (rM (h0 TryG) a c c3)) = .ok (.int .i64 253402300799) (hpT (rM (h0 TryG) a c c3)) := by kernel_rfl
theorem tk0_s (a c c3 : Int) : rR (h0 TryG) a c c3 = .ok (.str rfcT) (hpT (rR (h0 TryG) a c c3)) := by kernel_rfl
theorem tkF_0 : TkF (h0 TryG) := ⟨tk0_a, tk0_b, tk0_c, tk0_d, tk0_d0, fun a c p q => (res10 (lev10_0 a c) (res9 (lev9_0 a c) (res18 (lev18_0 a c) (res32 (lev32_0 a c) (res70 (lev70_0 a c) (res158 (lev158_0 a c) (res61 (lev61_0 a c) (res122 (lev122_0 a c) p q)))))))), tk0_m, tk0_o, tk0_p, tk0_q, tk0_r0, tk0_r1, tk0_s⟩
theorem tk1_a (l : List V) : wT (hL l) = .ok (valE (wT (hL l))) (hpT (wT (hL l))) := by kernel_rfl
theorem tk1_b (l : List V) : nT (hL l) = .ok (.tuple (.cons (.ptr (pvT (hL l)) 0) (.cons (.int .i64 0) .nil))) (hpT (nT (hL l))) := by kernel_rfl
theorem tk1_c (l : List V) : TryF8 [.int .i64 0] (hpT (nT (hL l))) = .ok (.int .i64 0) (hpT (nT (hL l))) := by kernel_rfl
theorem tk1_d (l : List V) : (hpT (nT (hL l))).get (pvT (hL l)) = some (obT (hL l) 0 0) := by kernel_rfl
theorem tk1_d0 (l : List V) : (hpT (nT (hL l))).put (pvT (hL l)) (some (obT (hL l) 0 0)) = hpT (nT (hL l)) := by kernel_rfl
theorem tk1_m (l : List V) (a c : Int) : (lvG10 (hL l) a c).get (pvT (hL l)) = some (.cells (.rw (wM (hL l) a c) true) [xT (hL l) a c 0, xT (hL l) a c 1, xT (hL l) a c 2, xT (hL l) a c 3, xT (hL l) a c 4, xT (hL l) a c 5, .int .i64 a, .int .i64 (cT (hL l) a c)]) := by kernel_rfl
theorem tk1_o (l : List V) (a c c3 : Int) : rC (hL l) a c c3 = .ok (.slice (ptrT (some (valE (rC (hL l) a c c3)))) 0 1 (.kn 1)) (hpT (rC (hL l) a c c3)) := by kernel_rfl
theorem tk1_p (l : List V) (a c c3 : Int) : rS (hL l) a c c3 = .ok (valE (rS (hL l) a c c3)) (hpT (rS (hL l) a c c3)) := by kernel_rfl
theorem tk1_q (l : List V) (a c c3 : Int) : rM (hL l) a c c3 = .ok (.slice (mM (hL l) a c c3) 0 2 (kM (hL l) a c c3)) (hpT (rM (hL l) a c c3)) := by kernel_rfl
theorem tk1_r0 (l : List V) (a c c3 : Int) : oLoad1 (.ptr (mM (hL l) a c c3) 3) (hpT (rM (hL l) a c c3)) = .ok (.int .i64 a) (hpT (rM (hL l) a c c3)) := by kernel_rfl
theorem tk1_r1 (l : List V) (a c c3 : Int) : oLoad1 (.ptr (mM (hL l) a c c3) 11) (hpT (rM (hL l) a c c3)) = .ok (.int .i64 253402300799) (hpT (rM (hL l) a c c3)) := by kernel_rfl
theorem tk1_s (l : List V) (a c c3 : Int) : rR (hL l) a c c3 = .ok (.str rfcT) (hpT (rR (hL l) a c c3)) := by kernel_rfl
theorem tkF_1 (l : List V) : TkF (hL l) := ⟨tk1_a l, tk1_b l, tk1_c l, tk1_d l, tk1_d0 l, fun a c p q => (res10 (lev10_1 l a c) (res9 (lev9_1 l a c) (res18 (lev18_1 l a c) (res32 (lev32_1 l a c) (res70 (lev70_1 l a c) (res158 (lev158_1 l a c) (res61 (lev61_1 l a c) (res122 (lev122_1 l a c) p q)))))))), tk1_m l, tk1_o l, tk1_p l, tk1_q l, tk1_r0 l, tk1_r1 l, tk1_s l⟩
theorem i32_in {z : Int} (h : (Lit.int .i32 z).wf = true) : -2147483648 ≤ z ∧ z < 2147483648 := by
  have h2 : -2147483648 ≤ z ∧ z ≤ 2147483647 := by
    unfold Lit.wf at h
    simp only [Bool.and_eq_true, decide_eq_true_eq] at h
    exact h
  omega
theorem els_i32 : ∀ {els : List (List V)}, (∀ vs ∈ els, (∃ z, vs = [V.int .i32 z] ∧ (Lit.int .i32 z).wf = true) ∧ vs.length = 1) → ∃ l : List Int, els.flatten = l.map (V.int .i32) ∧ l.length = els.length ∧ ∀ x ∈ l, -2147483648 ≤ x ∧ x < 2147483648
  | [], _ => ⟨[], rfl, rfl, by simp⟩
  | vs :: els, h => by
    obtain ⟨⟨z, rfl, hw⟩, -⟩ := h vs (by simp)
    obtain ⟨l, e, n, hb⟩ := els_i32 (els := els) fun vs hv => h vs (List.mem_cons_of_mem _ hv)
    refine ⟨z :: l, ?_, by rw [List.length_cons, n, List.length_cons], fun x hx => ?_⟩
    · rw [List.flatten_cons, e]; rfl
    · rcases List.mem_cons.1 hx with rfl | hx
      · exact i32_in hw
      · exact hb x hx
theorem row_at (l : List V) (a c : Int) : (oT (hL l) a c).get (h0 TryG).next = some (.cells .ro l) := by kernel_rfl
theorem walkOfServerTicks {H : Type} {enc : TypeId × Value → H} {spare : Nat → Bool} {held : Bool} (W : World) {r : Reach} {b0 base : Nat} {v0 : Value} {d : DataW H} {p : List MemPlace} (hv : Value.okWide Tryz.prog W r b0 22 v0) (hd : DataW.Trod enc Tryz.prog W base spare held 22 v0 d p) :
    Calls Tryz.prog 3 #[v0] W fun e W' => e = .returned (.bool true) ∧ Below W.heap.size W W' := by
  obtain ⟨a, len, cap, rfl⟩ := okWide_slice Tryz.underlying22 hv
  obtain ⟨m, hm⟩ := hd
  obtain ⟨c, v, M', h', els, h1, h2, h3, -, hels, -, h4⟩ := open_rowK Tryz.underlying22 (n := 1) (by kernel_rfl) (by omega) (rd_int Tryz.underlying21) hm (Seen.empty TryG W)
  obtain rfl : Value.slice a len cap = c := by simpa [Value.cells] using h1
  obtain ⟨l, el, nl, hb⟩ := els_i32 hels
  have hT : ∃ h'', TryF3p [v] h' = .ok (.bool true) h'' := by
    rcases h4 with ⟨rfl, rfl, rfl⟩ | ⟨rfl, rfl, rfl⟩ | ⟨cap, rfl, rfl, -, -⟩
    · exact ticks_core tkF_0 (l := []) (fun _ => rfl) (by simp) (by simp) (cc := 0) fun a c => ⟨rfl, .inl ⟨rfl, .inl rfl⟩⟩
    · exact ticks_core tkF_0 (l := []) (fun _ => rfl) (by simp) (by simp) (cc := 0) fun a c => ⟨rfl, .inl ⟨rfl, .inr rfl⟩⟩
    · rw [← nl]
      rcases Nat.lt_or_ge 60 l.length with hlong | hshort
      · exact ticks_long (n := l.length) (fun _ => rfl) hlong
      · rw [el]
        exact ticks_core (tkF_1 _) (l := l) (fun _ => rfl) hshort hb (cc := (h0 TryG).next.nat + 1) fun a c => ⟨by simp, .inr ⟨(h0 TryG).next, 0, _, .ro, l.map (V.int .i32), rfl, by omega, by rw [row_at]; rfl, fun k _ => by rw [Nat.zero_add]⟩⟩
  obtain ⟨h'', e⟩ := hT
  exact calls_of_vm (cargs := [_]) (args := [_]) Tryc3p Tryz.func3 (by kernel_rfl) (c := codeOf Tryz.f3) (by kernel_rfl) h3 ⟨_, [], h2, rfl, rfl⟩ e
end Go.Proofs.ImT
