/- Proved: DiffAll returns true for every input, and each argument reads afterwards as it read before. No conditions. -/
import Derived.Test.YtmlbnkojodkieaaRows
import Derived.Test.YtmlbnkojodkieaaDiffC
import Derived.Test.YtmlbnkojodkieaaVmC
set_option linter.unusedVariables false
set_option linter.unusedSimpArgs false
set_option linter.unnecessarySimpa false
noncomputable section
namespace Go.Proofs.Ytmlbnkojodkieaa.DiffAllZ
open Go Go.Proofs Go.Vm
open Go.ChangeShapes Go.WideShapes Go.ChangeAt Go.RowKit
set_option linter.unusedVariables false
set_option maxRecDepth 100000
theorem u8_nat {z : Int} (h : (Lit.int .u8 z).wf = true) : ∃ n : Nat, z = (n : Int) ∧ n < 256 := by
  have h' : 0 ≤ z ∧ z ≤ 255 := by simpa [Lit.wf, IntKind.min, IntKind.max, IntKind.signed, IntKind.bits] using h
  exact ⟨z.toNat, by omega, by omega⟩
theorem walk {H : Type} {enc : TypeId × Value → H} (W : World) {base : Nat} {v0 v1 v2 v3 : Value} {d0 d1 d2 d3 : DataW H} {p0 p1 p2 p3 : List MemPlace}
    (o0 : Value.okWide Try.prog W .any base 23 v0) (k0 : DataW.Trod enc Try.prog W 0 (fun _ => true) true 23 v0 d0 p0)
    (o1 : Value.okWide Try.prog W .any base 23 v1) (k1 : DataW.Trod enc Try.prog W 0 (fun _ => true) true 23 v1 d1 p1)
    (o2 : Value.okWide Try.prog W .any base 23 v2) (k2 : DataW.Trod enc Try.prog W 0 (fun _ => true) true 23 v2 d2 p2)
    (o3 : Value.okWide Try.prog W .any base 24 v3) (k3 : DataW.Trod enc Try.prog W 0 (fun _ => true) true 24 v3 d3 p3)
    : Calls Try.prog 4 #[v0, v1, v2, v3] W fun e w' => e = .returned (.bool true) ∧ Below W.heap.size W w' := by
  obtain ⟨l0, c00, c01, rfl⟩ := okWide_slice Try.underlying23 o0
  obtain ⟨l1, c10, c11, rfl⟩ := okWide_slice Try.underlying23 o1
  obtain ⟨l2, c20, c21, rfl⟩ := okWide_slice Try.underlying23 o2
  obtain ⟨l3, c30, c31, rfl⟩ := okWide_slice Try.underlying24 o3
  obtain ⟨m0, j0⟩ := k0
  obtain ⟨m1, j1⟩ := k1
  obtain ⟨m2, j2⟩ := k2
  obtain ⟨m3, j3⟩ := k3
  obtain ⟨x0, v0, M0, h0, e0, hc0, r0, S0, -, f0, q0, s0⟩ := open_row (n := 1) Try.underlying23 (by kernel_rfl) (by omega) (rd_int Try.underlying3) j0 (Seen.empty W)
  obtain ⟨x1, v1, M1, h1, e1, hc1, r1, S1, le1, f1, q1, s1⟩ := open_row (n := 1) Try.underlying23 (by kernel_rfl) (by omega) (rd_int Try.underlying3) j1 S0
  obtain ⟨x2, v2, M2, h2, e2, hc2, r2, S2, le2, f2, q2, s2⟩ := open_row (n := 1) Try.underlying23 (by kernel_rfl) (by omega) (rd_int Try.underlying3) j2 S1
  obtain ⟨x3, v3, M3, h3, e3, hc3, r3, S3, le3, f3, q3, s3⟩ := open_row (n := 2) Try.underlying24 (by kernel_rfl) (by omega) (rd_int2 Try.underlying29 rfl rfl (by kernel_rfl) (by kernel_rfl) Try.underlying3 Try.underlying3) j3 S2
  simp [Value.cells] at hc0 hc1 hc2 hc3
  subst hc0 hc1 hc2 hc3
  obtain ⟨y0, a0, b0, -⟩ := flat_int q0
  obtain ⟨y1, a1, b1, -⟩ := flat_int q1
  obtain ⟨y2, a2, b2, -⟩ := flat_int q2
  obtain ⟨y3, a3, b3, -⟩ := flat_int2 (R := fun z => (Lit.int .i64 z).wf = true) q3
  rw [a0, b0] at s0
  rw [a1, b1] at s1
  rw [a2, b2] at s2
  rw [a3, b3] at s3
  have g1 := f1.next
  have g2 := f2.next
  have g3 := f3.next
  obtain ⟨h', e⟩ := all_ok ((((s0.fr f1).fr (f2.le g1)).fr (f3.le (Nat.le_trans g1 g2))).le (by omega)) (((s1.fr f2).fr (f3.le g2)).le (by omega)) ((s2.fr f3).le g3) s3 (Nat.le_refl _)
  exact calls_of_vm (cargs := [_, _, _, _]) (args := [v0, v1, v2, v3]) Tryc4 Try.func4 (by kernel_rfl) (c := codeOf Try.f4) (by kernel_rfl) S3 ⟨_, _, ((r0.mono le1).mono le2).mono le3, ⟨_, _, (r1.mono le2).mono le3, ⟨_, _, r2.mono le3, ⟨_, _, r3, rfl, rfl⟩, rfl⟩, rfl⟩, rfl⟩ e
theorem own : ownKnob Try.prog.godebug = none := by kernel_rfl
theorem laidOut : laidOutB Try.prog = true := by kernel_rfl
theorem lifted (os : Os) (started : os.Started) (H : Type) (enc : TypeId × Value → H) :
    ReturnsInHanded {} Try.checked os 4 .any (Rows.diffAllSpec.pre6 enc Try.prog Try.f4 Rows.diffAllRow.domain false) (Rows.diffAllSpec.post enc Try.prog Try.f4 false true false false) := by
  refine returnsInHanded_of_change (C := Try.checked) own started (by kernel_rfl) Try.func4
    (ChangeSpec.witness6 (enc := enc) (C := Try.checked) false ⟨#[], #[.slice none 0 0, .slice none 0 0, .slice none 0 0, .slice none 0 0], []⟩ 8 (by kernel_rfl) (by kernel_rfl) (by kernel_rfl) (by kernel_rfl)) ?_
  intro W base args ds gs before hval0 hW hcnd _
  have hval : ∀ (j : Nat) t v, Try.f4.params[j]? = some t → args[j]? = some v → Value.okWide Try.prog W .any base t v := hval0
  have hW' := hW
  obtain ⟨p, q, hA0, hV, rfl, hfz, hnd⟩ := hW
  have hA : DataW.TrodAll enc Try.prog W 0 (fun _ => true) true Try.f4.params.toList args.toList ds p := hA0
  rw [Try.params4] at hA hval
  obtain ⟨v0, vs0, d0, ds0, p0, q0, hargs, rfl, rfl, k0, r0⟩ := trodAll_cons hA
  obtain ⟨v1, vs1, d1, ds1, p1, q1, rfl, rfl, rfl, k1, r1⟩ := trodAll_cons r0
  obtain ⟨v2, vs2, d2, ds2, p2, q2, rfl, rfl, rfl, k2, r2⟩ := trodAll_cons r1
  obtain ⟨v3, vs3, d3, ds3, p3, q3, rfl, rfl, rfl, k3, r3⟩ := trodAll_cons r2
  obtain ⟨rfl, rfl, rfl⟩ := trodAll_nil r3
  obtain rfl : args = #[v0, v1, v2, v3] := by cases args; simp_all
  obtain ⟨rfl, rfl⟩ := trodVars_none hV
  have lt0 : ∀ x ∈ p0, x.block < W.heap.size := by obtain ⟨m, hm⟩ := k0; exact DataW.trod_lt m _ _ _ hm
  have lt1 : ∀ x ∈ p1, x.block < W.heap.size := by obtain ⟨m, hm⟩ := k1; exact DataW.trod_lt m _ _ _ hm
  have lt2 : ∀ x ∈ p2, x.block < W.heap.size := by obtain ⟨m, hm⟩ := k2; exact DataW.trod_lt m _ _ _ hm
  have lt3 : ∀ x ∈ p3, x.block < W.heap.size := by obtain ⟨m, hm⟩ := k3; exact DataW.trod_lt m _ _ _ hm
  clear hA0 hval0
  refine (walk W (hval 0 23 v0 rfl rfl) k0 (hval 1 23 v1 rfl rfl) k1 (hval 2 23 v2 rfl rfl) k2 (hval 3 24 v3 rfl rfl) k3).mono fun e W' ⟨he, bel⟩ => ?_
  subst he
  exact ⟨_, rfl, _, _, _, [], _, [], hW', trodAll_mk1 (shut_bool Try.underlying4 _), (trodAll_cons_mk (Below.trod laidOut (by kernel_rfl) (of_decide_eq_true (by kernel_rfl)) k0 bel lt0) (trodAll_cons_mk (Below.trod laidOut (by kernel_rfl) (of_decide_eq_true (by kernel_rfl)) k1 bel lt1) (trodAll_cons_mk (Below.trod laidOut (by kernel_rfl) (of_decide_eq_true (by kernel_rfl)) k2 bel lt2) (trodAll_cons_mk (Below.trod laidOut (by kernel_rfl) (of_decide_eq_true (by kernel_rfl)) k3 bel lt3) trodAll_mk0)))), rfl, bel.frame _, fun h => by cases h⟩
theorem over : Rows.diffAllRow.holds Try.pinned (OpenSpec.ofChange Rows.diffAllSpec) :=
  OpenClaim.holds_of_wide 4 Try.f4 rfl rfl rfl rfl rfl rfl rfl ⟨rfl, rfl, rfl, rfl, rfl⟩ rfl rfl rfl rfl rfl (by kernel_rfl) Try.func4 (by kernel_rfl)
    (of_decide_eq_true (by kernel_rfl)) (by unfold Func.isWrapper; first | (rw [if_pos (by decide +kernel)]; kernel_rfl) | (rw [if_neg (by decide +kernel)]; exact ⟨rfl, rfl⟩))
    (fun os started H enc _ => lifted os started H enc)
/-- THE STATEMENT -/
theorem holds : Rows.DiffAllSaid := over
#print axioms holds
end Go.Proofs.Ytmlbnkojodkieaa.DiffAllZ
