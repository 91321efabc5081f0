/- LinePieces, whole: of any limit, any bytes and any cuts the law's function returns true (in whatever pieces bytes come, what is told, all in all, is the same). No conditions. -/
import Derived.Test.YtgnfkfmhjgbhhaaRows
import Derived.Test.YtgnfkfmhjgbhhaaLinePiecesA
import Derived.Test.YtgnfkfmhjgbhhaaVmC
set_option linter.unusedVariables false
set_option linter.unusedSimpArgs false
set_option linter.unnecessarySimpa false
noncomputable section
namespace Go.Proofs.Ytgnfkfmhjgbhhaa.LinePiecesZ
open Go Go.Proofs Go.Vm
open Go.ChangeShapes Go.WideShapes Go.ChangeAt Go.RowKit
set_option linter.unusedVariables false
set_option maxRecDepth 100000
theorem u8_nat {z : Int} (h : (Lit.int .u8 z).wf = true) : ∃ n : Nat, z = (n : Int) ∧ n < 256 := by
  have h' : 0 ≤ z ∧ z ≤ 255 := by simpa [Lit.wf, IntKind.min, IntKind.max, IntKind.signed, IntKind.bits] using h
  exact ⟨z.toNat, by omega, by omega⟩
theorem flat_u8 {els : List (List V)} (h : ∀ vs ∈ els, (∃ z, vs = [V.int .u8 z] ∧ (Lit.int .u8 z).wf = true) ∧ vs.length = 1) : ∃ bs : List Nat, els.flatten = bys bs ∧ els.length = bs.length ∧ ∀ x ∈ bs, x < 256 := by
  obtain ⟨l, h1, h2, h3⟩ := flat_int (R := fun z => (Lit.int .u8 z).wf = true) h
  have h4 : ∀ l : List Int, (∀ z ∈ l, (Lit.int .u8 z).wf = true) → ∃ bs : List Nat, l.map (V.int .u8) = bys bs ∧ l.length = bs.length ∧ ∀ x ∈ bs, x < 256 := by
    intro l
    induction l with
    | nil => intro _; exact ⟨[], rfl, rfl, fun x hx => by cases hx⟩
    | cons z l ih =>
      intro hl
      obtain ⟨bs, b1, b2, b3⟩ := ih fun y hy => hl y (by simp [hy])
      obtain ⟨n, hn, hn2⟩ := u8_nat (hl z (by simp))
      subst hn
      exact ⟨n :: bs, by rw [List.map_cons, b1]; rfl, by simp [b2], fun x hx => by rcases List.mem_cons.1 hx with rfl | hx; exact hn2; exact b3 x hx⟩
  obtain ⟨bs, b1, b2, b3⟩ := h4 l h3
  exact ⟨bs, by rw [h1, b1], by rw [h2, b2], b3⟩
theorem capOk_of {v : V} {n : Nat} (h : ∀ i o m c, v = .slice i o m c → ∃ k, c = .kn k ∧ m ≤ k) : capOk n v := by
  intro i o m c e
  obtain ⟨k, rfl, hk⟩ := h i o m c e
  exact hk
theorem i64_of {z : Int} (h : (Lit.int .i64 z).wf = true) : -9223372036854775808 ≤ z ∧ z < 9223372036854775808 := by
  have h' : -9223372036854775808 ≤ z ∧ z ≤ 9223372036854775807 := by simpa [Lit.wf, IntKind.min, IntKind.max, IntKind.signed, IntKind.bits] using h
  omega
theorem walk {H : Type} {enc : TypeId × Value → H} (W : World) {base : Nat} {v0 v1 v2 : Value} {d0 d1 d2 : DataW H} {p0 p1 p2 : List MemPlace}
    (o0 : Value.okWide Try.prog W .any base 3 v0) (k0 : DataW.Trod enc Try.prog W 0 (fun _ => true) true 3 v0 d0 p0)
    (o1 : Value.okWide Try.prog W .any base 32 v1) (k1 : DataW.Trod enc Try.prog W 0 (fun _ => true) true 32 v1 d1 p1)
    (o2 : Value.okWide Try.prog W .any base 32 v2) (k2 : DataW.Trod enc Try.prog W 0 (fun _ => true) true 32 v2 d2 p2)
    : Calls Try.prog 4 #[v0, v1, v2] W fun e w' => e = .returned (.bool true) ∧ Below W.heap.size W w' := by
  obtain ⟨most, rfl, -, -, w0⟩ := open_int Try.underlying3 o0 k0
  obtain ⟨l1, c10, c11, rfl⟩ := okWide_slice Try.underlying32 o1
  obtain ⟨l2, c20, c21, rfl⟩ := okWide_slice Try.underlying32 o2
  obtain ⟨m1, j1⟩ := k1
  obtain ⟨m2, j2⟩ := k2
  obtain ⟨x1, w1, M1, h1, e1, hc1, r1, S1, -, f1, q1, s1, z1, y1⟩ := open_rowK (n := 1) Try.underlying32 (by kernel_rfl) (by omega) (rd_int Try.underlying5) j1 (Seen.empty W)
  obtain ⟨x2, w2, M2, h2, e2, hc2, r2, S2, le2, f2, q2, s2, z2, -⟩ := open_rowK (n := 1) Try.underlying32 (by kernel_rfl) (by omega) (rd_int Try.underlying5) j2 S1
  simp [Value.cells] at hc1 hc2
  subst hc1 hc2
  obtain ⟨bs, b1, b2, b3⟩ := flat_u8 q1
  obtain ⟨cs, d1, d2, d3⟩ := flat_u8 q2
  rw [b1, b2] at s1
  rw [b2] at z1
  rw [d1, d2] at s2
  rw [d2] at z2
  obtain ⟨h3, e⟩ := pieces_ok (i64_of w0) ((s1.fr f2).le f2.next) (capOk_of y1) s2 (Nat.le_refl _) b3 d3 (by omega) (by omega)
  exact calls_of_vm (cargs := [_, _, _]) (args := [.int .i64 most, w1, w2]) Tryc4 Try.func4 (by kernel_rfl) (c := codeOf Try.f4) (by kernel_rfl) S2 ⟨_, _, rp_int _ _ _, ⟨_, _, r1.mono le2, ⟨_, _, r2, rfl, rfl⟩, rfl⟩, rfl⟩ e
theorem own : ownKnob Try.prog.godebug = none := by kernel_rfl
theorem laidOut : laidOutB Try.prog = true := by kernel_rfl
theorem lifted (os : Os) (started : os.Started) (H : Type) (enc : TypeId × Value → H) :
    ReturnsInHanded {} Try.checked os 4 .any (Rows.linePiecesSpec.pre6 enc Try.prog Try.f4 Rows.linePiecesRow.domain false) (Rows.linePiecesSpec.post enc Try.prog Try.f4 false true false false) := by
  refine returnsInHanded_of_change (C := Try.checked) own started (by kernel_rfl) Try.func4
    (ChangeSpec.witness6 (enc := enc) (C := Try.checked) false ⟨#[], #[.int .i64 0, .slice none 0 0, .slice none 0 0], []⟩ 8 (by kernel_rfl) (by kernel_rfl) (by kernel_rfl) (by kernel_rfl)) ?_
  intro W base args ds gs before hval0 hW hcnd _
  have hval : ∀ (j : Nat) t v, Try.f4.params[j]? = some t → args[j]? = some v → Value.okWide Try.prog W .any base t v := hval0
  have hW' := hW
  obtain ⟨p, q, hA0, hV, rfl, hfz, hnd⟩ := hW
  have hA : DataW.TrodAll enc Try.prog W 0 (fun _ => true) true Try.f4.params.toList args.toList ds p := hA0
  rw [Try.params4] at hA hval
  obtain ⟨v0, vs0, d0, ds0, p0, q0, hargs, rfl, rfl, k0, r0⟩ := trodAll_cons hA
  obtain ⟨v1, vs1, d1, ds1, p1, q1, rfl, rfl, rfl, k1, r1⟩ := trodAll_cons r0
  obtain ⟨v2, vs2, d2, ds2, p2, q2, rfl, rfl, rfl, k2, r2⟩ := trodAll_cons r1
  obtain ⟨rfl, rfl, rfl⟩ := trodAll_nil r2
  obtain rfl : args = #[v0, v1, v2] := by cases args; simp_all
  obtain ⟨rfl, rfl⟩ := trodVars_none hV
  have lt0 : ∀ x ∈ p0, x.block < W.heap.size := by obtain ⟨m, hm⟩ := k0; exact DataW.trod_lt m _ _ _ hm
  have lt1 : ∀ x ∈ p1, x.block < W.heap.size := by obtain ⟨m, hm⟩ := k1; exact DataW.trod_lt m _ _ _ hm
  have lt2 : ∀ x ∈ p2, x.block < W.heap.size := by obtain ⟨m, hm⟩ := k2; exact DataW.trod_lt m _ _ _ hm
  clear hA0 hval0
  refine (walk W (hval 0 3 v0 rfl rfl) k0 (hval 1 32 v1 rfl rfl) k1 (hval 2 32 v2 rfl rfl) k2).mono fun e W' ⟨he, bel⟩ => ?_
  subst he
  exact ⟨_, rfl, _, _, _, [], _, [], hW', trodAll_mk1 (shut_bool Try.underlying4 _), (trodAll_cons_mk (Below.trod laidOut (by kernel_rfl) (of_decide_eq_true (by kernel_rfl)) k0 bel lt0) (trodAll_cons_mk (Below.trod laidOut (by kernel_rfl) (of_decide_eq_true (by kernel_rfl)) k1 bel lt1) (trodAll_cons_mk (Below.trod laidOut (by kernel_rfl) (of_decide_eq_true (by kernel_rfl)) k2 bel lt2) trodAll_mk0))), rfl, bel.frame _, fun h => by cases h⟩
theorem over : Rows.linePiecesRow.holds Try.pinned (OpenSpec.ofChange Rows.linePiecesSpec) :=
  OpenClaim.holds_of_wide 4 Try.f4 rfl rfl rfl rfl rfl rfl rfl ⟨rfl, rfl, rfl, rfl, rfl⟩ rfl rfl rfl rfl rfl (by kernel_rfl) Try.func4 (by kernel_rfl)
    (of_decide_eq_true (by kernel_rfl)) (by unfold Func.isWrapper; first | (rw [if_pos (by decide +kernel)]; kernel_rfl) | (rw [if_neg (by decide +kernel)]; exact ⟨rfl, rfl⟩))
    (fun os started H enc _ => lifted os started H enc)
/-- THE STATEMENT -/
theorem holds : Rows.LinePiecesSaid := over
#print axioms holds
end Go.Proofs.Ytgnfkfmhjgbhhaa.LinePiecesZ
