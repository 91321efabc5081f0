/- LineWords, whole: of any atoms and any text the law's function returns true (words that are put together are read: atoms, texts with signs in them, lists, one in another). No conditions. -/
import Derived.Test.YtgnfkfmhjgbhhaaRows
import Derived.Test.YtgnfkfmhjgbhhaaLineWordsA
import Derived.Test.YtgnfkfmhjgbhhaaVmC
set_option linter.unusedVariables false
set_option linter.unusedSimpArgs false
set_option linter.unnecessarySimpa false
noncomputable section
namespace Go.Proofs.Ytgnfkfmhjgbhhaa.LineWordsZ
open Go Go.Proofs Go.Vm
open Go.ChangeShapes Go.WideShapes Go.ChangeAt Go.RowKit
set_option linter.unusedVariables false
set_option maxRecDepth 100000
theorem u8_nat {z : Int} (h : (Lit.int .u8 z).wf = true) : ∃ n : Nat, z = (n : Int) ∧ n < 256 := by
  have h' : 0 ≤ z ∧ z ≤ 255 := by simpa [Lit.wf, IntKind.min, IntKind.max, IntKind.signed, IntKind.bits] using h
  exact ⟨z.toNat, by omega, by omega⟩
theorem flat_u8 {els : List (List V)} (h : ∀ vs ∈ els, (∃ z, vs = [V.int .u8 z] ∧ (Lit.int .u8 z).wf = true) ∧ vs.length = 1) : ∃ bs : List Nat, els.flatten = bys bs ∧ els.length = bs.length ∧ ∀ x ∈ bs, x < 256 := by
  obtain ⟨l, h1, h2, h3⟩ := flat_int (R := fun z => (Lit.int .u8 z).wf = true) h
  have h4 : ∀ l : List Int, (∀ z ∈ l, (Lit.int .u8 z).wf = true) → ∃ bs : List Nat, l.map (V.int .u8) = bys bs ∧ l.length = bs.length ∧ ∀ x ∈ bs, x < 256 := by
    intro l
    induction l with
    | nil => intro _; exact ⟨[], rfl, rfl, fun x hx => by cases hx⟩
    | cons z l ih =>
      intro hl
      obtain ⟨bs, b1, b2, b3⟩ := ih fun y hy => hl y (by simp [hy])
      obtain ⟨n, hn, hn2⟩ := u8_nat (hl z (by simp))
      subst hn
      exact ⟨n :: bs, by rw [List.map_cons, b1]; rfl, by simp [b2], fun x hx => by rcases List.mem_cons.1 hx with rfl | hx; exact hn2; exact b3 x hx⟩
  obtain ⟨bs, b1, b2, b3⟩ := h4 l h3
  exact ⟨bs, by rw [h1, b1], by rw [h2, b2], b3⟩
theorem open_string {H : Type} {enc : TypeId × Value → H} {P : Program} {W : World} {base : Nat} {t : TypeId} {v : Value} {d : DataW H} {p : List MemPlace} (ht : P.underlying t = some .string)
    (o : Value.okWide P W .any base t v) (k : DataW.Trod enc P W 0 (fun _ => true) true t v d p) : ∃ s : List Nat, v = .string (bts s) ∧ (∀ b ∈ s, b < 256) ∧ s.length ≤ maxLen := by
  obtain ⟨s, rfl⟩ := okWide_string ht o
  obtain ⟨m, j⟩ := k
  obtain ⟨s', h1, -, h3⟩ := DataW.trod_string ht j
  simp [Value.cells] at h1
  subst h1
  refine ⟨s.data.toList.map UInt8.toNat, by rw [bts_of], fun b hb => ?_, ?_⟩
  · obtain ⟨x, -, rfl⟩ := List.mem_map.1 hb
    exact x.toNat_lt
  · rw [List.length_map]
    exact h3
theorem walk {H : Type} {enc : TypeId × Value → H} (W : World) {base : Nat} {v0 v1 : Value} {d0 d1 : DataW H} {p0 p1 : List MemPlace}
    (o0 : Value.okWide Try.prog W .any base 32 v0) (k0 : DataW.Trod enc Try.prog W 0 (fun _ => true) true 32 v0 d0 p0)
    (o1 : Value.okWide Try.prog W .any base 9 v1) (k1 : DataW.Trod enc Try.prog W 0 (fun _ => true) true 9 v1 d1 p1)
    : Calls Try.prog 7 #[v0, v1] W fun e w' => e = .returned (.bool true) ∧ Below W.heap.size W w' := by
  obtain ⟨t, rfl, t1, t2⟩ := open_string Try.underlying9 o1 k1
  obtain ⟨l0, c00, c01, rfl⟩ := okWide_slice Try.underlying32 o0
  obtain ⟨m0, j0⟩ := k0
  obtain ⟨x0, w0, M0, h0, e0, hc0, r0, S0, -, f0, q0, s0, z0⟩ := open_rowL (n := 1) Try.underlying32 (by kernel_rfl) (by omega) (rd_int Try.underlying5) j0 (Seen.empty W)
  simp [Value.cells] at hc0
  subst hc0
  obtain ⟨bs, b1, b2, b3⟩ := flat_u8 q0
  rw [b1, b2] at s0
  rw [b2] at z0
  obtain ⟨h2, e⟩ := words_law_ok s0 (Nat.le_refl _) b3 (by omega) (by unfold maxLen at t2; omega) t1
  exact calls_of_vm (cargs := [_, _]) (args := [w0, .str t]) Tryc7 Try.func7 (by kernel_rfl) (c := codeOf Try.f7) (by kernel_rfl) S0 ⟨_, _, r0, ⟨_, _, rp_str t1, rfl, rfl⟩, rfl⟩ e
theorem own : ownKnob Try.prog.godebug = none := by kernel_rfl
theorem laidOut : laidOutB Try.prog = true := by kernel_rfl
theorem lifted (os : Os) (started : os.Started) (H : Type) (enc : TypeId × Value → H) :
    ReturnsInHanded {} Try.checked os 7 .any (Rows.lineWordsSpec.pre6 enc Try.prog Try.f7 Rows.lineWordsRow.domain false) (Rows.lineWordsSpec.post enc Try.prog Try.f7 false true false false) := by
  refine returnsInHanded_of_change (C := Try.checked) own started (by kernel_rfl) Try.func7
    (ChangeSpec.witness6 (enc := enc) (C := Try.checked) false ⟨#[], #[.slice none 0 0, .string ⟨#[]⟩], []⟩ 8 (by kernel_rfl) (by kernel_rfl) (by kernel_rfl) (by kernel_rfl)) ?_
  intro W base args ds gs before hval0 hW hcnd _
  have hval : ∀ (j : Nat) t v, Try.f7.params[j]? = some t → args[j]? = some v → Value.okWide Try.prog W .any base t v := hval0
  have hW' := hW
  obtain ⟨p, q, hA0, hV, rfl, hfz, hnd⟩ := hW
  have hA : DataW.TrodAll enc Try.prog W 0 (fun _ => true) true Try.f7.params.toList args.toList ds p := hA0
  rw [Try.params7] at hA hval
  obtain ⟨v0, vs0, d0, ds0, p0, q0, hargs, rfl, rfl, k0, r0⟩ := trodAll_cons hA
  obtain ⟨v1, vs1, d1, ds1, p1, q1, rfl, rfl, rfl, k1, r1⟩ := trodAll_cons r0
  obtain ⟨rfl, rfl, rfl⟩ := trodAll_nil r1
  obtain rfl : args = #[v0, v1] := by cases args; simp_all
  obtain ⟨rfl, rfl⟩ := trodVars_none hV
  have lt0 : ∀ x ∈ p0, x.block < W.heap.size := by obtain ⟨m, hm⟩ := k0; exact DataW.trod_lt m _ _ _ hm
  have lt1 : ∀ x ∈ p1, x.block < W.heap.size := by obtain ⟨m, hm⟩ := k1; exact DataW.trod_lt m _ _ _ hm
  clear hA0 hval0
  refine (walk W (hval 0 32 v0 rfl rfl) k0 (hval 1 9 v1 rfl rfl) k1).mono fun e W' ⟨he, bel⟩ => ?_
  subst he
  exact ⟨_, rfl, _, _, _, [], _, [], hW', trodAll_mk1 (shut_bool Try.underlying4 _), (trodAll_cons_mk (Below.trod laidOut (by kernel_rfl) (of_decide_eq_true (by kernel_rfl)) k0 bel lt0) (trodAll_cons_mk (Below.trod laidOut (by kernel_rfl) (of_decide_eq_true (by kernel_rfl)) k1 bel lt1) trodAll_mk0)), rfl, bel.frame _, fun h => by cases h⟩
theorem over : Rows.lineWordsRow.holds Try.pinned (OpenSpec.ofChange Rows.lineWordsSpec) :=
  OpenClaim.holds_of_wide 7 Try.f7 rfl rfl rfl rfl rfl rfl rfl ⟨rfl, rfl, rfl, rfl, rfl⟩ rfl rfl rfl rfl rfl (by kernel_rfl) Try.func7 (by kernel_rfl)
    (of_decide_eq_true (by kernel_rfl)) (by unfold Func.isWrapper; first | (rw [if_pos (by decide +kernel)]; kernel_rfl) | (rw [if_neg (by decide +kernel)]; exact ⟨rfl, rfl⟩))
    (fun os started H enc _ => lifted os started H enc)
/-- THE STATEMENT -/
theorem holds : Rows.LineWordsSaid := over
#print axioms holds
end Go.Proofs.Ytgnfkfmhjgbhhaa.LineWordsZ
