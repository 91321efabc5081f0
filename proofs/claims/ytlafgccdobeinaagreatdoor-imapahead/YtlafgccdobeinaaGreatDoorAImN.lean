/- Part of the value machine, or of a walk by it: lemmas that the claim's last text uses. No conditions. -/
import Derived.Test.YtlafgccdobeinaaGreatDoorAVmO
import Derived.Test.YtlafgccdobeinaaGreatDoorAImM
import Derived.Test.YtlafgccdobeinaaGreatDoorAVmI
set_option linter.unusedVariables false
set_option linter.unusedSimpArgs false
set_option linter.unnecessarySimpa false
noncomputable section
namespace Go.Proofs.Im
open Go Go.Proofs Go.Vm Go.Ln
open Go.ChangeShapes Go.WideShapes Go.ChangeAt Go.RowKit
set_option linter.unusedVariables false
set_option maxRecDepth 100000
set_option linter.unusedSimpArgs false
def hpR (r : R V) : Hp := match r with | .ok _ h => h | .bad => h0 0
def posR (r : R V) : Pos := match r with | .ok v _ => (match v with | .ptr i _ => i | _ => Pos.of 0) | .bad => Pos.of 0
def r6 (h : Hp) : R V := ImF6 [.slice h.next 0 1 (.kn 1)] (h.new (.cells (.rw 9 true) [.str [120]]))
def r7 (h : Hp) : R V := ImF7 [] (hpR (r6 h))
def imP (o : Option Ob) : Pos := match o with | some b => (match b with | .cells _ l => (match nthV 4 l with | some v => (match v with | .map i => i | _ => Pos.of 0) | none => Pos.of 0) | _ => Pos.of 0) | none => Pos.of 0
def imR (h : Hp) : Pos := imP ((hpR (r7 h)).get (posR (r7 h)))
def clk (o : Option Ob) : Option Int := match o with | some b => (match b with | .cells _ l => (match nthV 9 l with | some v => (match v with | .int k n => (match k with | .i64 => some n | _ => none) | _ => none) | none => none) | _ => none) | none => none
structure Start (h : Hp) : Prop where
  a : r6 h = .ok (.ptr (posR (r6 h)) 0) (hpR (r6 h))
  b : r7 h = .ok (.ptr (posR (r7 h)) 0) (hpR (r7 h))
  c : (hpR (r7 h)).get (posR (r7 h)) = some (.cells (.rw tCn true) [.bool false, .nilp, .bool false, .int .i64 0, .map (imR h)])
  d : (hpR (r7 h)).get (imR h) = some (.map (cmdM (posR (r7 h))))
  e : clk ((hpR (r7 h)).get (posR (r6 h))) = some 2
  f1 : Nat.blt (posR (r6 h)).nat (hpR (r7 h)).next.nat = true
  f2 : Nat.beq (posR (r6 h)).nat (posR (r7 h)).nat = false
  f3 : Nat.beq (posR (r7 h)).nat (imR h).nat = false
  f4 : Nat.blt (posR (r7 h)).nat (hpR (r7 h)).next.nat = true
  f5 : Nat.blt (imR h).nat (hpR (r7 h)).next.nat = true
theorem start0 : Start (h0 TryG) := ⟨by kernel_rfl, by kernel_rfl, by kernel_rfl, by kernel_rfl, by kernel_rfl, by kernel_rfl, by kernel_rfl, by kernel_rfl, by kernel_rfl, by kernel_rfl⟩
theorem start1 (l : List V) : Start ((h0 TryG).new (.cells .ro l)) := ⟨by kernel_rfl, by kernel_rfl, by kernel_rfl, by kernel_rfl, by kernel_rfl, by kernel_rfl, by kernel_rfl, by kernel_rfl, by kernel_rfl, by kernel_rfl⟩
theorem start1_row (l : List V) : (hpR (r7 ((h0 TryG).new (.cells .ro l)))).get (h0 TryG).next = some (.cells .ro l) := by kernel_rfl
theorem start1_ne (l : List V) : Nat.beq (h0 TryG).next.nat (posR (r7 ((h0 TryG).new (.cells .ro l)))).nat = false := by kernel_rfl
theorem start1_lt (l : List V) : Nat.blt (h0 TryG).next.nat (hpR (r7 ((h0 TryG).new (.cells .ro l)))).next.nat = true := by kernel_rfl
end Go.Proofs.Im

noncomputable section
namespace Go.Vm
section
variable {H : Type} {enc : TypeId × Value → H} {base : Nat} {spare : Nat → Bool} {held : Bool} {P : Program} {w : World}
theorem rd_str {e : TypeId} (he : P.underlying e = some .string) : ∀ fuel cs x, DataW.trod enc P w base spare held fuel e cs = some x → cs.length = 1 → ∃ vs : List V, vs.length = 1 ∧ (∃ t, vs = [.str t] ∧ ∀ b ∈ t, b < 256) ∧ (∀ N, RepL N vs cs) ∧ ∀ y ∈ cs, scalar y = true := by
  intro fuel cs x hx _
  obtain ⟨s, rfl, -, -⟩ := DataW.trod_string he hx
  have hb : ∀ b ∈ s.data.toList.map UInt8.toNat, b < 256 := fun b hb => by
    obtain ⟨y, _, rfl⟩ := List.mem_map.1 hb
    exact y.toNat_lt
  refine ⟨[.str (s.data.toList.map UInt8.toNat)], rfl, ⟨_, rfl, hb⟩, fun N => ⟨_, [], ?_, rfl, rfl⟩, fun y hy => by rw [List.mem_singleton.1 hy]; rfl⟩
  have := rp_str (M := N) hb
  rw [bts_of] at this
  exact this
end
end Go.Vm
namespace Go.Proofs.Im
open Go Go.Proofs Go.Vm Go.Ln
open Go.ChangeShapes Go.WideShapes Go.ChangeAt Go.RowKit
set_option linter.unusedVariables false
set_option maxRecDepth 100000
set_option linter.unusedSimpArgs false
theorem Imd3_eq : Imd3 = (seqO Imr3_0 (seqO (seqO Imr3_1 (cndX (.tmp 10) (seqO Imr3_2 Out.ret) Out.nor)) (seqO Imr3_3 (seqO (seqO Imr3_4 (cndX (.tmp 15) (seqO Imr3_5 Out.ret) Out.nor)) (seqO Imr3_6 (seqO Imr3_7 aheadT)))))) := rfl
theorem ne_of_beq {i j : Pos} (h : Nat.beq i.nat j.nat = false) : i ≠ j := fun e => by rw [e, Nat.beq_refl] at h; cases h
theorem lt_of_blt {a b : Nat} (h : Nat.blt a b = true) : a < b := by simpa [Nat.blt_eq] using h
theorem ahead_run {h : Hp} (st : Start h) {v : V} {l : List (List Nat)} {c : Nat} (s0 : oLenK 2 v h = .ok (.int .i64 (l.length : Int)) h) (s : Sl c (hpR (r7 h)) 1 v l.length (l.map V.str)) (hc : c ≤ (hpR (r7 h)).next.nat) (hv : ∀ j, idOf v = some j → j ≠ posR (r7 h))
    (h256 : ∀ t ∈ l, ∀ x ∈ t, x < 256) : ∃ h', ImF3 [v] h = .ok (.bool true) h' := by
  rw [ImF3_eq, Imd3_eq]
  suffices hT : Tells Tryz.prog [.tmp 2] (fun r _ => r = .bool true) ((seqO Imr3_0 (seqO (seqO Imr3_1 (cndX (.tmp 10) (seqO Imr3_2 Out.ret) Out.nor)) (seqO Imr3_3 (seqO (seqO Imr3_4 (cndX (.tmp 15) (seqO Imr3_5 Out.ret) Out.nor)) (seqO Imr3_6 (seqO Imr3_7 aheadT)))))) (T.set (some v) (Pos.of 0) T.nil) h) by
    obtain ⟨r, h', e, rfl⟩ := hT
    exact ⟨h', e⟩
  have e6 : ImF6 [.slice h.next 0 1 (.kn 1)] (h.new (.cells (.rw 9 true) [.str [120]])) = .ok (.ptr (posR (r6 h)) 0) (hpR (r6 h)) := st.a
  have e7 : ImF7 [] (hpR (r6 h)) = .ok (.ptr (posR (r7 h)) 0) (hpR (r7 h)) := st.b
  obtain ⟨w, L, hg, hq⟩ : ∃ w L, (hpR (r7 h)).get (posR (r6 h)) = some (.cells w L) ∧ L[9]? = some (.int .i64 2) := by
    have e := st.e
    unfold clk at e
    split at e
    · rename_i b hb
      split at e
      · rename_i w L
        split at e
        · rename_i x hx
          split at e
          · split at e
            · cases e; exact ⟨w, L, hb, by rw [← nthV_eq]; exact hx⟩
            · cases e
          · cases e
        · cases e
      · cases e
    · cases e
  have cn : Cn (hpR (r7 h)) (posR (r7 h)) (imR h) false := ⟨false, 0, st.c, st.d, ne_of_beq st.f3, lt_of_blt st.f4, lt_of_blt st.f5⟩
  have e8 := clock_ok hg hq
  by_cases hl : l.length > 30
  · simp (disch := omega) only [vmL, reduceCtorEq, ↓reduceIte, Imr3_0, Imr3_1, Imr3_2, s0, awake_eq]
    exact Tells.ret (by simp only [resK, vmL, ↓reduceIte, tupR]; rfl) rfl
  · simp (disch := omega) only [vmL, Nat.reduceEqDiff, reduceCtorEq, ↓reduceIte, Imr3_0, Imr3_1, Imr3_3, Imr3_4, Imr3_6, Imr3_7, s0, oBuildSlice_s1, e6, ptr_eql_nil, e7, e8]
    exact ahead_ok cn hg hq (ne_of_beq st.f2) (lt_of_blt st.f1) s hc hv (by omega) h256 (by simp only [vmL, reduceCtorEq, ↓reduceIte]) (by simp only [vmL, Nat.reduceEqDiff, ↓reduceIte]) (by simp only [vmL, Nat.reduceEqDiff, ↓reduceIte]) (by simp only [vmL, ↓reduceIte])
theorem els_str : ∀ {els : List (List V)}, (∀ vs ∈ els, (∃ t : List Nat, vs = [V.str t] ∧ ∀ b ∈ t, b < 256) ∧ vs.length = 1) → ∃ l : List (List Nat), els.flatten = l.map V.str ∧ l.length = els.length ∧ ∀ t ∈ l, ∀ b ∈ t, b < 256
  | [], _ => ⟨[], rfl, rfl, by simp⟩
  | vs :: els, h => by
    obtain ⟨⟨t, rfl, ht⟩, -⟩ := h vs (by simp)
    obtain ⟨l, e, n, hb⟩ := els_str fun v hv => h v (List.mem_cons_of_mem _ hv)
    refine ⟨t :: l, by simp [e], by simp [n], fun u hu => ?_⟩
    rcases List.mem_cons.1 hu with rfl | hu
    · exact ht
    · exact hb u hu
theorem walkOfImapAhead {H : Type} {enc : TypeId × Value → H} {spare : Nat → Bool} {held : Bool} (W : World) {r : Reach} {b0 base : Nat} {v0 : Value} {d : DataW H} {p : List MemPlace} (hv : Value.okWide Tryz.prog W r b0 tSS v0) (hd : DataW.Trod enc Tryz.prog W base spare held tSS v0 d p) :
    Calls Tryz.prog 3 #[v0] W fun e W' => e = .returned (.bool true) ∧ Below W.heap.size W W' := by
  obtain ⟨a, len, cap, rfl⟩ := okWide_slice Tryz.underlying22 hv
  obtain ⟨m, hm⟩ := hd
  obtain ⟨c, v, M', h', els, h1, h2, h3, -, hels, -, h4⟩ := open_rowK Tryz.underlying22 (n := 1) (by kernel_rfl) (by omega) (rd_str Tryz.underlying9) hm (Seen.empty TryG W)
  obtain rfl : Value.slice a len cap = c := by simpa [Value.cells] using h1
  obtain ⟨l, el, nl, hb⟩ := els_str hels
  have hT : ∃ h'', ImF3 [v] h' = .ok (.bool true) h'' := by
    rcases h4 with ⟨rfl, rfl, rfl⟩ | ⟨rfl, rfl, rfl⟩ | ⟨cap, rfl, rfl, -, -⟩
    · exact ahead_run start0 (l := []) rfl (c := 0) ⟨rfl, .inl ⟨rfl, .inl rfl⟩⟩ (Nat.zero_le _) (fun j q => by cases q) (by simp)
    · exact ahead_run start0 (l := []) rfl (c := 0) ⟨rfl, .inl ⟨rfl, .inr rfl⟩⟩ (Nat.zero_le _) (fun j q => by cases q) (by simp)
    · rw [el, ← nl]
      exact ahead_run (start1 _) (l := l) rfl (c := (hpR (r7 ((h0 TryG).new (.cells .ro (l.map V.str))))).next.nat) ⟨by simp, .inr ⟨_, 0, _, .ro, l.map V.str, rfl, lt_of_blt (start1_lt _), by rw [start1_row]; rfl, fun k _ => by rw [Nat.zero_add]⟩⟩ (Nat.le_refl _) (fun j q => by cases q; exact ne_of_beq (start1_ne _)) hb
  obtain ⟨h'', e⟩ := hT
  exact calls_of_vm (cargs := [_]) (args := [_]) Imc3 Tryz.func3 (by kernel_rfl) (c := codeOf Tryz.f3) (by kernel_rfl) h3 ⟨_, [], h2, rfl, rfl⟩ e
end Go.Proofs.Im
